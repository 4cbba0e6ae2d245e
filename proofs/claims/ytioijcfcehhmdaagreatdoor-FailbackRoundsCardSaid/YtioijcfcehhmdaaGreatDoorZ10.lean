/-
  Part 10 of the texts that the statement stands on.
-/
import Derived.Test.YtioijcfcehhmdaaGreatDoorZ9
import Derived.Test.YtioijcfcehhmdaaGreatDoorRows
import Derived.Lib.LaidTab
import Derived.LaidByTextLater
set_option linter.all false
namespace Go.Proofs.YtioijcfcehhmdaaGreatDoor.V
theorem few48_of {p:Pt} (h:few48 p=true):fitP p∧p.lin.length≤20∧p.dirty.length≤12∧p.img.length≤9∧(∀ v∈p.img,v.length≤24)∧∀ b∈p.dirty,b.ws.length≤4:=by
 unfold few48 few7 dirF at h
 simp only [Bool.and_eq_true,decide_eq_true_eq] at h
 obtain ⟨h1,h2,h3,h4,h5⟩:=h
 have hl:lim=1073741824:=rfl
 refine ⟨⟨by omega,by omega,by omega⟩,h2,h3,h4,fun v hv=>by simpa using List.all_eq_true.1 h5 v hv,fun b hb=>?_⟩
 rw [List.take_of_length_le h3] at h1
 simpa using List.all_eq_true.1 h1 b hb
theorem prcMix (p:Prc):eqMix [false,false,false,false,false,false,true,true] [.int .i64 p.kind,.int .i64 p.frm,.int .i64 p.to,.int .i64 p.step,.int .i64 p.ep,.int .i64 p.cyc,.bool p.done,.bool p.failed] [.int .i64 p.kind,.int .i64 p.frm,.int .i64 p.to,.int .i64 p.step,.int .i64 p.ep,.int .i64 p.cyc,.bool p.done,.bool p.failed]=some true:=by
 simp [eqMix]
theorem prcPart (p:Prc):part [.int .i64 p.kind,.int .i64 p.frm,.int .i64 p.to,.int .i64 p.step,.int .i64 p.ep,.int .i64 p.cyc,.bool p.done,.bool p.failed] 0 (some 8)=some (.agg [.int .i64 p.kind,.int .i64 p.frm,.int .i64 p.to,.int .i64 p.step,.int .i64 p.ep,.int .i64 p.cyc,.bool p.done,.bool p.failed]):=rfl
end Go.Proofs.YtioijcfcehhmdaaGreatDoor.V

namespace Go.Proofs.YtioijcfcehhmdaaGreatDoor.V
end Go.Proofs.YtioijcfcehhmdaaGreatDoor.V

namespace Go.Proofs.YtioijcfcehhmdaaGreatDoor
end Go.Proofs.YtioijcfcehhmdaaGreatDoor

namespace Go.Proofs.YtioijcfcehhmdaaGreatDoor.V
def mk (f:Nat→Bool):List Bool:=(List.range 4096).map f
end Go.Proofs.YtioijcfcehhmdaaGreatDoor.V

namespace Go.Proofs.YtioijcfcehhmdaaGreatDoor.V
end Go.Proofs.YtioijcfcehhmdaaGreatDoor.V

namespace Go.Proofs.YtioijcfcehhmdaaGreatDoor.V
end Go.Proofs.YtioijcfcehhmdaaGreatDoor.V

namespace Go.Proofs.YtioijcfcehhmdaaGreatDoor.V
end Go.Proofs.YtioijcfcehhmdaaGreatDoor.V

namespace Go.Proofs.YtioijcfcehhmdaaGreatDoor.V
end Go.Proofs.YtioijcfcehhmdaaGreatDoor.V

namespace Go.Proofs.YtioijcfcehhmdaaGreatDoor.V
def chkGo (size:Int):Int→List Exn→Int
 |_,[]=>0
 |nx,e :: l=>if e.count≤0 then 1 else if e.start<0∨e.count > size - e.start then 2 else if e.start<nx then 3 else chkGo size (e.start+e.count+1) l
def chkX (l:List Exn) (size:Int):Int:=if size<0∨4096<size then 2 else chkGo size 0 l
end Go.Proofs.YtioijcfcehhmdaaGreatDoor.V

namespace Go.Proofs.YtioijcfcehhmdaaGreatDoor.V
def eachX {α β:Type} (g:Nat→α→β) (l:List α):List β:=l.mapIdx g
def fitB (im:Img) (l:List (List Exn)):List Bool:=eachX (fun i x=>decide (chkX x ((im.getD i []).length:Int)=0)) l
def fitE (im:Img) (l:List (List Exn)):Int:=if l.length≠im.length then 6 else if (fitB im l).contains false then 3 else 0
end Go.Proofs.YtioijcfcehhmdaaGreatDoor.V

namespace Go.Proofs.YtioijcfcehhmdaaGreatDoor.V
end Go.Proofs.YtioijcfcehhmdaaGreatDoor.V

namespace Go.Proofs.YtioijcfcehhmdaaGreatDoor.V
end Go.Proofs.YtioijcfcehhmdaaGreatDoor.V

namespace Go.Proofs.YtioijcfcehhmdaaGreatDoor.V
theorem fit_len {a:Img} {l:List (List Exn)} (h:fitE a l=0):l.length=a.length:=by
 unfold fitE at h
 split at h
 ·omega
 ·rename_i c;simpa using c
end Go.Proofs.YtioijcfcehhmdaaGreatDoor.V

namespace Go.Proofs.YtioijcfcehhmdaaGreatDoor.V
theorem loop107 {a b:List Sec} (hl:a.length≤lim) (hab:a.length=b.length) {st:St} (h:st.head [0,1,5] st.boxes.length=some ⟨[.pv (.list 8 (a.map eSec)),.pv (.list 8 (b.map eSec)),.any,.any,.any,.pv (.int .i64 (0:Nat)),.any,.any,.any,.any,.any,.any,.any,.any,.any,.any,.any,.any,.any,.any,.any,.any,.any,.any,.any,.any],[],[],none⟩) :
  den env fn107_l1 st=if a=b then some (.normal,⟨[.any,.any,.any,.any,.any,.any,.any,.any,.any,.any,.any,.any,.any,.any,.any,.any,.any,.any,.any,.any,.any,.any,.any,.any,.any,.any],[],[],none⟩) else some (.ret,⟨[.any,.any,.any,.any,.pv (.bool false),.any,.any,.any,.any,.any,.any,.any,.any,.any,.any,.any,.any,.any,.any,.any,.any,.any,.any,.any,.any,.any],[],[],none⟩):=by
 unfold fn107_l1
 rw [ clean_up (env:=env) (a.length) (fun i=>⟨[.pv (.list 8 (a.map eSec)),.pv (.list 8 (b.map eSec)),.any,.any,.any,.pv (.int .i64 i),.any,.any,.any,.any,.any,.any,.any,.any,.any,.any,.any,.any,.any,.any,.any,.any,.any,.any,.any,.any],[],[],none⟩) (fun i=>if a.drop i=b.drop i then some (.normal,⟨[.any,.any,.any,.any,.any,.any,.any,.any,.any,.any,.any,.any,.any,.any,.any,.any,.any,.any,.any,.any,.any,.any,.any,.any,.any,.any],[],[],none⟩) else some (.ret,⟨[.any,.any,.any,.any,.pv (.bool false),.any,.any,.any,.any,.any,.any,.any,.any,.any,.any,.any,.any,.any,.any,.any,.any,.any,.any,.any,.any,.any],[],[],none⟩)) h (fun _=>rfl) (fun _=>rfl) ?_ ?_]
 ·first|rfl|simp only [List.drop_zero,List.take_zero,List.map_nil,Nat.zero_add,List.nil_append,List.foldl_nil]
 ·intro i rb hi ih
  have hi1:=i64_next hi hl
  have hj:i<b.length:=by omega
  have F1:((i:Int)<(a.length:Int))=True:=eq_true (by omega)
  rw [List.drop_eq_getElem_cons hi,List.drop_eq_getElem_cons hj]
  by_cases hd:a[i]=b[i]
  ·simp only [fn107_b0,F1,eSec,index_nat hi,index_nat hj,List.getElem?_map,List.getElem?_eq_getElem hi,List.getElem?_eq_getElem hj,part_sec,secPV_length,eqCells_sec,hd,decide_true,memAll,vAll,reduceCtorEq,Nat.reduceEqDiff,Nat.reduceAdd,Nat.reduceLT,Nat.reduceLeDiff,Nat.beq]
   rw [ih _ (by simp only [hi1];rfl)]
   simp only [List.cons.injEq,true_and]
  ·have hdf:=decide_eq_false hd
   simp only [fn107_b0,F1,eSec,index_nat hi,index_nat hj,List.getElem?_map,List.getElem?_eq_getElem hi,List.getElem?_eq_getElem hj,part_sec,secPV_length,eqCells_sec,hdf,memAll,vAll,reduceCtorEq,Nat.reduceEqDiff,Nat.reduceAdd,Nat.reduceLT,Nat.reduceLeDiff,Nat.beq]
   rw [if_neg (fun e=>hd (List.cons.inj e).1)]
   rfl
 ·intro rb
  simp only [fn107_b0,Int.lt_irrefl, memAll,vAll,reduceCtorEq,Nat.reduceEqDiff,Nat.reduceAdd,Nat.reduceLT,Nat.reduceLeDiff,Nat.beq]
  rw [List.drop_length,hab,List.drop_length,if_pos rfl]
  rfl
theorem cal107 {a b:List Sec} (hl:a.length≤lim):cal env 107 [.list 8 (a.map eSec),.list 8 (b.map eSec)]=some [(.bool (decide (a=b)),false)]:=by
 rw [cal_code env107 rfl];simp only [fn107];simp only [start,z_map_cons,z_map_nil,z_len_cons,z_len_nil,z_repl_zero,z_repl_succ,z_cons_app,z_nil_app,Nat.reduceAdd,Nat.reduceSub]
 by_cases hab:a.length=b.length
 ·have G:(((a.length:Int)) != (b.length:Int))=false:=by simp;omega
  simp only [G,memAll,vAll,reduceCtorEq,Nat.reduceEqDiff,Nat.reduceAdd,Nat.reduceLT,Nat.reduceLeDiff,Nat.beq]
  rw [loop107 hl hab]
  rotate_left
  ·rfl
  ·by_cases e:a=b<;>simp only [e,memAll,vAll,reduceCtorEq,Nat.reduceEqDiff,Nat.reduceAdd,Nat.reduceLT,Nat.reduceLeDiff,Nat.beq]
 ·have G:(((a.length:Int)) != (b.length:Int))=true:=by simp;omega
  have:a≠b:=fun e=>hab (by rw [e])
  have hdf:=decide_eq_false this
  simp only [G,hdf,memAll,vAll,reduceCtorEq,Nat.reduceEqDiff,Nat.reduceAdd,Nat.reduceLT,Nat.reduceLeDiff,Nat.beq]
theorem loop61 {a:List Wrt} (hl:a.length≤lim) (hd:∀ x∈a,x.data.length≤lim) {st:St} (h:st.head [0,1,5] st.boxes.length=some ⟨[.pv (.list 3 (a.map eWr)),.pv (.list 3 (a.map eWr)),.any,.any,.any,.pv (.int .i64 (0:Nat)),.any,.any,.any,.any,.any,.any,.any,.any,.any,.any,.any,.any,.any,.any,.any,.any,.any,.any,.any,.any,.any,.any,.any,.any,.any,.any,.any,.any,.any,.any,.any,.any,.any,.any,.any,.any,.any,.any,.any,.any,.any,.any,.any,.any,.any,.any,.any,.any,.any],[],[],none⟩) :
  den env fn61_l1 st=some (.normal,⟨[.any,.any,.any,.any,.any,.any,.any,.any,.any,.any,.any,.any,.any,.any,.any,.any,.any,.any,.any,.any,.any,.any,.any,.any,.any,.any,.any,.any,.any,.any,.any,.any,.any,.any,.any,.any,.any,.any,.any,.any,.any,.any,.any,.any,.any,.any,.any,.any,.any,.any,.any,.any,.any,.any,.any],[],[],none⟩):=by
 unfold fn61_l1
 refine clean_up (env:=env) (a.length) (fun i=>⟨[.pv (.list 3 (a.map eWr)),.pv (.list 3 (a.map eWr)),.any,.any,.any,.pv (.int .i64 i),.any,.any,.any,.any,.any,.any,.any,.any,.any,.any,.any,.any,.any,.any,.any,.any,.any,.any,.any,.any,.any,.any,.any,.any,.any,.any,.any,.any,.any,.any,.any,.any,.any,.any,.any,.any,.any,.any,.any,.any,.any,.any,.any,.any,.any,.any,.any,.any,.any],[],[],none⟩) (fun i=>some (.normal,⟨[.any,.any,.any,.any,.any,.any,.any,.any,.any,.any,.any,.any,.any,.any,.any,.any,.any,.any,.any,.any,.any,.any,.any,.any,.any,.any,.any,.any,.any,.any,.any,.any,.any,.any,.any,.any,.any,.any,.any,.any,.any,.any,.any,.any,.any,.any,.any,.any,.any,.any,.any,.any,.any,.any,.any],[],[],none⟩)) h (fun _=>rfl) (fun _=>rfl) ?_ ?_
 ·intro i rb hi ih
  have hi1:=i64_next hi hl
  have F1:((i:Int)<(a.length:Int))=True:=eq_true (by omega)
  have e1:=cal107 (b:=a[i].data) (hd _ (List.getElem_mem hi))
  have F2:∀ n:Int,(n != n)=false:=fun n=>by simp
  simp only [fn61_b0,F1,F2,e1,eWr,index_nat hi,List.getElem?_map,List.getElem?_eq_getElem hi,Option.map_some,decide_true,memAll,vAll,reduceCtorEq,Nat.reduceEqDiff,Nat.reduceAdd,Nat.reduceLT,Nat.reduceLeDiff,Nat.beq]
  rw [ih _ (by simp only [hi1];rfl)]
 ·intro rb
  simp only [fn61_b0,Int.lt_irrefl, memAll,vAll,reduceCtorEq,Nat.reduceEqDiff,Nat.reduceAdd,Nat.reduceLT,Nat.reduceLeDiff,Nat.beq]
  rfl
theorem cal61 {a:List Wrt} (hl:a.length≤lim) (hd:∀ x∈a,x.data.length≤lim):cal env 61 [.list 3 (a.map eWr),.list 3 (a.map eWr)]=some [(.bool true,false)]:=by
 have G:(((a.length:Int)) != (a.length:Int))=false:=by simp
 rw [cal_code env61 rfl];simp only [fn61];simp only [start,z_map_cons,z_map_nil,z_len_cons,z_len_nil,z_repl_zero,z_repl_succ,z_cons_app,z_nil_app,Nat.reduceAdd,Nat.reduceSub]
 simp only [G,memAll,vAll,reduceCtorEq,Nat.reduceEqDiff,Nat.reduceAdd,Nat.reduceLT,Nat.reduceLeDiff,Nat.beq]
 rw [loop61 hl hd]
 rotate_left
 ·rfl
 ·simp only [memAll,vAll,reduceCtorEq,Nat.reduceEqDiff,Nat.reduceAdd,Nat.reduceLT,Nat.reduceLeDiff,Nat.beq]
end Go.Proofs.YtioijcfcehhmdaaGreatDoor.V

namespace Go.Proofs.YtioijcfcehhmdaaGreatDoor.V
end Go.Proofs.YtioijcfcehhmdaaGreatDoor.V

namespace Go.Proofs.YtioijcfcehhmdaaGreatDoor.V
theorem chkGo_in {size:Int}:∀ (l:List Exn) (nx:Int),chkGo size nx l=0→∀ e∈l,0≤e.start∧1≤e.count∧e.start+e.count≤size
 |[],_,_,e,he=>by cases he
 |x :: l,nx,h,e,he=>by
  unfold chkGo at h
  split at h
  ·omega
  ·split at h
   ·omega
   ·split at h
    ·omega
    ·rcases List.mem_cons.1 he with rfl|he
     ·omega
     ·exact chkGo_in l _ h e he
theorem chkX_in {l:List Exn} {size:Int} (h:chkX l size=0):∀ e∈l,0≤e.start∧1≤e.count∧e.start+e.count≤size:=by
 unfold chkX at h
 split at h
 ·omega
 ·exact chkGo_in l 0 h
end Go.Proofs.YtioijcfcehhmdaaGreatDoor.V

namespace Go.Proofs.YtioijcfcehhmdaaGreatDoor.V
end Go.Proofs.YtioijcfcehhmdaaGreatDoor.V

namespace Go.Proofs.YtioijcfcehhmdaaGreatDoor.V
theorem fit_at {im:Img} {l:List (List Exn)} (h:fitE im l=0) {i:Nat} (hi:i<l.length) (hj:i<im.length):chkX l[i] (im[i].length:Int)=0:=by
 unfold fitE at h
 split at h
 ·omega
 ·split at h
  ·omega
  ·rename_i c
   have h2:(fitB im l)[i]?=some (decide (chkX l[i] (im[i].length:Int)=0)):=by simp [fitB,eachX,hi,hj]
   cases hd:decide (chkX l[i] (im[i].length:Int)=0) with
   |true=>simpa using hd
   |false =>
    rw [hd] at h2
    exact absurd (List.contains_iff_mem.2 (List.mem_of_getElem? h2)) c
def wOf (im:Img) (v:Nat) (e:Exn):Wrt:=⟨v,e.start,((im.getD v []).drop e.start.toNat).take e.count.toNat⟩
def wrV (im:Img) (v:Nat) (x:List Exn):List Wrt:=x.map (wOf im v)
def wrN (im:Img) (l:List (List Exn)) (n:Nat):List Wrt:=(List.range n).flatMap fun v=>wrV im v (l.getD v [])
def wrL (im:Img) (l:List (List Exn)):List Wrt:=wrN im l l.length
theorem wrN_succ (im:Img) (l:List (List Exn)) (n:Nat):wrN im l (n+1)=wrN im l n++wrV im n (l.getD n []):=by simp [wrN,List.range_succ]
end Go.Proofs.YtioijcfcehhmdaaGreatDoor.V

namespace Go.Proofs.YtioijcfcehhmdaaGreatDoor.V
theorem cal97 {n a b:Int}:cal env 97 [.int .i64 n,.int .i64 a,.int .i64 b]=some [(.bool (decide (a≤n)&&decide (n≤b)),false)]:=by
 by_cases h:a≤n
 ·have F1:(a≤n)=True:=eq_true h
  rw [cal_code env97 rfl];simp only [fn97,slAll,Nat.reduceBEq,Nat.reduceLeDiff,Nat.reduceAdd,List.length_cons,List.length_nil]
  simp only [F1,slAll,slsAll,Nat.reduceMul,Nat.reduceBEq,Nat.reduceLT,Nat.reduceLeDiff,memAll,vAll,reduceCtorEq,Nat.reduceEqDiff,Nat.reduceAdd,Nat.reduceLT,Nat.reduceLeDiff,Nat.beq]
 ·have F1:(a≤n)=False:=eq_false h
  rw [cal_code env97 rfl];simp only [fn97,slAll,Nat.reduceBEq,Nat.reduceLeDiff,Nat.reduceAdd,List.length_cons,List.length_nil]
  simp only [F1,slAll,slsAll,Nat.reduceMul,Nat.reduceBEq,Nat.reduceLT,Nat.reduceLeDiff,memAll,vAll,reduceCtorEq,Nat.reduceEqDiff,Nat.reduceAdd,Nat.reduceLT,Nat.reduceLeDiff,Nat.beq]
def badT (n:Int):Bool:=!(decide (0≤n)&&decide (n≤1073741824))
def posE (l:List Int):Int:=if 8<l.length then 6 else if l.any badT then 2 else 0
theorem cal130 {n:Int}:cal env 130 [eI n]=some [(.bool (badT n),false)]:=by
 have e1:=cal97 (n:=n) (a:=0) (b:=1073741824)
 unfold eI
 rw [cal_code env130 rfl];simp only [fn130,slAll,Nat.reduceBEq,Nat.reduceLeDiff,Nat.reduceAdd,List.length_cons,List.length_nil]
 simp only [e1,badT,slAll,slsAll,Nat.reduceMul,Nat.reduceBEq,Nat.reduceLT,Nat.reduceLeDiff,memAll,vAll,reduceCtorEq,Nat.reduceEqDiff,Nat.reduceAdd,Nat.reduceLT,Nat.reduceLeDiff,Nat.beq]
theorem cal98 {l:List Int} (hl:l.length≤20):cal env 98 [.list 1 (l.map eI),.int .i64 0]=some [(.int .i64 (posE l),false)]:=by
 have e1:=cal97 (n:=(l.length:Int)) (a:=0) (b:=8)
 have e2:=cal129 (l:=l) (enc:=eI) (caps:=[]) (fun x _=>cal130 (n:=x)) (fun x=>rfl) (Nat.le_trans hl (by decide))
 unfold posE
 by_cases h:8<l.length
 ·have G:(decide ((0:Int)≤l.length)&&decide ((l.length:Int)≤8))=false:=by simp;omega
  rw [G] at e1
  rw [if_pos h]
  rw [cal_code env98 rfl];simp only [fn98,slAll,Nat.reduceBEq,Nat.reduceLeDiff,Nat.reduceAdd,List.length_cons,List.length_nil]
  simp only [e1,List.length_map,slAll,slsAll,Nat.reduceMul,Nat.reduceBEq,Nat.reduceLT,Nat.reduceLeDiff,memAll,vAll,reduceCtorEq,Nat.reduceEqDiff,Nat.reduceAdd,Nat.reduceLT,Nat.reduceLeDiff,Nat.beq]
 ·have G:(decide ((0:Int)≤l.length)&&decide ((l.length:Int)≤8))=true:=by simp;omega
  rw [G] at e1
  rw [if_neg h]
  cases hb:l.any badT with
  |true =>
   rw [hb] at e2
   rw [cal_code env98 rfl];simp only [fn98,slAll,Nat.reduceBEq,Nat.reduceLeDiff,Nat.reduceAdd,List.length_cons,List.length_nil]
   simp only [e1,e2,List.length_map,slAll,slsAll,Nat.reduceMul,Nat.reduceBEq,Nat.reduceLT,Nat.reduceLeDiff,memAll,vAll,reduceCtorEq,Nat.reduceEqDiff,Nat.reduceAdd,Nat.reduceLT,Nat.reduceLeDiff,Nat.beq]
  |false =>
   rw [hb] at e2
   rw [cal_code env98 rfl];simp only [fn98,slAll,Nat.reduceBEq,Nat.reduceLeDiff,Nat.reduceAdd,List.length_cons,List.length_nil]
   simp only [e1,e2,List.length_map,slAll,slsAll,Nat.reduceMul,Nat.reduceBEq,Nat.reduceLT,Nat.reduceLeDiff,memAll,vAll,reduceCtorEq,Nat.reduceEqDiff,Nat.reduceAdd,Nat.reduceLT,Nat.reduceLeDiff,Nat.beq]
theorem loop105 {l:List Int} (hl:l.length≤lim) {st:St} (h:st.head [0,3] st.boxes.length=some ⟨[.pv (.list 1 (l.map eI)),.any,.any,.pv (.int .i64 (0:Nat)),.any,.any,.any,.any,.any,.any,.any,.any,.any,.any,.any,.any,.any,.any,.any,.any,.any,.any],[],[],none⟩) :
  den env fn105_l1 st=if l.any badT then some (.ret,⟨[.any,.any,.pv (.int .i64 2),.any,.any,.any,.any,.any,.any,.any,.any,.any,.any,.any,.any,.any,.any,.any,.any,.any,.any,.any],[],[],none⟩) else some (.normal,⟨[.any,.any,.any,.any,.any,.any,.any,.any,.any,.any,.any,.any,.any,.any,.any,.any,.any,.any,.any,.any,.any,.any],[],[],none⟩):=by
 unfold fn105_l1
 rw [ clean_up (env:=env) (l.length) (fun i=>⟨[.pv (.list 1 (l.map eI)),.any,.any,.pv (.int .i64 i),.any,.any,.any,.any,.any,.any,.any,.any,.any,.any,.any,.any,.any,.any,.any,.any,.any,.any],[],[],none⟩) (fun i=>if (l.drop i).any badT then some (.ret,⟨[.any,.any,.pv (.int .i64 2),.any,.any,.any,.any,.any,.any,.any,.any,.any,.any,.any,.any,.any,.any,.any,.any,.any,.any,.any],[],[],none⟩) else some (.normal,⟨[.any,.any,.any,.any,.any,.any,.any,.any,.any,.any,.any,.any,.any,.any,.any,.any,.any,.any,.any,.any,.any,.any],[],[],none⟩)) h (fun _=>rfl) (fun _=>rfl) ?_ ?_]
 ·first|rfl|simp only [List.drop_zero,List.take_zero,List.map_nil,Nat.zero_add,List.nil_append,List.foldl_nil]
 ·intro i rb hi ih
  have hi1:=i64_next hi hl
  have F1:((i:Int)<(l.length:Int))=True:=eq_true (by omega)
  rw [List.drop_eq_getElem_cons hi]
  by_cases c1:l[i]<0
  ·have G1:(l[i]<0)=True:=eq_true c1
   have G2:badT l[i]=true:=by simp [badT];omega
   simp only [fn105_b0,F1,G1,eI,index_nat hi,List.getElem?_map,List.getElem?_eq_getElem hi,memAll,vAll,reduceCtorEq,Nat.reduceEqDiff,Nat.reduceAdd,Nat.reduceLT,Nat.reduceLeDiff,Nat.beq]
   simp only [List.any_cons,G2,Bool.true_or,if_true]
   rfl
  ·have G1:(l[i]<0)=False:=eq_false c1
   by_cases c2:l[i] > 1073741824
   ·have G3:(l[i] > 1073741824)=True:=eq_true c2
    have G2:badT l[i]=true:=by simp [badT];omega
    simp only [fn105_b0,F1,G1,G3,eI,index_nat hi,List.getElem?_map,List.getElem?_eq_getElem hi,memAll,vAll,reduceCtorEq,Nat.reduceEqDiff,Nat.reduceAdd,Nat.reduceLT,Nat.reduceLeDiff,Nat.beq]
    simp only [List.any_cons,G2,Bool.true_or,if_true]
    rfl
   ·have G3:(l[i] > 1073741824)=False:=eq_false c2
    have G2:badT l[i]=false:=by simp [badT];omega
    simp only [fn105_b0,F1,G1,G3,eI,index_nat hi,List.getElem?_map,List.getElem?_eq_getElem hi,memAll,vAll,reduceCtorEq,Nat.reduceEqDiff,Nat.reduceAdd,Nat.reduceLT,Nat.reduceLeDiff,Nat.beq]
    rw [ih _ (by simp only [hi1];rfl)]
    simp only [List.any_cons,G2,Bool.false_or]
 ·intro rb
  simp only [fn105_b0,Int.lt_irrefl, memAll,vAll,reduceCtorEq,Nat.reduceEqDiff,Nat.reduceAdd,Nat.reduceLT,Nat.reduceLeDiff,Nat.beq]
  rw [List.drop_length]
  rfl
theorem cal105 {l:List Int} (hl:l.length≤lim):cal env 105 [.list 1 (l.map eI)]=some [(.int .i64 (if l.any badT then 2 else 0),false)]:=by
 rw [cal_code env105 rfl];simp only [fn105];simp only [start,z_map_cons,z_map_nil,z_len_cons,z_len_nil,z_repl_zero,z_repl_succ,z_cons_app,z_nil_app,Nat.reduceAdd,Nat.reduceSub]
 simp only [memAll,vAll,reduceCtorEq,Nat.reduceEqDiff,Nat.reduceAdd,Nat.reduceLT,Nat.reduceLeDiff,Nat.beq]
 rw [loop105 hl]
 rotate_left
 ·rfl
 ·cases l.any badT<;>simp only [memAll,vAll,reduceCtorEq,Nat.reduceEqDiff,Nat.reduceAdd,Nat.reduceLT,Nat.reduceLeDiff,Nat.beq]
def eCyc (b n t:Int) (p:List Int) (w:List Wrt):PV:=.agg [.int .i64 b,.int .i64 n,.int .i64 t,.list 1 (p.map eI),.list 3 (w.map eWr)]
def cycE (b n t:Int) (p:List Int):Int:=if b<0∨n≤b∨n > 1073741824 then 2 else if t<0∨t > 1073741824 then 24 else posE p
end Go.Proofs.YtioijcfcehhmdaaGreatDoor.V

namespace Go.Proofs.YtioijcfcehhmdaaGreatDoor.V
def ordW (x w:Wrt):Prop:=x.volume<w.volume∨x.volume=w.volume∧x.start+x.data.length<w.start
def seqW (im:Img) (l:List Wrt):Prop:=(∀ w∈l,fitsErr im w=0)∧∀ i (h:i+1<l.length),ordW l[i] l[i+1]
theorem fits_in {im:Img} {w:Wrt} (h:fitsErr im w=0):0≤w.volume∧w.volume<im.length∧0≤w.start∧w.start+w.data.length≤((im.getD w.volume.toNat []).length:Int):=by
 unfold fitsErr at h
 split at h
 ·omega
 ·split at h
  ·omega
  ·split at h
   ·omega
   ·omega
theorem getD_len {im:Img} (hr:∀ v∈im,v.length≤1000000) (v:Nat):(im.getD v []).length≤1000000:=by
 by_cases h:v<im.length
 ·have e:im.getD v []=im[v]:=by simp [h]
  rw [e];exact hr _ (List.getElem_mem h)
 ·have e:im.getD v []=[]:=by simp [List.getD_eq_getElem?_getD,List.getElem?_eq_none (Nat.le_of_not_lt h)]
  rw [e];simp
theorem newImg_sizes (im:Img):newImg (imSizes im)=im.map fun v=>List.replicate v.length zSec:=by simp [newImg,imSizes]
theorem newImg_len (im:Img):(newImg (imSizes im)).length=im.length:=by rw [newImg_sizes];simp
theorem newImg_imSizes (im:Img):imSizes (newImg (imSizes im))=imSizes im:=by rw [newImg_sizes];simp [imSizes]
theorem newImg_fits {im:Img} {w:Wrt} (h:imCheck im=0):imFits (newImg (imSizes im)) w=fitsErr im w:=by
 have h1:imCheck (newImg (imSizes im))=0:=by unfold imCheck at h ⊢;rw [newImg_imSizes];exact h
 have h2:∀ v:Nat,((newImg (imSizes im)).getD v []).length=(im.getD v []).length:=fun v=>by
  rw [newImg_sizes]
  by_cases hv:v<im.length<;>simp [List.getD_eq_getElem?_getD,hv]
 unfold imFits
 rw [if_neg (by simpa using h1)]
 unfold fitsErr
 rw [newImg_len,h2]
theorem cal132 {im:Img} {w:Wrt} (hl:im.length≤lim) (hr:∀ v∈im,v.length≤lim) (hd:w.data.length≤lim):cal env 132 [eWr w,.iptr [.list 1 (im.map eSecs)] 0]=some [(.int .i64 (imFits im w),false)]:=by
 have e1:=cal133 hl hr hd
 unfold eWr at *
 rw [cal_code env132 rfl];simp only [fn132];simp only [start,z_map_cons,z_map_nil,z_len_cons,z_len_nil,z_repl_zero,z_repl_succ,z_cons_app,z_nil_app,Nat.reduceAdd,Nat.reduceSub]
 simp only [e1,memAll,vAll,reduceCtorEq,Nat.reduceEqDiff,Nat.reduceAdd,Nat.reduceLT,Nat.reduceLeDiff,Nat.beq]
theorem loop131 {im:Img} {l:List Wrt} {gf:Nat} {caps:List PV} (hp:∀ w∈l,cal env gf (eWr w :: caps)=some [(.int .i64 0,false)]) (hs:seqW im l) (hr:∀ v∈im,v.length≤1000000) (hl:l.length≤lim) {st:St} (h:st.head [0,1,9,10,11] st.boxes.length=some ⟨[.pv (.list 3 (l.map eWr)),.pv (.func gf caps),.any,.any,.any,.any,.any,.any,.any,.pv (.list 3 (l.map eWr)),.pv (.int .i64 l.length),.pv (.int .i64 (0:Nat)),.any,.any,.any,.any,.any,.any,.any,.any,.any,.any,.any,.any,.any,.any,.any,.any,.any,.any,.any,.any,.any,.any,.any,.any,.any,.any,.any,.any,.any,.any,.any,.any,.any,.any,.any,.any,.any,.any,.any,.any,.any],[],[],none⟩) :
  den env fn131_l1 st=some (.normal,⟨[.any,.any,.any,.any,.any,.any,.any,.any,.any,.any,.any,.any,.any,.any,.any,.any,.any,.any,.any,.any,.any,.any,.any,.any,.any,.any,.any,.any,.any,.any,.any,.any,.any,.any,.any,.any,.any,.any,.any,.any,.any,.any,.any,.any,.any,.any,.any,.any,.any,.any,.any,.any,.any],[],[],none⟩):=by
 unfold fn131_l1
 refine clean_up (env:=env) (l.length) (fun i=>⟨[.pv (.list 3 (l.map eWr)),.pv (.func gf caps),.any,.any,.any,.any,.any,.any,.any,.pv (.list 3 (l.map eWr)),.pv (.int .i64 l.length),.pv (.int .i64 i),.any,.any,.any,.any,.any,.any,.any,.any,.any,.any,.any,.any,.any,.any,.any,.any,.any,.any,.any,.any,.any,.any,.any,.any,.any,.any,.any,.any,.any,.any,.any,.any,.any,.any,.any,.any,.any,.any,.any,.any,.any],[],[],none⟩) (fun i=>some (.normal,⟨[.any,.any,.any,.any,.any,.any,.any,.any,.any,.any,.any,.any,.any,.any,.any,.any,.any,.any,.any,.any,.any,.any,.any,.any,.any,.any,.any,.any,.any,.any,.any,.any,.any,.any,.any,.any,.any,.any,.any,.any,.any,.any,.any,.any,.any,.any,.any,.any,.any,.any,.any,.any,.any],[],[],none⟩)) h (fun _=>rfl) (fun _=>rfl) ?_ ?_
 ·intro i rb hi ih
  have hi1:=i64_next hi hl
  have F1:((i:Int)<(l.length:Int))=True:=eq_true (by omega)
  have e1:=hp _ (List.getElem_mem hi)
  have P:∀ x:Wrt,part [PV.int .i64 x.volume,.int .i64 x.start,.list 8 (x.data.map eSec)] 0 (some 3)=some (.agg [.int .i64 x.volume,.int .i64 x.start,.list 8 (x.data.map eSec)]):=fun x=>rfl
  unfold eWr at e1
  cases i with
  |zero =>
   have Z0:(((0:Nat):Int)==0)=true:=rfl
   simp only [fn131_b0,F1,P,Z0,e1,eWr,index_nat hi,List.getElem?_map,List.getElem?_eq_getElem hi,memAll,vAll,reduceCtorEq,Nat.reduceEqDiff,Nat.reduceAdd,Nat.reduceLT,Nat.reduceLeDiff,Nat.beq]
   rw [ih _ (by simp only [hi1];rfl)]
  |succ j =>
   have hj:j<l.length:=by omega
   have Z:(((j+1:Nat):Int)==0)=false:=by simp;omega
   have W:IntKind.i64.wrap (((j+1:Nat):Int) - 1)=(j:Int):=by rw [show ((j+1:Nat):Int) - 1=(j:Int) by omega];exact i64_fits (by unfold lim at hl;omega)
   have ho:=hs.2 j hi
   obtain ⟨q1,q2,q3,q4⟩:=fits_in (hs.1 _ (List.getElem_mem hj))
   have q5:=getD_len hr l[j].volume.toNat
   have W2:IntKind.i64.wrap (l[j].start+(l[j].data.length:Int))=l[j].start+(l[j].data.length:Int):=i64_fits (by omega)
   have G1:(l[j+1].volume<l[j].volume)=False:=eq_false (by unfold ordW at ho;omega)
   by_cases c:l[j+1].volume=l[j].volume
   ·have G2:(l[j+1].volume==l[j].volume)=true:=by simp [c]
    have G3:(l[j+1].start≤l[j].start+(l[j].data.length:Int))=False:=eq_false (by unfold ordW at ho;omega)
    simp only [fn131_b0,F1,P,Z,W,W2,G1,G2,G3,e1,eWr,index_nat hi,index_nat hj,List.getElem?_map,List.getElem?_eq_getElem hi,List.getElem?_eq_getElem hj,List.length_map,memAll,vAll,reduceCtorEq,Nat.reduceEqDiff,Nat.reduceAdd,Nat.reduceLT,Nat.reduceLeDiff,Nat.beq]
    rw [ih _ (by simp only [hi1];rfl)]
   ·have G2:(l[j+1].volume==l[j].volume)=false:=by simp [c]
    simp only [fn131_b0,F1,P,Z,W,W2,G1,G2,e1,eWr,index_nat hi,index_nat hj,List.getElem?_map,List.getElem?_eq_getElem hi,List.getElem?_eq_getElem hj,List.length_map,memAll,vAll,reduceCtorEq,Nat.reduceEqDiff,Nat.reduceAdd,Nat.reduceLT,Nat.reduceLeDiff,Nat.beq]
    rw [ih _ (by simp only [hi1];rfl)]
 ·intro rb
  simp only [fn131_b0,Int.lt_irrefl, memAll,vAll,reduceCtorEq,Nat.reduceEqDiff,Nat.reduceAdd,Nat.reduceLT,Nat.reduceLeDiff,Nat.beq]
  rfl
theorem cal131 {im:Img} {l:List Wrt} {gf:Nat} {caps:List PV} (hp:∀ w∈l,cal env gf (eWr w :: caps)=some [(.int .i64 0,false)]) (hs:seqW im l) (hr:∀ v∈im,v.length≤1000000) (hl:l.length≤lim) :
  cal env 131 [.list 3 (l.map eWr),.func gf caps]=some [(.int .i64 0,false)]:=by
 rw [cal_code env131 rfl];simp only [fn131];simp only [start,z_map_cons,z_map_nil,z_len_cons,z_len_nil,z_repl_zero,z_repl_succ,z_cons_app,z_nil_app,Nat.reduceAdd,Nat.reduceSub]
 simp only [List.length_map,memAll,vAll,reduceCtorEq,Nat.reduceEqDiff,Nat.reduceAdd,Nat.reduceLT,Nat.reduceLeDiff,Nat.beq]
 rw [loop131 hp hs hr hl]
 rotate_left
 ·rfl
 ·simp only [memAll,vAll,reduceCtorEq,Nat.reduceEqDiff,Nat.reduceAdd,Nat.reduceLT,Nat.reduceLeDiff,Nat.beq]
theorem cal99 {im:Img} {l:List Wrt} (hs:seqW im l) (hc:imCheck im=0) (hi:im.length≤lim) (hr:∀ v∈im,v.length≤1000000) (hl:l.length≤lim) :
  cal env 99 [.list 3 (l.map eWr),.list 1 ((imSizes im).map eI)]=some [(.int .i64 0,false)]:=by
 have hz:(imSizes im).length≤lim:=by simpa [imSizes] using hi
 have e1:=cal96 hz
 have hc':sizesErr (imSizes im)=0:=hc
 have hrn:∀ v∈newImg (imSizes im),v.length≤lim:=fun v hv=>by
  rw [newImg_sizes] at hv
  obtain ⟨u,hu,rfl⟩:=List.mem_map.1 hv
  have:=hr u hu
  simp;unfold lim;omega
 have hsz:∀ w∈l,cal env 132 (eWr w :: [.iptr [.list 1 ((newImg (imSizes im)).map eSecs)] 0])=some [(.int .i64 0,false)]:=fun w hw=>by
  obtain ⟨q1,q2,q3,q4⟩:=fits_in (hs.1 w hw)
  have q5:=getD_len hr w.volume.toNat
  have:=cal132 (w:=w) (im:=newImg (imSizes im)) (by rw [newImg_len];exact hi) hrn (by unfold lim;omega)
  rw [newImg_fits hc,hs.1 w hw] at this
  exact this
 have e2:=cal131 hsz hs hr hl
 rw [hc',if_pos rfl] at e1
 have Z:((0:Int) != 0)=false:=rfl
 rw [cal_code env99 rfl];simp only [fn99];simp only [start,z_map_cons,z_map_nil,z_len_cons,z_len_nil,z_repl_zero,z_repl_succ,z_cons_app,z_nil_app,Nat.reduceAdd,Nat.reduceSub]
 simp only [e1,e2,Z,memAll,vAll,reduceCtorEq,Nat.reduceEqDiff,Nat.reduceAdd,Nat.reduceLT,Nat.reduceLeDiff,Nat.beq]
theorem loop106 {im:Img} {l:List Wrt} (hs:seqW im l) (him:im.length≤lim) (hr:∀ v∈im,v.length≤1000000) (hl:l.length≤lim) {st:St} (h:st.head [0,1,6] st.boxes.length=some ⟨[.pv (.list 3 (l.map eWr)),.pv (.list 1 ((imSizes im).map eI)),.any,.any,.any,.any,.pv (.int .i64 (0:Nat)),.any,.any,.any,.any,.any,.any,.any,.any,.any,.any,.any,.any,.any,.any,.any,.any,.any,.any,.any,.any,.any,.any,.any,.any,.any,.any,.any,.any,.any,.any,.any,.any,.any,.any,.any,.any,.any,.any,.any,.any,.any,.any,.any,.any,.any,.any,.any,.any,.any,.any,.any,.any,.any,.any,.any,.any,.any,.any,.any,.any,.any,.any],[],[],none⟩) :
  den env fn106_l1 st=some (.normal,⟨[.any,.any,.any,.any,.any,.any,.any,.any,.any,.any,.any,.any,.any,.any,.any,.any,.any,.any,.any,.any,.any,.any,.any,.any,.any,.any,.any,.any,.any,.any,.any,.any,.any,.any,.any,.any,.any,.any,.any,.any,.any,.any,.any,.any,.any,.any,.any,.any,.any,.any,.any,.any,.any,.any,.any,.any,.any,.any,.any,.any,.any,.any,.any,.any,.any,.any,.any,.any,.any],[],[],none⟩):=by
 unfold fn106_l1
 refine clean_up (env:=env) (l.length) (fun i=>⟨[.pv (.list 3 (l.map eWr)),.pv (.list 1 ((imSizes im).map eI)),.any,.any,.any,.any,.pv (.int .i64 i),.any,.any,.any,.any,.any,.any,.any,.any,.any,.any,.any,.any,.any,.any,.any,.any,.any,.any,.any,.any,.any,.any,.any,.any,.any,.any,.any,.any,.any,.any,.any,.any,.any,.any,.any,.any,.any,.any,.any,.any,.any,.any,.any,.any,.any,.any,.any,.any,.any,.any,.any,.any,.any,.any,.any,.any,.any,.any,.any,.any,.any,.any],[],[],none⟩) (fun i=>some (.normal,⟨[.any,.any,.any,.any,.any,.any,.any,.any,.any,.any,.any,.any,.any,.any,.any,.any,.any,.any,.any,.any,.any,.any,.any,.any,.any,.any,.any,.any,.any,.any,.any,.any,.any,.any,.any,.any,.any,.any,.any,.any,.any,.any,.any,.any,.any,.any,.any,.any,.any,.any,.any,.any,.any,.any,.any,.any,.any,.any,.any,.any,.any,.any,.any,.any,.any,.any,.any,.any,.any],[],[],none⟩)) h (fun _=>rfl) (fun _=>rfl) ?_ ?_
 ·intro i rb hi ih
  have hi1:=i64_next hi hl
  have F1:((i:Int)<(l.length:Int))=True:=eq_true (by omega)
  have q0:=fits_in (hs.1 _ (List.getElem_mem hi))
  have q0':=getD_len hr l[i].volume.toNat
  have e1:=cal134 (im:=im) (w:=l[i]) him (fun v hv=>by have:=hr v hv;unfold lim;omega) (by unfold lim;omega)
  rw [hs.1 _ (List.getElem_mem hi)] at e1
  have P:∀ x:Wrt,part [PV.int .i64 x.volume,.int .i64 x.start,.list 8 (x.data.map eSec)] 0 (some 3)=some (.agg [.int .i64 x.volume,.int .i64 x.start,.list 8 (x.data.map eSec)]):=fun x=>rfl
  unfold eWr at e1
  have Z1:((0:Int) != 0)=false:=rfl
  cases i with
  |zero =>
   have Z0:(((0:Nat):Int)==0)=true:=rfl
   simp only [fn106_b0,F1,P,Z0,Z1,e1,eWr,index_nat hi,List.getElem?_map,List.getElem?_eq_getElem hi,memAll,vAll,reduceCtorEq,Nat.reduceEqDiff,Nat.reduceAdd,Nat.reduceLT,Nat.reduceLeDiff,Nat.beq]
   rw [ih _ (by simp only [hi1];rfl)]
  |succ j =>
   have hj:j<l.length:=by omega
   have Z:(((j+1:Nat):Int)==0)=false:=by simp;omega
   have W:IntKind.i64.wrap (((j+1:Nat):Int) - 1)=(j:Int):=by rw [show ((j+1:Nat):Int) - 1=(j:Int) by omega];exact i64_fits (by unfold lim at hl;omega)
   have ho:=hs.2 j hi
   obtain ⟨q1,q2,q3,q4⟩:=fits_in (hs.1 _ (List.getElem_mem hj))
   have q5:=getD_len hr l[j].volume.toNat
   have W2:IntKind.i64.wrap (l[j].start+(l[j].data.length:Int))=l[j].start+(l[j].data.length:Int):=i64_fits (by omega)
   have W3:IntKind.i64.wrap (l[j].start+(l[j].data.length:Int)+1)=l[j].start+(l[j].data.length:Int)+1:=i64_fits (by omega)
   have G1:(l[j+1].volume<l[j].volume)=False:=eq_false (by unfold ordW at ho;omega)
   by_cases c:l[j+1].volume=l[j].volume
   ·have G2:(l[j+1].volume==l[j].volume)=true:=by simp [c]
    have G3:(l[j+1].start<l[j].start+(l[j].data.length:Int)+1)=False:=eq_false (by unfold ordW at ho;omega)
    simp only [fn106_b0,F1,P,Z,Z1,W,W2,W3,G1,G2,G3,e1,eWr,index_nat hi,index_nat hj,List.getElem?_map,List.getElem?_eq_getElem hi,List.getElem?_eq_getElem hj,List.length_map,memAll,vAll,reduceCtorEq,Nat.reduceEqDiff,Nat.reduceAdd,Nat.reduceLT,Nat.reduceLeDiff,Nat.beq]
    rw [ih _ (by simp only [hi1];rfl)]
   ·have G2:(l[j+1].volume==l[j].volume)=false:=by simp [c]
    simp only [fn106_b0,F1,P,Z,Z1,W,W2,W3,G1,G2,e1,eWr,index_nat hi,index_nat hj,List.getElem?_map,List.getElem?_eq_getElem hi,List.getElem?_eq_getElem hj,List.length_map,memAll,vAll,reduceCtorEq,Nat.reduceEqDiff,Nat.reduceAdd,Nat.reduceLT,Nat.reduceLeDiff,Nat.beq]
    rw [ih _ (by simp only [hi1];rfl)]
 ·intro rb
  simp only [fn106_b0,Int.lt_irrefl, memAll,vAll,reduceCtorEq,Nat.reduceEqDiff,Nat.reduceAdd,Nat.reduceLT,Nat.reduceLeDiff,Nat.beq]
  rfl
theorem cal106 {im:Img} {l:List Wrt} (hs:seqW im l) (hc:imCheck im=0) (him:im.length≤lim) (hr:∀ v∈im,v.length≤1000000) (hl:l.length≤lim) :
  cal env 106 [.list 3 (l.map eWr),.list 1 ((imSizes im).map eI)]=some [(.int .i64 0,false)]:=by
 have hz:(imSizes im).length≤lim:=by simpa [imSizes] using him
 have e1:=cal104 hz
 have hc':sizesErr (imSizes im)=0:=hc
 rw [hc'] at e1
 have Z:((0:Int) != 0)=false:=rfl
 rw [cal_code env106 rfl];simp only [fn106];simp only [start,z_map_cons,z_map_nil,z_len_cons,z_len_nil,z_repl_zero,z_repl_succ,z_cons_app,z_nil_app,Nat.reduceAdd,Nat.reduceSub]
 simp only [e1,Z,memAll,vAll,reduceCtorEq,Nat.reduceEqDiff,Nat.reduceAdd,Nat.reduceLT,Nat.reduceLeDiff,Nat.beq]
 rw [loop106 hs him hr hl]
 rotate_left
 ·rfl
 ·simp only [memAll,vAll,reduceCtorEq,Nat.reduceEqDiff,Nat.reduceAdd,Nat.reduceLT,Nat.reduceLeDiff,Nat.beq]
end Go.Proofs.YtioijcfcehhmdaaGreatDoor.V

namespace Go.Proofs.YtioijcfcehhmdaaGreatDoor.V
theorem chkGo_pair {size:Int}:∀ (l:List Exn) (nx:Int),chkGo size nx l=0→(∀ e∈l,nx≤e.start∧1≤e.count)∧l.Pairwise (fun a b=>a.start+a.count<b.start)
 |[],_,_=>⟨fun e he=>(by cases he),List.Pairwise.nil⟩
 |x :: l,nx,h=>by
  unfold chkGo at h
  split at h
  ·omega
  ·split at h
   ·omega
   ·split at h
    ·omega
    ·obtain ⟨h1,h2⟩:=chkGo_pair l _ h
     refine ⟨fun e he=>?_,List.pairwise_cons.2 ⟨fun e he=>by have:=h1 e he;omega,h2⟩⟩
     rcases List.mem_cons.1 he with rfl|he
     ·omega
     ·have:=h1 e he;omega
theorem chkX_pair {l:List Exn} {size:Int} (h:chkX l size=0):l.Pairwise (fun a b=>a.start+a.count<b.start):=by
 unfold chkX at h
 split at h
 ·omega
 ·exact (chkGo_pair l 0 h).2
theorem wOf_len {im:Img} {v:Nat} {e:Exn} (h0:0≤e.start) (h1:1≤e.count) (h2:e.start+e.count≤((im.getD v []).length:Int)):(((wOf im v e).data.length:Nat):Int)=e.count:=by
 simp only [wOf,List.length_take,List.length_drop];omega
theorem wrL_mem {im:Img} {l:List (List Exn)} {n:Nat} {w:Wrt} (h:w∈wrN im l n):∃ v,v<n∧∃ e∈l.getD v [],w=wOf im v e:=by
 simp only [wrN,List.mem_flatMap,List.mem_range,wrV,List.mem_map] at h
 obtain ⟨v,hv,e,he,rfl⟩:=h
 exact ⟨v,hv,e,he,rfl⟩
theorem wr_at {im:Img} {l:List (List Exn)} (h:fitE im l=0) {v:Nat} (hv:v<l.length) {e:Exn} (he:e∈l.getD v []):0≤e.start∧1≤e.count∧e.start+e.count≤((im.getD v []).length:Int):=by
 have hf:=fit_len h
 have e1:l.getD v []=l[v]:=by simp [hv]
 have e2:im.getD v []=im[v]:=by simp [show v<im.length by omega]
 rw [e1] at he
 rw [e2]
 exact chkX_in (fit_at h hv (by omega)) e he
theorem wrL_seq {im:Img} {l:List (List Exn)} (h:fitE im l=0):seqW im (wrL im l):=by
 have hf:=fit_len h
 refine ⟨fun w hw=>?_,?_⟩
 ·obtain ⟨v,hv,e,he,rfl⟩:=wrL_mem hw
  obtain ⟨q1,q2,q3⟩:=wr_at h hv he
  have q4:=wOf_len q1 q2 q3
  have e1:(wOf im v e).volume=(v:Int):=rfl
  have e2:(wOf im v e).start=e.start:=rfl
  unfold fitsErr
  rw [if_neg (by rw [e1];omega),if_neg (by omega),if_neg (by rw [e1,e2,q4,Int.toNat_natCast];omega)]
 ·have hp:(wrL im l).Pairwise ordW:=by
   unfold wrL wrN
   rw [List.pairwise_flatMap]
   refine ⟨fun v hv=>?_,?_⟩
   ·have hv:=List.mem_range.1 hv
    unfold wrV
    rw [List.pairwise_map]
    have e1:l.getD v []=l[v]:=by simp [hv]
    have hp:=chkX_pair (fit_at h hv (by omega))
    rw [e1]
    refine List.Pairwise.imp_of_mem ?_ hp
    intro a b ha hb hab
    rw [← e1] at ha
    obtain ⟨q1,q2,q3⟩:=wr_at h hv ha
    have q4:=wOf_len q1 q2 q3
    refine .inr ⟨rfl,?_⟩
    rw [q4]
    exact hab
   ·refine List.Pairwise.imp ?_ List.pairwise_lt_range
    intro a b hab x hx y hy
    obtain ⟨_,_,rfl⟩:=List.mem_map.1 hx
    obtain ⟨_,_,rfl⟩:=List.mem_map.1 hy
    exact .inl (show ((a:Nat):Int)<(b:Int) by omega)
  exact fun i hi=>List.pairwise_iff_getElem.1 hp i (i+1) (by omega) hi (by omega)
theorem wrL_data {im:Img} {l:List (List Exn)} {k:Nat} (hr:∀ v∈im,v.length≤k):∀ w∈wrL im l,w.data.length≤k:=fun w hw=>by
 obtain ⟨v,hv,e,he,rfl⟩:=wrL_mem hw
 have:(im.getD v []).length≤k:=by
  by_cases h:v<im.length
  ·have e:im.getD v []=im[v]:=by simp [h]
   rw [e];exact hr _ (List.getElem_mem h)
  ·have e:im.getD v []=[]:=by simp [List.getD_eq_getElem?_getD,List.getElem?_eq_none (Nat.le_of_not_lt h)]
   rw [e];simp
 simp only [wOf,List.length_take,List.length_drop];omega
theorem wrV_succ (im:Img) (v:Nat) {x:List Exn} {i:Nat} (h:i<x.length):wrV im v (x.take (i+1))=wrV im v (x.take i)++[wOf im v x[i]]:=by
 unfold wrV;rw [List.take_succ_eq_append_getElem h,List.map_append];rfl
theorem wrN_lim (im:Img) (l:List (List Exn)) {n:Nat} (h:n≤l.length):(wrN im l n).length≤(wrL im l).length:=by
 unfold wrL
 have e:l.length=n+(l.length - n):=by omega
 rw [e]
 generalize l.length - n=k
 induction k with
 |zero=>exact Nat.le_refl _
 |succ k ih=>rw [show n+(k+1)=(n+k)+1 by omega,wrN_succ,List.length_append];omega
theorem wrV_lim (im:Img) (l:List (List Exn)) {v:Nat} (hv:v<l.length) {i:Nat} (hi:i<l[v].length):(wrN im l v++wrV im v (l[v].take i)).length+1≤(wrL im l).length:=by
 have h1:=wrN_lim im l (n:=v+1) (by omega)
 rw [wrN_succ,show l.getD v []=l[v] by simp [hv]] at h1
 simp only [List.length_append,wrV,List.length_map,List.length_take] at h1 ⊢
 omega
end Go.Proofs.YtioijcfcehhmdaaGreatDoor.V

namespace Go.Proofs.YtioijcfcehhmdaaGreatDoor.V
theorem cal54 {im:Img} {b n t:Int} {p:List Int} {w:List Wrt} (hs:seqW im w) (hc:imCheck im=0) (hi:im.length≤lim) (hr:∀ v∈im,v.length≤1000000) (hl:w.length≤lim) (hp:p.length≤20) :
  cal env 54 [eCyc b n t p w,.list 1 ((imSizes im).map eI)]=some [(.int .i64 (cycE b n t p),false)]:=by
 have hz:(imSizes im).length≤lim:=by simpa [imSizes] using hi
 have e1:=cal96 hz
 have hc':sizesErr (imSizes im)=0:=hc
 rw [hc',if_pos rfl] at e1
 have e2:=cal97 (n:=t) (a:=0) (b:=1073741824)
 have e3:=cal98 hp
 have e4:=cal99 hs hc hi hr hl
 have Z:((0:Int) != 0)=false:=rfl
 unfold eCyc cycE
 by_cases c1:b<0∨n≤b∨n > 1073741824
 ·rw [if_pos c1]
  rw [cal_code env54 rfl];simp only [fn54];simp only [start,z_map_cons,z_map_nil,z_len_cons,z_len_nil,z_repl_zero,z_repl_succ,z_cons_app,z_nil_app,Nat.reduceAdd,Nat.reduceSub]
  simp only [e1,Z,memAll,vAll,reduceCtorEq,Nat.reduceEqDiff,Nat.reduceAdd,Nat.reduceLT,Nat.reduceLeDiff,Nat.beq]
  by_cases d1:b<0
  ·simp only [eq_true d1,memAll,vAll,reduceCtorEq,Nat.reduceEqDiff,Nat.reduceAdd,Nat.reduceLT,Nat.reduceLeDiff,Nat.beq]
  ·have d1:=eq_false d1
   by_cases d2:n≤b
   ·simp only [d1,eq_true d2,memAll,vAll,reduceCtorEq,Nat.reduceEqDiff,Nat.reduceAdd,Nat.reduceLT,Nat.reduceLeDiff,Nat.beq]
   ·have d3:n > 1073741824:=by simp only [d1,false_or] at c1;omega
    simp only [d1,eq_false d2,eq_true d3,memAll,vAll,reduceCtorEq,Nat.reduceEqDiff,Nat.reduceAdd,Nat.reduceLT,Nat.reduceLeDiff,Nat.beq]
 ·rw [if_neg c1]
  have G1:(b<0)=False:=eq_false (by omega)
  have G2:(n≤b)=False:=eq_false (by omega)
  have G3:(n > 1073741824)=False:=eq_false (by omega)
  by_cases c2:t<0∨t > 1073741824
  ·rw [if_pos c2]
   have G4:(decide ((0:Int)≤t)&&decide (t≤1073741824))=false:=by simp;omega
   rw [G4] at e2
   rw [cal_code env54 rfl];simp only [fn54];simp only [start,z_map_cons,z_map_nil,z_len_cons,z_len_nil,z_repl_zero,z_repl_succ,z_cons_app,z_nil_app,Nat.reduceAdd,Nat.reduceSub]
   simp only [e1,e2,G1,G2,G3,Z,memAll,vAll,reduceCtorEq,Nat.reduceEqDiff,Nat.reduceAdd,Nat.reduceLT,Nat.reduceLeDiff,Nat.beq]
  ·rw [if_neg c2]
   have G4:(decide ((0:Int)≤t)&&decide (t≤1073741824))=true:=by simp;omega
   rw [G4] at e2
   by_cases c3:posE p=0
   ·rw [c3] at e3
    rw [c3]
    rw [cal_code env54 rfl];simp only [fn54];simp only [start,z_map_cons,z_map_nil,z_len_cons,z_len_nil,z_repl_zero,z_repl_succ,z_cons_app,z_nil_app,Nat.reduceAdd,Nat.reduceSub]
    simp only [e1,e2,e3,e4,G1,G2,G3,Z,memAll,vAll,reduceCtorEq,Nat.reduceEqDiff,Nat.reduceAdd,Nat.reduceLT,Nat.reduceLeDiff,Nat.beq]
   ·have G5:(posE p != 0)=true:=by simp [c3]
    rw [cal_code env54 rfl];simp only [fn54];simp only [start,z_map_cons,z_map_nil,z_len_cons,z_len_nil,z_repl_zero,z_repl_succ,z_cons_app,z_nil_app,Nat.reduceAdd,Nat.reduceSub]
    simp only [e1,e2,e3,G1,G2,G3,G5,Z,memAll,vAll,reduceCtorEq,Nat.reduceEqDiff,Nat.reduceAdd,Nat.reduceLT,Nat.reduceLeDiff,Nat.beq]
theorem cal58 {im:Img} {b n t:Int} {p:List Int} {w:List Wrt} (hs:seqW im w) (hc:imCheck im=0) (hi:im.length≤lim) (hr:∀ v∈im,v.length≤1000000) (hl:w.length≤lim) (hp:p.length≤20) :
  cal env 58 [eCyc b n t p w,.list 1 ((imSizes im).map eI)]=some [(.int .i64 (cycE b n t p),false)]:=by
 have hz:(imSizes im).length≤lim:=by simpa [imSizes] using hi
 have e1:=cal104 hz
 have hc':sizesErr (imSizes im)=0:=hc
 rw [hc'] at e1
 have e3:=cal105 (l:=p) (Nat.le_trans hp (by decide))
 have e4:=cal106 hs hc hi hr hl
 have Z:((0:Int) != 0)=false:=rfl
 unfold eCyc cycE posE
 by_cases c1:b<0∨n≤b∨n > 1073741824
 ·rw [if_pos c1]
  rw [cal_code env58 rfl];simp only [fn58];simp only [start,z_map_cons,z_map_nil,z_len_cons,z_len_nil,z_repl_zero,z_repl_succ,z_cons_app,z_nil_app,Nat.reduceAdd,Nat.reduceSub]
  simp only [e1,Z,memAll,vAll,reduceCtorEq,Nat.reduceEqDiff,Nat.reduceAdd,Nat.reduceLT,Nat.reduceLeDiff,Nat.beq]
  by_cases d1:b<0
  ·simp only [eq_true d1,memAll,vAll,reduceCtorEq,Nat.reduceEqDiff,Nat.reduceAdd,Nat.reduceLT,Nat.reduceLeDiff,Nat.beq]
  ·have d1:=eq_false d1
   by_cases d2:n≤b
   ·simp only [d1,eq_true d2,memAll,vAll,reduceCtorEq,Nat.reduceEqDiff,Nat.reduceAdd,Nat.reduceLT,Nat.reduceLeDiff,Nat.beq]
   ·have d3:n > 1073741824:=by simp only [d1,false_or] at c1;omega
    simp only [d1,eq_false d2,eq_true d3,memAll,vAll,reduceCtorEq,Nat.reduceEqDiff,Nat.reduceAdd,Nat.reduceLT,Nat.reduceLeDiff,Nat.beq]
 ·rw [if_neg c1]
  have G1:(b<0)=False:=eq_false (by omega)
  have G2:(n≤b)=False:=eq_false (by omega)
  have G3:(n > 1073741824)=False:=eq_false (by omega)
  by_cases d1:t<0
  ·rw [if_pos (.inl d1)]
   have D1:(t<0)=True:=eq_true d1
   rw [cal_code env58 rfl];simp only [fn58];simp only [start,z_map_cons,z_map_nil,z_len_cons,z_len_nil,z_repl_zero,z_repl_succ,z_cons_app,z_nil_app,Nat.reduceAdd,Nat.reduceSub]
   simp only [e1,G1,G2,G3,D1,Z,memAll,vAll,reduceCtorEq,Nat.reduceEqDiff,Nat.reduceAdd,Nat.reduceLT,Nat.reduceLeDiff,Nat.beq]
  ·have D1:(t<0)=False:=eq_false d1
   by_cases d2:t > 1073741824
   ·rw [if_pos (.inr d2)]
    have D2:(t > 1073741824)=True:=eq_true d2
    rw [cal_code env58 rfl];simp only [fn58];simp only [start,z_map_cons,z_map_nil,z_len_cons,z_len_nil,z_repl_zero,z_repl_succ,z_cons_app,z_nil_app,Nat.reduceAdd,Nat.reduceSub]
    simp only [e1,G1,G2,G3,D1,D2,Z,memAll,vAll,reduceCtorEq,Nat.reduceEqDiff,Nat.reduceAdd,Nat.reduceLT,Nat.reduceLeDiff,Nat.beq]
   ·rw [if_neg (by omega)]
    have D2:(t > 1073741824)=False:=eq_false d2
    by_cases c3:8<p.length
    ·have D3:((p.length:Int) > 8)=True:=eq_true (by omega)
     rw [if_pos c3]
     rw [cal_code env58 rfl];simp only [fn58];simp only [start,z_map_cons,z_map_nil,z_len_cons,z_len_nil,z_repl_zero,z_repl_succ,z_cons_app,z_nil_app,Nat.reduceAdd,Nat.reduceSub]
     simp only [e1,G1,G2,G3,D1,D2,D3,List.length_map,Z,memAll,vAll,reduceCtorEq,Nat.reduceEqDiff,Nat.reduceAdd,Nat.reduceLT,Nat.reduceLeDiff,Nat.beq]
    ·have D3:((p.length:Int) > 8)=False:=eq_false (by omega)
     rw [if_neg c3]
     cases c4:p.any badT with
     |true =>
      rw [c4] at e3
      have e3:cal env 105 [.list 1 (p.map eI)]=some [(.int .i64 2,false)]:=e3
      have Z2:((2:Int) != 0)=true:=rfl
      rw [cal_code env58 rfl];simp only [fn58];simp only [start,z_map_cons,z_map_nil,z_len_cons,z_len_nil,z_repl_zero,z_repl_succ,z_cons_app,z_nil_app,Nat.reduceAdd,Nat.reduceSub]
      simp only [e1,e3,G1,G2,G3,D1,D2,D3,List.length_map,Z,Z2,memAll,vAll,reduceCtorEq,Nat.reduceEqDiff,Nat.reduceAdd,Nat.reduceLT,Nat.reduceLeDiff,Nat.beq]
     |false =>
      rw [c4] at e3
      have e3:cal env 105 [.list 1 (p.map eI)]=some [(.int .i64 0,false)]:=e3
      rw [cal_code env58 rfl];simp only [fn58];simp only [start,z_map_cons,z_map_nil,z_len_cons,z_len_nil,z_repl_zero,z_repl_succ,z_cons_app,z_nil_app,Nat.reduceAdd,Nat.reduceSub]
      simp only [e1,e3,e4,G1,G2,G3,D1,D2,D3,List.length_map,Z,memAll,vAll,reduceCtorEq,Nat.reduceEqDiff,Nat.reduceAdd,Nat.reduceLT,Nat.reduceLeDiff,Nat.beq]
end Go.Proofs.YtioijcfcehhmdaaGreatDoor.V

namespace Go.Proofs.YtioijcfcehhmdaaGreatDoor.V
def can:Int→List Exn→Prop
 |_,[]=>True
 |nx,x :: l=>nx≤x.start∧1≤x.count∧can (x.start+x.count+1) l
def endN:Int→List Exn→Int
 |nx,[]=>nx
 |_,x :: l=>endN (x.start+x.count+1) l
theorem endN_snoc:∀ (l:List Exn) (nx:Int) (x:Exn),endN nx (l++[x])=x.start+x.count+1
 |[],_,_=>rfl
 |y :: l,_,x=>endN_snoc l (y.start+y.count+1) x
theorem can_snoc:∀ (l:List Exn) (nx:Int) (x:Exn),can nx (l++[x]) ↔ can nx l∧endN nx l≤x.start∧1≤x.count
 |[],nx,x=>by simp [can,endN]
 |y :: l,nx,x=>by
  have:=can_snoc l (y.start+y.count+1) x
  show nx≤y.start∧1≤y.count∧can _ (l++[x]) ↔ (nx≤y.start∧1≤y.count∧can _ l)∧endN _ l≤x.start∧1≤x.count
  rw [this]
  constructor
  ·rintro ⟨a,b,c,d⟩;exact ⟨⟨a,b,c⟩,d⟩
  ·rintro ⟨⟨a,b,c⟩,d⟩;exact ⟨a,b,c,d⟩
theorem can_ext (p:Nat→Bool):∀ n:Nat,can 0 (ext p n)∧endN 0 (ext p n)≤(n:Int)+1
 |0=>by rw [ext_zero];exact ⟨trivial,by simp [endN]⟩
 |n+1=>by
  obtain ⟨h1,h2⟩:=can_ext p n
  rw [ext_succ]
  split
  ·rcases snoc_cases (ext p n) with e|⟨pre,x,e⟩
   ·rw [e]
    have:addAt [] n=[⟨(n:Int),1⟩]:=rfl
    rw [this]
    exact ⟨⟨by simp only;omega,by simp only;omega,trivial⟩,by simp only [endN];omega⟩
   ·rw [e] at h1 h2 ⊢
    have hx:=ext_in p n x (by rw [e];simp)
    rw [endN_snoc] at h2
    obtain ⟨c1,c2,c3⟩:=(can_snoc _ _ _).1 h1
    rw [addAt_snoc]
    split
    ·exact ⟨(can_snoc _ _ _).2 ⟨c1,c2,by simp only;omega⟩,by rw [endN_snoc];simp only;omega⟩
    ·exact ⟨(can_snoc _ _ _).2 ⟨h1,by rw [endN_snoc];simp only;omega,by simp⟩,by rw [endN_snoc];simp only;omega⟩
  ·exact ⟨h1,by omega⟩
theorem chk_can {size:Int}:∀ (l:List Exn) (nx:Int),can nx l→(∀ x∈l,0≤x.start∧x.start+x.count≤size)→chkGo size nx l=0
 |[],_,_,_=>rfl
 |x :: l,nx,h,hb=>by
  obtain ⟨h1,h2,h3⟩:=h
  have hx:=hb x (by simp)
  unfold chkGo
  rw [if_neg (by omega),if_neg (by omega),if_neg (by omega)]
  exact chk_can l _ h3 fun y hy=>hb y (by simp [hy])
theorem chk_ext' (p:Nat→Bool) (n:Nat):chkGo n 0 (ext p n)=0:=chk_can _ 0 (can_ext p n).1 fun x hx=>by have:=ext_in p n x hx;omega
end Go.Proofs.YtioijcfcehhmdaaGreatDoor.V

namespace Go.Proofs.YtioijcfcehhmdaaGreatDoor.V
theorem getD_lt {α:Type} {l:List α} {i:Nat} {d:α} (h:i<l.length):l.getD i d=l[i]:=by simp [List.getD_eq_getElem?_getD,List.getElem?_eq_getElem h]
end Go.Proofs.YtioijcfcehhmdaaGreatDoor.V

namespace Go.Proofs.YtioijcfcehhmdaaGreatDoor.V
def mkX (a:Pt):List (List Exn):=a.dirty.map bmX
def mkW (a:Pt):List Wrt:=wrL a.img (mkX a)
theorem mkX_len (a:Pt):(mkX a).length=a.dirty.length:=by unfold mkX;exact List.length_map ..
theorem mkX_at {a:Pt} {i:Nat} (h:i<a.dirty.length):(mkX a)[i]'(by rw [mkX_len];exact h)=bmX a.dirty[i]:=by unfold mkX;exact List.getElem_map ..
theorem mkX_ext {a:Pt} (h:chkP a=0) {i:Nat} (hi:i<a.dirty.length) (hj:i<a.img.length):bmX a.dirty[i]=ext (bit a.dirty[i].ws) a.img[i].length:=by
 obtain ⟨_,_,h3,h4⟩:=chkP_ok h
 obtain ⟨k1,k2⟩:=dirE_all h4 i hi hj
 unfold bmX bmExts
 rw [if_pos k1,k2,Int.toNat_natCast]
theorem mk_fit {a:Pt} (h:chkP a=0) (hv:∀ v∈a.img,v.length≤4096):fitE a.img (mkX a)=0:=by
 obtain ⟨_,_,h3,_⟩:=chkP_ok h
 have hl:(mkX a).length=a.img.length:=by rw [mkX_len,h3]
 unfold fitE
 rw [if_neg (by omega),if_neg]
 intro hc
 have hm:=List.contains_iff_mem.1 hc
 unfold fitB eachX at hm
 obtain ⟨i,hi,e⟩:=List.mem_mapIdx.1 hm
 have hi1:i<a.dirty.length:=by rw [mkX_len] at hi;exact hi
 have hi2:i<a.img.length:=by omega
 have hz:=hv _ (List.getElem_mem hi2)
 have e0:a.img.getD i []=a.img[i]:=getD_lt hi2
 rw [mkX_at hi1,mkX_ext h hi1 hi2,e0] at e
 have:chkX (ext (bit a.dirty[i].ws) a.img[i].length) (a.img[i].length:Int)=0:=by
  unfold chkX
  rw [if_neg (by omega)]
  exact chk_ext' _ _
 rw [this] at e
 simp at e
theorem mkX_le {a:Pt} (h:chkP a=0) {k:Nat} (hv:∀ v∈a.img,v.length≤k):∀ x∈mkX a,x.length≤k:=fun x hx=>by
 obtain ⟨_,_,h3,_⟩:=chkP_ok h
 obtain ⟨i,hi,rfl⟩:=List.mem_iff_getElem.1 hx
 have hi1:i<a.dirty.length:=by rw [mkX_len] at hi;exact hi
 have hi2:i<a.img.length:=by omega
 rw [mkX_at hi1,mkX_ext h hi1 hi2]
 exact Nat.le_trans (ext_len _ _) (hv _ (List.getElem_mem hi2))
theorem wrN_le {im:Img} {l:List (List Exn)} {k:Nat} (hr:∀ x∈l,x.length≤k):∀ n,n≤l.length→(wrN im l n).length≤k * n
 |0,_=>by simp [wrN]
 |n+1,h=>by
  have ih:=wrN_le (im:=im) hr n (by omega)
  have h2:=hr _ (List.getElem_mem (show n<l.length by omega))
  rw [wrN_succ,List.length_append,show l.getD n []=l[n] by simp [show n<l.length by omega],Nat.mul_add,Nat.mul_one]
  simp only [wrV,List.length_map]
  omega
theorem mkW_le {a:Pt} (h:chkP a=0) (hl:a.img.length≤9) (hv:∀ v∈a.img,v.length≤24):(mkW a).length≤216:=by
 obtain ⟨_,_,h3,_⟩:=chkP_ok h
 have h1:=wrN_le (im:=a.img) (mkX_le h hv) (mkX a).length (Nat.le_refl _)
 have h2:(mkX a).length=a.img.length:=by rw [mkX_len,h3]
 unfold mkW wrL
 omega
def okM (im:Img) (l:List (List Exn)):Prop:=fitE im l=0∧im.length≤lim∧(∀ v∈im,v.length≤1000000)∧(∀ x∈l,x.length≤10000)∧(wrL im l).length≤1000000
theorem mk_ok {a:Pt} (h:chkP a=0) (hl:a.img.length≤9) (hv:∀ v∈a.img,v.length≤24):okM a.img (mkX a):=by
 have hlim:lim=1073741824:=rfl
 refine ⟨mk_fit h fun v hx=>by have:=hv v hx;omega,by omega,fun v hx=>by have:=hv v hx;omega,fun x hx=>by have:=mkX_le h hv x hx;omega,?_⟩
 have:=mkW_le h hl hv
 unfold mkW at this
 omega
theorem mk_one {im:Img} {l:List (List Exn)} (h:okM im l) {v i:Nat} (hv:v<l.length) (hi:i<l[v].length):∃ hvi:v<im.length,
  (0≤l[v][i].start∧l[v][i].start≤((l[v][i].start+l[v][i].count).toNat:Int))∧(0≤l[v][i].start+l[v][i].count∧l[v][i].start+l[v][i].count≤(im[v].length:Int))∧IntKind.i64.wrap (l[v][i].start+l[v][i].count)=l[v][i].start+l[v][i].count ∧
  (l[v][i].start+l[v][i].count).toNat - l[v][i].start.toNat=l[v][i].count.toNat∧(((im[v].map eSec).drop l[v][i].start.toNat).take l[v][i].count.toNat).length≤lim∧(wrN im l v++wrV im v (l[v].take i)).length+1≤lim ∧
  (wrN im l v++wrV im v (l[v].take (i+1))).map eWr=(wrN im l v++wrV im v (l[v].take i)).map eWr++[.agg [.int .i64 (v:Int),.int .i64 l[v][i].start,.list 8 (((im[v].map eSec).drop l[v][i].start.toNat).take l[v][i].count.toNat)]]:=by
 obtain ⟨hf,him,hri,hr,hL⟩:=h
 have hlim:lim=1073741824:=rfl
 have hvi:v<im.length:=by have:=fit_len hf;omega
 obtain ⟨q1,q2,q3⟩:=wr_at hf hv (e:=l[v][i]) (by rw [show l.getD v []=l[v] by simp [hv]];exact List.getElem_mem hi)
 have e8:im.getD v []=im[v]:=by simp [hvi]
 rw [e8] at q3
 have hvl:=hri _ (List.getElem_mem hvi)
 have hL2:=wrV_lim im l hv hi
 refine ⟨hvi,by omega,by omega,i64_fits (by omega),by omega,by simp;omega,by omega,?_⟩
 rw [wrV_succ im v hi];simp [eWr,wOf,hvi,List.map_take,List.map_drop]
theorem eImg_at {im:Img} {v:Nat} (h:v<im.length):(im.map eSecs)[v]?=some (.list 8 (im[v].map eSec)):=by rw [List.getElem?_map,List.getElem?_eq_getElem h];rfl
theorem eExt_at9 {l:List Exn} {i:Nat} (h:i<l.length):(l.map eExt)[i]?=some (.agg [.int .i64 l[i].start,.int .i64 l[i].count]):=by rw [List.getElem?_map,List.getElem?_eq_getElem h];rfl
theorem eBm_at9 {l:List Bm} {i:Nat} (h:i<l.length):(l.map eBm)[i]?=some (.agg [.int .i64 l[i].size,.list 1 (l[i].ws.map eW)]):=by rw [List.getElem?_map,List.getElem?_eq_getElem h];rfl
theorem loop53 {a:Pt} {q:List BV} {l:List (List Exn)} {v:Nat} (h0:okM a.img l) (hv:v<l.length) {st:St} (h:st.head [1,3,4,9,10,11,17,18,19,43] st.boxes.length=some ⟨sl 47 [(1,.pbox 0 0),(3,.row 3 ((wrN a.img l v++wrV a.img v (l[v].take ((0:Nat)))).map eWr)),(4,.pv (.int .i64 v)),(9,.pv (.list 2 (a.dirty.map eBm))),(10,.pv (.int .i64 a.dirty.length)),(11,.pv (.int .i64 v)),(17,.row 2 (l[v].map eExt)),(18,.pv (.int .i64 l[v].length)),(19,.pv (.int .i64 (0:Nat))),(43,.any)],[⟨false,bPt a⟩,⟨false,q⟩],[],none⟩) :
  den env fn53_l1 st=some (.normal,⟨sl 47 [(1,.pbox 0 0),(2,.any),(3,.row 3 ((wrN a.img l (v+1)).map eWr)),(9,.pv (.list 2 (a.dirty.map eBm))),(10,.pv (.int .i64 a.dirty.length)),(11,.pv (.int .i64 v)),(43,.any)],[⟨false,bPt a⟩,⟨false,q⟩],[],none⟩):=by
 unfold fn53_l1
 refine clean_up (env:=env) (nb:=2) (l[v].length) (fun i=>⟨sl 47 [(1,.pbox 0 0),(3,.row 3 ((wrN a.img l v++wrV a.img v (l[v].take (i))).map eWr)),(4,.pv (.int .i64 v)),(9,.pv (.list 2 (a.dirty.map eBm))),(10,.pv (.int .i64 a.dirty.length)),(11,.pv (.int .i64 v)),(17,.row 2 (l[v].map eExt)),(18,.pv (.int .i64 l[v].length)),(19,.pv (.int .i64 i)),(43,.any)],[⟨false,bPt a⟩,⟨false,q⟩],[],none⟩) (fun i=>some (.normal,⟨sl 47 [(1,.pbox 0 0),(2,.any),(3,.row 3 ((wrN a.img l (v+1)).map eWr)),(9,.pv (.list 2 (a.dirty.map eBm))),(10,.pv (.int .i64 a.dirty.length)),(11,.pv (.int .i64 v)),(43,.any)],[⟨false,bPt a⟩,⟨false,q⟩],[],none⟩)) h (fun _=>rfl) (fun _=>by simp only [slAll,slsAll,Nat.reduceMul,Nat.reduceBEq,Nat.reduceLT,Nat.reduceLeDiff,Nat.reduceAdd,decide_true,Bool.and_self,Bool.true_and]) ?_ ?_
 ·intro i rb hi ih
  have hi1:=i64_next hi (Nat.le_trans (h0.2.2.2.1 _ (List.getElem_mem hv)) (by decide))
  have F1:((i:Int)<(l[v].length:Int))=True:=eq_true (by omega)
  obtain ⟨hvi,b1,b2,W,e6,f3,f2,e5⟩:=mk_one h0 hv hi
  have hx:=eExt_at9 hi
  have hy:=eImg_at hvi
  have P2:∀ a b:PV,part [a,b] 0 (some 2)=some (.agg [a,b]):=fun _ _=>rfl
  have B1:=eq_true b1
  have B2:=eq_true b2
  have F2:=eq_true f2
  have g5:=cal95 (es:=((a.img[v].map eSec).drop l[v][i].start.toNat).take l[v][i].count.toNat) f3
  simp only [fn53_b0,F1,F2,hx,hy,P2,W,B1,B2,e6,g5,bPt_eq,index_nat hvi,index_nat hi,List.length_map,slAll,slsAll,Nat.reduceMul,Nat.reduceBEq,Nat.reduceLT,Nat.reduceLeDiff,memAll,vAll,reduceCtorEq,Nat.reduceEqDiff,Nat.reduceAdd,Nat.reduceLT,Nat.reduceLeDiff,Nat.beq]
  rw [ih _ (by simp only [hi1];rw [e5];simp only [bPt_eq,slAll,slsAll,Nat.reduceMul,Nat.reduceBEq,Nat.reduceLT,Nat.reduceLeDiff,memAll,vAll,reduceCtorEq,Nat.reduceEqDiff,Nat.reduceAdd,Nat.reduceLT,Nat.reduceLeDiff,Nat.beq]<;>rfl)]
  all_goals rfl
 ·intro rb
  have e9:wrN a.img l v++wrV a.img v l[v]=wrN a.img l (v+1):=by rw [wrN_succ,show l.getD v []=l[v] by simp [hv]]
  rw [List.take_length,e9]
  simp only [fn53_b0,Int.lt_irrefl,bPt_eq,List.length_map,slAll,slsAll,Nat.reduceMul,Nat.reduceBEq,Nat.reduceLT,Nat.reduceLeDiff,memAll,vAll,reduceCtorEq,Nat.reduceEqDiff,Nat.reduceAdd,Nat.reduceLT,Nat.reduceLeDiff,Nat.beq]
theorem loop53l3 {a:Pt} (h0:okM a.img (mkX a)) (hd:a.dirty.length≤lim) {st:St} (h:st.head [1,3,9,10,11,43] st.boxes.length=some ⟨sl 47 [(1,.pbox 0 0),(3,.row 3 ((wrN a.img (mkX a) ((0:Nat))).map eWr)),(9,.pv (.list 2 (a.dirty.map eBm))),(10,.pv (.int .i64 a.dirty.length)),(11,.pv (.int .i64 (0:Nat))),(43,.any)],[⟨false,bPt a⟩],[],none⟩) :
  den env fn53_l3 st=some (.normal,⟨sl 47 [(2,.any),(3,.row 3 ((mkW a).map eWr))],[⟨false,bPt a⟩],[],none⟩):=by
 unfold fn53_l3
 refine clean_up (env:=env) (nb:=1) (a.dirty.length) (fun i=>⟨sl 47 [(1,.pbox 0 0),(3,.row 3 ((wrN a.img (mkX a) (i)).map eWr)),(9,.pv (.list 2 (a.dirty.map eBm))),(10,.pv (.int .i64 a.dirty.length)),(11,.pv (.int .i64 i)),(43,.any)],[⟨false,bPt a⟩],[],none⟩) (fun i=>some (.normal,⟨sl 47 [(2,.any),(3,.row 3 ((mkW a).map eWr))],[⟨false,bPt a⟩],[],none⟩)) h (fun _=>rfl) (fun _=>by simp only [slAll,slsAll,Nat.reduceMul,Nat.reduceBEq,Nat.reduceLT,Nat.reduceLeDiff,Nat.reduceAdd,decide_true,Bool.and_self,Bool.true_and]) ?_ ?_
 ·intro i rb hi ih
  have hi1:=i64_next hi hd
  have F1:((i:Int)<(a.dirty.length:Int))=True:=eq_true (by omega)
  have hx:=eBm_at9 hi
  have P2:∀ a b:PV,part [a,b] 0 (some 2)=some (.agg [a,b]):=fun _ _=>rfl
  have e1:cal env 94 [.agg [.int .i64 a.dirty[i].size,.list 1 (a.dirty[i].ws.map eW)]]=_:=cal94 (b:=a.dirty[i])
  have hm:i<(mkX a).length:=by rw [mkX_len];exact hi
  rw [← mkX_at hi] at e1
  simp only [fn53_b2,F1,hx,P2,e1,bPt_eq,index_nat hi,List.length_map,slAll,slsAll,Nat.reduceMul,Nat.reduceBEq,Nat.reduceLT,Nat.reduceLeDiff,memAll,vAll,reduceCtorEq,Nat.reduceEqDiff,Nat.reduceAdd,Nat.reduceLT,Nat.reduceLeDiff,Nat.beq]
  rw [loop53 (a:=a) (l:=mkX a) (v:=i) h0 hm (by simp only [List.take_zero,show wrV a.img i []=[] from rfl,List.append_nil,bPt_eq];simp only [slAll,slsAll,Nat.reduceMul,Nat.reduceBEq,Nat.reduceLT,Nat.reduceLeDiff,Nat.reduceAdd,decide_true,Bool.and_self,Bool.true_and]<;>rfl)]
  simp only [bPt_eq,slAll,slsAll,Nat.reduceMul,Nat.reduceBEq,Nat.reduceLT,Nat.reduceLeDiff,memAll,vAll,reduceCtorEq,Nat.reduceEqDiff,Nat.reduceAdd,Nat.reduceLT,Nat.reduceLeDiff,Nat.beq]
  rw [ih _ (by simp only [hi1,bPt_eq,slAll,slsAll,Nat.reduceMul,Nat.reduceBEq,Nat.reduceLT,Nat.reduceLeDiff,memAll,vAll,reduceCtorEq,Nat.reduceEqDiff,Nat.reduceAdd,Nat.reduceLT,Nat.reduceLeDiff,Nat.beq]<;>rfl)]
  all_goals rfl
 ·intro rb
  simp only [fn53_b2,Int.lt_irrefl,bPt_eq,List.length_map,slAll,slsAll,Nat.reduceMul,Nat.reduceBEq,Nat.reduceLT,Nat.reduceLeDiff,memAll,vAll,reduceCtorEq,Nat.reduceEqDiff,Nat.reduceAdd,Nat.reduceLT,Nat.reduceLeDiff,Nat.beq]
  unfold mkW wrL
  rw [mkX_len]
theorem cal53 {a:Pt} (h0:okM a.img (mkX a)) (hd:a.dirty.length≤lim):cal env 53 [ePt a]=some [(.list 3 ((mkW a).map eWr),true)]:=by
 rw [ePt_eq]
 rw [cal_code env53 rfl];simp only [fn53,slAll,Nat.reduceBEq,Nat.reduceLeDiff,Nat.reduceAdd,List.length_cons,List.length_nil]
 simp only [List.length_map,slAll,slsAll,Nat.reduceMul,Nat.reduceBEq,Nat.reduceLT,Nat.reduceLeDiff,memAll,vAll,reduceCtorEq,Nat.reduceEqDiff,Nat.reduceAdd,Nat.reduceLT,Nat.reduceLeDiff,Nat.beq]
 rw [loop53l3 (a:=a) h0 hd (by simp only [show wrN a.img (mkX a) 0=[] from rfl,List.map_nil,bPt_eq];simp only [slAll,slsAll,Nat.reduceMul,Nat.reduceBEq,Nat.reduceLT,Nat.reduceLeDiff,Nat.reduceAdd,decide_true,Bool.and_self,Bool.true_and]<;>rfl)]
 simp only [bPt_eq,slAll,slsAll,Nat.reduceMul,Nat.reduceBEq,Nat.reduceLT,Nat.reduceLeDiff,memAll,vAll,reduceCtorEq,Nat.reduceEqDiff,Nat.reduceAdd,Nat.reduceLT,Nat.reduceLeDiff,Nat.beq]
end Go.Proofs.YtioijcfcehhmdaaGreatDoor.V

namespace Go.Proofs.YtioijcfcehhmdaaGreatDoor.V
end Go.Proofs.YtioijcfcehhmdaaGreatDoor.V

namespace Go.Proofs.YtioijcfcehhmdaaGreatDoor.V
structure Cye where
 base:Int
 num:Int
 time:Int
 pos:List Int
 ws:List Wrt
def eCye (c:Cye):PV:=.agg [.int .i64 c.base,.int .i64 c.num,.int .i64 c.time,.list 1 (c.pos.map eI),.list 3 (c.ws.map eWr)]
theorem eCye_eq (c:Cye):eCye c=.agg [.int .i64 c.base,.int .i64 c.num,.int .i64 c.time,.list 1 (c.pos.map eI),.list 3 (c.ws.map eWr)]:=rfl
end Go.Proofs.YtioijcfcehhmdaaGreatDoor.V

namespace Go.Proofs.YtioijcfcehhmdaaGreatDoor.V
def zCye:Cye:=⟨0,0,0,[],[]⟩
def rndE (p:Prc) (a:Pt) (n t:Int):Int:=(if fmE p=0 then (if chkP a=0 then (if a.site=p.frm then (if p.done=false then (if p.step<4096 then (if p.cyc<n then (if (headOf a.lin).to≤n then (if cycE p.cyc n t []=0 then 0 else cycE p.cyc n t []) else 2) else 2) else 11) else 12) else 1) else chkP a) else fmE p)
def rndO (p:Prc) (a:Pt) (n t:Int):Prc:=if rndE p a n t=0 then { p with step:=p.step+1,cyc:=n } else zPrc
def rndC (p:Prc) (a:Pt) (n t:Int):Cye:=if rndE p a n t=0 then ⟨p.cyc,n,t,[],mkW a⟩ else zCye
theorem fmE_step2 {p:Prc} (h:fmE p=0):p.step≤4096:=by
 unfold fmE at h
 by_cases c:p.step≤4096
 ·exact c
 ·exfalso
  repeat' (split at h)
  all_goals first|omega|exact absurd h (by decide)
def bCyz:List BV:=[.pv (.int .i64 0),.pv (.int .i64 0),.pv (.int .i64 0),.row 1 [],.row 3 []]
def bCy (b n t:Int) (w:List PV):List BV:=[.pv (.int .i64 b),.pv (.int .i64 n),.pv (.int .i64 t),.pv (.list 1 []),.row 3 w]
theorem bCy_eq (b n t:Int) (w:List PV):bCy b n t w=[.pv (.int .i64 b),.pv (.int .i64 n),.pv (.int .i64 t),.pv (.list 1 []),.row 3 w]:=rfl
theorem bCyz_eq:bCyz=[.pv (.int .i64 0),.pv (.int .i64 0),.pv (.int .i64 0),.row 1 [],.row 3 []]:=rfl
theorem eCyc_nil (b n t:Int) (w:List Wrt):eCyc b n t [] w=.agg [.int .i64 b,.int .i64 n,.int .i64 t,.list 1 [],.list 3 (w.map eWr)]:=rfl
theorem nilI:([]:List Int).map eI=[]:=rfl
theorem nilW:([]:List Wrt).map eWr=[]:=rfl
theorem imSizes_take {im:Img} {i:Nat} (h:i<im.length):((imSizes im).take (i+1)).map eI=((imSizes im).take i).map eI++[.int .i64 (im[i].length:Int)]:=by
 have hi:i<(imSizes im).length:=by simpa [imSizes] using h
 rw [List.take_succ_eq_append_getElem hi,List.map_append]
 simp [imSizes,eI]
theorem loop12 {a:Pt} {n:Int} {d0 d1 d2 d3 d4 d5:List BV} (hi0:a.img.length≤lim) {st:St} (h:st.head [2,8,9,10,11,14,68,69,70,78] st.boxes.length=some ⟨sl 96 [(2,.pv (.int .i64 n)),(8,.pbox 2 0),(9,.pbox 3 0),(10,.pbox 4 0),(11,.pbox 5 0),(14,.row 1 (((imSizes a.img).take ((0:Nat))).map eI)),(68,.pv (.list 1 (a.img.map eSecs))),(69,.pv (.int .i64 a.img.length)),(70,.pv (.int .i64 (0:Nat))),(78,.any)],[⟨false,d0⟩,⟨false,d1⟩,⟨false,d2⟩,⟨false,d3⟩,⟨false,d4⟩,⟨false,d5⟩],[],none⟩) :
  den env fn12_l1 st=some (.normal,⟨sl 96 [(2,.pv (.int .i64 n)),(8,.pbox 2 0),(9,.pbox 3 0),(10,.pbox 4 0),(11,.pbox 5 0),(14,.row 1 ((imSizes a.img).map eI))],[⟨false,d0⟩,⟨false,d1⟩,⟨false,d2⟩,⟨false,d3⟩,⟨false,d4⟩,⟨false,d5⟩],[],none⟩):=by
 unfold fn12_l1
 refine clean_up (env:=env) (nb:=6) (a.img.length) (fun i=>⟨sl 96 [(2,.pv (.int .i64 n)),(8,.pbox 2 0),(9,.pbox 3 0),(10,.pbox 4 0),(11,.pbox 5 0),(14,.row 1 (((imSizes a.img).take (i)).map eI)),(68,.pv (.list 1 (a.img.map eSecs))),(69,.pv (.int .i64 a.img.length)),(70,.pv (.int .i64 i)),(78,.any)],[⟨false,d0⟩,⟨false,d1⟩,⟨false,d2⟩,⟨false,d3⟩,⟨false,d4⟩,⟨false,d5⟩],[],none⟩) (fun i=>some (.normal,⟨sl 96 [(2,.pv (.int .i64 n)),(8,.pbox 2 0),(9,.pbox 3 0),(10,.pbox 4 0),(11,.pbox 5 0),(14,.row 1 ((imSizes a.img).map eI))],[⟨false,d0⟩,⟨false,d1⟩,⟨false,d2⟩,⟨false,d3⟩,⟨false,d4⟩,⟨false,d5⟩],[],none⟩)) h (fun _=>rfl) (fun _=>by simp only [slAll,slsAll,Nat.reduceMul,Nat.reduceBEq,Nat.reduceLT,Nat.reduceLeDiff,Nat.reduceAdd,decide_true,Bool.and_self,Bool.true_and]) ?_ ?_
 ·intro i rb hi ih
  have hi1:=i64_next hi hi0
  have F1:((i:Int)<(a.img.length:Int))=True:=eq_true (by omega)
  have hy:=eImg_at hi
  have e5:=imSizes_take hi
  have F2:(((imSizes a.img).take i).map eI).length+1≤lim:=by simp [imSizes];omega
  have F2:=eq_true F2
  rw [List.length_map] at F2
  simp only [fn12_b0,F1,F2,hy,index_nat hi,List.length_map,slAll,slsAll,Nat.reduceMul,Nat.reduceBEq,Nat.reduceLT,Nat.reduceLeDiff,memAll,vAll,reduceCtorEq,Nat.reduceEqDiff,Nat.reduceAdd,Nat.reduceLT,Nat.reduceLeDiff,Nat.beq]
  rw [ih _ (by simp only [hi1];rw [e5];simp only [slAll,slsAll,Nat.reduceMul,Nat.reduceBEq,Nat.reduceLT,Nat.reduceLeDiff,memAll,vAll,reduceCtorEq,Nat.reduceEqDiff,Nat.reduceAdd,Nat.reduceLT,Nat.reduceLeDiff,Nat.beq]<;>rfl)]
  all_goals rfl
 ·intro rb
  have e9:(imSizes a.img).take a.img.length=imSizes a.img:=List.take_of_length_le (by simp [imSizes])
  rw [e9]
  simp only [fn12_b0,Int.lt_irrefl,List.length_map,slAll,slsAll,Nat.reduceMul,Nat.reduceBEq,Nat.reduceLT,Nat.reduceLeDiff,memAll,vAll,reduceCtorEq,Nat.reduceEqDiff,Nat.reduceAdd,Nat.reduceLT,Nat.reduceLeDiff,Nat.beq]
theorem cal12 {p:Prc} {a:Pt} {n t:Int} (ha:fitP a) (hl9:a.img.length≤9) (hv24:∀ v∈a.img,v.length≤24):cal env 12 [ePrc p,ePt a,.int .i64 n,.int .i64 t]=some [(ePrc (rndO p a n t),false),(eCye (rndC p a n t),false),(.int .i64 (rndE p a n t),false)]:=by
 have d1:=fm48 (p:=p)
 rw [ePrc_eq] at d1
 have g1:=cal50 (p:=a) ha
 rw [ePt_eq] at g1
 have h1:=cal52 (l:=a.lin) ha.1
 have k1:=okT49
 have k2:=cal49
 have q1:=demT51
 have q2:=cal51
 have q3:=demF51
 rw [ePrc_eq,ePt_eq,cal_dfn env12 rfl]
 by_cases c0:fmE p=0
 rotate_left
 ·rw [if_neg c0] at d1
  have Z:(fmE p=0)=False:=eq_false c0
  have hE:rndE p a n t=fmE p:=by unfold rndE;rw [if_neg c0]
  have hO:rndO p a n t=zPrc:=by unfold rndO;rw [hE,if_neg c0]
  have hC:rndC p a n t=zCye:=by unfold rndC;rw [hE,if_neg c0]
  rw [hE,hO,hC,ePrc_eq,eCye_eq]
  simp only [fn12,slAll,Nat.reduceBEq,Nat.reduceLeDiff,Nat.reduceAdd,List.length_cons,List.length_nil]
  simp only [h1,d1,Z,q1,q2,q3,zPrc,zCye,nilI,nilW,bPt_eq,bPrc_eq,dfnRun_normal,DFn.begun,dfnEnd,varOf,dfnResc,dfnClos,heldOf,boxOf,St.setVar,St.setVars,St.varInt,PV.naught,List.all_cons,List.all_nil,List.head?_cons,List.tail_cons,and_true,true_and,List.nodup_cons,List.mem_cons,List.not_mem_nil,or_false,not_false_eq_true,List.nodup_nil,Option.some.injEq,Nat.reduceEqDiff,Int.reduceEq,if_true,if_false,slAll,slsAll,Nat.reduceMul,Nat.reduceBEq,Nat.reduceLT,Nat.reduceLeDiff,memAll,vAll,reduceCtorEq,Nat.reduceEqDiff,Nat.reduceAdd,Nat.reduceLT,Nat.reduceLeDiff,Nat.beq]
 rw [if_pos c0] at d1
 have d2:=cal48 (p:=p) c0
 rw [ePrc_eq] at d2
 have hs1:=fmE_step c0
 have hs2:=fmE_step2 c0
 by_cases c1:chkP a=0
 rotate_left
 ·have k3:=okF49 c1
  have Z:(chkP a=0)=False:=eq_false c1
  have hE:rndE p a n t=chkP a:=by unfold rndE;rw [if_pos c0,if_neg c1]
  have hO:rndO p a n t=zPrc:=by unfold rndO;rw [hE,if_neg c1]
  have hC:rndC p a n t=zCye:=by unfold rndC;rw [hE,if_neg c1]
  rw [hE,hO,hC,ePrc_eq,eCye_eq]
  simp only [fn12,slAll,Nat.reduceBEq,Nat.reduceLeDiff,Nat.reduceAdd,List.length_cons,List.length_nil]
  simp only [h1,d1,d2,g1,k3,Z,q1,q2,q3,zPrc,zCye,nilI,nilW,bPt_eq,bPrc_eq,dfnRun_normal,DFn.begun,dfnEnd,varOf,dfnResc,dfnClos,heldOf,boxOf,St.setVar,St.setVars,St.varInt,PV.naught,List.all_cons,List.all_nil,List.head?_cons,List.tail_cons,and_true,true_and,List.nodup_cons,List.mem_cons,List.not_mem_nil,or_false,not_false_eq_true,List.nodup_nil,Option.some.injEq,Nat.reduceEqDiff,Int.reduceEq,if_true,if_false,slAll,slsAll,Nat.reduceMul,Nat.reduceBEq,Nat.reduceLT,Nat.reduceLeDiff,memAll,vAll,reduceCtorEq,Nat.reduceEqDiff,Nat.reduceAdd,Nat.reduceLT,Nat.reduceLeDiff,Nat.beq]
 rw [c1] at g1
 have hM:=mk_ok c1 hl9 hv24
 have mk:=cal53 hM ha.2.1
 rw [ePt_eq] at mk
 by_cases c2:a.site=p.frm
 rotate_left
 ·have F2:(a.site==p.frm)=false:=by simpa using c2
  have hE:rndE p a n t=1:=by unfold rndE;rw [if_pos c0,if_pos c1,if_neg c2]
  have hO:rndO p a n t=zPrc:=by unfold rndO;rw [hE,if_neg (by decide)]
  have hC:rndC p a n t=zCye:=by unfold rndC;rw [hE,if_neg (by decide)]
  rw [hE,hO,hC,ePrc_eq,eCye_eq]
  simp only [fn12,slAll,Nat.reduceBEq,Nat.reduceLeDiff,Nat.reduceAdd,List.length_cons,List.length_nil]
  simp only [h1,d1,d2,g1,k1,k2,F2,q1,q2,q3,zPrc,zCye,nilI,nilW,bPt_eq,bPrc_eq,dfnRun_normal,DFn.begun,dfnEnd,varOf,dfnResc,dfnClos,heldOf,boxOf,St.setVar,St.setVars,St.varInt,PV.naught,List.all_cons,List.all_nil,List.head?_cons,List.tail_cons,and_true,true_and,List.nodup_cons,List.mem_cons,List.not_mem_nil,or_false,not_false_eq_true,List.nodup_nil,Option.some.injEq,Nat.reduceEqDiff,Int.reduceEq,if_true,if_false,slAll,slsAll,Nat.reduceMul,Nat.reduceBEq,Nat.reduceLT,Nat.reduceLeDiff,memAll,vAll,reduceCtorEq,Nat.reduceEqDiff,Nat.reduceAdd,Nat.reduceLT,Nat.reduceLeDiff,Nat.beq]
 have F2:(a.site==p.frm)=true:=by simpa using c2
 by_cases c3:p.done=false
 rotate_left
 ·have F3:p.done=true:=by simpa using c3
  rw [F3] at d1 d2
  have hE:rndE p a n t=12:=by unfold rndE;rw [if_pos c0,if_pos c1,if_pos c2,if_neg c3]
  have hO:rndO p a n t=zPrc:=by unfold rndO;rw [hE,if_neg (by decide)]
  have hC:rndC p a n t=zCye:=by unfold rndC;rw [hE,if_neg (by decide)]
  rw [hE,hO,hC,ePrc_eq,eCye_eq]
  simp only [fn12,slAll,Nat.reduceBEq,Nat.reduceLeDiff,Nat.reduceAdd,List.length_cons,List.length_nil]
  simp only [h1,d1,d2,g1,k1,k2,F2,F3,q1,q2,q3,zPrc,zCye,nilI,nilW,bPt_eq,bPrc_eq,dfnRun_normal,DFn.begun,dfnEnd,varOf,dfnResc,dfnClos,heldOf,boxOf,St.setVar,St.setVars,St.varInt,PV.naught,List.all_cons,List.all_nil,List.head?_cons,List.tail_cons,and_true,true_and,List.nodup_cons,List.mem_cons,List.not_mem_nil,or_false,not_false_eq_true,List.nodup_nil,Option.some.injEq,Nat.reduceEqDiff,Int.reduceEq,if_true,if_false,slAll,slsAll,Nat.reduceMul,Nat.reduceBEq,Nat.reduceLT,Nat.reduceLeDiff,memAll,vAll,reduceCtorEq,Nat.reduceEqDiff,Nat.reduceAdd,Nat.reduceLT,Nat.reduceLeDiff,Nat.beq]
 have F3:p.done=false:=by simpa using c3
 rw [F3] at d1 d2
 by_cases c4:p.step<4096
 rotate_left
 ·have F4:(p.step<4096)=False:=eq_false c4
  have hE:rndE p a n t=11:=by unfold rndE;rw [if_pos c0,if_pos c1,if_pos c2,if_pos c3,if_neg c4]
  have hO:rndO p a n t=zPrc:=by unfold rndO;rw [hE,if_neg (by decide)]
  have hC:rndC p a n t=zCye:=by unfold rndC;rw [hE,if_neg (by decide)]
  rw [hE,hO,hC,ePrc_eq,eCye_eq]
  simp only [fn12,slAll,Nat.reduceBEq,Nat.reduceLeDiff,Nat.reduceAdd,List.length_cons,List.length_nil]
  simp only [h1,d1,d2,g1,k1,k2,F2,F3,F4,q1,q2,q3,zPrc,zCye,nilI,nilW,bPt_eq,bPrc_eq,dfnRun_normal,DFn.begun,dfnEnd,varOf,dfnResc,dfnClos,heldOf,boxOf,St.setVar,St.setVars,St.varInt,PV.naught,List.all_cons,List.all_nil,List.head?_cons,List.tail_cons,and_true,true_and,List.nodup_cons,List.mem_cons,List.not_mem_nil,or_false,not_false_eq_true,List.nodup_nil,Option.some.injEq,Nat.reduceEqDiff,Int.reduceEq,if_true,if_false,slAll,slsAll,Nat.reduceMul,Nat.reduceBEq,Nat.reduceLT,Nat.reduceLeDiff,memAll,vAll,reduceCtorEq,Nat.reduceEqDiff,Nat.reduceAdd,Nat.reduceLT,Nat.reduceLeDiff,Nat.beq]
 have F4:(p.step<4096)=True:=eq_true c4
 by_cases c5:p.cyc<n
 rotate_left
 ·have F5:(n > p.cyc)=False:=eq_false c5
  have hE:rndE p a n t=2:=by unfold rndE;rw [if_pos c0,if_pos c1,if_pos c2,if_pos c3,if_pos c4,if_neg c5]
  have hO:rndO p a n t=zPrc:=by unfold rndO;rw [hE,if_neg (by decide)]
  have hC:rndC p a n t=zCye:=by unfold rndC;rw [hE,if_neg (by decide)]
  rw [hE,hO,hC,ePrc_eq,eCye_eq]
  simp only [fn12,slAll,Nat.reduceBEq,Nat.reduceLeDiff,Nat.reduceAdd,List.length_cons,List.length_nil]
  simp only [h1,d1,d2,g1,k1,k2,F2,F3,F4,F5,q1,q2,q3,zPrc,zCye,nilI,nilW,bPt_eq,bPrc_eq,dfnRun_normal,DFn.begun,dfnEnd,varOf,dfnResc,dfnClos,heldOf,boxOf,St.setVar,St.setVars,St.varInt,PV.naught,List.all_cons,List.all_nil,List.head?_cons,List.tail_cons,and_true,true_and,List.nodup_cons,List.mem_cons,List.not_mem_nil,or_false,not_false_eq_true,List.nodup_nil,Option.some.injEq,Nat.reduceEqDiff,Int.reduceEq,if_true,if_false,slAll,slsAll,Nat.reduceMul,Nat.reduceBEq,Nat.reduceLT,Nat.reduceLeDiff,memAll,vAll,reduceCtorEq,Nat.reduceEqDiff,Nat.reduceAdd,Nat.reduceLT,Nat.reduceLeDiff,Nat.beq]
 have F5:(n > p.cyc)=True:=eq_true c5
 by_cases c6:(headOf a.lin).to≤n
 rotate_left
 ·have F6:(n ≥ (headOf a.lin).to)=False:=eq_false c6
  have hE:rndE p a n t=2:=by unfold rndE;rw [if_pos c0,if_pos c1,if_pos c2,if_pos c3,if_pos c4,if_pos c5,if_neg c6]
  have hO:rndO p a n t=zPrc:=by unfold rndO;rw [hE,if_neg (by decide)]
  have hC:rndC p a n t=zCye:=by unfold rndC;rw [hE,if_neg (by decide)]
  rw [hE,hO,hC,ePrc_eq,eCye_eq]
  simp only [fn12,slAll,Nat.reduceBEq,Nat.reduceLeDiff,Nat.reduceAdd,List.length_cons,List.length_nil]
  simp only [h1,d1,d2,g1,k1,k2,F2,F3,F4,F5,F6,q1,q2,q3,zPrc,zCye,nilI,nilW,bPt_eq,bPrc_eq,dfnRun_normal,DFn.begun,dfnEnd,varOf,dfnResc,dfnClos,heldOf,boxOf,St.setVar,St.setVars,St.varInt,PV.naught,List.all_cons,List.all_nil,List.head?_cons,List.tail_cons,and_true,true_and,List.nodup_cons,List.mem_cons,List.not_mem_nil,or_false,not_false_eq_true,List.nodup_nil,Option.some.injEq,Nat.reduceEqDiff,Int.reduceEq,if_true,if_false,slAll,slsAll,Nat.reduceMul,Nat.reduceBEq,Nat.reduceLT,Nat.reduceLeDiff,memAll,vAll,reduceCtorEq,Nat.reduceEqDiff,Nat.reduceAdd,Nat.reduceLT,Nat.reduceLeDiff,Nat.beq]
 have F6:(n ≥ (headOf a.lin).to)=True:=eq_true c6
 have cy:=cal54 (im:=a.img) (b:=p.cyc) (n:=n) (t:=t) (p:=[]) (w:=mkW a) (wrL_seq hM.1) (chkP_ok c1).2.1 hM.2.1 hM.2.2.1 (Nat.le_trans hM.2.2.2.2 (by decide)) (by decide)
 rw [eCyc_nil] at cy
 have W1:IntKind.i64.wrap (p.step+1)=p.step+1:=i64_fits (by omega)
 by_cases c7:cycE p.cyc n t []=0
 rotate_left
 ·have k3:=okF49 c7
  have Z:(cycE p.cyc n t []=0)=False:=eq_false c7
  have hE:rndE p a n t=cycE p.cyc n t []:=by unfold rndE;rw [if_pos c0,if_pos c1,if_pos c2,if_pos c3,if_pos c4,if_pos c5,if_pos c6,if_neg c7]
  have hO:rndO p a n t=zPrc:=by unfold rndO;rw [hE,if_neg c7]
  have hC:rndC p a n t=zCye:=by unfold rndC;rw [hE,if_neg c7]
  rw [hE,hO,hC,ePrc_eq,eCye_eq]
  simp only [fn12,slAll,Nat.reduceBEq,Nat.reduceLeDiff,Nat.reduceAdd,List.length_cons,List.length_nil]
  simp only [h1,d1,d2,g1,k1,k2,F2,F3,F4,F5,F6,k1,k2,mk,q1,q2,bPt_eq,bPrc_eq,dfnRun_normal,DFn.begun,slAll,slsAll,Nat.reduceMul,Nat.reduceBEq,Nat.reduceLT,Nat.reduceLeDiff,memAll,vAll,reduceCtorEq,Nat.reduceEqDiff,Nat.reduceAdd,Nat.reduceLT,Nat.reduceLeDiff,Nat.beq]
  rw [loop12 (a:=a) (n:=n) (Nat.le_trans hl9 (by decide)) (by simp only [List.take_zero,List.map_nil];simp only [slAll,slsAll,Nat.reduceMul,Nat.reduceBEq,Nat.reduceLT,Nat.reduceLeDiff,Nat.reduceAdd,decide_true,Bool.and_self,Bool.true_and]<;>rfl)]
  simp only [h1,d1,d2,g1,k1,k2,F2,F3,F4,F5,F6,cy,k1,k2,k3,Z,mk,W1,q1,q2,q3,zPrc,zCye,nilI,nilW,bPt_eq,bPrc_eq,dfnRun_normal,DFn.begun,dfnEnd,varOf,dfnResc,dfnClos,heldOf,boxOf,St.setVar,St.setVars,St.varInt,PV.naught,List.all_cons,List.all_nil,List.head?_cons,List.tail_cons,and_true,true_and,List.nodup_cons,List.mem_cons,List.not_mem_nil,or_false,not_false_eq_true,List.nodup_nil,Option.some.injEq,Nat.reduceEqDiff,Int.reduceEq,if_true,if_false,slAll,slsAll,Nat.reduceMul,Nat.reduceBEq,Nat.reduceLT,Nat.reduceLeDiff,memAll,vAll,reduceCtorEq,Nat.reduceEqDiff,Nat.reduceAdd,Nat.reduceLT,Nat.reduceLeDiff,Nat.beq]
 rw [c7] at cy
 have hE:rndE p a n t=0:=by unfold rndE;rw [if_pos c0,if_pos c1,if_pos c2,if_pos c3,if_pos c4,if_pos c5,if_pos c6,if_pos c7]
 have hO:rndO p a n t={ p with step:=p.step+1,cyc:=n }:=by unfold rndO;rw [hE,if_pos rfl]
 have hC:rndC p a n t=⟨p.cyc,n,t,[],mkW a⟩:=by unfold rndC;rw [hE,if_pos rfl]
 rw [hE,hO,hC,ePrc_eq,eCye_eq]
 simp only [fn12,slAll,Nat.reduceBEq,Nat.reduceLeDiff,Nat.reduceAdd,List.length_cons,List.length_nil]
 simp only [h1,d1,d2,g1,k1,k2,F2,F3,F4,F5,F6,mk,q1,q2,bPt_eq,bPrc_eq,dfnRun_normal,DFn.begun,slAll,slsAll,Nat.reduceMul,Nat.reduceBEq,Nat.reduceLT,Nat.reduceLeDiff,memAll,vAll,reduceCtorEq,Nat.reduceEqDiff,Nat.reduceAdd,Nat.reduceLT,Nat.reduceLeDiff,Nat.beq]
 rw [loop12 (a:=a) (n:=n) (Nat.le_trans hl9 (by decide)) (by simp only [List.take_zero,List.map_nil];simp only [slAll,slsAll,Nat.reduceMul,Nat.reduceBEq,Nat.reduceLT,Nat.reduceLeDiff,Nat.reduceAdd,decide_true,Bool.and_self,Bool.true_and]<;>rfl)]
 simp only [h1,d1,d2,g1,k1,k2,F2,F3,F4,F5,F6,cy,mk,W1,q1,q2,q3,zPrc,zCye,nilI,nilW,bPt_eq,bPrc_eq,dfnRun_normal,DFn.begun,dfnEnd,varOf,dfnResc,dfnClos,heldOf,boxOf,St.setVar,St.setVars,St.varInt,PV.naught,List.all_cons,List.all_nil,List.head?_cons,List.tail_cons,and_true,true_and,List.nodup_cons,List.mem_cons,List.not_mem_nil,or_false,not_false_eq_true,List.nodup_nil,Option.some.injEq,Nat.reduceEqDiff,Int.reduceEq,if_true,if_false,slAll,slsAll,Nat.reduceMul,Nat.reduceBEq,Nat.reduceLT,Nat.reduceLeDiff,memAll,vAll,reduceCtorEq,Nat.reduceEqDiff,Nat.reduceAdd,Nat.reduceLT,Nat.reduceLeDiff,Nat.beq]
theorem loop13 {a:Pt} {c0:List BV} {b n t:Int} {l:List (List Exn)} {v:Nat} (h0:okM a.img l) (hv:v<l.length) {st:St} (h:st.head [2,4,5,8,9,15,16,17,18,85] st.boxes.length=some ⟨sl 147 [(2,.pv (.int .i64 n)),(4,.pbox 0 0),(5,.pbox 1 0),(8,.pbox 2 0),(9,.pbox 3 0),(15,.pbox 4 0),(16,.pv (.int .i64 v)),(17,.row 2 (l[v].map eExt)),(18,.pv (.int .i64 (0:Nat))),(85,.any)],[⟨false,c0⟩,⟨false,bPt a⟩,⟨false,bPrc zPrc⟩,⟨false,bCyz⟩,⟨false,bCy b n t ((wrN a.img l v++wrV a.img v (l[v].take ((0:Nat)))).map eWr)⟩],[],none⟩) :
  den env fn13_l1 st=some (.normal,⟨sl 147 [(2,.pv (.int .i64 n)),(4,.pbox 0 0),(5,.pbox 1 0),(8,.pbox 2 0),(9,.pbox 3 0),(10,.any),(15,.pbox 4 0),(16,.pv (.int .i64 v))],[⟨false,c0⟩,⟨false,bPt a⟩,⟨false,bPrc zPrc⟩,⟨false,bCyz⟩,⟨false,bCy b n t ((wrN a.img l (v+1)).map eWr)⟩],[],none⟩):=by
 unfold fn13_l1
 refine clean_up (env:=env) (nb:=5) (l[v].length) (fun i=>⟨sl 147 [(2,.pv (.int .i64 n)),(4,.pbox 0 0),(5,.pbox 1 0),(8,.pbox 2 0),(9,.pbox 3 0),(15,.pbox 4 0),(16,.pv (.int .i64 v)),(17,.row 2 (l[v].map eExt)),(18,.pv (.int .i64 i)),(85,.any)],[⟨false,c0⟩,⟨false,bPt a⟩,⟨false,bPrc zPrc⟩,⟨false,bCyz⟩,⟨false,bCy b n t ((wrN a.img l v++wrV a.img v (l[v].take (i))).map eWr)⟩],[],none⟩) (fun i=>some (.normal,⟨sl 147 [(2,.pv (.int .i64 n)),(4,.pbox 0 0),(5,.pbox 1 0),(8,.pbox 2 0),(9,.pbox 3 0),(10,.any),(15,.pbox 4 0),(16,.pv (.int .i64 v))],[⟨false,c0⟩,⟨false,bPt a⟩,⟨false,bPrc zPrc⟩,⟨false,bCyz⟩,⟨false,bCy b n t ((wrN a.img l (v+1)).map eWr)⟩],[],none⟩)) h (fun _=>rfl) (fun _=>by simp only [slAll,slsAll,Nat.reduceMul,Nat.reduceBEq,Nat.reduceLT,Nat.reduceLeDiff,Nat.reduceAdd,decide_true,Bool.and_self,Bool.true_and]) ?_ ?_
 ·intro i rb hi ih
  have hi1:=i64_next hi (Nat.le_trans (h0.2.2.2.1 _ (List.getElem_mem hv)) (by decide))
  have F1:((i:Int)<(l[v].length:Int))=True:=eq_true (by omega)
  obtain ⟨hvi,b1,b2,W,e6,f3,f2,e5⟩:=mk_one h0 hv hi
  have hx:=eExt_at9 hi
  have hy:=eImg_at hvi
  have P2:∀ a b:PV,part [a,b] 0 (some 2)=some (.agg [a,b]):=fun _ _=>rfl
  have B1:=eq_true b1
  have B2:=eq_true b2
  have F2:=eq_true f2
  have F3:=eq_true f3
  simp only [fn13_b0,F1,F2,F3,hx,hy,P2,W,B1,B2,e6,bPt_eq,bCy_eq,index_nat hvi,index_nat hi,List.length_map,slAll,slsAll,Nat.reduceMul,Nat.reduceBEq,Nat.reduceLT,Nat.reduceLeDiff,memAll,vAll,reduceCtorEq,Nat.reduceEqDiff,Nat.reduceAdd,Nat.reduceLT,Nat.reduceLeDiff,Nat.beq]
  rw [ih _ (by simp only [hi1];rw [e5];simp only [bPt_eq,bCy_eq,slAll,slsAll,Nat.reduceMul,Nat.reduceBEq,Nat.reduceLT,Nat.reduceLeDiff,memAll,vAll,reduceCtorEq,Nat.reduceEqDiff,Nat.reduceAdd,Nat.reduceLT,Nat.reduceLeDiff,Nat.beq]<;>rfl)]
  all_goals rfl
 ·intro rb
  have e9:wrN a.img l v++wrV a.img v l[v]=wrN a.img l (v+1):=by rw [wrN_succ,show l.getD v []=l[v] by simp [hv]]
  rw [List.take_length,e9]
  simp only [fn13_b0,Int.lt_irrefl,bPt_eq,bCy_eq,List.length_map,slAll,slsAll,Nat.reduceMul,Nat.reduceBEq,Nat.reduceLT,Nat.reduceLeDiff,memAll,vAll,reduceCtorEq,Nat.reduceEqDiff,Nat.reduceAdd,Nat.reduceLT,Nat.reduceLeDiff,Nat.beq]
theorem loop13l3 {a:Pt} {c0:List BV} {b n t:Int} (h0:okM a.img (mkX a)) (hd:a.dirty.length≤lim) (he:a.dirty.length=a.img.length) {st:St} (h:st.head [2,4,5,8,9,15,16] st.boxes.length=some ⟨sl 147 [(2,.pv (.int .i64 n)),(4,.pbox 0 0),(5,.pbox 1 0),(8,.pbox 2 0),(9,.pbox 3 0),(15,.pbox 4 0),(16,.pv (.int .i64 (0:Nat)))],[⟨false,c0⟩,⟨false,bPt a⟩,⟨false,bPrc zPrc⟩,⟨false,bCyz⟩,⟨false,bCy b n t ((wrN a.img (mkX a) ((0:Nat))).map eWr)⟩],[],none⟩) :
  den env fn13_l3 st=some (.normal,⟨sl 147 [(2,.pv (.int .i64 n)),(4,.pbox 0 0),(5,.pbox 1 0),(8,.pbox 2 0),(9,.pbox 3 0),(10,.any),(15,.pbox 4 0)],[⟨false,c0⟩,⟨false,bPt a⟩,⟨false,bPrc zPrc⟩,⟨false,bCyz⟩,⟨false,bCy b n t ((mkW a).map eWr)⟩],[],none⟩):=by
 unfold fn13_l3
 refine clean_up (env:=env) (nb:=5) (a.dirty.length) (fun i=>⟨sl 147 [(2,.pv (.int .i64 n)),(4,.pbox 0 0),(5,.pbox 1 0),(8,.pbox 2 0),(9,.pbox 3 0),(15,.pbox 4 0),(16,.pv (.int .i64 i))],[⟨false,c0⟩,⟨false,bPt a⟩,⟨false,bPrc zPrc⟩,⟨false,bCyz⟩,⟨false,bCy b n t ((wrN a.img (mkX a) (i)).map eWr)⟩],[],none⟩) (fun i=>some (.normal,⟨sl 147 [(2,.pv (.int .i64 n)),(4,.pbox 0 0),(5,.pbox 1 0),(8,.pbox 2 0),(9,.pbox 3 0),(10,.any),(15,.pbox 4 0)],[⟨false,c0⟩,⟨false,bPt a⟩,⟨false,bPrc zPrc⟩,⟨false,bCyz⟩,⟨false,bCy b n t ((mkW a).map eWr)⟩],[],none⟩)) h (fun _=>rfl) (fun _=>by simp only [slAll,slsAll,Nat.reduceMul,Nat.reduceBEq,Nat.reduceLT,Nat.reduceLeDiff,Nat.reduceAdd,decide_true,Bool.and_self,Bool.true_and]) ?_ ?_
 ·intro i rb hi ih
  have hi1:=i64_next hi hd
  have F1:((i:Int)<(a.img.length:Int))=True:=eq_true (by omega)
  have hx:=eBm_at9 hi
  have P2:∀ a b:PV,part [a,b] 0 (some 2)=some (.agg [a,b]):=fun _ _=>rfl
  have e1:cal env 57 [.agg [.int .i64 a.dirty[i].size,.list 1 (a.dirty[i].ws.map eW)]]=_:=cal57 (b:=a.dirty[i])
  have hm:i<(mkX a).length:=by rw [mkX_len];exact hi
  rw [← mkX_at hi] at e1
  simp only [fn13_b2,F1,hx,P2,e1,bPt_eq,bCy_eq,index_nat hi,List.length_map,slAll,slsAll,Nat.reduceMul,Nat.reduceBEq,Nat.reduceLT,Nat.reduceLeDiff,memAll,vAll,reduceCtorEq,Nat.reduceEqDiff,Nat.reduceAdd,Nat.reduceLT,Nat.reduceLeDiff,Nat.beq]
  rw [loop13 (a:=a) (c0:=c0) (b:=b) (n:=n) (t:=t) (l:=mkX a) (v:=i) h0 hm (by simp only [List.take_zero,show wrV a.img i []=[] from rfl,List.append_nil,bPt_eq,bCy_eq];simp only [slAll,slsAll,Nat.reduceMul,Nat.reduceBEq,Nat.reduceLT,Nat.reduceLeDiff,Nat.reduceAdd,decide_true,Bool.and_self,Bool.true_and]<;>rfl)]
  simp only [bPt_eq,bCy_eq,slAll,slsAll,Nat.reduceMul,Nat.reduceBEq,Nat.reduceLT,Nat.reduceLeDiff,memAll,vAll,reduceCtorEq,Nat.reduceEqDiff,Nat.reduceAdd,Nat.reduceLT,Nat.reduceLeDiff,Nat.beq]
  rw [ih _ (by simp only [hi1,bPt_eq,bCy_eq,slAll,slsAll,Nat.reduceMul,Nat.reduceBEq,Nat.reduceLT,Nat.reduceLeDiff,memAll,vAll,reduceCtorEq,Nat.reduceEqDiff,Nat.reduceAdd,Nat.reduceLT,Nat.reduceLeDiff,Nat.beq]<;>rfl)]
  all_goals rfl
 ·intro rb
  rw [he]
  have em:mkW a=wrN a.img (mkX a) a.img.length:=by unfold mkW wrL;rw [mkX_len,he]
  rw [em]
  simp only [fn13_b2,Int.lt_irrefl,bPt_eq,bCy_eq,List.length_map,slAll,slsAll,Nat.reduceMul,Nat.reduceBEq,Nat.reduceLT,Nat.reduceLeDiff,memAll,vAll,reduceCtorEq,Nat.reduceEqDiff,Nat.reduceAdd,Nat.reduceLT,Nat.reduceLeDiff,Nat.beq]
theorem cal13 {p:Prc} {a:Pt} {n t:Int} (ha:fitP a) (hl9:a.img.length≤9) (hv24:∀ v∈a.img,v.length≤24):cal env 13 [ePrc p,ePt a,.int .i64 n,.int .i64 t]=some [(ePrc (rndO p a n t),false),(eCye (rndC p a n t),false),(.int .i64 (rndE p a n t),false)]:=by
 have d1:=cal29 (p:=p)
 rw [ePrc_eq] at d1
 have g1:=cal55 (p:=a) ha
 rw [ePt_eq] at g1
 have h1:=cal56 (l:=a.lin) ha.1
 have Z0:((0:Int) != 0)=false:=rfl
 rw [ePrc_eq,ePt_eq]
 by_cases c0:fmE p=0
 rotate_left
 ·have Z:(fmE p != 0)=true:=by simp [c0]
  have hE:rndE p a n t=fmE p:=by unfold rndE;rw [if_neg c0]
  have hO:rndO p a n t=zPrc:=by unfold rndO;rw [hE,if_neg c0]
  have hC:rndC p a n t=zCye:=by unfold rndC;rw [hE,if_neg c0]
  rw [hE,hO,hC,ePrc_eq,eCye_eq]
  rw [cal_code env13 rfl];simp only [fn13,slAll,Nat.reduceBEq,Nat.reduceLeDiff,Nat.reduceAdd,List.length_cons,List.length_nil]
  simp only [h1,d1,Z,zPrc,zCye,nilI,nilW,bPt_eq,bPrc_eq,slAll,slsAll,Nat.reduceMul,Nat.reduceBEq,Nat.reduceLT,Nat.reduceLeDiff,memAll,vAll,reduceCtorEq,Nat.reduceEqDiff,Nat.reduceAdd,Nat.reduceLT,Nat.reduceLeDiff,Nat.beq]
 rw [c0] at d1
 by_cases c1:chkP a=0
 rotate_left
 ·have Z:(chkP a != 0)=true:=by simp [c1]
  have hE:rndE p a n t=chkP a:=by unfold rndE;rw [if_pos c0,if_neg c1]
  have hO:rndO p a n t=zPrc:=by unfold rndO;rw [hE,if_neg c1]
  have hC:rndC p a n t=zCye:=by unfold rndC;rw [hE,if_neg c1]
  rw [hE,hO,hC,ePrc_eq,eCye_eq]
  rw [cal_code env13 rfl];simp only [fn13,slAll,Nat.reduceBEq,Nat.reduceLeDiff,Nat.reduceAdd,List.length_cons,List.length_nil]
  simp only [h1,d1,Z0,g1,Z,zPrc,zCye,nilI,nilW,bPt_eq,bPrc_eq,slAll,slsAll,Nat.reduceMul,Nat.reduceBEq,Nat.reduceLT,Nat.reduceLeDiff,memAll,vAll,reduceCtorEq,Nat.reduceEqDiff,Nat.reduceAdd,Nat.reduceLT,Nat.reduceLeDiff,Nat.beq]
 rw [c1] at g1
 have hM:=mk_ok c1 hl9 hv24
 have hs1:=fmE_step c0
 have hs2:=fmE_step2 c0
 by_cases c2:a.site=p.frm
 rotate_left
 ·have F2:(a.site != p.frm)=true:=by simpa using c2
  have hE:rndE p a n t=1:=by unfold rndE;rw [if_pos c0,if_pos c1,if_neg c2]
  have hO:rndO p a n t=zPrc:=by unfold rndO;rw [hE,if_neg (by decide)]
  have hC:rndC p a n t=zCye:=by unfold rndC;rw [hE,if_neg (by decide)]
  rw [hE,hO,hC,ePrc_eq,eCye_eq]
  rw [cal_code env13 rfl];simp only [fn13,slAll,Nat.reduceBEq,Nat.reduceLeDiff,Nat.reduceAdd,List.length_cons,List.length_nil]
  simp only [h1,d1,Z0,g1,F2,zPrc,zCye,nilI,nilW,bPt_eq,bPrc_eq,slAll,slsAll,Nat.reduceMul,Nat.reduceBEq,Nat.reduceLT,Nat.reduceLeDiff,memAll,vAll,reduceCtorEq,Nat.reduceEqDiff,Nat.reduceAdd,Nat.reduceLT,Nat.reduceLeDiff,Nat.beq]
 have F2:(a.site != p.frm)=false:=by simpa using c2
 by_cases c3:p.done=false
 rotate_left
 ·have F3:p.done=true:=by simpa using c3
  rw [F3] at d1
  have hE:rndE p a n t=12:=by unfold rndE;rw [if_pos c0,if_pos c1,if_pos c2,if_neg c3]
  have hO:rndO p a n t=zPrc:=by unfold rndO;rw [hE,if_neg (by decide)]
  have hC:rndC p a n t=zCye:=by unfold rndC;rw [hE,if_neg (by decide)]
  rw [hE,hO,hC,ePrc_eq,eCye_eq]
  rw [cal_code env13 rfl];simp only [fn13,slAll,Nat.reduceBEq,Nat.reduceLeDiff,Nat.reduceAdd,List.length_cons,List.length_nil]
  simp only [h1,d1,Z0,g1,F2,F3,zPrc,zCye,nilI,nilW,bPt_eq,bPrc_eq,slAll,slsAll,Nat.reduceMul,Nat.reduceBEq,Nat.reduceLT,Nat.reduceLeDiff,memAll,vAll,reduceCtorEq,Nat.reduceEqDiff,Nat.reduceAdd,Nat.reduceLT,Nat.reduceLeDiff,Nat.beq]
 have F3:p.done=false:=by simpa using c3
 rw [F3] at d1
 by_cases c4:p.step<4096
 rotate_left
 ·have F4:(p.step==4096)=true:=by simp;omega
  have hE:rndE p a n t=11:=by unfold rndE;rw [if_pos c0,if_pos c1,if_pos c2,if_pos c3,if_neg c4]
  have hO:rndO p a n t=zPrc:=by unfold rndO;rw [hE,if_neg (by decide)]
  have hC:rndC p a n t=zCye:=by unfold rndC;rw [hE,if_neg (by decide)]
  rw [hE,hO,hC,ePrc_eq,eCye_eq]
  rw [cal_code env13 rfl];simp only [fn13,slAll,Nat.reduceBEq,Nat.reduceLeDiff,Nat.reduceAdd,List.length_cons,List.length_nil]
  simp only [h1,d1,Z0,g1,F2,F3,F4,zPrc,zCye,nilI,nilW,bPt_eq,bPrc_eq,slAll,slsAll,Nat.reduceMul,Nat.reduceBEq,Nat.reduceLT,Nat.reduceLeDiff,memAll,vAll,reduceCtorEq,Nat.reduceEqDiff,Nat.reduceAdd,Nat.reduceLT,Nat.reduceLeDiff,Nat.beq]
 have F4:(p.step==4096)=false:=by simp;omega
 by_cases c5:p.cyc<n
 rotate_left
 ·have F5:(n≤p.cyc)=True:=eq_true (by omega)
  have hE:rndE p a n t=2:=by unfold rndE;rw [if_pos c0,if_pos c1,if_pos c2,if_pos c3,if_pos c4,if_neg c5]
  have hO:rndO p a n t=zPrc:=by unfold rndO;rw [hE,if_neg (by decide)]
  have hC:rndC p a n t=zCye:=by unfold rndC;rw [hE,if_neg (by decide)]
  rw [hE,hO,hC,ePrc_eq,eCye_eq]
  rw [cal_code env13 rfl];simp only [fn13,slAll,Nat.reduceBEq,Nat.reduceLeDiff,Nat.reduceAdd,List.length_cons,List.length_nil]
  simp only [h1,d1,Z0,g1,F2,F3,F4,F5,zPrc,zCye,nilI,nilW,bPt_eq,bPrc_eq,slAll,slsAll,Nat.reduceMul,Nat.reduceBEq,Nat.reduceLT,Nat.reduceLeDiff,memAll,vAll,reduceCtorEq,Nat.reduceEqDiff,Nat.reduceAdd,Nat.reduceLT,Nat.reduceLeDiff,Nat.beq]
 have F5:(n≤p.cyc)=False:=eq_false (by omega)
 by_cases c6:(headOf a.lin).to≤n
 rotate_left
 ·have F6:(n<(headOf a.lin).to)=True:=eq_true (by omega)
  have hE:rndE p a n t=2:=by unfold rndE;rw [if_pos c0,if_pos c1,if_pos c2,if_pos c3,if_pos c4,if_pos c5,if_neg c6]
  have hO:rndO p a n t=zPrc:=by unfold rndO;rw [hE,if_neg (by decide)]
  have hC:rndC p a n t=zCye:=by unfold rndC;rw [hE,if_neg (by decide)]
  rw [hE,hO,hC,ePrc_eq,eCye_eq]
  rw [cal_code env13 rfl];simp only [fn13,slAll,Nat.reduceBEq,Nat.reduceLeDiff,Nat.reduceAdd,List.length_cons,List.length_nil]
  simp only [h1,d1,Z0,g1,F2,F3,F4,F5,F6,zPrc,zCye,nilI,nilW,bPt_eq,bPrc_eq,slAll,slsAll,Nat.reduceMul,Nat.reduceBEq,Nat.reduceLT,Nat.reduceLeDiff,memAll,vAll,reduceCtorEq,Nat.reduceEqDiff,Nat.reduceAdd,Nat.reduceLT,Nat.reduceLeDiff,Nat.beq]
 have F6:(n<(headOf a.lin).to)=False:=eq_false (by omega)
 have cy:=cal58 (im:=a.img) (b:=p.cyc) (n:=n) (t:=t) (p:=[]) (w:=mkW a) (wrL_seq hM.1) (chkP_ok c1).2.1 hM.2.1 hM.2.2.1 (Nat.le_trans hM.2.2.2.2 (by decide)) (by decide)
 rw [eCyc_nil] at cy
 have W1:IntKind.i64.wrap (p.step+1)=p.step+1:=i64_fits (by omega)
 have sz:=cal59 (im:=a.img) hM.2.1
 by_cases c7:cycE p.cyc n t []=0
 rotate_left
 ·have Z:(cycE p.cyc n t [] != 0)=true:=by simp [c7]
  have hE:rndE p a n t=cycE p.cyc n t []:=by unfold rndE;rw [if_pos c0,if_pos c1,if_pos c2,if_pos c3,if_pos c4,if_pos c5,if_pos c6,if_neg c7]
  have hO:rndO p a n t=zPrc:=by unfold rndO;rw [hE,if_neg c7]
  have hC:rndC p a n t=zCye:=by unfold rndC;rw [hE,if_neg c7]
  rw [hE,hO,hC,ePrc_eq,eCye_eq]
  rw [cal_code env13 rfl];simp only [fn13,slAll,Nat.reduceBEq,Nat.reduceLeDiff,Nat.reduceAdd,List.length_cons,List.length_nil]
  simp only [h1,d1,Z0,g1,F2,F3,F4,F5,F6,sz,sBV,bPt_eq,bPrc_eq,slAll,slsAll,Nat.reduceMul,Nat.reduceBEq,Nat.reduceLT,Nat.reduceLeDiff,memAll,vAll,reduceCtorEq,Nat.reduceEqDiff,Nat.reduceAdd,Nat.reduceLT,Nat.reduceLeDiff,Nat.beq]
  rw [loop13l3 (a:=a) (n:=n) (t:=t) (b:=p.cyc) (c0:=bPrc p) hM ha.2.1 (chkP_ok c1).2.2.1 (by simp only [show wrN a.img (mkX a) 0=[] from rfl,List.map_nil,F3,sBV,bPt_eq,bPrc_eq,bCy_eq,bCyz_eq,zPrc];simp only [slAll,slsAll,Nat.reduceMul,Nat.reduceBEq,Nat.reduceLT,Nat.reduceLeDiff,Nat.reduceAdd,decide_true,Bool.and_self,Bool.true_and]<;>rfl)]
  simp only [h1,d1,Z0,g1,F2,F3,F4,F5,F6,sz,cy,Z,W1,zPrc,zCye,nilI,nilW,bPt_eq,bPrc_eq,bCy_eq,bCyz_eq,slAll,slsAll,Nat.reduceMul,Nat.reduceBEq,Nat.reduceLT,Nat.reduceLeDiff,memAll,vAll,reduceCtorEq,Nat.reduceEqDiff,Nat.reduceAdd,Nat.reduceLT,Nat.reduceLeDiff,Nat.beq]
 rw [c7] at cy
 have hE:rndE p a n t=0:=by unfold rndE;rw [if_pos c0,if_pos c1,if_pos c2,if_pos c3,if_pos c4,if_pos c5,if_pos c6,if_pos c7]
 have hO:rndO p a n t={ p with step:=p.step+1,cyc:=n }:=by unfold rndO;rw [hE,if_pos rfl]
 have hC:rndC p a n t=⟨p.cyc,n,t,[],mkW a⟩:=by unfold rndC;rw [hE,if_pos rfl]
 rw [hE,hO,hC,ePrc_eq,eCye_eq]
 rw [cal_code env13 rfl];simp only [fn13,slAll,Nat.reduceBEq,Nat.reduceLeDiff,Nat.reduceAdd,List.length_cons,List.length_nil]
 simp only [h1,d1,Z0,g1,F2,F3,F4,F5,F6,sz,sBV,bPt_eq,bPrc_eq,slAll,slsAll,Nat.reduceMul,Nat.reduceBEq,Nat.reduceLT,Nat.reduceLeDiff,memAll,vAll,reduceCtorEq,Nat.reduceEqDiff,Nat.reduceAdd,Nat.reduceLT,Nat.reduceLeDiff,Nat.beq]
 rw [loop13l3 (a:=a) (n:=n) (t:=t) (b:=p.cyc) (c0:=bPrc p) hM ha.2.1 (chkP_ok c1).2.2.1 (by simp only [show wrN a.img (mkX a) 0=[] from rfl,List.map_nil,F3,sBV,bPt_eq,bPrc_eq,bCy_eq,bCyz_eq,zPrc];simp only [slAll,slsAll,Nat.reduceMul,Nat.reduceBEq,Nat.reduceLT,Nat.reduceLeDiff,Nat.reduceAdd,decide_true,Bool.and_self,Bool.true_and]<;>rfl)]
 simp only [h1,d1,Z0,g1,F2,F3,F4,F5,F6,sz,cy,W1,zPrc,zCye,nilI,nilW,bPt_eq,bPrc_eq,bCy_eq,bCyz_eq,slAll,slsAll,Nat.reduceMul,Nat.reduceBEq,Nat.reduceLT,Nat.reduceLeDiff,memAll,vAll,reduceCtorEq,Nat.reduceEqDiff,Nat.reduceAdd,Nat.reduceLT,Nat.reduceLeDiff,Nat.beq]
end Go.Proofs.YtioijcfcehhmdaaGreatDoor.V

namespace Go.Proofs.YtioijcfcehhmdaaGreatDoor.V
theorem loop60 {l:List Int} {sz:Nat} (hz:l=[]∨sz=1) (hl:l.length≤lim) {st:St} (h:st.head [0,1,5] st.boxes.length=some ⟨[.pv (.list sz (l.map eI)),.pv (.list sz (l.map eI)),.any,.any,.any,.pv (.int .i64 (0:Nat)),.any,.any,.any,.any,.any,.any,.any,.any,.any,.any,.any,.any,.any,.any,.any,.any,.any,.any,.any,.any],[],[],none⟩) :
  den env fn60_l1 st=some (.normal,⟨[.any,.any,.any,.any,.any,.any,.any,.any,.any,.any,.any,.any,.any,.any,.any,.any,.any,.any,.any,.any,.any,.any,.any,.any,.any,.any],[],[],none⟩):=by
 unfold fn60_l1
 refine clean_up (env:=env) (l.length) (fun i=>⟨[.pv (.list sz (l.map eI)),.pv (.list sz (l.map eI)),.any,.any,.any,.pv (.int .i64 i),.any,.any,.any,.any,.any,.any,.any,.any,.any,.any,.any,.any,.any,.any,.any,.any,.any,.any,.any,.any],[],[],none⟩) (fun i=>some (.normal,⟨[.any,.any,.any,.any,.any,.any,.any,.any,.any,.any,.any,.any,.any,.any,.any,.any,.any,.any,.any,.any,.any,.any,.any,.any,.any,.any],[],[],none⟩)) h (fun _=>rfl) (fun _=>rfl) ?_ ?_
 ·intro i rb hi ih
  have hi1:=i64_next hi hl
  have hsz:sz=1:=by
   rcases hz with e|e
   ·exfalso;rw [e] at hi;exact Nat.not_lt_zero _ hi
   ·exact e
  subst hsz
  have F1:((i:Int)<(l.length:Int))=True:=eq_true (by omega)
  have F2:∀ n:Int,(n != n)=false:=fun n=>by simp
  simp only [fn60_b0,F1,F2,eI,index_nat hi,List.getElem?_map,List.getElem?_eq_getElem hi,memAll,vAll,reduceCtorEq,Nat.reduceEqDiff,Nat.reduceAdd,Nat.reduceLT,Nat.reduceLeDiff,Nat.beq]
  rw [ih _ (by simp only [hi1];rfl)]
 ·intro rb
  simp only [fn60_b0,Int.lt_irrefl, memAll,vAll,reduceCtorEq,Nat.reduceEqDiff,Nat.reduceAdd,Nat.reduceLT,Nat.reduceLeDiff,Nat.beq]
  rfl
theorem cal60 {l:List Int} {sz:Nat} (hz:l=[]∨sz=1) (hl:l.length≤lim):cal env 60 [.list sz (l.map eI),.list sz (l.map eI)]=some [(.bool true,false)]:=by
 have G:(((l.length:Int)) != (l.length:Int))=false:=by simp
 rw [cal_code env60 rfl];simp only [fn60];simp only [start,z_map_cons,z_map_nil,z_len_cons,z_len_nil,z_repl_zero,z_repl_succ,z_cons_app,z_nil_app,Nat.reduceAdd,Nat.reduceSub]
 simp only [G,List.length_map,memAll,vAll,reduceCtorEq,Nat.reduceEqDiff,Nat.reduceAdd,Nat.reduceLT,Nat.reduceLeDiff,Nat.beq]
 rw [loop60 hz hl]
 rotate_left
 ·rfl
 ·simp only [memAll,vAll,reduceCtorEq,Nat.reduceEqDiff,Nat.reduceAdd,Nat.reduceLT,Nat.reduceLeDiff,Nat.beq]
theorem cal14 {b n t:Int} {p:List Int} {w:List Wrt} (hp:p.length≤lim) (hl:w.length≤lim) (hd:∀ x∈w,x.data.length≤lim):cal env 14 [eCyc b n t p w,eCyc b n t p w]=some [(.bool true,false)]:=by
 have e1:=cal60 (sz:=1) (.inr rfl) hp
 have e2:=cal61 hl hd
 have F2:∀ n:Int,(n==n)=true:=fun n=>by simp
 unfold eCyc
 rw [cal_code env14 rfl];simp only [fn14];simp only [start,z_map_cons,z_map_nil,z_len_cons,z_len_nil,z_repl_zero,z_repl_succ,z_cons_app,z_nil_app,Nat.reduceAdd,Nat.reduceSub]
 simp only [e1,e2,F2,memAll,vAll,reduceCtorEq,Nat.reduceEqDiff,Nat.reduceAdd,Nat.reduceLT,Nat.reduceLeDiff,Nat.beq]
end Go.Proofs.YtioijcfcehhmdaaGreatDoor.V

namespace Go.Proofs.YtioijcfcehhmdaaGreatDoor.V
theorem rndC_ok {p:Prc} {a:Pt} {n t:Int} (hl9:a.img.length≤9) (hv24:∀ v∈a.img,v.length≤24):(rndC p a n t).pos=[]∧(rndC p a n t).ws.length≤216∧∀ w∈(rndC p a n t).ws,w.data.length≤24:=by
 unfold rndC
 split
 ·rename_i h
  have hc:chkP a=0:=by
   refine Decidable.byContradiction fun c=>?_
   unfold rndE at h
   by_cases c0:fmE p=0
   ·rw [if_pos c0,if_neg c] at h;exact c h
   ·rw [if_neg c0] at h;exact c0 h
  exact ⟨rfl,mkW_le hc hl9 hv24,fun w hw=>wrL_data hv24 w hw⟩
 ·exact ⟨rfl,Nat.zero_le _,fun w hw=>by cases hw⟩
set_option maxRecDepth 20000 in
theorem cal3 {p:Prc} {a:Pt} {n t:Int}:cal env 3 [ePrc p,ePt a,.agg [.int .i64 n,.int .i64 t]]=some [(.bool true,false)]:=by
 have aw:=calAwake
 have hlim:lim=1073741824:=rfl
 have w1:=cal10 (p:=a)
 rw [ePt_eq] at w1
 cases hA:few48 a with
 |false =>
  rw [hA] at w1
  rw [ePrc_eq,ePt_eq]
  rw [cal_code env3 rfl];simp only [fn3,slAll,Nat.reduceBEq,Nat.reduceLeDiff,Nat.reduceAdd,List.length_cons,List.length_nil]
  simp only [aw,w1,slAll,slsAll,Nat.reduceMul,Nat.reduceBEq,Nat.reduceLT,Nat.reduceLeDiff,memAll,vAll,reduceCtorEq,Nat.reduceEqDiff,Nat.reduceAdd,Nat.reduceLT,Nat.reduceLeDiff,Nat.beq]
 |true =>
  rw [hA] at w1
  obtain ⟨fa,_,_,a1,a2,_⟩:=few48_of hA
  have e1:=cal12 (p:=p) (n:=n) (t:=t) fa a1 a2
  have e2:=cal13 (p:=p) (n:=n) (t:=t) fa a1 a2
  have N:∀ n:Int,(n==n)=true:=fun n=>by simp
  obtain ⟨k1,k2,k3⟩:=rndC_ok (p:=p) (n:=n) (t:=t) a1 a2
  generalize rndC p a n t=c at *
  obtain ⟨cb,cn,ct,cp,cw⟩:=c
  have k1:cp=[]:=k1
  subst k1
  have e5:=cal14 (b:=cb) (n:=cn) (t:=ct) (p:=[]) (w:=cw) (by decide) (Nat.le_trans k2 (by decide)) (fun w hw=>Nat.le_trans (k3 w hw) (by decide))
  rw [ePt_eq,ePrc_eq p,eCye_eq] at e1 e2
  rw [eCyc_nil] at e5
  generalize rndO p a n t=o at *
  rw [ePrc_eq o] at e1 e2
  have M:=prcMix o
  have MP:=prcPart o
  have MP2:=prcPart p
  generalize rndE p a n t=r at *
  have P5:∀ a b c d e:PV,part [a,b,c,d,e] 0 (some 5)=some (.agg [a,b,c,d,e]):=fun _ _ _ _ _=>rfl
  have I0:index (.int .i64 0) 2=some 0:=rfl
  have I1:index (.int .i64 1) 2=some 1:=rfl
  rw [ePrc_eq,ePt_eq]
  rw [cal_code env3 rfl];simp only [fn3,slAll,Nat.reduceBEq,Nat.reduceLeDiff,Nat.reduceAdd,List.length_cons,List.length_nil]
  simp only [aw,w1,e1,e2,e5,N,M,MP,MP2,P5,I0,I1,Nat.reduceMul,slAll,slsAll,Nat.reduceMul,Nat.reduceBEq,Nat.reduceLT,Nat.reduceLeDiff,memAll,vAll,reduceCtorEq,Nat.reduceEqDiff,Nat.reduceAdd,Nat.reduceLT,Nat.reduceLeDiff,Nat.beq]
end Go.Proofs.YtioijcfcehhmdaaGreatDoor.V

namespace Go.Proofs.YtioijcfcehhmdaaGreatDoor
open Go.RowKit
theorem laidTabEq:(Rows.laid_math_bits_deBruijn64tab:DataW Unit)=Lib.tabData .u8 (Lib.deBruijn64tab.map Int.ofNat):=by kernel_rfl
theorem tabG:Tryz.prog.globalNamed "math/bits.deBruijn64tab"=some 0:=by kernel_rfl
theorem globIn_of_laid {w:World} {l:List (String × DataW Unit)} (hl:l=[("math/bits.deBruijn64tab",Rows.laid_math_bits_deBruijn64tab)]) (h:laidMetH Tryz.prog l w):GlobIn w:=by
 subst hl
 rw [MakeChecks.laidMetH_plain _ _ _ (by kernel_rfl),laidTabEq] at h
 have ht:Lib.TabIs Tryz.prog w "math/bits.deBruijn64tab" .u8 (Lib.deBruijn64tab.map Int.ofNat) :=
  Lib.tabIs_of_head (t:=204) (e:=5) (n:=64) tabG (by kernel_rfl) (by kernel_rfl) (by kernel_rfl) (by kernel_rfl) (by kernel_rfl) h
 have hc:∀ i,i<64→w.cell? ⟨0,i,none⟩=some (.int .u8 ((Lib.deBruijn64tab.map Int.ofNat).getD i 0)):=fun i hi=>ht.cell tabG i (by simpa [Lib.deBruijn64tab] using hi)
 have hC:Cellish w 0:=cellish_of (hc 0 (by decide))
 intro p hp
 obtain rfl:p=_:=List.mem_singleton.1 hp
 refine .iptr _ 0 _ 0 (fun i=>.int .u8 ((Lib.deBruijn64tab.map Int.ofNat).getD i 0)) (if_pos hC.lt) hC (fun k x hk=>?_) (fun k x hk=>?_)
 ·have hk':=(List.getElem?_eq_some_iff.1 hk).1
  rw [Nat.zero_add]
  exact ⟨hc k (by simpa [Lib.deBruijn64tab] using hk'),rfl⟩
 ·simp only [List.getElem?_map] at hk
  cases e:Lib.deBruijn64tab[k]? with
  |none=>rw [e] at hk;cases hk
  |some n =>
   rw [e] at hk;cases hk
   have:(Lib.deBruijn64tab.map Int.ofNat).getD k 0=(n:Int):=by simp [List.getD_eq_getElem?_getD,e]
   rw [this]
   exact .int _ _
end Go.Proofs.YtioijcfcehhmdaaGreatDoor

namespace Go.Proofs.YtioijcfcehhmdaaGreatDoor.V
open Go.RowKit Go.ChangeShapes Go.WideShapes Go.ChangeAt
theorem Tryz.ownKnobV:ownKnob Tryz.prog.godebug=none:=by kernel_rfl
theorem Tryz.laidOutV:laidOutB Tryz.prog=true:=by kernel_rfl
def okI (n:Int):Prop:=-9223372036854775808≤n∧n≤9223372036854775807
theorem sint_i64 {q:PV} (h:SInt .i64 [q]):∃ n,okI n∧q=eI n:=by
 obtain ⟨n,h1,h2⟩:=h
 have h3:IntKind.i64.min=-9223372036854775808:=rfl
 have h4:IntKind.i64.max=9223372036854775807:=rfl
 simp only [Lit.wf,Bool.and_eq_true,decide_eq_true_eq] at h1
 cases h2
 exact ⟨n,⟨by omega,by omega⟩,rfl⟩
theorem sint_u8 {q:PV} (h:SInt .u8 [q]):∃ b:UInt8,q=.int .u8 (b.toNat:Int):=by
 obtain ⟨n,h1,h2⟩:=h
 have h3:IntKind.u8.min=0:=rfl
 have h4:IntKind.u8.max=255:=rfl
 simp only [Lit.wf,Bool.and_eq_true,decide_eq_true_eq] at h1
 cases h2
 refine ⟨UInt8.ofNat n.toNat,?_⟩
 rw [UInt8.toNat_ofNat_of_lt' (show n.toNat<2 ^ 8 by omega)]
 congr 1;omega
def SSec:List PV→Prop:=SArr 8 (SInt .u8)
theorem ssec {ps:List PV} (h:SSec ps):∃ s:Sec,ps=secPV s:=by
 obtain ⟨h1,h2⟩:=h
 have:∀ l:List PV,(∀ p∈l,SInt .u8 [p])→∃ m:List UInt8,m.length=l.length∧l=m.map fun b=>.int .u8 (b.toNat:Int):=by
  intro l
  induction l with
  |nil=>exact fun _=>⟨[],rfl,rfl⟩
  |cons p l ih =>
   intro h
   obtain ⟨b,hb⟩:=sint_u8 (h p (by simp))
   obtain ⟨m,e1,e2⟩:=ih fun q hq=>h q (by simp [hq])
   exact ⟨b :: m,by simp [e1],by rw [hb,e2];rfl⟩
 obtain ⟨m,e1,e2⟩:=this ps h2
 refine ⟨⟨m.toArray,by simp [e1,h1]⟩,?_⟩
 subst e2
 simp [secPV,Vector.toList]
theorem slist {α:Type} {n:Nat} {S:List PV→Prop} {wr:List PV→PV} {enc:α→PV} {ok:α→Prop} (hS:∀ ps,S ps→∃ a,ok a∧wr ps=enc a) {q:PV} (h:SList n S wr [q]):∃ l:List α,(∀ a∈l,ok a)∧q=.list n (l.map enc):=by
 obtain ⟨es,h1,h2⟩:=h
 cases h1
 have:∀ es:List PV,(∀ x∈es,∃ q,S q∧x=wr q)→∃ l:List α,(∀ a∈l,ok a)∧es=l.map enc:=by
  intro es
  induction es with
  |nil=>exact fun _=>⟨[],by simp,rfl⟩
  |cons e es ih =>
   intro h
   obtain ⟨q,h3,h4⟩:=h e (by simp)
   obtain ⟨a,h5,h6⟩:=hS q h3
   obtain ⟨l,h7,h8⟩:=ih fun x hx=>h x (by simp [hx])
   exact ⟨a :: l,by simp;exact ⟨h5,h7⟩,by rw [h4,h6,h8];rfl⟩
 obtain ⟨l,h3,h4⟩:=this es h2
 exact ⟨l,h3,by rw [h4]⟩
theorem wr_int {k:IntKind} {ps:List PV} (h:SInt k ps):(wrS ps).cells=ps:=by
 obtain ⟨n,_,rfl⟩:=h;rfl
theorem wr_list {n:Nat} {S:List PV→Prop} {wr:List PV→PV} {ps:List PV} (h:SList n S wr ps):(wrS ps).cells=ps:=by
 obtain ⟨es,rfl,_⟩:=h;rfl
def SSecs:List PV→Prop:=SList 8 SSec .agg
theorem ssecs {q:PV} (h:SSecs [q]):∃ l:List Sec,q=eSecs l:=by
 obtain ⟨l,_,e⟩:=slist (enc:=eSec) (ok:=fun _=>True) (fun ps h=>by obtain ⟨s,rfl⟩:=ssec h;exact ⟨s,trivial,rfl⟩) h
 exact ⟨l,e⟩
def SImg:List PV→Prop:=SList 1 SSecs wrS
theorem simg {q:PV} (h:SImg [q]):∃ l:Img,q=.list 1 (l.map eSecs):=by
 obtain ⟨l,_,e⟩:=slist (enc:=eSecs) (ok:=fun _=>True) (fun ps h=>by
  obtain ⟨es,rfl,h2⟩:=h
  obtain ⟨l,e⟩:=ssecs (q:=.list 8 es) ⟨es,rfl,h2⟩
  exact ⟨l,trivial,e⟩) h
 exact ⟨l,e⟩
theorem Tryz.rdInt:RdsC Tryz.prog 3 1 (SInt .i64):=RdsC.int Tryz.underlying3 (by kernel_rfl)
theorem Tryz.rdU8:RdsC Tryz.prog 5 1 (SInt .u8):=RdsC.int Tryz.underlying5 (by kernel_rfl)
theorem Tryz.rdSec:RdsC Tryz.prog 68 8 SSec:=RdsC.arr Tryz.underlying68 Tryz.rdU8 (by kernel_rfl)
theorem Tryz.rdSecs:RdsC Tryz.prog 66 1 SSecs:=RdsC.list Tryz.underlying66 (by kernel_rfl) Tryz.rdSec (by decide) (fun _ _ _=>rfl)
theorem Tryz.rdImg:RdsC Tryz.prog 27 1 SImg:=RdsC.list Tryz.underlying27 (by kernel_rfl) Tryz.rdSecs (by decide) (fun _ h _=>wr_list h)
end Go.Proofs.YtioijcfcehhmdaaGreatDoor.V

namespace Go.Proofs.YtioijcfcehhmdaaGreatDoor
open V
open Go.RowKit Go.ChangeShapes Go.WideShapes Go.ChangeAt
theorem RdsC.arr2 {P:Program} {t e:TypeId} {m:Nat} {S:List PV→Prop} (ht:P.underlying t=some (.array 2 e)) (he:RdsC P e m S) (hc:P.cellsOf t=2 * m):RdsC P t (2 * m) (SCat [S,S]):=⟨hc,fun {H enc w fuel cs x} h=>by
 obtain ⟨xs,mm,_,_,hl,hx,hE⟩:=DataW.trod_array ht h
 rw [hc] at hl
 have h0:=hE 0 (by decide)
 have h1:=hE 1 (by decide)
 rw [List.getElem?_eq_getElem (by omega),he.1] at h0 h1
 obtain ⟨p0,g1,g2,g3,g4,g5⟩:=he.2 h0
 obtain ⟨p1,k1,k2,k3,k4,k5⟩:=he.2 h1
 have hcs:cs=(cs.drop (0 * m)).take m++(cs.drop (1 * m)).take m:=by
  rw [Nat.zero_mul,List.drop_zero,Nat.one_mul,List.take_of_length_le (l:=cs.drop m) (by rw [List.length_drop];omega),List.take_append_drop]
 have hl0:((cs.drop (0 * m)).take m).length=m:=by rw [g3,g2]
 refine ⟨p0++p1,⟨p0,p1,rfl,g1,p1,[],by simp,k1,rfl⟩,by rw [List.length_append,g2,k2];omega,?_⟩
 rw [hcs]
 refine ⟨by rw [List.length_append,List.length_append,g3,k3],fun c hc=>?_,fun j x v hx hv=>?_⟩
 ·rcases List.mem_append.1 hc with hc|hc
  ·exact g4 c hc
  ·exact k4 c hc
 ·by_cases hj:j<m
  ·rw [List.getElem?_append_left (by omega)] at hx
   rw [List.getElem?_append_left (by omega)] at hv
   exact g5 j x v hx hv
  ·rw [List.getElem?_append_right (by omega),g2] at hx
   rw [List.getElem?_append_right (by omega),hl0] at hv
   exact k5 (j - m) x v hx hv⟩
end Go.Proofs.YtioijcfcehhmdaaGreatDoor

namespace Go.Proofs.YtioijcfcehhmdaaGreatDoor.V
open Go.RowKit Go.ChangeShapes Go.WideShapes Go.ChangeAt
def okSpn (x:Spn):Prop:=okI x.epoch∧okI x.fr∧okI x.to
def SSpn:List PV→Prop:=SCat [SInt .i64,SInt .i64,SInt .i64]
theorem sspn {ps:List PV} (h:SSpn ps):∃ x:Spn,okSpn x∧PV.agg ps=eSpn x:=by
 obtain ⟨p,q,rfl,⟨n,h1,rfl⟩,p2,q2,rfl,⟨m,h2,rfl⟩,p3,q3,rfl,⟨k,h3,rfl⟩,rfl⟩:=h
 obtain ⟨a,o1,e1⟩:=sint_i64 ⟨n,h1,rfl⟩
 obtain ⟨b,o2,e2⟩:=sint_i64 ⟨m,h2,rfl⟩
 obtain ⟨c,o3,e3⟩:=sint_i64 ⟨k,h3,rfl⟩
 refine ⟨⟨a,b,c⟩,⟨o1,o2,o3⟩,?_⟩
 rw [e1,e2,e3];rfl
def SSpns:List PV→Prop:=SList 3 SSpn .agg
theorem sspns {q:PV} (h:SSpns [q]):∃ l:List Spn,q=.list 3 (l.map eSpn):=by
 obtain ⟨l,_,e⟩:=slist (enc:=eSpn) (ok:=okSpn) (fun ps h=>sspn h) h
 exact ⟨l,e⟩
theorem Tryz.rdSpn:RdsC Tryz.prog 147 3 SSpn:=RdsC.struct3 Tryz.underlying147 Tryz.rdInt Tryz.rdInt Tryz.rdInt rfl rfl rfl (by kernel_rfl)
theorem Tryz.rdSpns:RdsC Tryz.prog 24 1 SSpns:=RdsC.list Tryz.underlying24 (by kernel_rfl) Tryz.rdSpn (by decide) (fun _ _ _=>rfl)
end Go.Proofs.YtioijcfcehhmdaaGreatDoor.V

namespace Go.Proofs.YtioijcfcehhmdaaGreatDoor
open V
open Go.RowKit Go.ChangeShapes Go.WideShapes Go.ChangeAt
theorem sint_w {ps:List PV} (h:SInt .u64 ps):∃ w:Wd,ps=[eW w]:=by
 obtain ⟨n,h1,rfl⟩:=h
 have h2:0≤n∧n<18446744073709551616:=by
  simp only [Lit.wf,IntKind.min,IntKind.max,IntKind.signed,IntKind.bits,Bool.and_eq_true,decide_eq_true_eq] at h1
  refine ⟨by simpa using h1.1,?_⟩
  have:=h1.2
  simp at this
  omega
 refine ⟨BitVec.ofNat 64 n.toNat,?_⟩
 unfold eW
 rw [BitVec.toNat_ofNat,Nat.mod_eq_of_lt (by omega),Int.toNat_of_nonneg h2.1]
def SWds:List PV→Prop:=SList 1 (SInt .u64) wrS
theorem swds {q:PV} (h:SWds [q]):∃ l:List Wd,q=.list 1 (l.map eW):=by
 obtain ⟨l,_,e⟩:=slist (enc:=eW) (ok:=fun _=>True) (fun ps h=>by
  obtain ⟨w,rfl⟩:=sint_w h
  exact ⟨w,trivial,rfl⟩) h
 exact ⟨l,e⟩
def SBm:List PV→Prop:=SCat [SInt .i64,SWds]
theorem sbm {ps:List PV} (h:SBm ps):∃ b:Bm,PV.agg ps=eBm b:=by
 obtain ⟨p,q,rfl,⟨n,h1,rfl⟩,p2,q2,rfl,h2,rfl⟩:=h
 obtain ⟨es,rfl,h3⟩:=h2
 obtain ⟨l,e⟩:=swds (q:=.list 1 es) ⟨es,rfl,h3⟩
 refine ⟨⟨n,l⟩,?_⟩
 rw [e];rfl
def SBms:List PV→Prop:=SList 2 SBm .agg
theorem sbms {q:PV} (h:SBms [q]):∃ l:List Bm,q=.list 2 (l.map eBm):=by
 obtain ⟨l,_,e⟩:=slist (enc:=eBm) (ok:=fun _=>True) (fun ps h=>by
  obtain ⟨b,e⟩:=sbm h
  exact ⟨b,trivial,e⟩) h
 exact ⟨l,e⟩
theorem Tryz.rdWd:RdsC Tryz.prog 144 1 (SInt .u64):=RdsC.int Tryz.underlying144 (by kernel_rfl)
theorem Tryz.rdWds:RdsC Tryz.prog 87 1 SWds:=RdsC.list Tryz.underlying87 (by kernel_rfl) Tryz.rdWd (by decide) (fun _ h _=>wr_int h)
theorem Tryz.rdBm:RdsC Tryz.prog 89 2 SBm:=RdsC.struct2 Tryz.underlying89 Tryz.rdInt Tryz.rdWds rfl rfl (by kernel_rfl)
theorem Tryz.rdBms:RdsC Tryz.prog 25 1 SBms:=RdsC.list Tryz.underlying25 (by kernel_rfl) Tryz.rdBm (by decide) (fun _ _ _=>rfl)
end Go.Proofs.YtioijcfcehhmdaaGreatDoor

namespace Go.Proofs.YtioijcfcehhmdaaGreatDoor
open V
open Go.RowKit Go.ChangeShapes Go.WideShapes Go.ChangeAt
def SPt:List PV→Prop:=SCat [SInt .i64,SSpns,SBms,SImg]
theorem spt {ps:List PV} (h:SPt ps):∃ p:Pt,PV.agg ps=ePt p:=by
 obtain ⟨p,q,rfl,⟨n,h1,rfl⟩,p2,q2,rfl,h2,p3,q3,rfl,h3,p4,q4,rfl,h4,rfl⟩:=h
 obtain ⟨es2,rfl,g2⟩:=h2
 obtain ⟨es3,rfl,g3⟩:=h3
 obtain ⟨es4,rfl,g4⟩:=h4
 obtain ⟨l,e2⟩:=sspns (q:=.list 3 es2) ⟨es2,rfl,g2⟩
 obtain ⟨d,e3⟩:=sbms (q:=.list 2 es3) ⟨es3,rfl,g3⟩
 obtain ⟨m,e4⟩:=simg (q:=.list 1 es4) ⟨es4,rfl,g4⟩
 refine ⟨⟨n,l,d,m⟩,?_⟩
 rw [e2,e3,e4];rfl
theorem Tryz.rdBl:RdsC Tryz.prog 4 1 SBool:=RdsC.bool Tryz.underlying4 (by kernel_rfl)
theorem Tryz.rdPt:RdsC Tryz.prog 29 4 SPt:=RdsC.struct4 Tryz.underlying29 Tryz.rdInt Tryz.rdSpns Tryz.rdBms Tryz.rdImg rfl rfl rfl rfl (by kernel_rfl)
end Go.Proofs.YtioijcfcehhmdaaGreatDoor

namespace Go.Proofs.YtioijcfcehhmdaaGreatDoor
open V
open Go.RowKit Go.ChangeShapes Go.WideShapes Go.ChangeAt
def SPrc:List PV→Prop:=SCat [SInt .i64,SInt .i64,SInt .i64,SInt .i64,SInt .i64,SInt .i64,SBool,SBool]
theorem sprc {ps:List PV} (h:SPrc ps):∃ p:Prc,PV.agg ps=ePrc p:=by
 obtain ⟨p,q,rfl,⟨n,h1,rfl⟩,p2,q2,rfl,⟨n2,h2,rfl⟩,p3,q3,rfl,⟨n3,h3,rfl⟩,p4,q4,rfl,⟨n4,h4,rfl⟩,p5,q5,rfl,⟨n5,h5,rfl⟩,p6,q6,rfl,⟨n6,h6,rfl⟩,p7,q7,rfl,⟨b7,rfl⟩,p8,q8,rfl,⟨b8,rfl⟩,rfl⟩:=h
 exact ⟨⟨n,n2,n3,n4,n5,n6,b7,b8⟩,rfl⟩
theorem Tryz.rdPrc:RdsC Tryz.prog 23 8 SPrc:=RdsC.struct8 Tryz.underlying23 Tryz.rdInt Tryz.rdInt Tryz.rdInt Tryz.rdInt Tryz.rdInt Tryz.rdInt Tryz.rdBl Tryz.rdBl rfl rfl rfl rfl rfl rfl rfl rfl (by kernel_rfl)
end Go.Proofs.YtioijcfcehhmdaaGreatDoor

namespace Go.Proofs.YtioijcfcehhmdaaGreatDoor
open V
open Go.RowKit Go.ChangeShapes Go.WideShapes Go.ChangeAt
def S2i:List PV→Prop:=SCat [SInt .i64,SInt .i64]
theorem s2i {ps:List PV} (h:S2i ps):∃ x:Int × Int,PV.agg ps=.agg [.int .i64 x.1,.int .i64 x.2]:=by
 obtain ⟨p,q,rfl,⟨n,h1,rfl⟩,p2,q2,rfl,⟨n2,h2,rfl⟩,rfl⟩:=h
 exact ⟨(n,n2),rfl⟩
theorem Tryz.rd2i:RdsC Tryz.prog 30 2 S2i:=RdsC.arr2 Tryz.underlying30 Tryz.rdInt (by kernel_rfl)
end Go.Proofs.YtioijcfcehhmdaaGreatDoor
