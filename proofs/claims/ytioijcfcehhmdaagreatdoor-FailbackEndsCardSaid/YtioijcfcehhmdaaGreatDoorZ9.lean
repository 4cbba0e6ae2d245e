/-
  Part 9 of the texts that the statement stands on.
-/
import Derived.Test.YtioijcfcehhmdaaGreatDoorZ8
import Derived.Lib.TrailingZeros
set_option linter.all false
namespace Go.Proofs.YtioijcfcehhmdaaGreatDoor.V
def dif (a b:List Sec) (i:Nat):Bool:=decide (a[i]?≠b[i]?)
def difN (a b:List Sec) (n:Nat):List Nat:=(List.range n).filter (dif a b)
def difs (a b:List Sec):List Nat:=difN a b a.length
def addAt (out:List Exn) (i:Nat):List Exn:=match out.getLast? with
 |some x=>if x.start+x.count=(i:Int) then out.dropLast++[⟨x.start,x.count+1⟩] else out++[⟨i,1⟩]
 |none=>[⟨i,1⟩]
def exts (l:List Nat):List Exn:=l.foldl addAt []
def volDiff (a b:List Sec):List Exn:=exts (difs a b)
theorem difN_succ (a b:List Sec) (n:Nat):difN a b (n+1)=if dif a b n then difN a b n++[n] else difN a b n:=by
 simp only [difN,List.range_succ,List.filter_append,List.filter_cons,List.filter_nil]
 cases dif a b n<;>simp
theorem addAt_snoc (pre:List Exn) (x:Exn) (i:Nat):addAt (pre++[x]) i=if x.start+x.count=(i:Int) then pre++[⟨x.start,x.count+1⟩] else pre++[x]++[⟨i,1⟩]:=by
 simp [addAt]
theorem exts_snoc (l:List Nat) (i:Nat):exts (l++[i])=addAt (exts l) i:=by simp [exts]
theorem snoc_cases {α:Type} (l:List α):l=[]∨∃ p x,l=p++[x]:=by
 rcases List.eq_nil_or_concat l with h|⟨p,x,h⟩
 ·exact .inl h
 ·exact .inr ⟨p,x,by rw [h];simp⟩
theorem exts_last:∀ (n:Nat) (l:List Nat),l.length=n→∀ i:Nat,∃ pre x,exts (l++[i])=pre++[x]∧x.start+x.count=(i:Int)+1∧0≤x.start∧1≤x.count∧pre.length≤l.length:=by
 intro n
 induction n with
 |zero =>
  intro l hl i
  have:=List.eq_nil_of_length_eq_zero hl
  subst this
  exact ⟨[],⟨i,1⟩,rfl,rfl,by simp,by simp,by simp⟩
 |succ n ih =>
  intro l hl i
  rcases snoc_cases l with rfl|⟨p,j,rfl⟩
  ·simp at hl
  ·obtain ⟨pre,x,e,h1,h2,h3,h4⟩:=ih p (by simpa using hl) j
   rw [exts_snoc,e,addAt_snoc]
   split
   ·rename_i hx
    exact ⟨pre,_,rfl,by simp;omega,h2,by simp;omega,by simp;omega⟩
   ·exact ⟨pre++[x],_,rfl,by simp,by simp,by simp,by simp;omega⟩
theorem difN_lt {a b:List Sec} {n i:Nat} (h:i∈difN a b n):i<n:=by
 simp [difN] at h;exact h.1
theorem difN_len (a b:List Sec) (n:Nat):(difN a b n).length≤n:=by
 have:=List.length_filter_le (dif a b) (List.range n);simpa [difN] using this
theorem wrap_pred {n:Nat} (h:n≤lim):IntKind.i64.wrap (((n+1:Nat):Int) - 1)=(n:Int):=by
 rw [i64_fits (by unfold lim at h;omega)];omega
theorem loop110 {a b:List Sec} (hl:a.length≤lim) (hab:a.length=b.length) {st:St} (h:st.head [0,1,5,6,57] st.boxes.length=some ⟨[.pv (.list 8 (a.map eSec)),.pv (.list 8 (b.map eSec)),.any,.any,.any,.row 2 ((exts (difN a b (0:Nat))).map eExt),.pv (.int .i64 (0:Nat)),.any,.any,.any,.any,.any,.any,.any,.any,.any,.any,.any,.any,.any,.any,.any,.any,.any,.any,.any,.any,.any,.any,.any,.any,.any,.any,.any,.any,.any,.any,.any,.any,.any,.any,.any,.any,.any,.any,.any,.any,.any,.any,.any,.any,.any,.any,.any,.any,.any,.any,.any,.any],[],[],none⟩) :
  den env fn110_l1 st=some (.normal,⟨[.any,.any,.any,.any,.any,.row 2 ((volDiff a b).map eExt),.any,.any,.any,.any,.any,.any,.any,.any,.any,.any,.any,.any,.any,.any,.any,.any,.any,.any,.any,.any,.any,.any,.any,.any,.any,.any,.any,.any,.any,.any,.any,.any,.any,.any,.any,.any,.any,.any,.any,.any,.any,.any,.any,.any,.any,.any,.any,.any,.any,.any,.any,.any,.any],[],[],none⟩):=by
 unfold fn110_l1
 refine clean_up (env:=env) (a.length) (fun i=>⟨[.pv (.list 8 (a.map eSec)),.pv (.list 8 (b.map eSec)),.any,.any,.any,.row 2 ((exts (difN a b i)).map eExt),.pv (.int .i64 i),.any,.any,.any,.any,.any,.any,.any,.any,.any,.any,.any,.any,.any,.any,.any,.any,.any,.any,.any,.any,.any,.any,.any,.any,.any,.any,.any,.any,.any,.any,.any,.any,.any,.any,.any,.any,.any,.any,.any,.any,.any,.any,.any,.any,.any,.any,.any,.any,.any,.any,.any,.any],[],[],none⟩) (fun i=>some (.normal,⟨[.any,.any,.any,.any,.any,.row 2 ((volDiff a b).map eExt),.any,.any,.any,.any,.any,.any,.any,.any,.any,.any,.any,.any,.any,.any,.any,.any,.any,.any,.any,.any,.any,.any,.any,.any,.any,.any,.any,.any,.any,.any,.any,.any,.any,.any,.any,.any,.any,.any,.any,.any,.any,.any,.any,.any,.any,.any,.any,.any,.any,.any,.any,.any,.any],[],[],none⟩)) h (fun _=>rfl) (fun _=>rfl) ?_ ?_
 ·intro i rb hi ih
  have hi1:=i64_next hi hl
  have hj:i<b.length:=by omega
  have F1:((i:Int)<(a.length:Int))=True:=eq_true (by omega)
  by_cases hd:a[i]=b[i]
  ·simp only [fn110_b0,F1,eSec,index_nat hi,index_nat hj,List.getElem?_map,List.getElem?_eq_getElem hi,List.getElem?_eq_getElem hj,part_sec,secPV_length,eqCells_sec,hd,decide_true,memAll,vAll,reduceCtorEq,Nat.reduceEqDiff,Nat.reduceAdd,Nat.reduceLT,Nat.reduceLeDiff,Nat.beq]
   rw [ih _ (by simp only [hi1];rw [difN_succ,if_neg (by simp [dif,List.getElem?_eq_getElem hi,List.getElem?_eq_getElem hj,hd])];rfl)]
  ·have hdd:dif a b i=true:=by simp [dif,List.getElem?_eq_getElem hi,List.getElem?_eq_getElem hj,hd]
   have hdf:=decide_eq_false hd
   rcases snoc_cases (difN a b i) with h0|⟨p,j,h0⟩
   ·have e0:exts (difN a b i)=[]:=by rw [h0];rfl
    have F2:(((0:Nat):Int) > 0)=False:=eq_false (by omega)
    have F3:(0+1≤lim)=True:=eq_true (by unfold lim;omega)
    simp only [fn110_b0,F1,eSec,index_nat hi,index_nat hj,List.getElem?_map,List.getElem?_eq_getElem hi,List.getElem?_eq_getElem hj,part_sec,secPV_length,eqCells_sec,hdf,e0,eExt,List.map_nil,F2,F3,memAll,vAll,reduceCtorEq,Nat.reduceEqDiff,Nat.reduceAdd,Nat.reduceLT,Nat.reduceLeDiff,Nat.beq]
    rw [ih _ (by simp only [hi1];rw [difN_succ,if_pos hdd,exts_snoc,e0];rfl)]
   ·obtain ⟨pre,⟨s,c⟩,e0,h1,h2,h3,h4⟩:=exts_last _ p rfl j
    rw [← h0] at e0
    have hji:j<i:=difN_lt (show j∈difN a b i by rw [h0];simp)
    have hpl:p.length+1≤i:=by have:=difN_len a b i;rw [h0] at this;simpa using this
    simp only at h1 h2 h3
    have hlim:lim=1073741824:=rfl
    have F2:(((pre.length+1:Nat):Int) > 0)=True:=eq_true (by omega)
    have F3:=wrap_pred (n:=pre.length) (by omega)
    have F4:IntKind.i64.wrap (s+c)=s+c:=i64_fits (by omega)
    have F5:IntKind.i64.wrap (c+1)=c+1:=i64_fits (by omega)
    have F6:(pre.length+1+1≤lim)=True:=eq_true (by omega)
    have F7:index (.int .i64 (pre.length:Int)) (pre.length+1)=some pre.length:=index_nat (by omega)
    simp only [fn110_b0,F1,eSec,index_nat hi,index_nat hj,List.getElem?_map,List.getElem?_eq_getElem hi,List.getElem?_eq_getElem hj,part_sec,secPV_length,eqCells_sec,hdf,e0,List.map_append,List.map_cons,List.map_nil,eExt,F2,F3,F4,F5,F6,F7,memAll,vAll,reduceCtorEq,Nat.reduceEqDiff,Nat.reduceAdd,Nat.reduceLT,Nat.reduceLeDiff,Nat.beq]
    (try simp only [bcase_bind,bcase_map,tail_bcase]);refine bcase_split (fun hb=>?_) (fun hb=>?_)<;>try simp only [hb,eExt,memAll,vAll,reduceCtorEq,Nat.reduceEqDiff,Nat.reduceAdd,Nat.reduceLT,Nat.reduceLeDiff,Nat.beq]
    ·rw [ih _ (by simp only [hi1];rw [difN_succ,if_pos hdd,exts_snoc,e0,addAt_snoc,if_pos (by simpa using hb)];simp only [List.map_append,List.map_cons,List.map_nil,eExt];rfl)]
    ·rw [ih _ (by simp only [hi1];rw [difN_succ,if_pos hdd,exts_snoc,e0,addAt_snoc,if_neg (by simpa using hb)];simp only [List.map_append,List.map_cons,List.map_nil,eExt];rfl)]
 ·intro rb
  simp only [fn110_b0,Int.lt_irrefl,eExt,memAll,vAll,reduceCtorEq,Nat.reduceEqDiff,Nat.reduceAdd,Nat.reduceLT,Nat.reduceLeDiff,Nat.beq]
  rfl
theorem cal110 {a b:List Sec} (hl:a.length≤lim) (hab:a.length=b.length):cal env 110 [.list 8 (a.map eSec),.list 8 (b.map eSec)]=some [(.list 2 ((volDiff a b).map eExt),true)]:=by
 rw [cal_code env110 rfl];simp only [fn110];simp only [start,z_map_cons,z_map_nil,z_len_cons,z_len_nil,z_repl_zero,z_repl_succ,z_cons_app,z_nil_app,Nat.reduceAdd,Nat.reduceSub]
 simp only [eExt,memAll,vAll,reduceCtorEq,Nat.reduceEqDiff,Nat.reduceAdd,Nat.reduceLT,Nat.reduceLeDiff,Nat.beq]
 rw [loop110 hl hab]
 rotate_left
 ·rfl
 ·simp only [eExt,memAll,vAll,reduceCtorEq,Nat.reduceEqDiff,Nat.reduceAdd,Nat.reduceLT,Nat.reduceLeDiff,Nat.beq]
theorem cal117 {a b:List Sec}:cal env 117 [.list 8 (a.map eSec),.list 8 (b.map eSec)]=some [(.func 140 [.iptr [.list 8 (a.map eSec)] 0,.iptr [.list 8 (b.map eSec)] 0],false)]:=by
 rw [cal_code env117 rfl];simp only [fn117];simp only [start,z_map_cons,z_map_nil,z_len_cons,z_len_nil,z_repl_zero,z_repl_succ,z_cons_app,z_nil_app,Nat.reduceAdd,Nat.reduceSub]
 simp only [ memAll,vAll,reduceCtorEq,Nat.reduceEqDiff,Nat.reduceAdd,Nat.reduceLT,Nat.reduceLeDiff,Nat.beq]
def yI (l:List Nat):List (List PV):=l.map fun (i:Nat)=>[PV.int .i64 (i:Int)]
theorem yI_snoc (l:List Nat) (i:Nat):yI (l++[i])=yI l++[[.int .i64 (i:Int)]]:=by simp [yI]
theorem iter140 {a b:List Sec} (hl:a.length≤lim) (hab:a.length=b.length):iter env 140 [.iptr [.list 8 (a.map eSec)] 0,.iptr [.list 8 (b.map eSec)] 0] none=some (yI (difs a b)):=by
 have loop:∀ {st:St} (h:st.head [0,1,2,6,7] st.boxes.length=some ⟨[.yld,.pv (.iptr [.list 8 (a.map eSec)] 0),.pv (.iptr [.list 8 (b.map eSec)] 0),.any,.any,.any,.pv (.int .i64 a.length),.pv (.int .i64 (0:Nat)),.any,.any,.any,.any,.any,.any,.any,.any,.any,.any,.any,.any,.any,.any,.any,.any,.any,.any],[],yI (difN a b 0),some none⟩),
   den env fn140_l1 st=some (.normal,⟨[.any,.any,.any,.any,.any,.any,.any,.any,.any,.any,.any,.any,.any,.any,.any,.any,.any,.any,.any,.any,.any,.any,.any,.any,.any,.any],[],yI (difN a b a.length),some none⟩):=by
  intro st h
  unfold fn140_l1
  refine clean_up (env:=env) a.length (fun i=>⟨[.yld,.pv (.iptr [.list 8 (a.map eSec)] 0),.pv (.iptr [.list 8 (b.map eSec)] 0),.any,.any,.any,.pv (.int .i64 a.length),.pv (.int .i64 i),.any,.any,.any,.any,.any,.any,.any,.any,.any,.any,.any,.any,.any,.any,.any,.any,.any,.any],[],yI (difN a b i),some none⟩) (fun _=>some (.normal,⟨[.any,.any,.any,.any,.any,.any,.any,.any,.any,.any,.any,.any,.any,.any,.any,.any,.any,.any,.any,.any,.any,.any,.any,.any,.any,.any],[],yI (difN a b a.length),some none⟩)) h (fun _=>rfl) (fun _=>rfl) ?_ ?_
  ·intro i rb hi ih
   have hi1:=i64_next hi hl
   have hj:i<b.length:=by omega
   have F1:((i:Int)<(a.length:Int))=True:=eq_true (by omega)
   by_cases hd:a[i]=b[i]
   ·simp only [fn140_b0,F1,eSec,index_nat hi,index_nat hj,List.getElem?_map,List.getElem?_eq_getElem hi,List.getElem?_eq_getElem hj,part_sec,secPV_length,eqCells_sec,hd,decide_true,memAll,vAll,reduceCtorEq,Nat.reduceEqDiff,Nat.reduceAdd,Nat.reduceLT,Nat.reduceLeDiff,Nat.beq]
    rw [ih _ (by simp only [hi1];rw [difN_succ,if_neg (by simp [dif,List.getElem?_eq_getElem hi,List.getElem?_eq_getElem hj,hd])];rfl)]
   ·have hdd:dif a b i=true:=by simp [dif,List.getElem?_eq_getElem hi,List.getElem?_eq_getElem hj,hd]
    have hdf:=decide_eq_false hd
    simp only [fn140_b0,F1,eSec,index_nat hi,index_nat hj,List.getElem?_map,List.getElem?_eq_getElem hi,List.getElem?_eq_getElem hj,part_sec,secPV_length,eqCells_sec,hdf,memAll,vAll,reduceCtorEq,Nat.reduceEqDiff,Nat.reduceAdd,Nat.reduceLT,Nat.reduceLeDiff,Nat.beq]
    rw [ih _ (by simp only [hi1];rw [difN_succ,if_pos hdd,yI_snoc];rfl)]
  ·intro rb
   simp only [fn140_b0,Int.lt_irrefl,memAll,vAll,reduceCtorEq,Nat.reduceEqDiff,Nat.reduceAdd,Nat.reduceLT,Nat.reduceLeDiff,Nat.beq]
   rfl
 rw [iter_code env140 rfl rfl]
 simp only [fn140,ystart,z_map_cons,z_map_nil,z_len_cons,z_len_nil,z_repl_zero,z_repl_succ,z_cons_app,z_nil_app,Nat.reduceAdd,Nat.reduceSub]
 simp only [ memAll,vAll,reduceCtorEq,Nat.reduceEqDiff,Nat.reduceAdd,Nat.reduceLT,Nat.reduceLeDiff,Nat.beq]
 rw [loop]
 rotate_left
 ·rfl
 ·rfl
def endNs (l:List Nat):Int:=match l.getLast? with
 |some i=>i+1
 |none=>-1
theorem endNs_snoc (l:List Nat) (i:Nat):endNs (l++[i])=(i:Int)+1:=by simp [endNs]
theorem sorted_take {a b:List Sec} {j:Nat} {i:Nat} (h:(difs a b)[j]?=some i):i<a.length∧j≤i∧∀ k∈(difs a b).take j,k<i:=by
 have hs:(difs a b).Pairwise (·<·):=(List.pairwise_lt_range (n:=a.length)).filter _
 obtain ⟨hj,rfl⟩:=List.getElem?_eq_some_iff.1 h
 refine ⟨difN_lt (List.getElem_mem hj),?_,?_⟩
 ·have:∀ (l:List Nat),l.Pairwise (·<·)→∀ (j:Nat) (hj:j<l.length),j≤l[j]:=by
   intro l
   induction l with
   |nil=>intro _ j hj;simp at hj
   |cons x l ih =>
    intro hp j hj
    cases j with
    |zero=>simp
    |succ j =>
     have h1:=ih (List.pairwise_cons.1 hp).2
     simp only [List.length_cons,Nat.add_lt_add_iff_right] at hj
     simp only [List.getElem_cons_succ]
     cases j with
     |zero=>have:=(List.pairwise_cons.1 hp).1 l[0] (List.getElem_mem hj);omega
     |succ j =>
      have h2:=h1 (j+1) hj
      have h3:∀ (m:Nat) (hm:m<l.length),x+m+1≤l[m]:=by
       intro m
       induction m with
       |zero=>intro hm;have:=(List.pairwise_cons.1 hp).1 l[0] (List.getElem_mem hm);omega
       |succ m ihm =>
        intro hm
        have:=ihm (by omega)
        have h4:=List.pairwise_iff_getElem.1 (List.pairwise_cons.1 hp).2 m (m+1) (by omega) hm (by omega)
        omega
      have:=h3 (j+1) hj
      omega
  exact this _ hs j hj
 ·intro k hk
  obtain ⟨m,hm,rfl⟩:=List.mem_iff_getElem.1 hk
  rw [List.getElem_take]
  simp only [List.length_take] at hm
  exact List.pairwise_iff_getElem.1 hs m j (by omega) hj (by omega)
theorem cal77 {a b:List Sec} (hl:a.length≤lim) (hab:a.length=b.length):cal env 77 [.list 8 (a.map eSec),.list 8 (b.map eSec)]=some [(.list 2 ((volDiff a b).map eExt),true)]:=by
 have e1:=cal117 (a:=a) (b:=b)
 rw [cal_code env77 rfl];simp only [fn77];simp only [start,z_map_cons,z_map_nil,z_len_cons,z_len_nil,z_repl_zero,z_repl_succ,z_cons_app,z_nil_app,Nat.reduceAdd,Nat.reduceSub]
 simp only [e1,memAll,vAll,reduceCtorEq,Nat.reduceEqDiff,Nat.reduceAdd,Nat.reduceLT,Nat.reduceLeDiff,Nat.beq]
 rw [rng_idx (env:=env) (fun j=>[⟨false,[.row 2 ((exts ((difs a b).take j)).map eExt)]⟩,⟨false,[.pv (.int .i64 (endNs ((difs a b).take j)))]⟩]) (xs:=yI (difs a b)) rfl (iter140 hl hab) rfl ?_]
 ·simp only [yI,List.length_map,List.take_length,vRng,memAll,vAll,reduceCtorEq,Nat.reduceEqDiff,Nat.reduceAdd,Nat.reduceLT,Nat.reduceLeDiff,Nat.beq]
  rfl
 ·intro j x hx sl0
  simp only [yI,List.getElem?_map,Option.map_eq_some_iff] at hx
  obtain ⟨i,hi,rfl⟩:=hx
  obtain ⟨k1,k2,k3⟩:=sorted_take hi
  have hlim:lim=1073741824:=rfl
  have hj:=(List.getElem?_eq_some_iff.1 hi).1
  have ht:(difs a b).take (j+1)=(difs a b).take j++[i]:=by rw [List.take_add_one,hi];rfl
  have hlen:((difs a b).take j).length=j:=by simp;omega
  rw [ht]
  rcases snoc_cases ((difs a b).take j) with h0|⟨p,q,h0⟩
  ·have F2:((i:Int)==-1)=false:=by simp
   have F3:(0+1≤lim)=True:=eq_true (by omega)
   have F4:IntKind.i64.wrap ((i:Int)+1)=(i:Int)+1:=i64_fits (by omega)
   have e0:exts ([]:List Nat)=[]:=rfl
   have e1:endNs ([]:List Nat)=-1:=rfl
   have e2:exts [i]=[⟨i,1⟩]:=rfl
   have e3:endNs [i]=(i:Int)+1:=rfl
   refine ⟨?_,?_⟩
   rotate_left
   ·simp only [h0,fn77_b0,fn77_b1,F2,F3,F4,e0,e1,e2,e3,eExt,List.map_nil,vRng,memAll,vAll,reduceCtorEq,Nat.reduceEqDiff,Nat.reduceAdd,Nat.reduceLT,Nat.reduceLeDiff,Nat.beq]
    rfl
  ·obtain ⟨pre,⟨s,c⟩,e0,h1,h2,h3,h4⟩:=exts_last _ p rfl q
   have hqi:q<i:=k3 q (by rw [h0];simp)
   simp only at h1 h2 h3
   have hpl:p.length+1=j:=by rw [h0] at hlen;simpa using hlen
   have F3:=wrap_pred (n:=pre.length) (by omega)
   have F4:IntKind.i64.wrap ((i:Int)+1)=(i:Int)+1:=i64_fits (by omega)
   have F5:IntKind.i64.wrap (c+1)=c+1:=i64_fits (by omega)
   have F6:(pre.length+1+1≤lim)=True:=eq_true (by omega)
   have F7:index (.int .i64 (pre.length:Int)) (pre.length+1)=some pre.length:=index_nat (by omega)
   by_cases hc:(i:Int)=(q:Int)+1
   ·have F8:((i:Int)==(q:Int)+1)=true:=by simpa using hc
    have e2:exts (p++[q]++[i])=pre++[⟨s,c+1⟩]:=by rw [exts_snoc,e0,addAt_snoc,if_pos (by simp only;omega)]
    refine ⟨?_,?_⟩
    rotate_left
    ·simp only [h0,fn77_b0,fn77_b1,endNs_snoc,e0,e2,F3,F4,F5,F6,F7,F8,eExt,List.map_append,List.map_cons,List.map_nil,vRng,memAll,vAll,reduceCtorEq,Nat.reduceEqDiff,Nat.reduceAdd,Nat.reduceLT,Nat.reduceLeDiff,Nat.beq]
     rfl
   ·have F8:((i:Int)==(q:Int)+1)=false:=by simpa using hc
    have e2:exts (p++[q]++[i])=pre++[⟨s,c⟩]++[⟨i,1⟩]:=by rw [exts_snoc,e0,addAt_snoc,if_neg (by simp only;omega)]
    refine ⟨?_,?_⟩
    rotate_left
    ·simp only [h0,fn77_b0,fn77_b1,endNs_snoc,e0,e2,F3,F4,F5,F6,F7,F8,eExt,List.map_append,List.map_cons,List.map_nil,vRng,memAll,vAll,reduceCtorEq,Nat.reduceEqDiff,Nat.reduceAdd,Nat.reduceLT,Nat.reduceLeDiff,Nat.beq]
     rfl
end Go.Proofs.YtioijcfcehhmdaaGreatDoor.V

namespace Go.Proofs.YtioijcfcehhmdaaGreatDoor.V
def ext (p:Nat→Bool) (n:Nat):List Exn:=exts ((List.range n).filter p)
theorem ext_succ (p:Nat→Bool) (n:Nat):ext p (n+1)=if p n then addAt (ext p n) n else ext p n:=by
 unfold ext
 rw [List.range_succ,List.filter_append]
 cases h:p n
 ·simp [h]
 ·rw [List.filter_cons_of_pos h,List.filter_nil,exts_snoc];rfl
def dep (i:Nat) (s:Nat):List End→Int
 |[]=>0
 |x :: l=>(if x.list=i∧x.pos≤s then x.step else 0)+dep i s l
def Asc:List End→Prop
 |[]=>True
 |[_]=>True
 |x :: y :: l=>x.pos≤y.pos∧Asc (y :: l)
theorem Asc.tail {x:End} {l:List End} (h:Asc (x :: l)):Asc l:=by
 cases l with
 |nil=>trivial
 |cons y l=>exact h.2
def atStart (N:Nat):List End→Nat→Prop
 |[],a=>a=N
 |x :: _,a=>a=x.pos
end Go.Proofs.YtioijcfcehhmdaaGreatDoor.V

namespace Go.Proofs.YtioijcfcehhmdaaGreatDoor.V
abbrev Wd:=BitVec 64
structure Bm where
 size:Int
 ws:List Wd
 deriving DecidableEq
def eW (w:Wd):PV:=.int .u64 (w.toNat:Int)
def eBm (b:Bm):PV:=.agg [.int .i64 b.size,.list 1 (b.ws.map eW)]
def bit (ws:List Wd) (i:Nat):Bool:=(ws.getD (i / 64) 0).getLsbD (i % 64)
theorem bit_at {ws:List Wd} {k:Nat} (h:k<ws.length) {j:Nat} (hj:j<64):bit ws (64 * k+j)=ws[k].getLsbD j:=by
 unfold bit
 have e1:(64 * k+j) / 64=k:=by omega
 have e2:(64 * k+j) % 64=j:=by omega
 rw [e1,e2];simp [h]
theorem bit_of {ws:List Wd} {i:Nat} (h:i / 64<ws.length):bit ws i=ws[i / 64].getLsbD (i % 64):=by
 unfold bit;simp [h]
theorem bit_out {ws:List Wd} {i:Nat} (h:64 * ws.length≤i):bit ws i=false:=by
 unfold bit
 have:ws.length≤i / 64:=by omega
 rw [List.getD_eq_getElem?_getD,List.getElem?_eq_none this];simp
theorem w_of (w:Wd):BitVec.ofInt 64 (w.toNat:Int)=w:=by
 apply BitVec.eq_of_toNat_eq
 have:=w.isLt
 rw [BitVec.toNat_ofInt]
 omega
theorem u64_wrap (n:Int):IntKind.u64.wrap n=n % 2 ^ 64:=by
 simp only [IntKind.wrap,IntKind.bits,IntKind.signed,Bool.false_and,Bool.false_eq_true,if_false]
theorem w_wrap (w:Wd):IntKind.u64.wrap (w.toNat:Int)=(w.toNat:Int):=by
 have:=w.isLt
 simp only [IntKind.wrap,IntKind.bits,IntKind.signed,Bool.false_and,Bool.false_eq_true,if_false]
 omega
theorem w_and (a b:Wd):IntKind.u64.wrap ((BitVec.ofInt IntKind.u64.bits (a.toNat:Int) &&& BitVec.ofInt IntKind.u64.bits (b.toNat:Int)).toNat:Int)=((a &&& b).toNat:Int):=by
 show IntKind.u64.wrap ((BitVec.ofInt 64 (a.toNat:Int) &&& BitVec.ofInt 64 (b.toNat:Int)).toNat:Int)=_
 rw [w_of,w_of,w_wrap]
theorem w_shr (w:Wd) {s:Int} {n:Nat} (hs:s=(n:Int)):(w.toNat:Int).fdiv (2 ^ (min s.toNat IntKind.u64.bits))=((w >>> n).toNat:Int):=by
 subst hs
 rw [BitVec.toNat_ushiftRight,Nat.shiftRight_eq_div_pow,Int.toNat_natCast]
 have hw:=w.isLt
 show (w.toNat:Int).fdiv (2 ^ (min n 64))=_
 by_cases h:n≤64
 ·have h2:(0:Int)≤2 ^ n:=by have:=Int.natCast_nonneg (2 ^ n);push_cast at this;exact this
  rw [Nat.min_eq_left h,Int.fdiv_eq_ediv_of_nonneg _ h2]
  push_cast
  rfl
 ·rw [Nat.min_eq_right (by omega),Int.fdiv_eq_ediv_of_nonneg _ (by decide)]
  have h1:w.toNat / 2 ^ n=0:=Nat.div_eq_of_lt (Nat.lt_of_lt_of_le hw (Nat.pow_le_pow_right (by decide) (by omega)))
  rw [h1]
  omega
theorem w_beq (a b:Wd):((a.toNat:Int)==(b.toNat:Int))=decide (a=b):=by
 by_cases h:a=b
 ·subst h;simp
 ·have:a.toNat≠b.toNat:=fun e=>h (BitVec.eq_of_toNat_eq e)
  simp [h];omega
/-! Masks. -/
def wdsN (n:Int):Int:=(n+63) / 64
def okB (b:Bm):Bool:=decide (0≤b.size∧b.size≤4096∧(b.ws.length:Int)=wdsN b.size)&&(List.range (64 * b.ws.length)).all fun (i:Nat)=>decide ((i:Int)<b.size) || !bit b.ws i
theorem okB_iff {b:Bm}:okB b=true ↔ (0≤b.size∧b.size≤4096∧(b.ws.length:Int)=wdsN b.size)∧∀ i:Nat,b.size≤(i:Int)→bit b.ws i=false:=by
 unfold okB
 simp only [Bool.and_eq_true,decide_eq_true_eq,List.all_eq_true,List.mem_range,Bool.or_eq_true,Bool.not_eq_true']
 refine and_congr Iff.rfl ⟨fun h i hi=>?_,fun h i hi=>?_⟩
 ·by_cases c:i<64 * b.ws.length
  ·exact (h i c).resolve_left (by omega)
  ·exact bit_out (by omega)
 ·by_cases c:(i:Int)<b.size
  ·exact .inl c
  ·exact .inr (h i (by omega))
theorem okB_size {b:Bm} (h:okB b=true):0≤b.size∧b.size≤4096∧b.ws.length≤64∧b.size≤64 * (b.ws.length:Int)∧64 * (b.ws.length:Int)<b.size+64:=by
 have:=(okB_iff.1 h).1
 unfold wdsN at this
 omega
theorem rest_iff {b:Bm} (h:0≤b.size∧b.size≤4096∧(b.ws.length:Int)=wdsN b.size):okB b=true ↔ (b.size % 64=0∨∀ (hw:b.ws.length - 1<b.ws.length),b.ws[b.ws.length - 1] >>> (b.size % 64).toNat=0):=by
 rw [okB_iff]
 unfold wdsN at h ⊢
 constructor
 ·rintro ⟨_,h2⟩
  by_cases c:b.size % 64=0
  ·exact .inl c
  ·refine .inr fun hw=>?_
   apply BitVec.eq_of_getLsbD_eq
   intro j hj
   rw [BitVec.getLsbD_ushiftRight]
   by_cases cj:(b.size % 64).toNat+j<64
   ·rw [← bit_at hw cj,h2 _ (by omega)];simp
   ·rw [BitVec.getLsbD_of_ge _ _ (by omega)];simp
 ·intro hr
  refine ⟨by omega,fun i hi=>?_⟩
  by_cases c:i<64 * b.ws.length
  ·have hw:b.ws.length - 1<b.ws.length:=by omega
   have hk:i / 64=b.ws.length - 1:=by omega
   rcases hr with hr|hr
   ·omega
   ·have:=congrArg (fun w:Wd=>w.getLsbD (i % 64 - (b.size % 64).toNat)) (hr hw)
    simp only [BitVec.getLsbD_ushiftRight,BitVec.getLsbD_zero] at this
    rw [show (b.size % 64).toNat+(i % 64 - (b.size % 64).toNat)=i % 64 by omega] at this
    rw [show i=64 * (b.ws.length - 1)+i % 64 by omega,bit_at hw (Nat.mod_lt _ (by decide))]
    simpa using this
  ·exact bit_out (by omega)
def bmE (b:Bm):Int:=if okB b then 0 else 3
end Go.Proofs.YtioijcfcehhmdaaGreatDoor.V

namespace Go.Proofs.YtioijcfcehhmdaaGreatDoor.V
theorem bmE_ok {b:Bm} (h:okB b=true):bmE b=0:=by unfold bmE;rw [if_pos h]
theorem bmE_no {b:Bm} (h:okB b=false):bmE b=3:=by unfold bmE;rw [if_neg (by rw [h];exact Bool.false_ne_true)]
theorem q64 {n:Int} (h:0≤n):(n+64 - 1).tdiv 64=wdsN n:=by
 unfold wdsN;rw [Int.tdiv_eq_ediv_of_nonneg (by omega)];congr 1;omega
theorem q63 {n:Int} (h:0≤n):(n+63).tdiv 64=wdsN n:=by
 unfold wdsN;rw [Int.tdiv_eq_ediv_of_nonneg (by omega)]
theorem z64:((64:Int)=0)=False:=eq_false (by decide)
theorem cal121 {n:Int} (h:0≤n∧n≤4096):cal env 121 [.int .i64 n]=some [(.int .i64 (wdsN n),false)]:=by
 have W1:IntKind.i64.wrap (n+64)=n+64:=i64_fits (by omega)
 have W2:IntKind.i64.wrap (n+64 - 1)=n+64 - 1:=i64_fits (by omega)
 have W3:IntKind.i64.wrap (wdsN n)=wdsN n:=i64_fits (by unfold wdsN;omega)
 rw [cal_code env121 rfl];simp only [fn121];simp only [start,z_map_cons,z_map_nil,z_len_cons,z_len_nil,z_repl_zero,z_repl_succ,z_cons_app,z_nil_app,Nat.reduceAdd,Nat.reduceSub]
 simp only [W1,W2,q64 h.1,W3,z64,memAll,vAll,reduceCtorEq,Nat.reduceEqDiff,Nat.reduceAdd,Nat.reduceLT,Nat.reduceLeDiff,Nat.beq]
theorem cal90 {b:Bm}:cal env 90 [eBm b]=some [(.int .i64 (bmE b),false)]:=by
 unfold eBm
 have P:∀ x y:PV,part [x,y] 0 (some 2)=some (.agg [x,y]):=fun _ _=>rfl
 by_cases c0:b.size<0
 ·have hE:bmE b=3:=bmE_no (by rw [Bool.eq_false_iff];intro h;have:=okB_size h;omega)
  rw [hE]
  rw [cal_code env90 rfl];simp only [fn90];simp only [start,z_map_cons,z_map_nil,z_len_cons,z_len_nil,z_repl_zero,z_repl_succ,z_cons_app,z_nil_app,Nat.reduceAdd,Nat.reduceSub]
  simp only [c0,P,memAll,vAll,reduceCtorEq,Nat.reduceEqDiff,Nat.reduceAdd,Nat.reduceLT,Nat.reduceLeDiff,Nat.beq]
 ·by_cases c1:b.size > 4096
  ·have hE:bmE b=3:=bmE_no (by rw [Bool.eq_false_iff];intro h;have:=okB_size h;omega)
   rw [hE]
   have F1:(b.size > 4096)=True:=eq_true c1
   rw [cal_code env90 rfl];simp only [fn90];simp only [start,z_map_cons,z_map_nil,z_len_cons,z_len_nil,z_repl_zero,z_repl_succ,z_cons_app,z_nil_app,Nat.reduceAdd,Nat.reduceSub]
   simp only [c0,F1,P,memAll,vAll,reduceCtorEq,Nat.reduceEqDiff,Nat.reduceAdd,Nat.reduceLT,Nat.reduceLeDiff,Nat.beq]
  ·have F1:(b.size > 4096)=False:=eq_false c1
   have e1:=cal121 (n:=b.size) (by omega)
   by_cases c2:(b.ws.length:Int)=wdsN b.size
   ·have F2:((b.ws.length:Int) != wdsN b.size)=false:=by simp [c2]
    have hr:=rest_iff (b:=b) ⟨by omega,by omega,c2⟩
    have hw:=c2
    unfold wdsN at hw
    have M:b.size.tmod 64=b.size % 64:=Int.tmod_eq_emod_of_nonneg (by omega)
    by_cases c3:b.size % 64=0
    ·have hE:bmE b=0:=bmE_ok (hr.2 (.inl c3))
     rw [hE]
     have F3:(b.size % 64 > 0)=False:=eq_false (by omega)
     rw [cal_code env90 rfl];simp only [fn90];simp only [start,z_map_cons,z_map_nil,z_len_cons,z_len_nil,z_repl_zero,z_repl_succ,z_cons_app,z_nil_app,Nat.reduceAdd,Nat.reduceSub]
     simp only [c0,F1,F2,F3,M,e1,z64,P,memAll,vAll,reduceCtorEq,Nat.reduceEqDiff,Nat.reduceAdd,Nat.reduceLT,Nat.reduceLeDiff,Nat.beq]
    ·have F3:(b.size % 64 > 0)=True:=eq_true (by omega)
     have hi:b.ws.length - 1<b.ws.length:=by omega
     have W:IntKind.i64.wrap ((b.ws.length:Int) - 1)=((b.ws.length - 1:Nat):Int):=by rw [i64_fits (by omega)];omega
     have S0:(b.size % 64<0)=False:=eq_false (by omega)
     have S:=w_shr b.ws[b.ws.length - 1] (s:=b.size % 64) (n:=(b.size % 64).toNat) (by omega)
     have B:=w_beq (b.ws[b.ws.length - 1] >>> (b.size % 64).toNat) 0
     have B0:((0:Wd).toNat:Int)=0:=rfl
     rw [B0] at B
     have B':(((b.ws[b.ws.length - 1] >>> (b.size % 64).toNat).toNat:Int) != 0)=!decide (b.ws[b.ws.length - 1] >>> (b.size % 64).toNat=0):=by unfold bne;rw [B]
     by_cases c4:b.ws[b.ws.length - 1] >>> (b.size % 64).toNat=0
     ·have hE:bmE b=0:=bmE_ok (hr.2 (.inr fun _=>c4))
      rw [hE]
      rw [decide_eq_true c4] at B'
      rw [cal_code env90 rfl];simp only [fn90];simp only [start,z_map_cons,z_map_nil,z_len_cons,z_len_nil,z_repl_zero,z_repl_succ,z_cons_app,z_nil_app,Nat.reduceAdd,Nat.reduceSub]
      simp only [c0,F1,F2,F3,M,e1,z64,P,W,S0,S,B',index_nat hi,eW,List.getElem?_map,List.getElem?_eq_getElem hi,memAll,vAll,reduceCtorEq,Nat.reduceEqDiff,Nat.reduceAdd,Nat.reduceLT,Nat.reduceLeDiff,Nat.beq]
     ·have hE:bmE b=3:=bmE_no (by
       rw [Bool.eq_false_iff];intro h
       rcases hr.1 h with h|h
       ·exact c3 h
       ·exact c4 (h hi))
      rw [hE]
      rw [decide_eq_false c4] at B'
      rw [cal_code env90 rfl];simp only [fn90];simp only [start,z_map_cons,z_map_nil,z_len_cons,z_len_nil,z_repl_zero,z_repl_succ,z_cons_app,z_nil_app,Nat.reduceAdd,Nat.reduceSub]
      simp only [c0,F1,F2,F3,M,e1,z64,P,W,S0,S,B',index_nat hi,eW,List.getElem?_map,List.getElem?_eq_getElem hi,memAll,vAll,reduceCtorEq,Nat.reduceEqDiff,Nat.reduceAdd,Nat.reduceLT,Nat.reduceLeDiff,Nat.beq]
   ·have F2:((b.ws.length:Int) != wdsN b.size)=true:=by simp [c2]
    have hE:bmE b=3:=bmE_no (by rw [Bool.eq_false_iff];intro h;exact c2 (okB_iff.1 h).1.2.2)
    rw [hE]
    rw [cal_code env90 rfl];simp only [fn90];simp only [start,z_map_cons,z_map_nil,z_len_cons,z_len_nil,z_repl_zero,z_repl_succ,z_cons_app,z_nil_app,Nat.reduceAdd,Nat.reduceSub]
    simp only [c0,F1,F2,e1,P,memAll,vAll,reduceCtorEq,Nat.reduceEqDiff,Nat.reduceAdd,Nat.reduceLT,Nat.reduceLeDiff,Nat.beq]
end Go.Proofs.YtioijcfcehhmdaaGreatDoor.V

namespace Go.Proofs.YtioijcfcehhmdaaGreatDoor.V
def tz (w:Wd):Nat:=Lib.ctz 64 w.toNat
end Go.Proofs.YtioijcfcehhmdaaGreatDoor.V

namespace Go.Proofs.YtioijcfcehhmdaaGreatDoor.V
end Go.Proofs.YtioijcfcehhmdaaGreatDoor.V

namespace Go.Proofs.YtioijcfcehhmdaaGreatDoor.V
theorem w_bit (w:Wd) (s:Nat):(w >>> s &&& 1==(1:Wd))=w.getLsbD s:=by
 have h:w >>> s &&& 1=if w.getLsbD s then 1 else 0:=by
  apply BitVec.eq_of_getLsbD_eq
  intro j hj
  rw [BitVec.getLsbD_and,BitVec.getLsbD_ushiftRight]
  cases j with
  |zero=>cases h:w.getLsbD s<;>simp [h]
  |succ j =>
   have:(1:Wd).getLsbD (j+1)=false:=by
    rw [show (1:Wd)=1#64 from rfl,BitVec.getLsbD_one];simp
   rw [this,Bool.and_false]
   cases w.getLsbD s<;>simp
 rw [h]
 cases w.getLsbD s<;>rfl
theorem cal103 {b:Bm} {i:Nat} (h:i / 64<b.ws.length) (hi:i≤1000000):cal env 103 [eBm b,.int .i64 (i:Nat)]=some [(.bool (bit b.ws i),false)]:=by
 unfold eBm
 have T1:(i:Int).tdiv 64=((i / 64:Nat):Int):=by rw [Int.tdiv_eq_ediv_of_nonneg (by omega)];omega
 have T2:(i:Int).tmod 64=((i % 64:Nat):Int):=by rw [Int.tmod_eq_emod_of_nonneg (by omega)];omega
 have W1:IntKind.i64.wrap ((i / 64:Nat):Int)=((i / 64:Nat):Int):=i64_fits (by omega)
 have W2:IntKind.u64.wrap ((i % 64:Nat):Int)=((i % 64:Nat):Int):=by rw [u64_wrap];omega
 have S0:(((i % 64:Nat):Int)<0)=False:=eq_false (by omega)
 have S1:=w_shr b.ws[i / 64] (s:=((i % 64:Nat):Int)) (n:=i % 64) rfl
 have S2:=w_and (b.ws[i / 64] >>> (i % 64)) 1
 have B1:((1:Wd).toNat:Int)=1:=rfl
 have S3:=w_beq (b.ws[i / 64] >>> (i % 64) &&& 1) 1
 rw [B1] at S2 S3
 have S4:decide (b.ws[i / 64] >>> (i % 64) &&& 1=(1:Wd))=bit b.ws i:=by rw [bit_of h,← w_bit];rfl
 rw [S4] at S3
 rw [cal_code env103 rfl];simp only [fn103];simp only [start,z_map_cons,z_map_nil,z_len_cons,z_len_nil,z_repl_zero,z_repl_succ,z_cons_app,z_nil_app,Nat.reduceAdd,Nat.reduceSub]
 simp only [z64,T1,T2,W1,W2,S0,S1,S2,S3,eW,index_nat h,List.getElem?_map,List.getElem?_eq_getElem h,memAll,vAll,reduceCtorEq,Nat.reduceEqDiff,Nat.reduceAdd,Nat.reduceLT,Nat.reduceLeDiff,Nat.beq]
def anyFrom (ws:List Wd) (k:Nat):Bool:=(List.range (64 * ws.length)).any fun i=>decide (k≤i)&&bit ws i
theorem anyFrom_iff {ws:List Wd} {k:Nat}:anyFrom ws k=true ↔ ∃ i,k≤i∧i<64 * ws.length∧bit ws i=true:=by
 simp only [anyFrom,List.any_eq_true,List.mem_range,Bool.and_eq_true,decide_eq_true_eq]
 exact ⟨fun ⟨i,h1,h2,h3⟩=>⟨i,h2,h1,h3⟩,fun ⟨i,h1,h2,h3⟩=>⟨i,h2,h1,h3⟩⟩
theorem anyFrom_succ {ws:List Wd} {k:Nat} (h:bit ws k=false):anyFrom ws k=anyFrom ws (k+1):=by
 rw [Bool.eq_iff_iff,anyFrom_iff,anyFrom_iff]
 constructor
 ·rintro ⟨j,h1,h2,h3⟩
  have:j≠k:=fun e=>by rw [e,h] at h3;cases h3
  exact ⟨j,by omega,h2,h3⟩
 ·rintro ⟨j,h1,h2,h3⟩
  exact ⟨j,by omega,h2,h3⟩
theorem loop102 {b:Bm} {s:Nat} (hs:b.size=(s:Int)) (hl:b.ws.length≤64) (hsl:s≤64 * b.ws.length) {st:St} (h:st.head [1,3] st.boxes.length=some ⟨[.any,.pbox 0 0,.any,.pv (.int .i64 ((s+(0:Nat):Nat):Int)),.any,.any,.any,.any,.any,.any,.any,.any,.any,.any,.any,.any,.any,.any,.any,.any,.any,.any,.any,.any,.any,.any,.any,.any,.any,.any,.any,.any,.any,.any,.any],[⟨false,[.pv (.int .i64 b.size),.pv (.list 1 (b.ws.map eW))]⟩],[],none⟩) :
  den env fn102_l1 st=if anyFrom b.ws (s+(0:Nat)) then some (.ret,⟨[.any,.any,.pv (.int .i64 3),.any,.any,.any,.any,.any,.any,.any,.any,.any,.any,.any,.any,.any,.any,.any,.any,.any,.any,.any,.any,.any,.any,.any,.any,.any,.any,.any,.any,.any,.any,.any,.any],[⟨false,[.pv (.int .i64 b.size),.pv (.list 1 (b.ws.map eW))]⟩],[],none⟩) else some (.normal,⟨[.any,.any,.any,.any,.any,.any,.any,.any,.any,.any,.any,.any,.any,.any,.any,.any,.any,.any,.any,.any,.any,.any,.any,.any,.any,.any,.any,.any,.any,.any,.any,.any,.any,.any,.any],[⟨false,[.pv (.int .i64 b.size),.pv (.list 1 (b.ws.map eW))]⟩],[],none⟩):=by
 unfold fn102_l1
 refine clean_up (env:=env) (64 * b.ws.length - s) (fun i=>⟨[.any,.pbox 0 0,.any,.pv (.int .i64 ((s+i:Nat):Int)),.any,.any,.any,.any,.any,.any,.any,.any,.any,.any,.any,.any,.any,.any,.any,.any,.any,.any,.any,.any,.any,.any,.any,.any,.any,.any,.any,.any,.any,.any,.any],[⟨false,[.pv (.int .i64 b.size),.pv (.list 1 (b.ws.map eW))]⟩],[],none⟩) (fun i=>if anyFrom b.ws (s+i) then some (.ret,⟨[.any,.any,.pv (.int .i64 3),.any,.any,.any,.any,.any,.any,.any,.any,.any,.any,.any,.any,.any,.any,.any,.any,.any,.any,.any,.any,.any,.any,.any,.any,.any,.any,.any,.any,.any,.any,.any,.any],[⟨false,[.pv (.int .i64 b.size),.pv (.list 1 (b.ws.map eW))]⟩],[],none⟩) else some (.normal,⟨[.any,.any,.any,.any,.any,.any,.any,.any,.any,.any,.any,.any,.any,.any,.any,.any,.any,.any,.any,.any,.any,.any,.any,.any,.any,.any,.any,.any,.any,.any,.any,.any,.any,.any,.any],[⟨false,[.pv (.int .i64 b.size),.pv (.list 1 (b.ws.map eW))]⟩],[],none⟩)) h (fun _=>rfl) (fun _=>rfl) ?_ ?_
 ·intro i rb hi ih
  have hi1:IntKind.i64.wrap (((s+i:Nat):Int)+1)=((s+(i+1):Nat):Int):=by rw [i64_fits (by omega)];omega
  have W1:IntKind.i64.wrap (64 * (b.ws.length:Int))=64 * (b.ws.length:Int):=i64_fits (by omega)
  have F1:(((s+i:Nat):Int)<64 * (b.ws.length:Int))=True:=eq_true (by omega)
  have e1:=cal103 (b:=b) (i:=s+i) (by omega) (by omega)
  have P2:part [PV.int .i64 b.size,.list 1 (b.ws.map fun w=>PV.int .u64 (w.toNat:Int))] 0 (some 2)=some (.agg [PV.int .i64 b.size,.list 1 (b.ws.map fun w=>PV.int .u64 (w.toNat:Int))]):=rfl
  unfold eBm at e1
  unfold eW at e1 ih ⊢
  cases c:bit b.ws (s+i) with
  |true =>
   rw [c] at e1
   have h:anyFrom b.ws (s+i)=true:=anyFrom_iff.2 ⟨s+i,by omega,by omega,c⟩
   rw [if_pos h]
   simp only [fn102_b0,F1,W1,e1,P2,List.length_map,memAll,vAll,reduceCtorEq,Nat.reduceEqDiff,Nat.reduceAdd,Nat.reduceLT,Nat.reduceLeDiff,Nat.beq]
   rfl
  |false =>
   rw [c] at e1
   have h:=anyFrom_succ c
   simp only [fn102_b0,F1,W1,e1,P2,List.length_map,memAll,vAll,reduceCtorEq,Nat.reduceEqDiff,Nat.reduceAdd,Nat.reduceLT,Nat.reduceLeDiff,Nat.beq]
   rw [ih _ (by simp only [hi1];rfl),h]
   rfl
 ·intro rb
  have W1:IntKind.i64.wrap (64 * (b.ws.length:Int))=64 * (b.ws.length:Int):=i64_fits (by omega)
  have F1:(((s+(64 * b.ws.length - s):Nat):Int)<64 * (b.ws.length:Int))=False:=eq_false (by omega)
  rw [if_neg (by rw [anyFrom_iff];rintro ⟨j,h1,h2,_⟩;omega)]
  simp only [fn102_b0,F1,W1,List.length_map,memAll,vAll,reduceCtorEq,Nat.reduceEqDiff,Nat.reduceAdd,Nat.reduceLT,Nat.reduceLeDiff,Nat.beq]
  rfl
end Go.Proofs.YtioijcfcehhmdaaGreatDoor.V

namespace Go.Proofs.YtioijcfcehhmdaaGreatDoor.V
theorem cal102 {b:Bm}:cal env 102 [eBm b]=some [(.int .i64 (bmE b),false)]:=by
 unfold eBm
 have P:∀ x y:PV,part [x,y] 0 (some 2)=some (.agg [x,y]):=fun _ _=>rfl
 by_cases c0:b.size<0
 ·have hE:bmE b=3:=bmE_no (by rw [Bool.eq_false_iff];intro h;have:=okB_size h;omega)
  rw [hE]
  rw [cal_code env102 rfl];simp only [fn102];simp only [start,z_map_cons,z_map_nil,z_len_cons,z_len_nil,z_repl_zero,z_repl_succ,z_cons_app,z_nil_app,Nat.reduceAdd,Nat.reduceSub]
  simp only [c0,P,memAll,vAll,reduceCtorEq,Nat.reduceEqDiff,Nat.reduceAdd,Nat.reduceLT,Nat.reduceLeDiff,Nat.beq]
 ·by_cases c1:b.size > 4096
  ·have hE:bmE b=3:=bmE_no (by rw [Bool.eq_false_iff];intro h;have:=okB_size h;omega)
   rw [hE]
   have F1:(b.size > 4096)=True:=eq_true c1
   rw [cal_code env102 rfl];simp only [fn102];simp only [start,z_map_cons,z_map_nil,z_len_cons,z_len_nil,z_repl_zero,z_repl_succ,z_cons_app,z_nil_app,Nat.reduceAdd,Nat.reduceSub]
   simp only [c0,F1,P,memAll,vAll,reduceCtorEq,Nat.reduceEqDiff,Nat.reduceAdd,Nat.reduceLT,Nat.reduceLeDiff,Nat.beq]
  ·have F1:(b.size > 4096)=False:=eq_false c1
   have W0:IntKind.i64.wrap (b.size+63)=b.size+63:=i64_fits (by omega)
   have W3:IntKind.i64.wrap (wdsN b.size)=wdsN b.size:=i64_fits (by unfold wdsN;omega)
   have T:=q63 (n:=b.size) (by omega)
   by_cases c2:(b.ws.length:Int)=wdsN b.size
   ·have F2:((b.ws.length:Int) != wdsN b.size)=false:=by simp [c2]
    have hw:=c2
    unfold wdsN at hw
    have hs:b.size=((b.size.toNat:Nat):Int):=by omega
    rw [cal_code env102 rfl];simp only [fn102];simp only [start,z_map_cons,z_map_nil,z_len_cons,z_len_nil,z_repl_zero,z_repl_succ,z_cons_app,z_nil_app,Nat.reduceAdd,Nat.reduceSub]
    simp only [c0,F1,F2,W0,W3,T,z64,P,List.length_map,memAll,vAll,reduceCtorEq,Nat.reduceEqDiff,Nat.reduceAdd,Nat.reduceLT,Nat.reduceLeDiff,Nat.beq]
    rw [loop102 (b:=b) (s:=b.size.toNat) hs (by omega) (by omega)]
    rotate_left
    ·rw [Nat.add_zero,← hs];rfl
    ·cases c:okB b with
     |true =>
      rw [bmE_ok c,if_neg]
      ·simp only [c0,F1,F2,W0,W3,T,z64,P,List.length_map,memAll,vAll,reduceCtorEq,Nat.reduceEqDiff,Nat.reduceAdd,Nat.reduceLT,Nat.reduceLeDiff,Nat.beq]
      ·rw [anyFrom_iff]
       rintro ⟨i,h1,h2,h3⟩
       rw [(okB_iff.1 c).2 i (by omega)] at h3
       cases h3
     |false =>
      rw [bmE_no c,if_pos]
      ·simp only [c0,F1,F2,W0,W3,T,z64,P,List.length_map,memAll,vAll,reduceCtorEq,Nat.reduceEqDiff,Nat.reduceAdd,Nat.reduceLT,Nat.reduceLeDiff,Nat.beq]
      ·rw [anyFrom_iff]
       apply Classical.byContradiction
       intro hn
       have:okB b=true:=okB_iff.2 ⟨⟨by omega,by omega,c2⟩,fun i hi=>by
        by_cases hl:i<64 * b.ws.length
        ·cases hb:bit b.ws i with
         |false=>rfl
         |true=>exact absurd ⟨i,by omega,hl,hb⟩ hn
        ·exact bit_out (by omega)⟩
       rw [this] at c;cases c
   ·have F2:((b.ws.length:Int) != wdsN b.size)=true:=by simp [c2]
    have hE:bmE b=3:=bmE_no (by rw [Bool.eq_false_iff];intro h;exact c2 (okB_iff.1 h).1.2.2)
    rw [hE]
    rw [cal_code env102 rfl];simp only [fn102];simp only [start,z_map_cons,z_map_nil,z_len_cons,z_len_nil,z_repl_zero,z_repl_succ,z_cons_app,z_nil_app,Nat.reduceAdd,Nat.reduceSub]
    simp only [c0,F1,F2,W0,W3,T,z64,P,List.length_map,memAll,vAll,reduceCtorEq,Nat.reduceEqDiff,Nat.reduceAdd,Nat.reduceLT,Nat.reduceLeDiff,Nat.beq]
end Go.Proofs.YtioijcfcehhmdaaGreatDoor.V

namespace Go.Proofs.YtioijcfcehhmdaaGreatDoor.V
theorem cal100 {l:List Spn} (hl:l.length≤lim):cal env 100 [.list 3 (l.map eSpn)]=some [(.bool (linOk l),false)]:=by
 rw [cal_code env100 rfl];simp only [fn100];simp only [start,z_map_cons,z_map_nil,z_len_cons,z_len_nil,z_repl_zero,z_repl_succ,z_cons_app,z_nil_app,Nat.reduceAdd,Nat.reduceSub]
 simp only [ memAll,vAll,reduceCtorEq,Nat.reduceEqDiff,Nat.reduceAdd,Nat.reduceLT,Nat.reduceLeDiff,Nat.beq]
 rw [loop100 hl]
 rotate_left
 ·rfl
 ·have:=linRes_go l z0
  cases h:linRes z0 l with
  |mk t p =>
   rw [h] at this
   cases t with
   |true=>simp only [linOk,← this,memAll,vAll,reduceCtorEq,Nat.reduceEqDiff,Nat.reduceAdd,Nat.reduceLT,Nat.reduceLeDiff,Nat.beq]
   |false=>simp only [linOk,← this,memAll,vAll,reduceCtorEq,Nat.reduceEqDiff,Nat.reduceAdd,Nat.reduceLT,Nat.reduceLeDiff,Nat.beq]
end Go.Proofs.YtioijcfcehhmdaaGreatDoor.V

namespace Go.Proofs.YtioijcfcehhmdaaGreatDoor.V
structure Pt where
 site:Int
 lin:List Spn
 dirty:List Bm
 img:Img
def ePt (p:Pt):PV:=.agg [.int .i64 p.site,.list 3 (p.lin.map eSpn),.list 2 (p.dirty.map eBm),.list 1 (p.img.map eSecs)]
def bPt (p:Pt):List BV:=[.pv (.int .i64 p.site),.pv (.list 3 (p.lin.map eSpn)),.pv (.list 2 (p.dirty.map eBm)),.pv (.list 1 (p.img.map eSecs))]
theorem bPt_eq (p:Pt):bPt p=[.pv (.int .i64 p.site),.pv (.list 3 (p.lin.map eSpn)),.pv (.list 2 (p.dirty.map eBm)),.pv (.list 1 (p.img.map eSecs))]:=rfl
theorem ePt_eq (p:Pt):ePt p=.agg [.int .i64 p.site,.list 3 (p.lin.map eSpn),.list 2 (p.dirty.map eBm),.list 1 (p.img.map eSecs)]:=rfl
def fitP (p:Pt):Prop:=p.lin.length≤lim∧p.dirty.length≤lim∧p.img.length≤lim
def dirE:List Bm→Img→Int
 |b :: bs,v :: vs=>if bmE b≠0 then bmE b else if b.size≠(v.length:Int) then 22 else dirE bs vs
 |_,_=>0
def chkP (p:Pt):Int :=
 if p.site<0∨1073741824<p.site then 2
 else if linOk p.lin=false then 3
 else if imCheck p.img≠0 then imCheck p.img
 else if p.dirty.length≠p.img.length then 6
 else dirE p.dirty p.img
def resD (n:Nat) (e:Int) (bx:List Box):Option (Ex × St):=if e=0 then some (.normal,⟨sl n [(2,.any)],bx,[],none⟩) else some (.ret,⟨sl n [(2,.pv (.int .i64 e))],bx,[],none⟩)
theorem dirE_step {bs:List Bm} {vs:Img} {i:Nat} (h1:i<bs.length) (h2:i<vs.length):dirE (bs.drop i) (vs.drop i)=if bmE bs[i]≠0 then bmE bs[i] else if bs[i].size≠(vs[i].length:Int) then 22 else dirE (bs.drop (i+1)) (vs.drop (i+1)):=by
 rw [List.drop_eq_getElem_cons h1,List.drop_eq_getElem_cons h2,dirE]
theorem loop55 {p:Pt} (hl:p.dirty.length≤lim) (hq:p.dirty.length=p.img.length) {st:St} (h:st.head [1,4] st.boxes.length=some ⟨sl 60 [(1,.pbox 0 0),(4,.pv (.int .i64 (0:Nat)))],[⟨false,bPt p⟩],[],none⟩) :
  den env fn55_l1 st=resD 60 (dirE (p.dirty.drop ((0:Nat))) (p.img.drop ((0:Nat)))) [⟨false,bPt p⟩]:=by
 unfold fn55_l1
 refine clean_up (env:=env) (nb:=1) (p.dirty.length) (fun i=>⟨sl 60 [(1,.pbox 0 0),(4,.pv (.int .i64 i))],[⟨false,bPt p⟩],[],none⟩) (fun i=>resD 60 (dirE (p.dirty.drop (i)) (p.img.drop (i))) [⟨false,bPt p⟩]) h (fun _=>rfl) (fun _=>by simp only [slAll,slsAll,Nat.reduceMul,Nat.reduceBEq,Nat.reduceLT,Nat.reduceLeDiff,Nat.reduceAdd,decide_true,Bool.and_self,Bool.true_and]) ?_ ?_
 ·intro i rb hi ih
  have hi1:=i64_next hi hl
  have hj:i<p.img.length:=by omega
  have F1:((i:Int)<(p.dirty.length:Int))=True:=eq_true (by omega)
  have P2:∀ a b:PV,part [a,b] 0 (some 2)=some (.agg [a,b]):=fun _ _=>rfl
  have eA:∀ b:Bm,eBm b=.agg [.int .i64 b.size,.list 1 (b.ws.map eW)]:=fun _=>rfl
  have eV:∀ v:List Sec,eSecs v=.list 8 (v.map eSec):=fun _=>rfl
  have hx:(p.dirty.map eBm)[i]?=some (eBm p.dirty[i]):=by rw [List.getElem?_map,List.getElem?_eq_getElem hi];rfl
  have hy:(p.img.map eSecs)[i]?=some (eSecs p.img[i]):=by rw [List.getElem?_map,List.getElem?_eq_getElem hj];rfl
  have e1:=cal102 (b:=p.dirty[i])
  have hD:=dirE_step hi hj
  rw [eA] at hx e1
  rw [eV] at hy
  by_cases c1:bmE p.dirty[i]=0
  ·have G1:((0:Int) != 0)=false:=rfl
   rw [c1] at e1
   rw [if_neg (show ¬ bmE p.dirty[i]≠0 from fun h=>h c1)] at hD
   by_cases c2:p.dirty[i].size=(p.img[i].length:Int)
   ·have G2:(p.dirty[i].size != (p.img[i].length:Int))=false:=by simpa using c2
    rw [if_neg (show ¬ p.dirty[i].size≠(p.img[i].length:Int) from fun h=>h c2)] at hD
    rw [hD]
    simp only [fn55_b0,F1,hx,hy,e1,P2,G1,G2,bPt_eq,index_nat hi,index_nat hj,List.length_map,slAll,slsAll,Nat.reduceMul,Nat.reduceBEq,Nat.reduceLT,Nat.reduceLeDiff,memAll,vAll,reduceCtorEq,Nat.reduceEqDiff,Nat.reduceAdd,Nat.reduceLT,Nat.reduceLeDiff,Nat.beq]
    rw [ih _ (by simp only [hi1,bPt_eq,slAll,slsAll,Nat.reduceMul,Nat.reduceBEq,Nat.reduceLT,Nat.reduceLeDiff,memAll,vAll,reduceCtorEq,Nat.reduceEqDiff,Nat.reduceAdd,Nat.reduceLT,Nat.reduceLeDiff,Nat.beq]<;>rfl)]
    all_goals rfl
   ·have G2:(p.dirty[i].size != (p.img[i].length:Int))=true:=by simpa using c2
    rw [if_pos c2] at hD
    rw [hD]
    unfold resD
    rw [if_neg (by decide)]
    simp only [fn55_b0,F1,hx,hy,e1,P2,G1,G2,bPt_eq,index_nat hi,index_nat hj,List.length_map,slAll,slsAll,Nat.reduceMul,Nat.reduceBEq,Nat.reduceLT,Nat.reduceLeDiff,memAll,vAll,reduceCtorEq,Nat.reduceEqDiff,Nat.reduceAdd,Nat.reduceLT,Nat.reduceLeDiff,Nat.beq]
  ·have G1:(bmE p.dirty[i] != 0)=true:=by simpa using c1
   rw [if_pos c1] at hD
   rw [hD]
   unfold resD
   rw [if_neg c1]
   simp only [fn55_b0,F1,hx,hy,e1,P2,G1,bPt_eq,index_nat hi,index_nat hj,List.length_map,slAll,slsAll,Nat.reduceMul,Nat.reduceBEq,Nat.reduceLT,Nat.reduceLeDiff,memAll,vAll,reduceCtorEq,Nat.reduceEqDiff,Nat.reduceAdd,Nat.reduceLT,Nat.reduceLeDiff,Nat.beq]
 ·intro rb
  rw [List.drop_length,hq,List.drop_length]
  unfold dirE resD
  rw [if_pos rfl]
  simp only [fn55_b0,Int.lt_irrefl,bPt_eq,hq,List.length_map,slAll,slsAll,Nat.reduceMul,Nat.reduceBEq,Nat.reduceLT,Nat.reduceLeDiff,memAll,vAll,reduceCtorEq,Nat.reduceEqDiff,Nat.reduceAdd,Nat.reduceLT,Nat.reduceLeDiff,Nat.beq]
theorem cal55 {p:Pt} (h:fitP p):cal env 55 [ePt p]=some [(.int .i64 (chkP p),false)]:=by
 obtain ⟨h1,h2,h3⟩:=h
 have e1:=cal100 (l:=p.lin) h1
 have e2:=cal101 (im:=p.img) h3
 have Z:((0:Int) != 0)=false:=rfl
 unfold chkP
 rw [ePt_eq]
 by_cases c1:p.site<0
 ·have G1:(p.site<0)=True:=eq_true c1
  rw [if_pos (.inl c1)]
  rw [cal_code env55 rfl];simp only [fn55,slAll,Nat.reduceBEq,Nat.reduceLeDiff,Nat.reduceAdd,List.length_cons,List.length_nil]
  simp only [G1,slAll,slsAll,Nat.reduceMul,Nat.reduceBEq,Nat.reduceLT,Nat.reduceLeDiff,memAll,vAll,reduceCtorEq,Nat.reduceEqDiff,Nat.reduceAdd,Nat.reduceLT,Nat.reduceLeDiff,Nat.beq]
 ·have G1:(p.site<0)=False:=eq_false c1
  by_cases c2:p.site > 1073741824
  ·have G2:(p.site > 1073741824)=True:=eq_true c2
   rw [if_pos (.inr c2)]
   rw [cal_code env55 rfl];simp only [fn55,slAll,Nat.reduceBEq,Nat.reduceLeDiff,Nat.reduceAdd,List.length_cons,List.length_nil]
   simp only [G1,G2,slAll,slsAll,Nat.reduceMul,Nat.reduceBEq,Nat.reduceLT,Nat.reduceLeDiff,memAll,vAll,reduceCtorEq,Nat.reduceEqDiff,Nat.reduceAdd,Nat.reduceLT,Nat.reduceLeDiff,Nat.beq]
  ·have G2:(p.site > 1073741824)=False:=eq_false c2
   rw [if_neg (by omega)]
   cases c3:linOk p.lin with
   |false =>
    rw [c3] at e1
    rw [if_pos rfl]
    rw [cal_code env55 rfl];simp only [fn55,slAll,Nat.reduceBEq,Nat.reduceLeDiff,Nat.reduceAdd,List.length_cons,List.length_nil]
    simp only [G1,G2,e1,slAll,slsAll,Nat.reduceMul,Nat.reduceBEq,Nat.reduceLT,Nat.reduceLeDiff,memAll,vAll,reduceCtorEq,Nat.reduceEqDiff,Nat.reduceAdd,Nat.reduceLT,Nat.reduceLeDiff,Nat.beq]
   |true =>
    rw [c3] at e1
    rw [if_neg (by decide)]
    by_cases c4:imCheck p.img=0
    ·rw [c4] at e2
     rw [if_neg (by rw [c4];decide)]
     by_cases c5:p.dirty.length=p.img.length
     ·have G5:((p.dirty.length:Int) != (p.img.length:Int))=false:=by simp [c5]
      rw [if_neg (by simpa using c5)]
      rw [cal_code env55 rfl];simp only [fn55,slAll,Nat.reduceBEq,Nat.reduceLeDiff,Nat.reduceAdd,List.length_cons,List.length_nil]
      simp only [G1,G2,e1,e2,Z,G5,List.length_map,slAll,slsAll,Nat.reduceMul,Nat.reduceBEq,Nat.reduceLT,Nat.reduceLeDiff,memAll,vAll,reduceCtorEq,Nat.reduceEqDiff,Nat.reduceAdd,Nat.reduceLT,Nat.reduceLeDiff,Nat.beq]
      rw [loop55 (p:=p) h2 c5]
      rotate_left
      ·rw [bPt_eq]
       simp only [slAll,slsAll,Nat.reduceMul,Nat.reduceBEq,Nat.reduceLT,Nat.reduceLeDiff,Nat.reduceAdd,decide_true,Bool.and_self,Bool.true_and]<;>rfl
      ·rw [List.drop_zero,List.drop_zero]
       unfold resD
       split
       ·rename_i c6
        rw [c6]
        simp only [G1,G2,e1,e2,Z,G5,List.length_map,slAll,slsAll,Nat.reduceMul,Nat.reduceBEq,Nat.reduceLT,Nat.reduceLeDiff,memAll,vAll,reduceCtorEq,Nat.reduceEqDiff,Nat.reduceAdd,Nat.reduceLT,Nat.reduceLeDiff,Nat.beq]
       ·simp only [G1,G2,e1,e2,Z,G5,List.length_map,slAll,slsAll,Nat.reduceMul,Nat.reduceBEq,Nat.reduceLT,Nat.reduceLeDiff,memAll,vAll,reduceCtorEq,Nat.reduceEqDiff,Nat.reduceAdd,Nat.reduceLT,Nat.reduceLeDiff,Nat.beq]
     ·have G5:((p.dirty.length:Int) != (p.img.length:Int))=true:=by simp;omega
      rw [if_pos c5]
      rw [cal_code env55 rfl];simp only [fn55,slAll,Nat.reduceBEq,Nat.reduceLeDiff,Nat.reduceAdd,List.length_cons,List.length_nil]
      simp only [G1,G2,e1,e2,Z,G5,List.length_map,slAll,slsAll,Nat.reduceMul,Nat.reduceBEq,Nat.reduceLT,Nat.reduceLeDiff,memAll,vAll,reduceCtorEq,Nat.reduceEqDiff,Nat.reduceAdd,Nat.reduceLT,Nat.reduceLeDiff,Nat.beq]
    ·have G4:(imCheck p.img != 0)=true:=by simpa using c4
     rw [if_pos c4]
     rw [cal_code env55 rfl];simp only [fn55,slAll,Nat.reduceBEq,Nat.reduceLeDiff,Nat.reduceAdd,List.length_cons,List.length_nil]
     simp only [G1,G2,e1,e2,G4,List.length_map,slAll,slsAll,Nat.reduceMul,Nat.reduceBEq,Nat.reduceLT,Nat.reduceLeDiff,memAll,vAll,reduceCtorEq,Nat.reduceEqDiff,Nat.reduceAdd,Nat.reduceLT,Nat.reduceLeDiff,Nat.beq]
theorem loop50 {p:Pt} (hl:p.dirty.length≤lim) (hq:p.dirty.length=p.img.length) {st:St} (h:st.head [1,31,32,33] st.boxes.length=some ⟨sl 53 [(1,.pbox 0 0),(31,.pv (.list 2 (p.dirty.map eBm))),(32,.pv (.int .i64 p.dirty.length)),(33,.pv (.int .i64 (0:Nat)))],[⟨false,bPt p⟩],[],none⟩) :
  den env fn50_l1 st=resD 53 (dirE (p.dirty.drop ((0:Nat))) (p.img.drop ((0:Nat)))) [⟨false,bPt p⟩]:=by
 unfold fn50_l1
 refine clean_up (env:=env) (nb:=1) (p.dirty.length) (fun i=>⟨sl 53 [(1,.pbox 0 0),(31,.pv (.list 2 (p.dirty.map eBm))),(32,.pv (.int .i64 p.dirty.length)),(33,.pv (.int .i64 i))],[⟨false,bPt p⟩],[],none⟩) (fun i=>resD 53 (dirE (p.dirty.drop (i)) (p.img.drop (i))) [⟨false,bPt p⟩]) h (fun _=>rfl) (fun _=>by simp only [slAll,slsAll,Nat.reduceMul,Nat.reduceBEq,Nat.reduceLT,Nat.reduceLeDiff,Nat.reduceAdd,decide_true,Bool.and_self,Bool.true_and]) ?_ ?_
 ·intro i rb hi ih
  have hi1:=i64_next hi hl
  have hj:i<p.img.length:=by omega
  have F1:((i:Int)<(p.dirty.length:Int))=True:=eq_true (by omega)
  have P2:∀ a b:PV,part [a,b] 0 (some 2)=some (.agg [a,b]):=fun _ _=>rfl
  have eA:∀ b:Bm,eBm b=.agg [.int .i64 b.size,.list 1 (b.ws.map eW)]:=fun _=>rfl
  have eV:∀ v:List Sec,eSecs v=.list 8 (v.map eSec):=fun _=>rfl
  have hx:(p.dirty.map eBm)[i]?=some (eBm p.dirty[i]):=by rw [List.getElem?_map,List.getElem?_eq_getElem hi];rfl
  have hy:(p.img.map eSecs)[i]?=some (eSecs p.img[i]):=by rw [List.getElem?_map,List.getElem?_eq_getElem hj];rfl
  have e1:=cal90 (b:=p.dirty[i])
  have hD:=dirE_step hi hj
  rw [eA] at hx e1
  rw [eV] at hy
  by_cases c1:bmE p.dirty[i]=0
  ·have G1:((0:Int) != 0)=false:=rfl
   rw [c1] at e1
   rw [if_neg (show ¬ bmE p.dirty[i]≠0 from fun h=>h c1)] at hD
   by_cases c2:p.dirty[i].size=(p.img[i].length:Int)
   ·have G2:(p.dirty[i].size != (p.img[i].length:Int))=false:=by simpa using c2
    rw [if_neg (show ¬ p.dirty[i].size≠(p.img[i].length:Int) from fun h=>h c2)] at hD
    rw [hD]
    simp only [fn50_b0,F1,hx,hy,e1,P2,G1,G2,bPt_eq,index_nat hi,index_nat hj,List.length_map,slAll,slsAll,Nat.reduceMul,Nat.reduceBEq,Nat.reduceLT,Nat.reduceLeDiff,memAll,vAll,reduceCtorEq,Nat.reduceEqDiff,Nat.reduceAdd,Nat.reduceLT,Nat.reduceLeDiff,Nat.beq]
    rw [ih _ (by simp only [hi1,bPt_eq,slAll,slsAll,Nat.reduceMul,Nat.reduceBEq,Nat.reduceLT,Nat.reduceLeDiff,memAll,vAll,reduceCtorEq,Nat.reduceEqDiff,Nat.reduceAdd,Nat.reduceLT,Nat.reduceLeDiff,Nat.beq]<;>rfl)]
    all_goals rfl
   ·have G2:(p.dirty[i].size != (p.img[i].length:Int))=true:=by simpa using c2
    rw [if_pos c2] at hD
    rw [hD]
    unfold resD
    rw [if_neg (by decide)]
    simp only [fn50_b0,F1,hx,hy,e1,P2,G1,G2,bPt_eq,index_nat hi,index_nat hj,List.length_map,slAll,slsAll,Nat.reduceMul,Nat.reduceBEq,Nat.reduceLT,Nat.reduceLeDiff,memAll,vAll,reduceCtorEq,Nat.reduceEqDiff,Nat.reduceAdd,Nat.reduceLT,Nat.reduceLeDiff,Nat.beq]
  ·have G1:(bmE p.dirty[i] != 0)=true:=by simpa using c1
   rw [if_pos c1] at hD
   rw [hD]
   unfold resD
   rw [if_neg c1]
   simp only [fn50_b0,F1,hx,hy,e1,P2,G1,bPt_eq,index_nat hi,index_nat hj,List.length_map,slAll,slsAll,Nat.reduceMul,Nat.reduceBEq,Nat.reduceLT,Nat.reduceLeDiff,memAll,vAll,reduceCtorEq,Nat.reduceEqDiff,Nat.reduceAdd,Nat.reduceLT,Nat.reduceLeDiff,Nat.beq]
 ·intro rb
  rw [List.drop_length,hq,List.drop_length]
  unfold dirE resD
  rw [if_pos rfl]
  simp only [fn50_b0,Int.lt_irrefl,bPt_eq,hq,List.length_map,slAll,slsAll,Nat.reduceMul,Nat.reduceBEq,Nat.reduceLT,Nat.reduceLeDiff,memAll,vAll,reduceCtorEq,Nat.reduceEqDiff,Nat.reduceAdd,Nat.reduceLT,Nat.reduceLeDiff,Nat.beq]
theorem cal50 {p:Pt} (h:fitP p):cal env 50 [ePt p]=some [(.int .i64 (chkP p),false)]:=by
 obtain ⟨h1,h2,h3⟩:=h
 have e0:=cal92 (n:=p.site) (low:=0)
 have e1:=cal93 (l:=p.lin) h1
 have e2:=cal85 (im:=p.img) h3
 have Z:((0:Int) != 0)=false:=rfl
 unfold chkP
 rw [ePt_eq]
 by_cases c1:p.site<0∨1073741824<p.site
 ·have G1:(decide (p.site ≥ 0)&&decide (p.site≤1073741824))=false:=by simp;omega
  rw [G1] at e0
  rw [if_pos c1]
  rw [cal_code env50 rfl];simp only [fn50,slAll,Nat.reduceBEq,Nat.reduceLeDiff,Nat.reduceAdd,List.length_cons,List.length_nil]
  simp only [e0,slAll,slsAll,Nat.reduceMul,Nat.reduceBEq,Nat.reduceLT,Nat.reduceLeDiff,memAll,vAll,reduceCtorEq,Nat.reduceEqDiff,Nat.reduceAdd,Nat.reduceLT,Nat.reduceLeDiff,Nat.beq]
 ·have G1:(decide (p.site ≥ 0)&&decide (p.site≤1073741824))=true:=by simp;omega
  rw [G1] at e0
  rw [if_neg c1]
  cases c3:linOk p.lin with
  |false =>
   rw [c3] at e1
   rw [if_pos rfl]
   rw [cal_code env50 rfl];simp only [fn50,slAll,Nat.reduceBEq,Nat.reduceLeDiff,Nat.reduceAdd,List.length_cons,List.length_nil]
   simp only [e0,e1,slAll,slsAll,Nat.reduceMul,Nat.reduceBEq,Nat.reduceLT,Nat.reduceLeDiff,memAll,vAll,reduceCtorEq,Nat.reduceEqDiff,Nat.reduceAdd,Nat.reduceLT,Nat.reduceLeDiff,Nat.beq]
  |true =>
   rw [c3] at e1
   rw [if_neg (by decide)]
   by_cases c4:imCheck p.img=0
   ·rw [c4] at e2
    rw [if_neg (by rw [c4];decide)]
    by_cases c5:p.dirty.length=p.img.length
    ·have G5:((p.dirty.length:Int) != (p.img.length:Int))=false:=by simp [c5]
     rw [if_neg (by simpa using c5)]
     rw [cal_code env50 rfl];simp only [fn50,slAll,Nat.reduceBEq,Nat.reduceLeDiff,Nat.reduceAdd,List.length_cons,List.length_nil]
     simp only [e0,e1,e2,Z,G5,List.length_map,slAll,slsAll,Nat.reduceMul,Nat.reduceBEq,Nat.reduceLT,Nat.reduceLeDiff,memAll,vAll,reduceCtorEq,Nat.reduceEqDiff,Nat.reduceAdd,Nat.reduceLT,Nat.reduceLeDiff,Nat.beq]
     rw [loop50 (p:=p) h2 c5]
     rotate_left
     ·rw [bPt_eq]
      simp only [slAll,slsAll,Nat.reduceMul,Nat.reduceBEq,Nat.reduceLT,Nat.reduceLeDiff,Nat.reduceAdd,decide_true,Bool.and_self,Bool.true_and]<;>rfl
     ·rw [List.drop_zero,List.drop_zero]
      unfold resD
      split
      ·rename_i c6
       rw [c6]
       simp only [e0,e1,e2,Z,G5,List.length_map,slAll,slsAll,Nat.reduceMul,Nat.reduceBEq,Nat.reduceLT,Nat.reduceLeDiff,memAll,vAll,reduceCtorEq,Nat.reduceEqDiff,Nat.reduceAdd,Nat.reduceLT,Nat.reduceLeDiff,Nat.beq]
      ·simp only [e0,e1,e2,Z,G5,List.length_map,slAll,slsAll,Nat.reduceMul,Nat.reduceBEq,Nat.reduceLT,Nat.reduceLeDiff,memAll,vAll,reduceCtorEq,Nat.reduceEqDiff,Nat.reduceAdd,Nat.reduceLT,Nat.reduceLeDiff,Nat.beq]
    ·have G5:((p.dirty.length:Int) != (p.img.length:Int))=true:=by simp;omega
     rw [if_pos c5]
     rw [cal_code env50 rfl];simp only [fn50,slAll,Nat.reduceBEq,Nat.reduceLeDiff,Nat.reduceAdd,List.length_cons,List.length_nil]
     simp only [e0,e1,e2,Z,G5,List.length_map,slAll,slsAll,Nat.reduceMul,Nat.reduceBEq,Nat.reduceLT,Nat.reduceLeDiff,memAll,vAll,reduceCtorEq,Nat.reduceEqDiff,Nat.reduceAdd,Nat.reduceLT,Nat.reduceLeDiff,Nat.beq]
   ·have G4:(imCheck p.img != 0)=true:=by simpa using c4
    rw [if_pos c4]
    rw [cal_code env50 rfl];simp only [fn50,slAll,Nat.reduceBEq,Nat.reduceLeDiff,Nat.reduceAdd,List.length_cons,List.length_nil]
    simp only [e0,e1,e2,G4,List.length_map,slAll,slsAll,Nat.reduceMul,Nat.reduceBEq,Nat.reduceLT,Nat.reduceLeDiff,memAll,vAll,reduceCtorEq,Nat.reduceEqDiff,Nat.reduceAdd,Nat.reduceLT,Nat.reduceLeDiff,Nat.beq]
end Go.Proofs.YtioijcfcehhmdaaGreatDoor.V

namespace Go.Proofs.YtioijcfcehhmdaaGreatDoor.V
def frsE:List Pt→Int
 |[]=>0
 |p :: l=>if chkP p=0 then frsE l else chkP p
theorem frsE_step {l:List Pt} {i:Nat} (h:i<l.length):frsE (l.drop i)=if chkP l[i]=0 then frsE (l.drop (i+1)) else chkP l[i]:=by
 rw [List.drop_eq_getElem_cons h,frsE]
end Go.Proofs.YtioijcfcehhmdaaGreatDoor.V

namespace Go.Proofs.YtioijcfcehhmdaaGreatDoor.V
end Go.Proofs.YtioijcfcehhmdaaGreatDoor.V

namespace Go.Proofs.YtioijcfcehhmdaaGreatDoor.V
end Go.Proofs.YtioijcfcehhmdaaGreatDoor.V

namespace Go.Proofs.YtioijcfcehhmdaaGreatDoor.V
end Go.Proofs.YtioijcfcehhmdaaGreatDoor.V

namespace Go.Proofs.YtioijcfcehhmdaaGreatDoor.V
end Go.Proofs.YtioijcfcehhmdaaGreatDoor.V

namespace Go.Proofs.YtioijcfcehhmdaaGreatDoor.V
end Go.Proofs.YtioijcfcehhmdaaGreatDoor.V

namespace Go.Proofs.YtioijcfcehhmdaaGreatDoor.V
end Go.Proofs.YtioijcfcehhmdaaGreatDoor.V

namespace Go.Proofs.YtioijcfcehhmdaaGreatDoor.V
structure Prc where
 kind:Int
 frm:Int
 to:Int
 step:Int
 ep:Int
 cyc:Int
 done:Bool
 failed:Bool
def ePrc (p:Prc):PV:=.agg [.int .i64 p.kind,.int .i64 p.frm,.int .i64 p.to,.int .i64 p.step,.int .i64 p.ep,.int .i64 p.cyc,.bool p.done,.bool p.failed]
theorem ePrc_eq (p:Prc):ePrc p=.agg [.int .i64 p.kind,.int .i64 p.frm,.int .i64 p.to,.int .i64 p.step,.int .i64 p.ep,.int .i64 p.cyc,.bool p.done,.bool p.failed]:=rfl
def siteB (n:Int):Bool:=decide (0≤n)&&decide (n<4)
--+
theorem cal70 {n:Int}:cal env 70 [.int .i64 n]=some [(.bool (siteB n),false)]:=by
 unfold siteB
 by_cases h:0≤n
 ·have F1:(n ≥ 0)=True:=eq_true h
  have F2:(0≤n)=True:=eq_true h
  rw [cal_code env70 rfl];simp only [fn70,slAll,Nat.reduceBEq,Nat.reduceLeDiff,Nat.reduceAdd,List.length_cons,List.length_nil]
  simp only [F1,F2,slAll,slsAll,Nat.reduceMul,Nat.reduceBEq,Nat.reduceLT,Nat.reduceLeDiff,memAll,vAll,reduceCtorEq,Nat.reduceEqDiff,Nat.reduceAdd,Nat.reduceLT,Nat.reduceLeDiff,Nat.beq]
 ·have F1:(n ≥ 0)=False:=eq_false h
  have F2:(0≤n)=False:=eq_false h
  rw [cal_code env70 rfl];simp only [fn70,slAll,Nat.reduceBEq,Nat.reduceLeDiff,Nat.reduceAdd,List.length_cons,List.length_nil]
  simp only [F1,F2,slAll,slsAll,Nat.reduceMul,Nat.reduceBEq,Nat.reduceLT,Nat.reduceLeDiff,memAll,vAll,reduceCtorEq,Nat.reduceEqDiff,Nat.reduceAdd,Nat.reduceLT,Nat.reduceLeDiff,Nat.beq]
--+
theorem cal73 {n:Int}:cal env 73 [.int .i64 n]=some [(.bool (siteB n),false)]:=by
 unfold siteB
 by_cases h:0≤n
 ·have F1:(n ≥ 0)=True:=eq_true h
  have F2:(0≤n)=True:=eq_true h
  rw [cal_code env73 rfl];simp only [fn73,slAll,Nat.reduceBEq,Nat.reduceLeDiff,Nat.reduceAdd,List.length_cons,List.length_nil]
  simp only [F1,F2,slAll,slsAll,Nat.reduceMul,Nat.reduceBEq,Nat.reduceLT,Nat.reduceLeDiff,memAll,vAll,reduceCtorEq,Nat.reduceEqDiff,Nat.reduceAdd,Nat.reduceLT,Nat.reduceLeDiff,Nat.beq]
 ·have F1:(n ≥ 0)=False:=eq_false h
  have F2:(0≤n)=False:=eq_false h
  rw [cal_code env73 rfl];simp only [fn73,slAll,Nat.reduceBEq,Nat.reduceLeDiff,Nat.reduceAdd,List.length_cons,List.length_nil]
  simp only [F1,F2,slAll,slsAll,Nat.reduceMul,Nat.reduceBEq,Nat.reduceLT,Nat.reduceLeDiff,memAll,vAll,reduceCtorEq,Nat.reduceEqDiff,Nat.reduceAdd,Nat.reduceLT,Nat.reduceLeDiff,Nat.beq]
theorem demT51 (n:Int):thrown env 51 [.bool true,.int .i64 n]=some none:=thrown_thr env51
theorem demF51 (n:Int):thrown env 51 [.bool false,.int .i64 n]=some (some (148,n)):=thrown_thr env51
theorem cal51 (n:Int):cal env 51 [.bool true,.int .i64 n]=some []:=cal_thr env51 rfl
theorem okT49:thrown env 49 [.int .i64 0]=some none:=by
 have d1:=demT51
 have d2:=cal51
 have F1:((0:Int)==0)=true:=rfl
 rw [thrown_code env49 rfl rfl];simp only [fn49,slAll,Nat.reduceBEq,Nat.reduceLeDiff,Nat.reduceAdd,List.length_cons,List.length_nil]
 simp only [d1,d2,F1,slAll,slsAll,Nat.reduceMul,Nat.reduceBEq,Nat.reduceLT,Nat.reduceLeDiff,memAll,vAll,reduceCtorEq,Nat.reduceEqDiff,Nat.reduceAdd,Nat.reduceLT,Nat.reduceLeDiff,Nat.beq]
theorem okF49 {e:Int} (h:e≠0):thrown env 49 [.int .i64 e]=some (some (148,e)):=by
 have d1:=demF51
 have F1:(e==0)=false:=by simp [h]
 rw [thrown_code env49 rfl rfl];simp only [fn49,slAll,Nat.reduceBEq,Nat.reduceLeDiff,Nat.reduceAdd,List.length_cons,List.length_nil]
 simp only [d1,F1,slAll,slsAll,Nat.reduceMul,Nat.reduceBEq,Nat.reduceLT,Nat.reduceLeDiff,memAll,vAll,reduceCtorEq,Nat.reduceEqDiff,Nat.reduceAdd,Nat.reduceLT,Nat.reduceLeDiff,Nat.beq]
theorem cal49:cal env 49 [.int .i64 0]=some []:=by
 have d1:=demT51
 have d2:=cal51
 have F1:((0:Int)==0)=true:=rfl
 rw [cal_code env49 rfl];simp only [fn49,slAll,Nat.reduceBEq,Nat.reduceLeDiff,Nat.reduceAdd,List.length_cons,List.length_nil]
 simp only [d1,d2,F1,slAll,slsAll,Nat.reduceMul,Nat.reduceBEq,Nat.reduceLT,Nat.reduceLeDiff,memAll,vAll,reduceCtorEq,Nat.reduceEqDiff,Nat.reduceAdd,Nat.reduceLT,Nat.reduceLeDiff,Nat.beq]
def fmE (p:Prc):Int:=if p.kind=3 then (if siteB p.frm=true then (if siteB p.to=true then (if p.frm≠p.to then (if 0≤p.step then (if p.step≤4096 then (if 1≤p.ep then (if p.ep≤1073741824 then (if 0≤p.cyc then (if p.cyc≤1073741824 then (if p.failed=false then (if p.done=true then (if 1≤p.step then 0 else 12) else 0) else 12) else 2) else 2) else 2) else 2) else 2) else 2) else 2) else 2) else 2) else 1
set_option maxHeartbeats 2000000 in
theorem fm48 {p:Prc}:thrown env 48 [ePrc p]=some (if fmE p=0 then none else some (148,fmE p)):=by
 have d1:=demT51
 have d2:=cal51
 have d3:=demF51
 have s1:=cal70 (n:=p.frm)
 have s2:=cal70 (n:=p.to)
 rw [ePrc_eq]
 by_cases c0:p.kind=3
 rotate_left
 ·have F0_0:(p.kind==3)=false:=by first|(simp;omega)|(simp [c0])
  have F0_1:(p.kind=3)=False:=eq_false (by omega)
  have F0_2:(p.kind != 3)=true:=by first|(simp;omega)|(simp [c0])
  have hE:fmE p=1:=by unfold fmE;rw [if_neg c0]
  rw [hE,if_neg (by decide)]
  rw [thrown_code env48 rfl rfl];simp only [fn48,slAll,Nat.reduceBEq,Nat.reduceLeDiff,Nat.reduceAdd,List.length_cons,List.length_nil]
  simp only [F0_0,F0_1,F0_2,d1,d2,d3,s1,s2,slAll,slsAll,Nat.reduceMul,Nat.reduceBEq,Nat.reduceLT,Nat.reduceLeDiff,memAll,vAll,reduceCtorEq,Nat.reduceEqDiff,Nat.reduceAdd,Nat.reduceLT,Nat.reduceLeDiff,Nat.beq]
 have F0_0:(p.kind==3)=true:=by first|(simp;omega)|(simp [c0])
 have F0_1:(p.kind=3)=True:=eq_true (by omega)
 have F0_2:(p.kind != 3)=false:=by first|(simp;omega)|(simp [c0])
 by_cases c1:siteB p.frm=true
 rotate_left
 ·have F1_0:siteB p.frm=false:=by simpa using c1
  have hE:fmE p=2:=by unfold fmE;rw [if_pos c0,if_neg c1]
  rw [hE,if_neg (by decide)]
  rw [thrown_code env48 rfl rfl];simp only [fn48,slAll,Nat.reduceBEq,Nat.reduceLeDiff,Nat.reduceAdd,List.length_cons,List.length_nil]
  simp only [F0_0,F0_1,F0_2,F1_0,d1,d2,d3,s1,s2,slAll,slsAll,Nat.reduceMul,Nat.reduceBEq,Nat.reduceLT,Nat.reduceLeDiff,memAll,vAll,reduceCtorEq,Nat.reduceEqDiff,Nat.reduceAdd,Nat.reduceLT,Nat.reduceLeDiff,Nat.beq]
 have F1_0:siteB p.frm=true:=c1
 by_cases c2:siteB p.to=true
 rotate_left
 ·have F2_0:siteB p.to=false:=by simpa using c2
  have hE:fmE p=2:=by unfold fmE;rw [if_pos c0,if_pos c1,if_neg c2]
  rw [hE,if_neg (by decide)]
  rw [thrown_code env48 rfl rfl];simp only [fn48,slAll,Nat.reduceBEq,Nat.reduceLeDiff,Nat.reduceAdd,List.length_cons,List.length_nil]
  simp only [F0_0,F0_1,F0_2,F1_0,F2_0,d1,d2,d3,s1,s2,slAll,slsAll,Nat.reduceMul,Nat.reduceBEq,Nat.reduceLT,Nat.reduceLeDiff,memAll,vAll,reduceCtorEq,Nat.reduceEqDiff,Nat.reduceAdd,Nat.reduceLT,Nat.reduceLeDiff,Nat.beq]
 have F2_0:siteB p.to=true:=c2
 by_cases c3:p.frm≠p.to
 rotate_left
 ·have F3_0:(p.frm != p.to)=false:=by first|(simp;omega)|(simp [c3])
  have F3_1:(p.frm=p.to)=True:=eq_true (by omega)
  have F3_2:(p.frm==p.to)=true:=by first|(simp;omega)|(simp [c3])
  have hE:fmE p=2:=by unfold fmE;rw [if_pos c0,if_pos c1,if_pos c2,if_neg c3]
  rw [hE,if_neg (by decide)]
  rw [thrown_code env48 rfl rfl];simp only [fn48,slAll,Nat.reduceBEq,Nat.reduceLeDiff,Nat.reduceAdd,List.length_cons,List.length_nil]
  simp only [F0_0,F0_1,F0_2,F1_0,F2_0,F3_0,F3_1,F3_2,d1,d2,d3,s1,s2,slAll,slsAll,Nat.reduceMul,Nat.reduceBEq,Nat.reduceLT,Nat.reduceLeDiff,memAll,vAll,reduceCtorEq,Nat.reduceEqDiff,Nat.reduceAdd,Nat.reduceLT,Nat.reduceLeDiff,Nat.beq]
 have F3_0:(p.frm != p.to)=true:=by first|(simp;omega)|(simp [c3])
 have F3_1:(p.frm=p.to)=False:=eq_false (by omega)
 have F3_2:(p.frm==p.to)=false:=by first|(simp;omega)|(simp [c3])
 by_cases c4:0≤p.step
 rotate_left
 ·have F4_0:(p.step ≥ 0)=False:=eq_false (by omega)
  have F4_1:(0≤p.step)=False:=eq_false (by omega)
  have F4_2:(p.step<0)=True:=eq_true (by omega)
  have hE:fmE p=2:=by unfold fmE;rw [if_pos c0,if_pos c1,if_pos c2,if_pos c3,if_neg c4]
  rw [hE,if_neg (by decide)]
  rw [thrown_code env48 rfl rfl];simp only [fn48,slAll,Nat.reduceBEq,Nat.reduceLeDiff,Nat.reduceAdd,List.length_cons,List.length_nil]
  simp only [F0_0,F0_1,F0_2,F1_0,F2_0,F3_0,F3_1,F3_2,F4_0,F4_1,F4_2,d1,d2,d3,s1,s2,slAll,slsAll,Nat.reduceMul,Nat.reduceBEq,Nat.reduceLT,Nat.reduceLeDiff,memAll,vAll,reduceCtorEq,Nat.reduceEqDiff,Nat.reduceAdd,Nat.reduceLT,Nat.reduceLeDiff,Nat.beq]
 have F4_0:(p.step ≥ 0)=True:=eq_true (by omega)
 have F4_1:(0≤p.step)=True:=eq_true (by omega)
 have F4_2:(p.step<0)=False:=eq_false (by omega)
 by_cases c5:p.step≤4096
 rotate_left
 ·have F5_0:(p.step≤4096)=False:=eq_false (by omega)
  have F5_1:(p.step > 4096)=True:=eq_true (by omega)
  have hE:fmE p=2:=by unfold fmE;rw [if_pos c0,if_pos c1,if_pos c2,if_pos c3,if_pos c4,if_neg c5]
  rw [hE,if_neg (by decide)]
  rw [thrown_code env48 rfl rfl];simp only [fn48,slAll,Nat.reduceBEq,Nat.reduceLeDiff,Nat.reduceAdd,List.length_cons,List.length_nil]
  simp only [F0_0,F0_1,F0_2,F1_0,F2_0,F3_0,F3_1,F3_2,F4_0,F4_1,F4_2,F5_0,F5_1,d1,d2,d3,s1,s2,slAll,slsAll,Nat.reduceMul,Nat.reduceBEq,Nat.reduceLT,Nat.reduceLeDiff,memAll,vAll,reduceCtorEq,Nat.reduceEqDiff,Nat.reduceAdd,Nat.reduceLT,Nat.reduceLeDiff,Nat.beq]
 have F5_0:(p.step≤4096)=True:=eq_true (by omega)
 have F5_1:(p.step > 4096)=False:=eq_false (by omega)
 by_cases c6:1≤p.ep
 rotate_left
 ·have F6_0:(p.ep ≥ 1)=False:=eq_false (by omega)
  have F6_1:(1≤p.ep)=False:=eq_false (by omega)
  have F6_2:(p.ep<1)=True:=eq_true (by omega)
  have hE:fmE p=2:=by unfold fmE;rw [if_pos c0,if_pos c1,if_pos c2,if_pos c3,if_pos c4,if_pos c5,if_neg c6]
  rw [hE,if_neg (by decide)]
  rw [thrown_code env48 rfl rfl];simp only [fn48,slAll,Nat.reduceBEq,Nat.reduceLeDiff,Nat.reduceAdd,List.length_cons,List.length_nil]
  simp only [F0_0,F0_1,F0_2,F1_0,F2_0,F3_0,F3_1,F3_2,F4_0,F4_1,F4_2,F5_0,F5_1,F6_0,F6_1,F6_2,d1,d2,d3,s1,s2,slAll,slsAll,Nat.reduceMul,Nat.reduceBEq,Nat.reduceLT,Nat.reduceLeDiff,memAll,vAll,reduceCtorEq,Nat.reduceEqDiff,Nat.reduceAdd,Nat.reduceLT,Nat.reduceLeDiff,Nat.beq]
 have F6_0:(p.ep ≥ 1)=True:=eq_true (by omega)
 have F6_1:(1≤p.ep)=True:=eq_true (by omega)
 have F6_2:(p.ep<1)=False:=eq_false (by omega)
 by_cases c7:p.ep≤1073741824
 rotate_left
 ·have F7_0:(p.ep≤1073741824)=False:=eq_false (by omega)
  have F7_1:(p.ep > 1073741824)=True:=eq_true (by omega)
  have hE:fmE p=2:=by unfold fmE;rw [if_pos c0,if_pos c1,if_pos c2,if_pos c3,if_pos c4,if_pos c5,if_pos c6,if_neg c7]
  rw [hE,if_neg (by decide)]
  rw [thrown_code env48 rfl rfl];simp only [fn48,slAll,Nat.reduceBEq,Nat.reduceLeDiff,Nat.reduceAdd,List.length_cons,List.length_nil]
  simp only [F0_0,F0_1,F0_2,F1_0,F2_0,F3_0,F3_1,F3_2,F4_0,F4_1,F4_2,F5_0,F5_1,F6_0,F6_1,F6_2,F7_0,F7_1,d1,d2,d3,s1,s2,slAll,slsAll,Nat.reduceMul,Nat.reduceBEq,Nat.reduceLT,Nat.reduceLeDiff,memAll,vAll,reduceCtorEq,Nat.reduceEqDiff,Nat.reduceAdd,Nat.reduceLT,Nat.reduceLeDiff,Nat.beq]
 have F7_0:(p.ep≤1073741824)=True:=eq_true (by omega)
 have F7_1:(p.ep > 1073741824)=False:=eq_false (by omega)
 by_cases c8:0≤p.cyc
 rotate_left
 ·have F8_0:(p.cyc ≥ 0)=False:=eq_false (by omega)
  have F8_1:(0≤p.cyc)=False:=eq_false (by omega)
  have F8_2:(p.cyc<0)=True:=eq_true (by omega)
  have hE:fmE p=2:=by unfold fmE;rw [if_pos c0,if_pos c1,if_pos c2,if_pos c3,if_pos c4,if_pos c5,if_pos c6,if_pos c7,if_neg c8]
  rw [hE,if_neg (by decide)]
  rw [thrown_code env48 rfl rfl];simp only [fn48,slAll,Nat.reduceBEq,Nat.reduceLeDiff,Nat.reduceAdd,List.length_cons,List.length_nil]
  simp only [F0_0,F0_1,F0_2,F1_0,F2_0,F3_0,F3_1,F3_2,F4_0,F4_1,F4_2,F5_0,F5_1,F6_0,F6_1,F6_2,F7_0,F7_1,F8_0,F8_1,F8_2,d1,d2,d3,s1,s2,slAll,slsAll,Nat.reduceMul,Nat.reduceBEq,Nat.reduceLT,Nat.reduceLeDiff,memAll,vAll,reduceCtorEq,Nat.reduceEqDiff,Nat.reduceAdd,Nat.reduceLT,Nat.reduceLeDiff,Nat.beq]
 have F8_0:(p.cyc ≥ 0)=True:=eq_true (by omega)
 have F8_1:(0≤p.cyc)=True:=eq_true (by omega)
 have F8_2:(p.cyc<0)=False:=eq_false (by omega)
 by_cases c9:p.cyc≤1073741824
 rotate_left
 ·have F9_0:(p.cyc≤1073741824)=False:=eq_false (by omega)
  have F9_1:(p.cyc > 1073741824)=True:=eq_true (by omega)
  have hE:fmE p=2:=by unfold fmE;rw [if_pos c0,if_pos c1,if_pos c2,if_pos c3,if_pos c4,if_pos c5,if_pos c6,if_pos c7,if_pos c8,if_neg c9]
  rw [hE,if_neg (by decide)]
  rw [thrown_code env48 rfl rfl];simp only [fn48,slAll,Nat.reduceBEq,Nat.reduceLeDiff,Nat.reduceAdd,List.length_cons,List.length_nil]
  simp only [F0_0,F0_1,F0_2,F1_0,F2_0,F3_0,F3_1,F3_2,F4_0,F4_1,F4_2,F5_0,F5_1,F6_0,F6_1,F6_2,F7_0,F7_1,F8_0,F8_1,F8_2,F9_0,F9_1,d1,d2,d3,s1,s2,slAll,slsAll,Nat.reduceMul,Nat.reduceBEq,Nat.reduceLT,Nat.reduceLeDiff,memAll,vAll,reduceCtorEq,Nat.reduceEqDiff,Nat.reduceAdd,Nat.reduceLT,Nat.reduceLeDiff,Nat.beq]
 have F9_0:(p.cyc≤1073741824)=True:=eq_true (by omega)
 have F9_1:(p.cyc > 1073741824)=False:=eq_false (by omega)
 by_cases c10:p.failed=false
 rotate_left
 ·have F10_0:p.failed=true:=by simpa using c10
  have hE:fmE p=12:=by unfold fmE;rw [if_pos c0,if_pos c1,if_pos c2,if_pos c3,if_pos c4,if_pos c5,if_pos c6,if_pos c7,if_pos c8,if_pos c9,if_neg c10]
  rw [hE,if_neg (by decide)]
  rw [thrown_code env48 rfl rfl];simp only [fn48,slAll,Nat.reduceBEq,Nat.reduceLeDiff,Nat.reduceAdd,List.length_cons,List.length_nil]
  simp only [F0_0,F0_1,F0_2,F1_0,F2_0,F3_0,F3_1,F3_2,F4_0,F4_1,F4_2,F5_0,F5_1,F6_0,F6_1,F6_2,F7_0,F7_1,F8_0,F8_1,F8_2,F9_0,F9_1,F10_0,d1,d2,d3,s1,s2,slAll,slsAll,Nat.reduceMul,Nat.reduceBEq,Nat.reduceLT,Nat.reduceLeDiff,memAll,vAll,reduceCtorEq,Nat.reduceEqDiff,Nat.reduceAdd,Nat.reduceLT,Nat.reduceLeDiff,Nat.beq]
 have F10_0:p.failed=false:=c10
 by_cases c11:p.done=true
 rotate_left
 ·have F11_0:p.done=false:=by simpa using c11
  have hE:fmE p=0:=by unfold fmE;rw [if_pos c0,if_pos c1,if_pos c2,if_pos c3,if_pos c4,if_pos c5,if_pos c6,if_pos c7,if_pos c8,if_pos c9,if_pos c10,if_neg c11]
  rw [hE,if_pos rfl]
  rw [thrown_code env48 rfl rfl];simp only [fn48,slAll,Nat.reduceBEq,Nat.reduceLeDiff,Nat.reduceAdd,List.length_cons,List.length_nil]
  simp only [F0_0,F0_1,F0_2,F1_0,F2_0,F3_0,F3_1,F3_2,F4_0,F4_1,F4_2,F5_0,F5_1,F6_0,F6_1,F6_2,F7_0,F7_1,F8_0,F8_1,F8_2,F9_0,F9_1,F10_0,F11_0,d1,d2,d3,s1,s2,slAll,slsAll,Nat.reduceMul,Nat.reduceBEq,Nat.reduceLT,Nat.reduceLeDiff,memAll,vAll,reduceCtorEq,Nat.reduceEqDiff,Nat.reduceAdd,Nat.reduceLT,Nat.reduceLeDiff,Nat.beq]
 have F11_0:p.done=true:=c11
 by_cases c12:1≤p.step
 rotate_left
 ·have F12_0:(p.step ≥ 1)=False:=eq_false (by omega)
  have F12_1:(1≤p.step)=False:=eq_false (by omega)
  have F12_2:(p.step<1)=True:=eq_true (by omega)
  have hE:fmE p=12:=by unfold fmE;rw [if_pos c0,if_pos c1,if_pos c2,if_pos c3,if_pos c4,if_pos c5,if_pos c6,if_pos c7,if_pos c8,if_pos c9,if_pos c10,if_pos c11,if_neg c12]
  rw [hE,if_neg (by decide)]
  rw [thrown_code env48 rfl rfl];simp only [fn48,slAll,Nat.reduceBEq,Nat.reduceLeDiff,Nat.reduceAdd,List.length_cons,List.length_nil]
  simp only [F0_0,F0_1,F0_2,F1_0,F2_0,F3_0,F3_1,F3_2,F4_0,F4_1,F4_2,F5_0,F5_1,F6_0,F6_1,F6_2,F7_0,F7_1,F8_0,F8_1,F8_2,F9_0,F9_1,F10_0,F11_0,F12_0,F12_1,F12_2,d1,d2,d3,s1,s2,slAll,slsAll,Nat.reduceMul,Nat.reduceBEq,Nat.reduceLT,Nat.reduceLeDiff,memAll,vAll,reduceCtorEq,Nat.reduceEqDiff,Nat.reduceAdd,Nat.reduceLT,Nat.reduceLeDiff,Nat.beq]
 have F12_0:(p.step ≥ 1)=True:=eq_true (by omega)
 have F12_1:(1≤p.step)=True:=eq_true (by omega)
 have F12_2:(p.step<1)=False:=eq_false (by omega)
 have hE:fmE p=0:=by unfold fmE;rw [if_pos c0,if_pos c1,if_pos c2,if_pos c3,if_pos c4,if_pos c5,if_pos c6,if_pos c7,if_pos c8,if_pos c9,if_pos c10,if_pos c11,if_pos c12]
 rw [hE,if_pos rfl]
 rw [thrown_code env48 rfl rfl];simp only [fn48,slAll,Nat.reduceBEq,Nat.reduceLeDiff,Nat.reduceAdd,List.length_cons,List.length_nil]
 simp only [F0_0,F0_1,F0_2,F1_0,F2_0,F3_0,F3_1,F3_2,F4_0,F4_1,F4_2,F5_0,F5_1,F6_0,F6_1,F6_2,F7_0,F7_1,F8_0,F8_1,F8_2,F9_0,F9_1,F10_0,F11_0,F12_0,F12_1,F12_2,d1,d2,d3,s1,s2,slAll,slsAll,Nat.reduceMul,Nat.reduceBEq,Nat.reduceLT,Nat.reduceLeDiff,memAll,vAll,reduceCtorEq,Nat.reduceEqDiff,Nat.reduceAdd,Nat.reduceLT,Nat.reduceLeDiff,Nat.beq]
theorem cal48 {p:Prc} (h:fmE p=0):cal env 48 [ePrc p]=some []:=by
 have d1:=demT51
 have d2:=cal51
 have d3:=demF51
 have s1:=cal70 (n:=p.frm)
 have s2:=cal70 (n:=p.to)
 rw [ePrc_eq]
 by_cases c0:p.kind=3
 rotate_left
 ·have F0_0:(p.kind==3)=false:=by first|(simp;omega)|(simp [c0])
  have F0_1:(p.kind=3)=False:=eq_false (by omega)
  have F0_2:(p.kind != 3)=true:=by first|(simp;omega)|(simp [c0])
  have hE:fmE p=1:=by unfold fmE;rw [if_neg c0]
  rw [hE] at h;exact absurd h (by decide)
 have F0_0:(p.kind==3)=true:=by first|(simp;omega)|(simp [c0])
 have F0_1:(p.kind=3)=True:=eq_true (by omega)
 have F0_2:(p.kind != 3)=false:=by first|(simp;omega)|(simp [c0])
 by_cases c1:siteB p.frm=true
 rotate_left
 ·have F1_0:siteB p.frm=false:=by simpa using c1
  have hE:fmE p=2:=by unfold fmE;rw [if_pos c0,if_neg c1]
  rw [hE] at h;exact absurd h (by decide)
 have F1_0:siteB p.frm=true:=c1
 by_cases c2:siteB p.to=true
 rotate_left
 ·have F2_0:siteB p.to=false:=by simpa using c2
  have hE:fmE p=2:=by unfold fmE;rw [if_pos c0,if_pos c1,if_neg c2]
  rw [hE] at h;exact absurd h (by decide)
 have F2_0:siteB p.to=true:=c2
 by_cases c3:p.frm≠p.to
 rotate_left
 ·have F3_0:(p.frm != p.to)=false:=by first|(simp;omega)|(simp [c3])
  have F3_1:(p.frm=p.to)=True:=eq_true (by omega)
  have F3_2:(p.frm==p.to)=true:=by first|(simp;omega)|(simp [c3])
  have hE:fmE p=2:=by unfold fmE;rw [if_pos c0,if_pos c1,if_pos c2,if_neg c3]
  rw [hE] at h;exact absurd h (by decide)
 have F3_0:(p.frm != p.to)=true:=by first|(simp;omega)|(simp [c3])
 have F3_1:(p.frm=p.to)=False:=eq_false (by omega)
 have F3_2:(p.frm==p.to)=false:=by first|(simp;omega)|(simp [c3])
 by_cases c4:0≤p.step
 rotate_left
 ·have F4_0:(p.step ≥ 0)=False:=eq_false (by omega)
  have F4_1:(0≤p.step)=False:=eq_false (by omega)
  have F4_2:(p.step<0)=True:=eq_true (by omega)
  have hE:fmE p=2:=by unfold fmE;rw [if_pos c0,if_pos c1,if_pos c2,if_pos c3,if_neg c4]
  rw [hE] at h;exact absurd h (by decide)
 have F4_0:(p.step ≥ 0)=True:=eq_true (by omega)
 have F4_1:(0≤p.step)=True:=eq_true (by omega)
 have F4_2:(p.step<0)=False:=eq_false (by omega)
 by_cases c5:p.step≤4096
 rotate_left
 ·have F5_0:(p.step≤4096)=False:=eq_false (by omega)
  have F5_1:(p.step > 4096)=True:=eq_true (by omega)
  have hE:fmE p=2:=by unfold fmE;rw [if_pos c0,if_pos c1,if_pos c2,if_pos c3,if_pos c4,if_neg c5]
  rw [hE] at h;exact absurd h (by decide)
 have F5_0:(p.step≤4096)=True:=eq_true (by omega)
 have F5_1:(p.step > 4096)=False:=eq_false (by omega)
 by_cases c6:1≤p.ep
 rotate_left
 ·have F6_0:(p.ep ≥ 1)=False:=eq_false (by omega)
  have F6_1:(1≤p.ep)=False:=eq_false (by omega)
  have F6_2:(p.ep<1)=True:=eq_true (by omega)
  have hE:fmE p=2:=by unfold fmE;rw [if_pos c0,if_pos c1,if_pos c2,if_pos c3,if_pos c4,if_pos c5,if_neg c6]
  rw [hE] at h;exact absurd h (by decide)
 have F6_0:(p.ep ≥ 1)=True:=eq_true (by omega)
 have F6_1:(1≤p.ep)=True:=eq_true (by omega)
 have F6_2:(p.ep<1)=False:=eq_false (by omega)
 by_cases c7:p.ep≤1073741824
 rotate_left
 ·have F7_0:(p.ep≤1073741824)=False:=eq_false (by omega)
  have F7_1:(p.ep > 1073741824)=True:=eq_true (by omega)
  have hE:fmE p=2:=by unfold fmE;rw [if_pos c0,if_pos c1,if_pos c2,if_pos c3,if_pos c4,if_pos c5,if_pos c6,if_neg c7]
  rw [hE] at h;exact absurd h (by decide)
 have F7_0:(p.ep≤1073741824)=True:=eq_true (by omega)
 have F7_1:(p.ep > 1073741824)=False:=eq_false (by omega)
 by_cases c8:0≤p.cyc
 rotate_left
 ·have F8_0:(p.cyc ≥ 0)=False:=eq_false (by omega)
  have F8_1:(0≤p.cyc)=False:=eq_false (by omega)
  have F8_2:(p.cyc<0)=True:=eq_true (by omega)
  have hE:fmE p=2:=by unfold fmE;rw [if_pos c0,if_pos c1,if_pos c2,if_pos c3,if_pos c4,if_pos c5,if_pos c6,if_pos c7,if_neg c8]
  rw [hE] at h;exact absurd h (by decide)
 have F8_0:(p.cyc ≥ 0)=True:=eq_true (by omega)
 have F8_1:(0≤p.cyc)=True:=eq_true (by omega)
 have F8_2:(p.cyc<0)=False:=eq_false (by omega)
 by_cases c9:p.cyc≤1073741824
 rotate_left
 ·have F9_0:(p.cyc≤1073741824)=False:=eq_false (by omega)
  have F9_1:(p.cyc > 1073741824)=True:=eq_true (by omega)
  have hE:fmE p=2:=by unfold fmE;rw [if_pos c0,if_pos c1,if_pos c2,if_pos c3,if_pos c4,if_pos c5,if_pos c6,if_pos c7,if_pos c8,if_neg c9]
  rw [hE] at h;exact absurd h (by decide)
 have F9_0:(p.cyc≤1073741824)=True:=eq_true (by omega)
 have F9_1:(p.cyc > 1073741824)=False:=eq_false (by omega)
 by_cases c10:p.failed=false
 rotate_left
 ·have F10_0:p.failed=true:=by simpa using c10
  have hE:fmE p=12:=by unfold fmE;rw [if_pos c0,if_pos c1,if_pos c2,if_pos c3,if_pos c4,if_pos c5,if_pos c6,if_pos c7,if_pos c8,if_pos c9,if_neg c10]
  rw [hE] at h;exact absurd h (by decide)
 have F10_0:p.failed=false:=c10
 by_cases c11:p.done=true
 rotate_left
 ·have F11_0:p.done=false:=by simpa using c11
  have hE:fmE p=0:=by unfold fmE;rw [if_pos c0,if_pos c1,if_pos c2,if_pos c3,if_pos c4,if_pos c5,if_pos c6,if_pos c7,if_pos c8,if_pos c9,if_pos c10,if_neg c11]
  rw [cal_code env48 rfl];simp only [fn48,slAll,Nat.reduceBEq,Nat.reduceLeDiff,Nat.reduceAdd,List.length_cons,List.length_nil]
  simp only [F0_0,F0_1,F0_2,F1_0,F2_0,F3_0,F3_1,F3_2,F4_0,F4_1,F4_2,F5_0,F5_1,F6_0,F6_1,F6_2,F7_0,F7_1,F8_0,F8_1,F8_2,F9_0,F9_1,F10_0,F11_0,d1,d2,d3,s1,s2,slAll,slsAll,Nat.reduceMul,Nat.reduceBEq,Nat.reduceLT,Nat.reduceLeDiff,memAll,vAll,reduceCtorEq,Nat.reduceEqDiff,Nat.reduceAdd,Nat.reduceLT,Nat.reduceLeDiff,Nat.beq]
 have F11_0:p.done=true:=c11
 by_cases c12:1≤p.step
 rotate_left
 ·have F12_0:(p.step ≥ 1)=False:=eq_false (by omega)
  have F12_1:(1≤p.step)=False:=eq_false (by omega)
  have F12_2:(p.step<1)=True:=eq_true (by omega)
  have hE:fmE p=12:=by unfold fmE;rw [if_pos c0,if_pos c1,if_pos c2,if_pos c3,if_pos c4,if_pos c5,if_pos c6,if_pos c7,if_pos c8,if_pos c9,if_pos c10,if_pos c11,if_neg c12]
  rw [hE] at h;exact absurd h (by decide)
 have F12_0:(p.step ≥ 1)=True:=eq_true (by omega)
 have F12_1:(1≤p.step)=True:=eq_true (by omega)
 have F12_2:(p.step<1)=False:=eq_false (by omega)
 have hE:fmE p=0:=by unfold fmE;rw [if_pos c0,if_pos c1,if_pos c2,if_pos c3,if_pos c4,if_pos c5,if_pos c6,if_pos c7,if_pos c8,if_pos c9,if_pos c10,if_pos c11,if_pos c12]
 rw [cal_code env48 rfl];simp only [fn48,slAll,Nat.reduceBEq,Nat.reduceLeDiff,Nat.reduceAdd,List.length_cons,List.length_nil]
 simp only [F0_0,F0_1,F0_2,F1_0,F2_0,F3_0,F3_1,F3_2,F4_0,F4_1,F4_2,F5_0,F5_1,F6_0,F6_1,F6_2,F7_0,F7_1,F8_0,F8_1,F8_2,F9_0,F9_1,F10_0,F11_0,F12_0,F12_1,F12_2,d1,d2,d3,s1,s2,slAll,slsAll,Nat.reduceMul,Nat.reduceBEq,Nat.reduceLT,Nat.reduceLeDiff,memAll,vAll,reduceCtorEq,Nat.reduceEqDiff,Nat.reduceAdd,Nat.reduceLT,Nat.reduceLeDiff,Nat.beq]
set_option maxHeartbeats 2000000 in
theorem cal29 {p:Prc}:cal env 29 [ePrc p]=some [(.int .i64 (fmE p),false)]:=by
 have s1:=cal73 (n:=p.frm)
 have s2:=cal73 (n:=p.to)
 rw [ePrc_eq]
 by_cases c0:p.kind=3
 rotate_left
 ·have F0_0:(p.kind==3)=false:=by first|(simp;omega)|(simp [c0])
  have F0_1:(p.kind=3)=False:=eq_false (by omega)
  have F0_2:(p.kind != 3)=true:=by first|(simp;omega)|(simp [c0])
  have hE:fmE p=1:=by unfold fmE;rw [if_neg c0]
  rw [hE]
  rw [cal_code env29 rfl];simp only [fn29,slAll,Nat.reduceBEq,Nat.reduceLeDiff,Nat.reduceAdd,List.length_cons,List.length_nil]
  simp only [F0_0,F0_1,F0_2,s1,s2,slAll,slsAll,Nat.reduceMul,Nat.reduceBEq,Nat.reduceLT,Nat.reduceLeDiff,memAll,vAll,reduceCtorEq,Nat.reduceEqDiff,Nat.reduceAdd,Nat.reduceLT,Nat.reduceLeDiff,Nat.beq]
 have F0_0:(p.kind==3)=true:=by first|(simp;omega)|(simp [c0])
 have F0_1:(p.kind=3)=True:=eq_true (by omega)
 have F0_2:(p.kind != 3)=false:=by first|(simp;omega)|(simp [c0])
 by_cases c1:siteB p.frm=true
 rotate_left
 ·have F1_0:siteB p.frm=false:=by simpa using c1
  have hE:fmE p=2:=by unfold fmE;rw [if_pos c0,if_neg c1]
  rw [hE]
  rw [cal_code env29 rfl];simp only [fn29,slAll,Nat.reduceBEq,Nat.reduceLeDiff,Nat.reduceAdd,List.length_cons,List.length_nil]
  simp only [F0_0,F0_1,F0_2,F1_0,s1,s2,slAll,slsAll,Nat.reduceMul,Nat.reduceBEq,Nat.reduceLT,Nat.reduceLeDiff,memAll,vAll,reduceCtorEq,Nat.reduceEqDiff,Nat.reduceAdd,Nat.reduceLT,Nat.reduceLeDiff,Nat.beq]
 have F1_0:siteB p.frm=true:=c1
 by_cases c2:siteB p.to=true
 rotate_left
 ·have F2_0:siteB p.to=false:=by simpa using c2
  have hE:fmE p=2:=by unfold fmE;rw [if_pos c0,if_pos c1,if_neg c2]
  rw [hE]
  rw [cal_code env29 rfl];simp only [fn29,slAll,Nat.reduceBEq,Nat.reduceLeDiff,Nat.reduceAdd,List.length_cons,List.length_nil]
  simp only [F0_0,F0_1,F0_2,F1_0,F2_0,s1,s2,slAll,slsAll,Nat.reduceMul,Nat.reduceBEq,Nat.reduceLT,Nat.reduceLeDiff,memAll,vAll,reduceCtorEq,Nat.reduceEqDiff,Nat.reduceAdd,Nat.reduceLT,Nat.reduceLeDiff,Nat.beq]
 have F2_0:siteB p.to=true:=c2
 by_cases c3:p.frm≠p.to
 rotate_left
 ·have F3_0:(p.frm != p.to)=false:=by first|(simp;omega)|(simp [c3])
  have F3_1:(p.frm=p.to)=True:=eq_true (by omega)
  have F3_2:(p.frm==p.to)=true:=by first|(simp;omega)|(simp [c3])
  have hE:fmE p=2:=by unfold fmE;rw [if_pos c0,if_pos c1,if_pos c2,if_neg c3]
  rw [hE]
  rw [cal_code env29 rfl];simp only [fn29,slAll,Nat.reduceBEq,Nat.reduceLeDiff,Nat.reduceAdd,List.length_cons,List.length_nil]
  simp only [F0_0,F0_1,F0_2,F1_0,F2_0,F3_0,F3_1,F3_2,s1,s2,slAll,slsAll,Nat.reduceMul,Nat.reduceBEq,Nat.reduceLT,Nat.reduceLeDiff,memAll,vAll,reduceCtorEq,Nat.reduceEqDiff,Nat.reduceAdd,Nat.reduceLT,Nat.reduceLeDiff,Nat.beq]
 have F3_0:(p.frm != p.to)=true:=by first|(simp;omega)|(simp [c3])
 have F3_1:(p.frm=p.to)=False:=eq_false (by omega)
 have F3_2:(p.frm==p.to)=false:=by first|(simp;omega)|(simp [c3])
 by_cases c4:0≤p.step
 rotate_left
 ·have F4_0:(p.step ≥ 0)=False:=eq_false (by omega)
  have F4_1:(0≤p.step)=False:=eq_false (by omega)
  have F4_2:(p.step<0)=True:=eq_true (by omega)
  have hE:fmE p=2:=by unfold fmE;rw [if_pos c0,if_pos c1,if_pos c2,if_pos c3,if_neg c4]
  rw [hE]
  rw [cal_code env29 rfl];simp only [fn29,slAll,Nat.reduceBEq,Nat.reduceLeDiff,Nat.reduceAdd,List.length_cons,List.length_nil]
  simp only [F0_0,F0_1,F0_2,F1_0,F2_0,F3_0,F3_1,F3_2,F4_0,F4_1,F4_2,s1,s2,slAll,slsAll,Nat.reduceMul,Nat.reduceBEq,Nat.reduceLT,Nat.reduceLeDiff,memAll,vAll,reduceCtorEq,Nat.reduceEqDiff,Nat.reduceAdd,Nat.reduceLT,Nat.reduceLeDiff,Nat.beq]
 have F4_0:(p.step ≥ 0)=True:=eq_true (by omega)
 have F4_1:(0≤p.step)=True:=eq_true (by omega)
 have F4_2:(p.step<0)=False:=eq_false (by omega)
 by_cases c5:p.step≤4096
 rotate_left
 ·have F5_0:(p.step≤4096)=False:=eq_false (by omega)
  have F5_1:(p.step > 4096)=True:=eq_true (by omega)
  have hE:fmE p=2:=by unfold fmE;rw [if_pos c0,if_pos c1,if_pos c2,if_pos c3,if_pos c4,if_neg c5]
  rw [hE]
  rw [cal_code env29 rfl];simp only [fn29,slAll,Nat.reduceBEq,Nat.reduceLeDiff,Nat.reduceAdd,List.length_cons,List.length_nil]
  simp only [F0_0,F0_1,F0_2,F1_0,F2_0,F3_0,F3_1,F3_2,F4_0,F4_1,F4_2,F5_0,F5_1,s1,s2,slAll,slsAll,Nat.reduceMul,Nat.reduceBEq,Nat.reduceLT,Nat.reduceLeDiff,memAll,vAll,reduceCtorEq,Nat.reduceEqDiff,Nat.reduceAdd,Nat.reduceLT,Nat.reduceLeDiff,Nat.beq]
 have F5_0:(p.step≤4096)=True:=eq_true (by omega)
 have F5_1:(p.step > 4096)=False:=eq_false (by omega)
 by_cases c6:1≤p.ep
 rotate_left
 ·have F6_0:(p.ep ≥ 1)=False:=eq_false (by omega)
  have F6_1:(1≤p.ep)=False:=eq_false (by omega)
  have F6_2:(p.ep<1)=True:=eq_true (by omega)
  have hE:fmE p=2:=by unfold fmE;rw [if_pos c0,if_pos c1,if_pos c2,if_pos c3,if_pos c4,if_pos c5,if_neg c6]
  rw [hE]
  rw [cal_code env29 rfl];simp only [fn29,slAll,Nat.reduceBEq,Nat.reduceLeDiff,Nat.reduceAdd,List.length_cons,List.length_nil]
  simp only [F0_0,F0_1,F0_2,F1_0,F2_0,F3_0,F3_1,F3_2,F4_0,F4_1,F4_2,F5_0,F5_1,F6_0,F6_1,F6_2,s1,s2,slAll,slsAll,Nat.reduceMul,Nat.reduceBEq,Nat.reduceLT,Nat.reduceLeDiff,memAll,vAll,reduceCtorEq,Nat.reduceEqDiff,Nat.reduceAdd,Nat.reduceLT,Nat.reduceLeDiff,Nat.beq]
 have F6_0:(p.ep ≥ 1)=True:=eq_true (by omega)
 have F6_1:(1≤p.ep)=True:=eq_true (by omega)
 have F6_2:(p.ep<1)=False:=eq_false (by omega)
 by_cases c7:p.ep≤1073741824
 rotate_left
 ·have F7_0:(p.ep≤1073741824)=False:=eq_false (by omega)
  have F7_1:(p.ep > 1073741824)=True:=eq_true (by omega)
  have hE:fmE p=2:=by unfold fmE;rw [if_pos c0,if_pos c1,if_pos c2,if_pos c3,if_pos c4,if_pos c5,if_pos c6,if_neg c7]
  rw [hE]
  rw [cal_code env29 rfl];simp only [fn29,slAll,Nat.reduceBEq,Nat.reduceLeDiff,Nat.reduceAdd,List.length_cons,List.length_nil]
  simp only [F0_0,F0_1,F0_2,F1_0,F2_0,F3_0,F3_1,F3_2,F4_0,F4_1,F4_2,F5_0,F5_1,F6_0,F6_1,F6_2,F7_0,F7_1,s1,s2,slAll,slsAll,Nat.reduceMul,Nat.reduceBEq,Nat.reduceLT,Nat.reduceLeDiff,memAll,vAll,reduceCtorEq,Nat.reduceEqDiff,Nat.reduceAdd,Nat.reduceLT,Nat.reduceLeDiff,Nat.beq]
 have F7_0:(p.ep≤1073741824)=True:=eq_true (by omega)
 have F7_1:(p.ep > 1073741824)=False:=eq_false (by omega)
 by_cases c8:0≤p.cyc
 rotate_left
 ·have F8_0:(p.cyc ≥ 0)=False:=eq_false (by omega)
  have F8_1:(0≤p.cyc)=False:=eq_false (by omega)
  have F8_2:(p.cyc<0)=True:=eq_true (by omega)
  have hE:fmE p=2:=by unfold fmE;rw [if_pos c0,if_pos c1,if_pos c2,if_pos c3,if_pos c4,if_pos c5,if_pos c6,if_pos c7,if_neg c8]
  rw [hE]
  rw [cal_code env29 rfl];simp only [fn29,slAll,Nat.reduceBEq,Nat.reduceLeDiff,Nat.reduceAdd,List.length_cons,List.length_nil]
  simp only [F0_0,F0_1,F0_2,F1_0,F2_0,F3_0,F3_1,F3_2,F4_0,F4_1,F4_2,F5_0,F5_1,F6_0,F6_1,F6_2,F7_0,F7_1,F8_0,F8_1,F8_2,s1,s2,slAll,slsAll,Nat.reduceMul,Nat.reduceBEq,Nat.reduceLT,Nat.reduceLeDiff,memAll,vAll,reduceCtorEq,Nat.reduceEqDiff,Nat.reduceAdd,Nat.reduceLT,Nat.reduceLeDiff,Nat.beq]
 have F8_0:(p.cyc ≥ 0)=True:=eq_true (by omega)
 have F8_1:(0≤p.cyc)=True:=eq_true (by omega)
 have F8_2:(p.cyc<0)=False:=eq_false (by omega)
 by_cases c9:p.cyc≤1073741824
 rotate_left
 ·have F9_0:(p.cyc≤1073741824)=False:=eq_false (by omega)
  have F9_1:(p.cyc > 1073741824)=True:=eq_true (by omega)
  have hE:fmE p=2:=by unfold fmE;rw [if_pos c0,if_pos c1,if_pos c2,if_pos c3,if_pos c4,if_pos c5,if_pos c6,if_pos c7,if_pos c8,if_neg c9]
  rw [hE]
  rw [cal_code env29 rfl];simp only [fn29,slAll,Nat.reduceBEq,Nat.reduceLeDiff,Nat.reduceAdd,List.length_cons,List.length_nil]
  simp only [F0_0,F0_1,F0_2,F1_0,F2_0,F3_0,F3_1,F3_2,F4_0,F4_1,F4_2,F5_0,F5_1,F6_0,F6_1,F6_2,F7_0,F7_1,F8_0,F8_1,F8_2,F9_0,F9_1,s1,s2,slAll,slsAll,Nat.reduceMul,Nat.reduceBEq,Nat.reduceLT,Nat.reduceLeDiff,memAll,vAll,reduceCtorEq,Nat.reduceEqDiff,Nat.reduceAdd,Nat.reduceLT,Nat.reduceLeDiff,Nat.beq]
 have F9_0:(p.cyc≤1073741824)=True:=eq_true (by omega)
 have F9_1:(p.cyc > 1073741824)=False:=eq_false (by omega)
 by_cases c10:p.failed=false
 rotate_left
 ·have F10_0:p.failed=true:=by simpa using c10
  have hE:fmE p=12:=by unfold fmE;rw [if_pos c0,if_pos c1,if_pos c2,if_pos c3,if_pos c4,if_pos c5,if_pos c6,if_pos c7,if_pos c8,if_pos c9,if_neg c10]
  rw [hE]
  rw [cal_code env29 rfl];simp only [fn29,slAll,Nat.reduceBEq,Nat.reduceLeDiff,Nat.reduceAdd,List.length_cons,List.length_nil]
  simp only [F0_0,F0_1,F0_2,F1_0,F2_0,F3_0,F3_1,F3_2,F4_0,F4_1,F4_2,F5_0,F5_1,F6_0,F6_1,F6_2,F7_0,F7_1,F8_0,F8_1,F8_2,F9_0,F9_1,F10_0,s1,s2,slAll,slsAll,Nat.reduceMul,Nat.reduceBEq,Nat.reduceLT,Nat.reduceLeDiff,memAll,vAll,reduceCtorEq,Nat.reduceEqDiff,Nat.reduceAdd,Nat.reduceLT,Nat.reduceLeDiff,Nat.beq]
 have F10_0:p.failed=false:=c10
 by_cases c11:p.done=true
 rotate_left
 ·have F11_0:p.done=false:=by simpa using c11
  have hE:fmE p=0:=by unfold fmE;rw [if_pos c0,if_pos c1,if_pos c2,if_pos c3,if_pos c4,if_pos c5,if_pos c6,if_pos c7,if_pos c8,if_pos c9,if_pos c10,if_neg c11]
  rw [hE]
  rw [cal_code env29 rfl];simp only [fn29,slAll,Nat.reduceBEq,Nat.reduceLeDiff,Nat.reduceAdd,List.length_cons,List.length_nil]
  simp only [F0_0,F0_1,F0_2,F1_0,F2_0,F3_0,F3_1,F3_2,F4_0,F4_1,F4_2,F5_0,F5_1,F6_0,F6_1,F6_2,F7_0,F7_1,F8_0,F8_1,F8_2,F9_0,F9_1,F10_0,F11_0,s1,s2,slAll,slsAll,Nat.reduceMul,Nat.reduceBEq,Nat.reduceLT,Nat.reduceLeDiff,memAll,vAll,reduceCtorEq,Nat.reduceEqDiff,Nat.reduceAdd,Nat.reduceLT,Nat.reduceLeDiff,Nat.beq]
 have F11_0:p.done=true:=c11
 by_cases c12:1≤p.step
 rotate_left
 ·have F12_0:(p.step ≥ 1)=False:=eq_false (by omega)
  have F12_1:(1≤p.step)=False:=eq_false (by omega)
  have F12_2:(p.step<1)=True:=eq_true (by omega)
  have hE:fmE p=12:=by unfold fmE;rw [if_pos c0,if_pos c1,if_pos c2,if_pos c3,if_pos c4,if_pos c5,if_pos c6,if_pos c7,if_pos c8,if_pos c9,if_pos c10,if_pos c11,if_neg c12]
  rw [hE]
  rw [cal_code env29 rfl];simp only [fn29,slAll,Nat.reduceBEq,Nat.reduceLeDiff,Nat.reduceAdd,List.length_cons,List.length_nil]
  simp only [F0_0,F0_1,F0_2,F1_0,F2_0,F3_0,F3_1,F3_2,F4_0,F4_1,F4_2,F5_0,F5_1,F6_0,F6_1,F6_2,F7_0,F7_1,F8_0,F8_1,F8_2,F9_0,F9_1,F10_0,F11_0,F12_0,F12_1,F12_2,s1,s2,slAll,slsAll,Nat.reduceMul,Nat.reduceBEq,Nat.reduceLT,Nat.reduceLeDiff,memAll,vAll,reduceCtorEq,Nat.reduceEqDiff,Nat.reduceAdd,Nat.reduceLT,Nat.reduceLeDiff,Nat.beq]
 have F12_0:(p.step ≥ 1)=True:=eq_true (by omega)
 have F12_1:(1≤p.step)=True:=eq_true (by omega)
 have F12_2:(p.step<1)=False:=eq_false (by omega)
 have hE:fmE p=0:=by unfold fmE;rw [if_pos c0,if_pos c1,if_pos c2,if_pos c3,if_pos c4,if_pos c5,if_pos c6,if_pos c7,if_pos c8,if_pos c9,if_pos c10,if_pos c11,if_pos c12]
 rw [hE]
 rw [cal_code env29 rfl];simp only [fn29,slAll,Nat.reduceBEq,Nat.reduceLeDiff,Nat.reduceAdd,List.length_cons,List.length_nil]
 simp only [F0_0,F0_1,F0_2,F1_0,F2_0,F3_0,F3_1,F3_2,F4_0,F4_1,F4_2,F5_0,F5_1,F6_0,F6_1,F6_2,F7_0,F7_1,F8_0,F8_1,F8_2,F9_0,F9_1,F10_0,F11_0,F12_0,F12_1,F12_2,s1,s2,slAll,slsAll,Nat.reduceMul,Nat.reduceBEq,Nat.reduceLT,Nat.reduceLeDiff,memAll,vAll,reduceCtorEq,Nat.reduceEqDiff,Nat.reduceAdd,Nat.reduceLT,Nat.reduceLeDiff,Nat.beq]
end Go.Proofs.YtioijcfcehhmdaaGreatDoor.V

namespace Go.Proofs.YtioijcfcehhmdaaGreatDoor.V
end Go.Proofs.YtioijcfcehhmdaaGreatDoor.V

namespace Go.Proofs.YtioijcfcehhmdaaGreatDoor.V
--+
def dirF (l:List Bm):Bool:=l.all fun b=>decide (b.ws.length≤4)
def few48 (p:Pt):Bool:=dirF (p.dirty.take 12)&&(decide (p.lin.length≤20)&&(decide (p.dirty.length≤12)&&few7 p.img))
def resF (n:Nat) (p:Pt) (t:Bool):Option (Ex × St):=if t then some (.normal,⟨sl n [(1,.pbox 0 0),(2,.any)],[⟨false,bPt p⟩],[],none⟩) else some (.ret,⟨sl n [(1,.pbox 0 0),(2,.pv (.bool false))],[⟨false,bPt p⟩],[],none⟩)
theorem loop10 {p:Pt} {st:St} (h:st.head [1,3] st.boxes.length=some ⟨sl 38 [(1,.pbox 0 0),(3,.pv (.int .i64 (0:Nat)))],[⟨false,bPt p⟩],[],none⟩) :
  den env fn10_l1 st=resF 38 p (dirF ((p.dirty.take 12).drop ((0:Nat)))):=by
 unfold fn10_l1
 refine clean_up (env:=env) (nb:=1) ((p.dirty.take 12).length) (fun i=>⟨sl 38 [(1,.pbox 0 0),(3,.pv (.int .i64 i))],[⟨false,bPt p⟩],[],none⟩) (fun i=>resF 38 p (dirF ((p.dirty.take 12).drop (i)))) h (fun _=>rfl) (fun _=>by simp only [slAll,slsAll,Nat.reduceMul,Nat.reduceBEq,Nat.reduceLT,Nat.reduceLeDiff,Nat.reduceAdd,decide_true,Bool.and_self,Bool.true_and]) ?_ ?_
 ·intro i rb hi ih
  have hm:(p.dirty.take 12).length=min 12 p.dirty.length:=List.length_take
  have hi1:=i64_next hi (by unfold lim;omega)
  have hil:i<p.dirty.length:=by omega
  have F1:((i:Int)<(p.dirty.length:Int))=True:=eq_true (by omega)
  have F2:((i:Int)<12)=True:=eq_true (by omega)
  have hx:(p.dirty.map eBm)[i]?=some (.agg [.int .i64 p.dirty[i].size,.list 1 (p.dirty[i].ws.map eW)]):=by rw [List.getElem?_map,List.getElem?_eq_getElem hil];rfl
  have hs:dirF ((p.dirty.take 12).drop i)=(decide (p.dirty[i].ws.length≤4)&&dirF ((p.dirty.take 12).drop (i+1))):=by
   rw [List.drop_eq_getElem_cons hi]
   unfold dirF
   rw [List.all_cons,List.getElem_take]
  rw [hs]
  unfold resF
  by_cases c1:p.dirty[i].ws.length≤4
  ·have G1:((p.dirty[i].ws.length:Int) > 4)=False:=eq_false (by omega)
   rw [decide_eq_true c1,Bool.true_and]
   simp only [fn10_b0,F1,F2,hx,G1,bPt_eq,index_nat hil,List.length_map,slAll,slsAll,Nat.reduceMul,Nat.reduceBEq,Nat.reduceLT,Nat.reduceLeDiff,memAll,vAll,reduceCtorEq,Nat.reduceEqDiff,Nat.reduceAdd,Nat.reduceLT,Nat.reduceLeDiff,Nat.beq]
   rw [ih _ (by simp only [hi1,bPt_eq,slAll,slsAll,Nat.reduceMul,Nat.reduceBEq,Nat.reduceLT,Nat.reduceLeDiff,memAll,vAll,reduceCtorEq,Nat.reduceEqDiff,Nat.reduceAdd,Nat.reduceLT,Nat.reduceLeDiff,Nat.beq]<;>rfl)]
   unfold resF
   simp only [bPt_eq]
  ·have G1:((p.dirty[i].ws.length:Int) > 4)=True:=eq_true (by omega)
   rw [decide_eq_false c1,Bool.false_and,if_neg (by decide)]
   simp only [fn10_b0,F1,F2,hx,G1,bPt_eq,index_nat hil,List.length_map,slAll,slsAll,Nat.reduceMul,Nat.reduceBEq,Nat.reduceLT,Nat.reduceLeDiff,memAll,vAll,reduceCtorEq,Nat.reduceEqDiff,Nat.reduceAdd,Nat.reduceLT,Nat.reduceLeDiff,Nat.beq]
 ·intro rb
  have hm:(p.dirty.take 12).length=min 12 p.dirty.length:=List.length_take
  rw [List.drop_length]
  unfold resF
  rw [show dirF []=true from rfl,if_pos rfl]
  by_cases c:p.dirty.length≤12
  ·have F1:(((p.dirty.take 12).length:Int)<(p.dirty.length:Int))=False:=eq_false (by omega)
   simp only [fn10_b0,F1,bPt_eq,List.length_map,slAll,slsAll,Nat.reduceMul,Nat.reduceBEq,Nat.reduceLT,Nat.reduceLeDiff,memAll,vAll,reduceCtorEq,Nat.reduceEqDiff,Nat.reduceAdd,Nat.reduceLT,Nat.reduceLeDiff,Nat.beq]
  ·have F1:(((p.dirty.take 12).length:Int)<(p.dirty.length:Int))=True:=eq_true (by omega)
   have F2:(((p.dirty.take 12).length:Int)<12)=False:=eq_false (by omega)
   simp only [fn10_b0,F1,F2,bPt_eq,List.length_map,slAll,slsAll,Nat.reduceMul,Nat.reduceBEq,Nat.reduceLT,Nat.reduceLeDiff,memAll,vAll,reduceCtorEq,Nat.reduceEqDiff,Nat.reduceAdd,Nat.reduceLT,Nat.reduceLeDiff,Nat.beq]
theorem cal10 {p:Pt}:cal env 10 [ePt p]=some [(.bool (few48 p),false)]:=by
 have e1:=cal42 (im:=p.img)
 unfold few48
 rw [ePt_eq]
 rw [cal_code env10 rfl];simp only [fn10,slAll,Nat.reduceBEq,Nat.reduceLeDiff,Nat.reduceAdd,List.length_cons,List.length_nil]
 simp only [slAll,slsAll,Nat.reduceMul,Nat.reduceBEq,Nat.reduceLT,Nat.reduceLeDiff,memAll,vAll,reduceCtorEq,Nat.reduceEqDiff,Nat.reduceAdd,Nat.reduceLT,Nat.reduceLeDiff,Nat.beq]
 rw [loop10 (p:=p)]
 rotate_left
 ·simp only [bPt_eq];simp only [slAll,slsAll,Nat.reduceMul,Nat.reduceBEq,Nat.reduceLT,Nat.reduceLeDiff,Nat.reduceAdd,decide_true,Bool.and_self,Bool.true_and]<;>rfl
 ·unfold resF
  rw [List.drop_zero]
  cases hd:dirF (p.dirty.take 12) with
  |false=>rw [if_neg (by decide)];simp only [bPt_eq,slAll,slsAll,Nat.reduceMul,Nat.reduceBEq,Nat.reduceLT,Nat.reduceLeDiff,memAll,vAll,reduceCtorEq,Nat.reduceEqDiff,Nat.reduceAdd,Nat.reduceLT,Nat.reduceLeDiff,Nat.beq]
  |true =>
   rw [if_pos rfl]
   by_cases c1:p.lin.length≤20
   ·have G1:((p.lin.length:Int)≤20)=True:=eq_true (by omega)
    rw [decide_eq_true c1]
    by_cases c2:p.dirty.length≤12
    ·have G2:((p.dirty.length:Int)≤12)=True:=eq_true (by omega)
     rw [decide_eq_true c2]
     simp only [bPt_eq,G1,G2,e1,List.length_map,slAll,slsAll,Nat.reduceMul,Nat.reduceBEq,Nat.reduceLT,Nat.reduceLeDiff,memAll,vAll,reduceCtorEq,Nat.reduceEqDiff,Nat.reduceAdd,Nat.reduceLT,Nat.reduceLeDiff,Nat.beq]
    ·have G2:((p.dirty.length:Int)≤12)=False:=eq_false (by omega)
     rw [decide_eq_false c2]
     simp only [bPt_eq,G1,G2,List.length_map,slAll,slsAll,Nat.reduceMul,Nat.reduceBEq,Nat.reduceLT,Nat.reduceLeDiff,memAll,vAll,reduceCtorEq,Nat.reduceEqDiff,Nat.reduceAdd,Nat.reduceLT,Nat.reduceLeDiff,Nat.beq]
   ·have G1:((p.lin.length:Int)≤20)=False:=eq_false (by omega)
    rw [decide_eq_false c1]
    simp only [bPt_eq,G1,List.length_map,slAll,slsAll,Nat.reduceMul,Nat.reduceBEq,Nat.reduceLT,Nat.reduceLeDiff,memAll,vAll,reduceCtorEq,Nat.reduceEqDiff,Nat.reduceAdd,Nat.reduceLT,Nat.reduceLeDiff,Nat.beq]
end Go.Proofs.YtioijcfcehhmdaaGreatDoor.V

namespace Go.Proofs.YtioijcfcehhmdaaGreatDoor.V
def bPrc (p:Prc):List BV:=[.pv (.int .i64 p.kind),.pv (.int .i64 p.frm),.pv (.int .i64 p.to),.pv (.int .i64 p.step),.pv (.int .i64 p.ep),.pv (.int .i64 p.cyc),.pv (.bool p.done),.pv (.bool p.failed)]
theorem bPrc_eq (p:Prc):bPrc p=[.pv (.int .i64 p.kind),.pv (.int .i64 p.frm),.pv (.int .i64 p.to),.pv (.int .i64 p.step),.pv (.int .i64 p.ep),.pv (.int .i64 p.cyc),.pv (.bool p.done),.pv (.bool p.failed)]:=rfl
def zPrc:Prc:=⟨0,0,0,0,0,0,false,false⟩
def finE (p:Prc) (a b:Pt):Int :=
 if fmE p=0 then (if frsE [a,b]=0 then (if a.site=p.to then (if b.site=p.frm then (if p.done=false then (if 0<p.step then (if a.img=b.img then 0 else 22) else 12) else 12) else 1) else 1) else frsE [a,b]) else fmE p
def finO (p:Prc) (a b:Pt):Prc:=if finE p a b=0 then { p with done:=true } else zPrc
theorem fmE_step {p:Prc} (h:fmE p=0):0≤p.step:=by
 unfold fmE at h
 by_cases c:0≤p.step
 ·exact c
 ·rw [if_neg c] at h
  exfalso
  split at h
  ·split at h
   ·split at h
    ·split at h
     ·exact absurd h (by decide)
     ·exact absurd h (by decide)
    ·exact absurd h (by decide)
   ·exact absurd h (by decide)
  ·exact absurd h (by decide)
def fbx (p:Prc) (a b:Pt):List Box:=[⟨false,bPrc p⟩,⟨false,bPt a⟩,⟨false,bPt b⟩,⟨false,bPrc zPrc⟩,⟨false,[.pv (.int .i64 0)]⟩,⟨false,bPrc p⟩]
def resK (x:Ex) (p:Prc) (a b:Pt):Option (Ex × St):=some (x,⟨sl 64 [(4,.pbox 1 0),(5,.pbox 2 0),(6,.pbox 3 0),(7,.pbox 4 0),(8,.pbox 5 0)],fbx p a b,[],none⟩)
def thrX (e:Int):Ex:=if e=0 then .normal else .thr 148 e
theorem loop15 {p:Prc} {a b:Pt} {l:List Pt} (hlab:l=[a,b]) (hl:l.length≤lim) (hf:∀ x∈l,fitP x) {st:St} (h:st.head [4,5,6,7,8,18,19,20] st.boxes.length=some ⟨sl 64 [(4,.pbox 1 0),(5,.pbox 2 0),(6,.pbox 3 0),(7,.pbox 4 0),(8,.pbox 5 0),(18,.row 4 (l.map ePt)),(19,.pv (.int .i64 l.length)),(20,.pv (.int .i64 (0:Nat)))],[⟨false,bPrc p⟩,⟨false,bPt a⟩,⟨false,bPt b⟩,⟨false,bPrc zPrc⟩,⟨false,[.pv (.int .i64 0)]⟩,⟨false,bPrc p⟩],[],none⟩) :
  den env fn15_l1 st=resK (thrX (frsE (l.drop ((0:Nat))))) p a b:=by
 unfold fn15_l1
 refine clean_up (env:=env) (nb:=6) (l.length) (fun i=>⟨sl 64 [(4,.pbox 1 0),(5,.pbox 2 0),(6,.pbox 3 0),(7,.pbox 4 0),(8,.pbox 5 0),(18,.row 4 (l.map ePt)),(19,.pv (.int .i64 l.length)),(20,.pv (.int .i64 i))],[⟨false,bPrc p⟩,⟨false,bPt a⟩,⟨false,bPt b⟩,⟨false,bPrc zPrc⟩,⟨false,[.pv (.int .i64 0)]⟩,⟨false,bPrc p⟩],[],none⟩) (fun i=>resK (thrX (frsE (l.drop (i)))) p a b) h (fun _=>rfl) (fun _=>by simp only [slAll,slsAll,Nat.reduceMul,Nat.reduceBEq,Nat.reduceLT,Nat.reduceLeDiff,Nat.reduceAdd,decide_true,Bool.and_self,Bool.true_and]) ?_ ?_
 ·intro i rb hi ih
  have hi1:=i64_next hi hl
  have F1:((i:Int)<(l.length:Int))=True:=eq_true (by omega)
  have hx:(l.map ePt)[i]?=some (ePt l[i]):=by rw [List.getElem?_map,List.getElem?_eq_getElem hi];rfl
  have P4:∀ a b c d:PV,part [a,b,c,d] 0 (some 4)=some (.agg [a,b,c,d]):=fun _ _ _ _=>rfl
  have e1:=cal50 (p:=l[i]) (hf _ (List.getElem_mem hi))
  rw [frsE_step hi]
  rw [ePt_eq] at hx e1
  try unfold fbx
  by_cases c:chkP l[i]=0
  ·rw [if_pos c]
   rw [c] at e1
   have k1:=okT49
   have k2:=cal49
   simp only [fn15_b0,F1,hx,P4,e1,k1,k2,bPt_eq,bPrc_eq,index_nat hi,List.length_map,slAll,slsAll,Nat.reduceMul,Nat.reduceBEq,Nat.reduceLT,Nat.reduceLeDiff,memAll,vAll,reduceCtorEq,Nat.reduceEqDiff,Nat.reduceAdd,Nat.reduceLT,Nat.reduceLeDiff,Nat.beq]
   rw [ih _ (by simp only [hi1,fbx,bPt_eq,bPrc_eq,slAll,slsAll,Nat.reduceMul,Nat.reduceBEq,Nat.reduceLT,Nat.reduceLeDiff,memAll,vAll,reduceCtorEq,Nat.reduceEqDiff,Nat.reduceAdd,Nat.reduceLT,Nat.reduceLeDiff,Nat.beq]<;>rfl)]
  ·rw [if_neg c]
   have k1:=okF49 c
   unfold resK thrX
   rw [if_neg c]
   simp only [fn15_b0,F1,hx,P4,e1,k1,bPt_eq,bPrc_eq,fbx,index_nat hi,List.length_map,slAll,slsAll,Nat.reduceMul,Nat.reduceBEq,Nat.reduceLT,Nat.reduceLeDiff,memAll,vAll,reduceCtorEq,Nat.reduceEqDiff,Nat.reduceAdd,Nat.reduceLT,Nat.reduceLeDiff,Nat.beq]
 ·intro rb
  rw [List.drop_length]
  unfold resK thrX frsE
  rw [if_pos rfl]
  simp only [fn15_b0,Int.lt_irrefl,bPt_eq,bPrc_eq,fbx,slAll,slsAll,Nat.reduceMul,Nat.reduceBEq,Nat.reduceLT,Nat.reduceLeDiff,memAll,vAll,reduceCtorEq,Nat.reduceEqDiff,Nat.reduceAdd,Nat.reduceLT,Nat.reduceLeDiff,Nat.beq]
theorem cal15 {p:Prc} {a b:Pt} (ha:fitP a) (hb:fitP b) (hv:∀ v∈a.img,v.length≤lim):cal env 15 [ePrc p,ePt a,ePt b]=some [(ePrc (finO p a b),false),(.int .i64 (finE p a b),false)]:=by
 have d1:=fm48 (p:=p)
 rw [ePrc_eq] at d1
 have hloop:=fun st h=>loop15 (st:=st) (p:=p) (a:=a) (b:=b) (l:=[a,b]) rfl (by show 2≤lim;unfold lim;omega) (fun x hx=>by
  rcases List.mem_cons.1 hx with rfl|hx
  ·exact ha
  ·rw [List.mem_singleton.1 hx];exact hb) h
 simp only [List.drop_zero] at hloop
 have e1:=cal37 (a:=a.img) (b:=b.img) ha.2.2 hv
 have q1:=demT51
 have q2:=cal51
 have q3:=demF51
 rw [ePrc_eq,ePt_eq,ePt_eq,cal_dfn env15 rfl]
 by_cases c0:fmE p=0
 rotate_left
 ·rw [if_neg c0] at d1
  have Z:(fmE p=0)=False:=eq_false c0
  have hE:finE p a b=fmE p:=by unfold finE;rw [if_neg c0]
  have hO:finO p a b=zPrc:=by unfold finO;rw [hE,if_neg c0]
  rw [hE,hO,ePrc_eq]
  simp only [fn15,slAll,Nat.reduceBEq,Nat.reduceLeDiff,Nat.reduceAdd,List.length_cons,List.length_nil]
  simp only [d1,Z,q1,q2,q3,zPrc,bPt_eq,bPrc_eq,dfnRun_normal,DFn.begun,dfnEnd,varOf,dfnResc,dfnClos,heldOf,boxOf,St.setVar,St.setVars,St.varInt,PV.naught,List.all_cons,List.all_nil,List.head?_cons,List.tail_cons,and_true,true_and,List.nodup_cons,List.mem_cons,List.not_mem_nil,or_false,not_false_eq_true,List.nodup_nil,Option.some.injEq,Nat.reduceEqDiff,Int.reduceEq,if_true,if_false,slAll,slsAll,Nat.reduceMul,Nat.reduceBEq,Nat.reduceLT,Nat.reduceLeDiff,memAll,vAll,reduceCtorEq,Nat.reduceEqDiff,Nat.reduceAdd,Nat.reduceLT,Nat.reduceLeDiff,Nat.beq]
 rw [if_pos c0] at d1
 have d2:=cal48 (p:=p) c0
 rw [ePrc_eq] at d2
 by_cases c1:frsE [a,b]=0
 rotate_left
 ·have T:thrX (frsE [a,b])=.thr 148 (frsE [a,b]):=by unfold thrX;rw [if_neg c1]
  have Z:(frsE [a,b]=0)=False:=eq_false c1
  have hE:finE p a b=frsE [a,b]:=by unfold finE;rw [if_pos c0,if_neg c1]
  have hO:finO p a b=zPrc:=by unfold finO;rw [hE,if_neg c1]
  rw [hE,hO,ePrc_eq]
  simp only [fn15,slAll,Nat.reduceBEq,Nat.reduceLeDiff,Nat.reduceAdd,List.length_cons,List.length_nil]
  simp only [d1,d2,bPt_eq,bPrc_eq,dfnRun_normal,DFn.begun,slAll,slsAll,Nat.reduceMul,Nat.reduceBEq,Nat.reduceLT,Nat.reduceLeDiff,memAll,vAll,reduceCtorEq,Nat.reduceEqDiff,Nat.reduceAdd,Nat.reduceLT,Nat.reduceLeDiff,Nat.beq]
  rw [hloop _ (by simp only [fbx,zPrc,bPt_eq,bPrc_eq,List.length_cons,List.length_nil,List.map_cons,List.map_nil,ePt_eq];simp only [slAll,slsAll,Nat.reduceMul,Nat.reduceBEq,Nat.reduceLT,Nat.reduceLeDiff,Nat.reduceAdd,decide_true,Bool.and_self,Bool.true_and]<;>rfl)]
  simp only [resK,fbx,d1,d2,T,Z,q1,q2,q3,zPrc,bPt_eq,bPrc_eq,dfnRun_normal,DFn.begun,dfnEnd,varOf,dfnResc,dfnClos,heldOf,boxOf,St.setVar,St.setVars,St.varInt,PV.naught,List.all_cons,List.all_nil,List.head?_cons,List.tail_cons,and_true,true_and,List.nodup_cons,List.mem_cons,List.not_mem_nil,or_false,not_false_eq_true,List.nodup_nil,Option.some.injEq,Nat.reduceEqDiff,Int.reduceEq,if_true,if_false,slAll,slsAll,Nat.reduceMul,Nat.reduceBEq,Nat.reduceLT,Nat.reduceLeDiff,memAll,vAll,reduceCtorEq,Nat.reduceEqDiff,Nat.reduceAdd,Nat.reduceLT,Nat.reduceLeDiff,Nat.beq]
 have T:thrX (frsE [a,b])=.normal:=by unfold thrX;rw [if_pos c1]
 by_cases c2:a.site=p.to
 rotate_left
 ·have F2:(a.site==p.to)=false:=by simp [c2]
  have hE:finE p a b=1:=by unfold finE;rw [if_pos c0,if_pos c1,if_neg c2]
  have hO:finO p a b=zPrc:=by unfold finO;rw [hE,if_neg (by decide)]
  rw [hE,hO,ePrc_eq]
  simp only [fn15,slAll,Nat.reduceBEq,Nat.reduceLeDiff,Nat.reduceAdd,List.length_cons,List.length_nil]
  simp only [d1,d2,bPt_eq,bPrc_eq,dfnRun_normal,DFn.begun,slAll,slsAll,Nat.reduceMul,Nat.reduceBEq,Nat.reduceLT,Nat.reduceLeDiff,memAll,vAll,reduceCtorEq,Nat.reduceEqDiff,Nat.reduceAdd,Nat.reduceLT,Nat.reduceLeDiff,Nat.beq]
  rw [hloop _ (by simp only [fbx,zPrc,bPt_eq,bPrc_eq,List.length_cons,List.length_nil,List.map_cons,List.map_nil,ePt_eq];simp only [slAll,slsAll,Nat.reduceMul,Nat.reduceBEq,Nat.reduceLT,Nat.reduceLeDiff,Nat.reduceAdd,decide_true,Bool.and_self,Bool.true_and]<;>rfl)]
  simp only [resK,fbx,d1,d2,T,F2,q1,q2,q3,zPrc,bPt_eq,bPrc_eq,dfnRun_normal,DFn.begun,dfnEnd,varOf,dfnResc,dfnClos,heldOf,boxOf,St.setVar,St.setVars,St.varInt,PV.naught,List.all_cons,List.all_nil,List.head?_cons,List.tail_cons,and_true,true_and,List.nodup_cons,List.mem_cons,List.not_mem_nil,or_false,not_false_eq_true,List.nodup_nil,Option.some.injEq,Nat.reduceEqDiff,Int.reduceEq,if_true,if_false,slAll,slsAll,Nat.reduceMul,Nat.reduceBEq,Nat.reduceLT,Nat.reduceLeDiff,memAll,vAll,reduceCtorEq,Nat.reduceEqDiff,Nat.reduceAdd,Nat.reduceLT,Nat.reduceLeDiff,Nat.beq]
 have F2:(a.site==p.to)=true:=by simp [c2]
 by_cases c3:b.site=p.frm
 rotate_left
 ·have F3:(b.site==p.frm)=false:=by simp [c3]
  have hE:finE p a b=1:=by unfold finE;rw [if_pos c0,if_pos c1,if_pos c2,if_neg c3]
  have hO:finO p a b=zPrc:=by unfold finO;rw [hE,if_neg (by decide)]
  rw [hE,hO,ePrc_eq]
  simp only [fn15,slAll,Nat.reduceBEq,Nat.reduceLeDiff,Nat.reduceAdd,List.length_cons,List.length_nil]
  simp only [d1,d2,bPt_eq,bPrc_eq,dfnRun_normal,DFn.begun,slAll,slsAll,Nat.reduceMul,Nat.reduceBEq,Nat.reduceLT,Nat.reduceLeDiff,memAll,vAll,reduceCtorEq,Nat.reduceEqDiff,Nat.reduceAdd,Nat.reduceLT,Nat.reduceLeDiff,Nat.beq]
  rw [hloop _ (by simp only [fbx,zPrc,bPt_eq,bPrc_eq,List.length_cons,List.length_nil,List.map_cons,List.map_nil,ePt_eq];simp only [slAll,slsAll,Nat.reduceMul,Nat.reduceBEq,Nat.reduceLT,Nat.reduceLeDiff,Nat.reduceAdd,decide_true,Bool.and_self,Bool.true_and]<;>rfl)]
  simp only [resK,fbx,d1,d2,T,F2,F3,q1,q2,q3,zPrc,bPt_eq,bPrc_eq,dfnRun_normal,DFn.begun,dfnEnd,varOf,dfnResc,dfnClos,heldOf,boxOf,St.setVar,St.setVars,St.varInt,PV.naught,List.all_cons,List.all_nil,List.head?_cons,List.tail_cons,and_true,true_and,List.nodup_cons,List.mem_cons,List.not_mem_nil,or_false,not_false_eq_true,List.nodup_nil,Option.some.injEq,Nat.reduceEqDiff,Int.reduceEq,if_true,if_false,slAll,slsAll,Nat.reduceMul,Nat.reduceBEq,Nat.reduceLT,Nat.reduceLeDiff,memAll,vAll,reduceCtorEq,Nat.reduceEqDiff,Nat.reduceAdd,Nat.reduceLT,Nat.reduceLeDiff,Nat.beq]
 have F3:(b.site==p.frm)=true:=by simp [c3]
 by_cases c4:p.done=false
 rotate_left
 ·have F4:p.done=true:=by simpa using c4
  have hE:finE p a b=12:=by unfold finE;rw [if_pos c0,if_pos c1,if_pos c2,if_pos c3,if_neg c4]
  have hO:finO p a b=zPrc:=by unfold finO;rw [hE,if_neg (by decide)]
  rw [hE,hO,ePrc_eq]
  simp only [fn15,slAll,Nat.reduceBEq,Nat.reduceLeDiff,Nat.reduceAdd,List.length_cons,List.length_nil]
  simp only [d1,d2,bPt_eq,bPrc_eq,dfnRun_normal,DFn.begun,slAll,slsAll,Nat.reduceMul,Nat.reduceBEq,Nat.reduceLT,Nat.reduceLeDiff,memAll,vAll,reduceCtorEq,Nat.reduceEqDiff,Nat.reduceAdd,Nat.reduceLT,Nat.reduceLeDiff,Nat.beq]
  rw [hloop _ (by simp only [fbx,zPrc,bPt_eq,bPrc_eq,List.length_cons,List.length_nil,List.map_cons,List.map_nil,ePt_eq];simp only [slAll,slsAll,Nat.reduceMul,Nat.reduceBEq,Nat.reduceLT,Nat.reduceLeDiff,Nat.reduceAdd,decide_true,Bool.and_self,Bool.true_and]<;>rfl)]
  simp only [resK,fbx,d1,d2,T,F2,F3,F4,q1,q2,q3,zPrc,bPt_eq,bPrc_eq,dfnRun_normal,DFn.begun,dfnEnd,varOf,dfnResc,dfnClos,heldOf,boxOf,St.setVar,St.setVars,St.varInt,PV.naught,List.all_cons,List.all_nil,List.head?_cons,List.tail_cons,and_true,true_and,List.nodup_cons,List.mem_cons,List.not_mem_nil,or_false,not_false_eq_true,List.nodup_nil,Option.some.injEq,Nat.reduceEqDiff,Int.reduceEq,if_true,if_false,slAll,slsAll,Nat.reduceMul,Nat.reduceBEq,Nat.reduceLT,Nat.reduceLeDiff,memAll,vAll,reduceCtorEq,Nat.reduceEqDiff,Nat.reduceAdd,Nat.reduceLT,Nat.reduceLeDiff,Nat.beq]
 have F4:p.done=false:=by simpa using c4
 by_cases c5:0<p.step
 rotate_left
 ·have F5:(p.step > 0)=False:=eq_false c5
  have hE:finE p a b=12:=by unfold finE;rw [if_pos c0,if_pos c1,if_pos c2,if_pos c3,if_pos c4,if_neg c5]
  have hO:finO p a b=zPrc:=by unfold finO;rw [hE,if_neg (by decide)]
  rw [hE,hO,ePrc_eq]
  simp only [fn15,slAll,Nat.reduceBEq,Nat.reduceLeDiff,Nat.reduceAdd,List.length_cons,List.length_nil]
  simp only [d1,d2,bPt_eq,bPrc_eq,dfnRun_normal,DFn.begun,slAll,slsAll,Nat.reduceMul,Nat.reduceBEq,Nat.reduceLT,Nat.reduceLeDiff,memAll,vAll,reduceCtorEq,Nat.reduceEqDiff,Nat.reduceAdd,Nat.reduceLT,Nat.reduceLeDiff,Nat.beq]
  rw [hloop _ (by simp only [fbx,zPrc,bPt_eq,bPrc_eq,List.length_cons,List.length_nil,List.map_cons,List.map_nil,ePt_eq];simp only [slAll,slsAll,Nat.reduceMul,Nat.reduceBEq,Nat.reduceLT,Nat.reduceLeDiff,Nat.reduceAdd,decide_true,Bool.and_self,Bool.true_and]<;>rfl)]
  simp only [resK,fbx,d1,d2,T,F2,F3,F4,F5,q1,q2,q3,zPrc,bPt_eq,bPrc_eq,dfnRun_normal,DFn.begun,dfnEnd,varOf,dfnResc,dfnClos,heldOf,boxOf,St.setVar,St.setVars,St.varInt,PV.naught,List.all_cons,List.all_nil,List.head?_cons,List.tail_cons,and_true,true_and,List.nodup_cons,List.mem_cons,List.not_mem_nil,or_false,not_false_eq_true,List.nodup_nil,Option.some.injEq,Nat.reduceEqDiff,Int.reduceEq,if_true,if_false,slAll,slsAll,Nat.reduceMul,Nat.reduceBEq,Nat.reduceLT,Nat.reduceLeDiff,memAll,vAll,reduceCtorEq,Nat.reduceEqDiff,Nat.reduceAdd,Nat.reduceLT,Nat.reduceLeDiff,Nat.beq]
 have F5:(p.step > 0)=True:=eq_true c5
 by_cases c6:a.img=b.img
 rotate_left
 ·rw [decide_eq_false c6] at e1
  have hE:finE p a b=22:=by unfold finE;rw [if_pos c0,if_pos c1,if_pos c2,if_pos c3,if_pos c4,if_pos c5,if_neg c6]
  have hO:finO p a b=zPrc:=by unfold finO;rw [hE,if_neg (by decide)]
  rw [hE,hO,ePrc_eq]
  simp only [fn15,slAll,Nat.reduceBEq,Nat.reduceLeDiff,Nat.reduceAdd,List.length_cons,List.length_nil]
  simp only [d1,d2,bPt_eq,bPrc_eq,dfnRun_normal,DFn.begun,slAll,slsAll,Nat.reduceMul,Nat.reduceBEq,Nat.reduceLT,Nat.reduceLeDiff,memAll,vAll,reduceCtorEq,Nat.reduceEqDiff,Nat.reduceAdd,Nat.reduceLT,Nat.reduceLeDiff,Nat.beq]
  rw [hloop _ (by simp only [fbx,zPrc,bPt_eq,bPrc_eq,List.length_cons,List.length_nil,List.map_cons,List.map_nil,ePt_eq];simp only [slAll,slsAll,Nat.reduceMul,Nat.reduceBEq,Nat.reduceLT,Nat.reduceLeDiff,Nat.reduceAdd,decide_true,Bool.and_self,Bool.true_and]<;>rfl)]
  simp only [resK,fbx,d1,d2,T,F2,F3,F4,F5,e1,q1,q2,q3,zPrc,bPt_eq,bPrc_eq,dfnRun_normal,DFn.begun,dfnEnd,varOf,dfnResc,dfnClos,heldOf,boxOf,St.setVar,St.setVars,St.varInt,PV.naught,List.all_cons,List.all_nil,List.head?_cons,List.tail_cons,and_true,true_and,List.nodup_cons,List.mem_cons,List.not_mem_nil,or_false,not_false_eq_true,List.nodup_nil,Option.some.injEq,Nat.reduceEqDiff,Int.reduceEq,if_true,if_false,slAll,slsAll,Nat.reduceMul,Nat.reduceBEq,Nat.reduceLT,Nat.reduceLeDiff,memAll,vAll,reduceCtorEq,Nat.reduceEqDiff,Nat.reduceAdd,Nat.reduceLT,Nat.reduceLeDiff,Nat.beq]
 rw [decide_eq_true c6] at e1
 have hE:finE p a b=0:=by unfold finE;rw [if_pos c0,if_pos c1,if_pos c2,if_pos c3,if_pos c4,if_pos c5,if_pos c6]
 have hO:finO p a b={ p with done:=true }:=by unfold finO;rw [hE,if_pos rfl]
 rw [hE,hO,ePrc_eq]
 simp only [fn15,slAll,Nat.reduceBEq,Nat.reduceLeDiff,Nat.reduceAdd,List.length_cons,List.length_nil]
 simp only [d1,d2,bPt_eq,bPrc_eq,dfnRun_normal,DFn.begun,slAll,slsAll,Nat.reduceMul,Nat.reduceBEq,Nat.reduceLT,Nat.reduceLeDiff,memAll,vAll,reduceCtorEq,Nat.reduceEqDiff,Nat.reduceAdd,Nat.reduceLT,Nat.reduceLeDiff,Nat.beq]
 rw [hloop _ (by simp only [fbx,zPrc,bPt_eq,bPrc_eq,List.length_cons,List.length_nil,List.map_cons,List.map_nil,ePt_eq];simp only [slAll,slsAll,Nat.reduceMul,Nat.reduceBEq,Nat.reduceLT,Nat.reduceLeDiff,Nat.reduceAdd,decide_true,Bool.and_self,Bool.true_and]<;>rfl)]
 simp only [resK,fbx,d1,d2,T,F2,F3,F4,F5,e1,q1,q2,q3,zPrc,bPt_eq,bPrc_eq,dfnRun_normal,DFn.begun,dfnEnd,varOf,dfnResc,dfnClos,heldOf,boxOf,St.setVar,St.setVars,St.varInt,PV.naught,List.all_cons,List.all_nil,List.head?_cons,List.tail_cons,and_true,true_and,List.nodup_cons,List.mem_cons,List.not_mem_nil,or_false,not_false_eq_true,List.nodup_nil,Option.some.injEq,Nat.reduceEqDiff,Int.reduceEq,if_true,if_false,slAll,slsAll,Nat.reduceMul,Nat.reduceBEq,Nat.reduceLT,Nat.reduceLeDiff,memAll,vAll,reduceCtorEq,Nat.reduceEqDiff,Nat.reduceAdd,Nat.reduceLT,Nat.reduceLeDiff,Nat.beq]
theorem frs2 (a b:Pt):frsE [a,b]=if chkP a=0 then (if chkP b=0 then 0 else chkP b) else chkP a:=rfl
theorem cal16 {p:Prc} {a b:Pt} (ha:fitP a) (hb:fitP b) (hv:∀ v∈a.img,v.length≤lim):cal env 16 [ePrc p,ePt a,ePt b]=some [(ePrc (finO p a b),false),(.int .i64 (finE p a b),false)]:=by
 have d1:=cal29 (p:=p)
 have g1:=cal55 (p:=a) ha
 have g2:=cal55 (p:=b) hb
 have e1:=cal63 (a:=a.img) (b:=b.img) ha.2.2 hv
 have hf:=frs2 a b
 have Z0:((0:Int) != 0)=false:=rfl
 have hs:=fmE_step (p:=p)
 rw [ePrc_eq] at d1
 rw [ePt_eq] at g1 g2
 rw [ePrc_eq,ePt_eq,ePt_eq]
 by_cases c0:fmE p=0
 rotate_left
 ·have Z:(fmE p != 0)=true:=by simp [c0]
  have hE:finE p a b=fmE p:=by unfold finE;rw [if_neg c0]
  have hO:finO p a b=zPrc:=by unfold finO;rw [hE,if_neg c0]
  rw [hE,hO,ePrc_eq]
  rw [cal_code env16 rfl];simp only [fn16,slAll,Nat.reduceBEq,Nat.reduceLeDiff,Nat.reduceAdd,List.length_cons,List.length_nil]
  simp only [d1,Z,zPrc,bPt_eq,bPrc_eq,slAll,slsAll,Nat.reduceMul,Nat.reduceBEq,Nat.reduceLT,Nat.reduceLeDiff,memAll,vAll,reduceCtorEq,Nat.reduceEqDiff,Nat.reduceAdd,Nat.reduceLT,Nat.reduceLeDiff,Nat.beq]
 rw [c0] at d1
 by_cases c1:chkP a=0
 rotate_left
 ·have Z:(chkP a != 0)=true:=by simp [c1]
  have hE:finE p a b=chkP a:=by unfold finE;rw [if_pos c0,if_neg (show ¬ frsE [a,b]=0 by rw [hf,if_neg c1];exact c1),hf,if_neg c1]
  have hO:finO p a b=zPrc:=by unfold finO;rw [hE,if_neg c1]
  rw [hE,hO,ePrc_eq]
  rw [cal_code env16 rfl];simp only [fn16,slAll,Nat.reduceBEq,Nat.reduceLeDiff,Nat.reduceAdd,List.length_cons,List.length_nil]
  simp only [d1,Z0,g1,Z,zPrc,bPt_eq,bPrc_eq,slAll,slsAll,Nat.reduceMul,Nat.reduceBEq,Nat.reduceLT,Nat.reduceLeDiff,memAll,vAll,reduceCtorEq,Nat.reduceEqDiff,Nat.reduceAdd,Nat.reduceLT,Nat.reduceLeDiff,Nat.beq]
 rw [c1] at g1
 by_cases c2:chkP b=0
 rotate_left
 ·have Z:(chkP b != 0)=true:=by simp [c2]
  have hE:finE p a b=chkP b:=by unfold finE;rw [if_pos c0,if_neg (show ¬ frsE [a,b]=0 by rw [hf,if_pos c1,if_neg c2];exact c2),hf,if_pos c1,if_neg c2]
  have hO:finO p a b=zPrc:=by unfold finO;rw [hE,if_neg c2]
  rw [hE,hO,ePrc_eq]
  rw [cal_code env16 rfl];simp only [fn16,slAll,Nat.reduceBEq,Nat.reduceLeDiff,Nat.reduceAdd,List.length_cons,List.length_nil]
  simp only [d1,Z0,g1,g2,Z,zPrc,bPt_eq,bPrc_eq,slAll,slsAll,Nat.reduceMul,Nat.reduceBEq,Nat.reduceLT,Nat.reduceLeDiff,memAll,vAll,reduceCtorEq,Nat.reduceEqDiff,Nat.reduceAdd,Nat.reduceLT,Nat.reduceLeDiff,Nat.beq]
 rw [c2] at g2
 by_cases c3:a.site=p.to
 rotate_left
 ·have F3:(a.site != p.to)=true:=by simp [c3]
  have hE:finE p a b=1:=by unfold finE;rw [if_pos c0,if_pos (show frsE [a,b]=0 by rw [hf,if_pos c1,if_pos c2]),if_neg c3]
  have hO:finO p a b=zPrc:=by unfold finO;rw [hE,if_neg (by decide)]
  rw [hE,hO,ePrc_eq]
  rw [cal_code env16 rfl];simp only [fn16,slAll,Nat.reduceBEq,Nat.reduceLeDiff,Nat.reduceAdd,List.length_cons,List.length_nil]
  simp only [d1,Z0,g1,g2,F3,zPrc,bPt_eq,bPrc_eq,slAll,slsAll,Nat.reduceMul,Nat.reduceBEq,Nat.reduceLT,Nat.reduceLeDiff,memAll,vAll,reduceCtorEq,Nat.reduceEqDiff,Nat.reduceAdd,Nat.reduceLT,Nat.reduceLeDiff,Nat.beq]
 have F3:(a.site != p.to)=false:=by simp [c3]
 by_cases c4:b.site=p.frm
 rotate_left
 ·have F4:(b.site != p.frm)=true:=by simp [c4]
  have hE:finE p a b=1:=by unfold finE;rw [if_pos c0,if_pos (show frsE [a,b]=0 by rw [hf,if_pos c1,if_pos c2]),if_pos c3,if_neg c4]
  have hO:finO p a b=zPrc:=by unfold finO;rw [hE,if_neg (by decide)]
  rw [hE,hO,ePrc_eq]
  rw [cal_code env16 rfl];simp only [fn16,slAll,Nat.reduceBEq,Nat.reduceLeDiff,Nat.reduceAdd,List.length_cons,List.length_nil]
  simp only [d1,Z0,g1,g2,F3,F4,zPrc,bPt_eq,bPrc_eq,slAll,slsAll,Nat.reduceMul,Nat.reduceBEq,Nat.reduceLT,Nat.reduceLeDiff,memAll,vAll,reduceCtorEq,Nat.reduceEqDiff,Nat.reduceAdd,Nat.reduceLT,Nat.reduceLeDiff,Nat.beq]
 have F4:(b.site != p.frm)=false:=by simp [c4]
 by_cases c5:p.done=false
 rotate_left
 ·have F5:p.done=true:=by simpa using c5
  rw [F5] at d1
  have hE:finE p a b=12:=by unfold finE;rw [if_pos c0,if_pos (show frsE [a,b]=0 by rw [hf,if_pos c1,if_pos c2]),if_pos c3,if_pos c4,if_neg c5]
  have hO:finO p a b=zPrc:=by unfold finO;rw [hE,if_neg (by decide)]
  rw [hE,hO,ePrc_eq]
  rw [cal_code env16 rfl];simp only [fn16,slAll,Nat.reduceBEq,Nat.reduceLeDiff,Nat.reduceAdd,List.length_cons,List.length_nil]
  simp only [d1,Z0,g1,g2,F3,F4,F5,zPrc,bPt_eq,bPrc_eq,slAll,slsAll,Nat.reduceMul,Nat.reduceBEq,Nat.reduceLT,Nat.reduceLeDiff,memAll,vAll,reduceCtorEq,Nat.reduceEqDiff,Nat.reduceAdd,Nat.reduceLT,Nat.reduceLeDiff,Nat.beq]
 have F5:p.done=false:=by simpa using c5
 rw [F5] at d1
 by_cases c6:0<p.step
 rotate_left
 ·have F6:(p.step==0)=true:=by simp;omega
  have hE:finE p a b=12:=by unfold finE;rw [if_pos c0,if_pos (show frsE [a,b]=0 by rw [hf,if_pos c1,if_pos c2]),if_pos c3,if_pos c4,if_pos c5,if_neg c6]
  have hO:finO p a b=zPrc:=by unfold finO;rw [hE,if_neg (by decide)]
  rw [hE,hO,ePrc_eq]
  rw [cal_code env16 rfl];simp only [fn16,slAll,Nat.reduceBEq,Nat.reduceLeDiff,Nat.reduceAdd,List.length_cons,List.length_nil]
  simp only [d1,Z0,g1,g2,F3,F4,F5,F6,zPrc,bPt_eq,bPrc_eq,slAll,slsAll,Nat.reduceMul,Nat.reduceBEq,Nat.reduceLT,Nat.reduceLeDiff,memAll,vAll,reduceCtorEq,Nat.reduceEqDiff,Nat.reduceAdd,Nat.reduceLT,Nat.reduceLeDiff,Nat.beq]
 have F6:(p.step==0)=false:=by simp;omega
 by_cases c7:a.img=b.img
 rotate_left
 ·rw [decide_eq_false c7] at e1
  have hE:finE p a b=22:=by unfold finE;rw [if_pos c0,if_pos (show frsE [a,b]=0 by rw [hf,if_pos c1,if_pos c2]),if_pos c3,if_pos c4,if_pos c5,if_pos c6,if_neg c7]
  have hO:finO p a b=zPrc:=by unfold finO;rw [hE,if_neg (by decide)]
  rw [hE,hO,ePrc_eq]
  rw [cal_code env16 rfl];simp only [fn16,slAll,Nat.reduceBEq,Nat.reduceLeDiff,Nat.reduceAdd,List.length_cons,List.length_nil]
  simp only [d1,Z0,g1,g2,F3,F4,F5,F6,e1,zPrc,bPt_eq,bPrc_eq,slAll,slsAll,Nat.reduceMul,Nat.reduceBEq,Nat.reduceLT,Nat.reduceLeDiff,memAll,vAll,reduceCtorEq,Nat.reduceEqDiff,Nat.reduceAdd,Nat.reduceLT,Nat.reduceLeDiff,Nat.beq]
 rw [decide_eq_true c7] at e1
 have hE:finE p a b=0:=by unfold finE;rw [if_pos c0,if_pos (show frsE [a,b]=0 by rw [hf,if_pos c1,if_pos c2]),if_pos c3,if_pos c4,if_pos c5,if_pos c6,if_pos c7]
 have hO:finO p a b={ p with done:=true }:=by unfold finO;rw [hE,if_pos rfl]
 rw [hE,hO,ePrc_eq]
 rw [cal_code env16 rfl];simp only [fn16,slAll,Nat.reduceBEq,Nat.reduceLeDiff,Nat.reduceAdd,List.length_cons,List.length_nil]
 simp only [d1,Z0,g1,g2,F3,F4,F5,F6,e1,zPrc,bPt_eq,bPrc_eq,slAll,slsAll,Nat.reduceMul,Nat.reduceBEq,Nat.reduceLT,Nat.reduceLeDiff,memAll,vAll,reduceCtorEq,Nat.reduceEqDiff,Nat.reduceAdd,Nat.reduceLT,Nat.reduceLeDiff,Nat.beq]
end Go.Proofs.YtioijcfcehhmdaaGreatDoor.V

namespace Go.Proofs.YtioijcfcehhmdaaGreatDoor.V
def eImg (im:Img):PV:=.list 1 (im.map eSecs)
def pairErr (a b:Img):Int:=if imCheck a≠0 then imCheck a else if imCheck b≠0 then imCheck b else if imSizes a=imSizes b then 0 else 22
def differ (a b:Img):List (List Exn):=(a.zip b).map fun q=>volDiff q.1 q.2
def differOut (a b:Img):List (List Exn):=if pairErr a b=0 then differ a b else []
theorem sizes_inj {a b:Img} (h:imSizes a=imSizes b):a.length=b.length∧∀ i (h1:i<a.length) (h2:i<b.length),a[i].length=b[i].length:=by
 have hl:a.length=b.length:=by simpa [imSizes] using congrArg List.length h
 refine ⟨hl,fun i h1 h2=>?_⟩
 have:=congrArg (fun l=>l[i]?) h
 simp only [imSizes,List.getElem?_map,List.getElem?_eq_getElem h1,List.getElem?_eq_getElem h2,Option.map_some,Option.some.injEq] at this
 omega
theorem loop76 {A B:PV} {l:List Img} (hl:l.length≤lim) (hi0:∀ im∈l,im.length≤lim) {st:St} (h:st.head [0,1,10,11,12] st.boxes.length=some ⟨[.pv A,.pv B,.any,.any,.any,.any,.any,.any,.any,.any,.row 1 (l.map eImg),.pv (.int .i64 l.length),.pv (.int .i64 (0:Nat)),.any,.any,.any,.any,.any,.any,.any,.any,.any,.any,.any,.any,.any,.any,.any],[],[],none⟩) :
  den env fn76_l1 st=match l.find? (fun im=>decide (imCheck im≠0)) with|some im=>some (.ret,⟨[.pv A,.pv B,.any,.any,.pv (.int .i64 (imCheck im)),.any,.any,.any,.any,.any,.any,.any,.any,.any,.any,.any,.any,.any,.any,.any,.any,.any,.any,.any,.any,.any,.any,.any],[],[],none⟩)|none=>some (.normal,⟨[.pv A,.pv B,.any,.any,.any,.any,.any,.any,.any,.any,.any,.any,.any,.any,.any,.any,.any,.any,.any,.any,.any,.any,.any,.any,.any,.any,.any,.any],[],[],none⟩):=by
 unfold fn76_l1
 rw [ clean_up (env:=env) (l.length) (fun i=>⟨[.pv A,.pv B,.any,.any,.any,.any,.any,.any,.any,.any,.row 1 (l.map eImg),.pv (.int .i64 l.length),.pv (.int .i64 i),.any,.any,.any,.any,.any,.any,.any,.any,.any,.any,.any,.any,.any,.any,.any],[],[],none⟩) (fun i=>match (l.drop i).find? (fun im=>decide (imCheck im≠0)) with|some im=>some (.ret,⟨[.pv A,.pv B,.any,.any,.pv (.int .i64 (imCheck im)),.any,.any,.any,.any,.any,.any,.any,.any,.any,.any,.any,.any,.any,.any,.any,.any,.any,.any,.any,.any,.any,.any,.any],[],[],none⟩)|none=>some (.normal,⟨[.pv A,.pv B,.any,.any,.any,.any,.any,.any,.any,.any,.any,.any,.any,.any,.any,.any,.any,.any,.any,.any,.any,.any,.any,.any,.any,.any,.any,.any],[],[],none⟩)) h (fun _=>rfl) (fun _=>rfl) ?_ ?_]
 ·first|rfl|simp only [List.drop_zero,List.take_zero,List.map_nil,Nat.zero_add,List.nil_append,List.foldl_nil]
 ·intro i rb hi ih
  have hi1:=i64_next hi hl
  have F1:((i:Int)<(l.length:Int))=True:=eq_true (by omega)
  have e1:=cal85 (hi0 _ (List.getElem_mem hi))
  rw [List.drop_eq_getElem_cons hi,List.find?_cons]
  by_cases hc:imCheck l[i]=0
  ·have F2:(imCheck l[i] != 0)=false:=by simp [hc]
   simp only [fn76_b0,F1,F2,e1,eImg,index_nat hi,List.getElem?_map,List.getElem?_eq_getElem hi,memAll,vAll,reduceCtorEq,Nat.reduceEqDiff,Nat.reduceAdd,Nat.reduceLT,Nat.reduceLeDiff,Nat.beq]
   rw [ih _ (by simp only [hi1];rfl)]
   simp only [hc,ne_eq,not_true,decide_false]
  ·have F2:(imCheck l[i] != 0)=true:=by simp [hc]
   simp only [fn76_b0,F1,F2,e1,eImg,index_nat hi,List.getElem?_map,List.getElem?_eq_getElem hi,memAll,vAll,reduceCtorEq,Nat.reduceEqDiff,Nat.reduceAdd,Nat.reduceLT,Nat.reduceLeDiff,Nat.beq]
   simp only [hc,ne_eq,not_false_eq_true,decide_true]
   rfl
 ·intro rb
  simp only [fn76_b0,Int.lt_irrefl, memAll,vAll,reduceCtorEq,Nat.reduceEqDiff,Nat.reduceAdd,Nat.reduceLT,Nat.reduceLeDiff,Nat.beq]
  rw [List.drop_length]
  rfl
theorem cal76 {a b:Img} (ha:a.length≤lim) (hb:b.length≤lim):cal env 76 [.list 1 (a.map eSecs),.list 1 (b.map eSecs)]=some [(.int .i64 (pairErr a b),false)]:=by
 have h2:∀ im∈[a,b],im.length≤lim:=by simp;exact ⟨ha,hb⟩
 have e1:=cal116 ha
 have e2:=cal116 hb
 have e3:=cal115 (l:=imSizes a) (m:=imSizes b) (by simpa [imSizes] using ha)
 rw [cal_code env76 rfl];simp only [fn76];simp only [start,z_map_cons,z_map_nil,z_len_cons,z_len_nil,z_repl_zero,z_repl_succ,z_cons_app,z_nil_app,Nat.reduceAdd,Nat.reduceSub]
 simp only [e1,e2,e3,memAll,vAll,reduceCtorEq,Nat.reduceEqDiff,Nat.reduceAdd,Nat.reduceLT,Nat.reduceLeDiff,Nat.beq]
 rw [loop76 (l:=[a,b]) (by simp [lim]) h2]
 rotate_left
 ·rfl
 ·simp only [List.find?_cons,List.find?_nil,pairErr]
  by_cases c1:imCheck a=0
  ·by_cases c2:imCheck b=0
   ·by_cases c4:imSizes a=imSizes b
    ·have hd:=decide_eq_true c4
     simp only [c1,c2,hd,ne_eq,not_true,decide_false,e1,e2,e3,memAll,vAll,reduceCtorEq,Nat.reduceEqDiff,Nat.reduceAdd,Nat.reduceLT,Nat.reduceLeDiff,Nat.beq]
     rw [if_pos c4]
    ·have hd:=decide_eq_false c4
     simp only [c1,c2,hd,ne_eq,not_true,decide_false,e1,e2,e3,memAll,vAll,reduceCtorEq,Nat.reduceEqDiff,Nat.reduceAdd,Nat.reduceLT,Nat.reduceLeDiff,Nat.beq]
     rw [if_neg c4]
   ·simp only [c1,c2,ne_eq,not_true,not_false_eq_true,decide_false,decide_true,if_false,if_true,e1,e2,e3,memAll,vAll,reduceCtorEq,Nat.reduceEqDiff,Nat.reduceAdd,Nat.reduceLT,Nat.reduceLeDiff,Nat.beq]
  ·simp only [c1,ne_eq,not_true,not_false_eq_true,decide_false,decide_true,if_false,if_true,e1,e2,e3,memAll,vAll,reduceCtorEq,Nat.reduceEqDiff,Nat.reduceAdd,Nat.reduceLT,Nat.reduceLeDiff,Nat.beq]
theorem loop109 {a b:Img} (hl:a.length≤lim) (hab:a.length=b.length) {st:St} (h:st.head [0,1,7] st.boxes.length=some ⟨[.pv (.list 1 (a.map eSecs)),.pv (.list 1 (b.map eSecs)),.any,.any,.any,.any,.any,.pv (.int .i64 (0:Nat)),.any,.any,.any,.any,.any,.any,.any,.any,.any,.any,.any,.any,.any,.any,.any,.any,.any,.any,.any,.any,.any,.any,.any,.any,.any,.any,.any,.any,.any,.any,.any,.any],[],[],none⟩) :
  den env fn109_l1 st=if imSizes a=imSizes b then some (.normal,⟨[.any,.any,.any,.any,.any,.any,.any,.any,.any,.any,.any,.any,.any,.any,.any,.any,.any,.any,.any,.any,.any,.any,.any,.any,.any,.any,.any,.any,.any,.any,.any,.any,.any,.any,.any,.any,.any,.any,.any,.any],[],[],none⟩) else some (.ret,⟨[.any,.any,.any,.any,.pv (.int .i64 22),.any,.any,.any,.any,.any,.any,.any,.any,.any,.any,.any,.any,.any,.any,.any,.any,.any,.any,.any,.any,.any,.any,.any,.any,.any,.any,.any,.any,.any,.any,.any,.any,.any,.any,.any],[],[],none⟩):=by
 unfold fn109_l1
 rw [ clean_up (env:=env) (a.length) (fun i=>⟨[.pv (.list 1 (a.map eSecs)),.pv (.list 1 (b.map eSecs)),.any,.any,.any,.any,.any,.pv (.int .i64 i),.any,.any,.any,.any,.any,.any,.any,.any,.any,.any,.any,.any,.any,.any,.any,.any,.any,.any,.any,.any,.any,.any,.any,.any,.any,.any,.any,.any,.any,.any,.any,.any],[],[],none⟩) (fun i=>if imSizes (a.drop i)=imSizes (b.drop i) then some (.normal,⟨[.any,.any,.any,.any,.any,.any,.any,.any,.any,.any,.any,.any,.any,.any,.any,.any,.any,.any,.any,.any,.any,.any,.any,.any,.any,.any,.any,.any,.any,.any,.any,.any,.any,.any,.any,.any,.any,.any,.any,.any],[],[],none⟩) else some (.ret,⟨[.any,.any,.any,.any,.pv (.int .i64 22),.any,.any,.any,.any,.any,.any,.any,.any,.any,.any,.any,.any,.any,.any,.any,.any,.any,.any,.any,.any,.any,.any,.any,.any,.any,.any,.any,.any,.any,.any,.any,.any,.any,.any,.any],[],[],none⟩)) h (fun _=>rfl) (fun _=>rfl) ?_ ?_]
 ·first|rfl|simp only [List.drop_zero,List.take_zero,List.map_nil,Nat.zero_add,List.nil_append,List.foldl_nil]
 ·intro i rb hi ih
  have hi1:=i64_next hi hl
  have hj:i<b.length:=by omega
  have F1:((i:Int)<(a.length:Int))=True:=eq_true (by omega)
  simp only [fn109_b0,F1,eSecs,index_nat hi,index_nat hj,List.getElem?_map,List.getElem?_eq_getElem hi,List.getElem?_eq_getElem hj,memAll,vAll,reduceCtorEq,Nat.reduceEqDiff,Nat.reduceAdd,Nat.reduceLT,Nat.reduceLeDiff,Nat.beq]
  rw [List.drop_eq_getElem_cons hi,List.drop_eq_getElem_cons hj]
  (try simp only [bcase_bind,bcase_map,tail_bcase]);refine bcase_split (fun hb=>?_) (fun hb=>?_)<;>try simp only [hb, memAll,vAll,reduceCtorEq,Nat.reduceEqDiff,Nat.reduceAdd,Nat.reduceLT,Nat.reduceLeDiff,Nat.beq]
  ·rw [ih _ (by simp only [hi1];rfl)]
   have:a[i].length=b[i].length:=by simp at hb;omega
   have e:(imSizes (a[i] :: List.drop (i+1) a)=imSizes (b[i] :: List.drop (i+1) b))=(imSizes (List.drop (i+1) a)=imSizes (List.drop (i+1) b)):=by simp only [imSizes,List.map_cons,List.cons.injEq,this,true_and]
   simp only [e]
  ·rw [if_neg (by simp only [imSizes,List.map_cons,List.cons.injEq];simp at hb;omega)]
   rfl
 ·intro rb
  simp only [fn109_b0,Int.lt_irrefl, memAll,vAll,reduceCtorEq,Nat.reduceEqDiff,Nat.reduceAdd,Nat.reduceLT,Nat.reduceLeDiff,Nat.beq]
  rw [List.drop_length,hab,List.drop_length,if_pos rfl]
  rfl
theorem cal109 {a b:Img} (ha:a.length≤lim) (hb':b.length≤lim):cal env 109 [.list 1 (a.map eSecs),.list 1 (b.map eSecs)]=some [(.int .i64 (pairErr a b),false)]:=by
 have e1:=cal101 ha
 have e2:=cal101 hb'
 rw [cal_code env109 rfl];simp only [fn109];simp only [start,z_map_cons,z_map_nil,z_len_cons,z_len_nil,z_repl_zero,z_repl_succ,z_cons_app,z_nil_app,Nat.reduceAdd,Nat.reduceSub]
 unfold pairErr
 by_cases c1:imCheck a=0
 ·have G1:(imCheck a != 0)=false:=by simp [c1]
  by_cases c2:imCheck b=0
  ·have G2:(imCheck b != 0)=false:=by simp [c2]
   by_cases c3:a.length=b.length
   ·have G3:(((a.length:Int)) != (b.length:Int))=false:=by simp;omega
    simp only [G1,G2,G3,e1,e2,memAll,vAll,reduceCtorEq,Nat.reduceEqDiff,Nat.reduceAdd,Nat.reduceLT,Nat.reduceLeDiff,Nat.beq]
    rw [loop109 ha c3]
    rotate_left
    ·rfl
    ·by_cases c4:imSizes a=imSizes b<;>simp only [c1,c2,c4,ne_eq,not_true,if_true,if_false,memAll,vAll,reduceCtorEq,Nat.reduceEqDiff,Nat.reduceAdd,Nat.reduceLT,Nat.reduceLeDiff,Nat.beq]
   ·have G3:(((a.length:Int)) != (b.length:Int))=true:=by simp;omega
    have c4:imSizes a≠imSizes b:=fun h=>c3 (sizes_inj h).1
    simp only [G1,G2,G3,e1,e2,memAll,vAll,reduceCtorEq,Nat.reduceEqDiff,Nat.reduceAdd,Nat.reduceLT,Nat.reduceLeDiff,Nat.beq]
    simp only [c1,c2,c4,ne_eq,not_true,if_true,if_false]
  ·have G2:(imCheck b != 0)=true:=by simp [c2]
   simp only [G1,G2,e1,e2,memAll,vAll,reduceCtorEq,Nat.reduceEqDiff,Nat.reduceAdd,Nat.reduceLT,Nat.reduceLeDiff,Nat.beq]
   simp only [c1,c2,ne_eq,not_true,not_false_eq_true,if_true,if_false]
 ·have G1:(imCheck a != 0)=true:=by simp [c1]
  simp only [G1,e1,e2,memAll,vAll,reduceCtorEq,Nat.reduceEqDiff,Nat.reduceAdd,Nat.reduceLT,Nat.reduceLeDiff,Nat.beq]
  simp only [c1,ne_eq,not_false_eq_true,if_true]
--+
theorem loop30 {a b:Img} (hl:a.length≤lim) (hr:∀ v∈a,v.length≤lim) (hab:a.length=b.length) (hs:∀ i (h1:i<a.length) (h2:i<b.length),a[i].length=b[i].length)
  {st:St} (h:st.head [0,1,7,16,17,31] st.boxes.length=some ⟨[.pv (.list 1 (a.map eSecs)),.pv (.list 1 (b.map eSecs)),.any,.any,.any,.any,.any,.row 1 [],.any,.any,.any,.any,.any,.any,.any,.any,.pv (.int .i64 a.length),.pv (.int .i64 (0:Nat)),.any,.any,.any,.any,.any,.any,.any,.any,.any,.any,.any,.any,.any,.any,.any,.any],[],[],none⟩) :
  den env fn30_l1 st=some (.normal,⟨[.any,.any,.any,.any,.any,.any,.any,.row 1 ((differ a b).map eExts),.any,.any,.any,.any,.any,.any,.any,.any,.any,.any,.any,.any,.any,.any,.any,.any,.any,.any,.any,.any,.any,.any,.any,.any,.any,.any],[],[],none⟩):=by
 unfold fn30_l1
 have hz:(a.zip b).length=a.length:=by simp;omega
 refine clean_up (env:=env) a.length (fun i=>⟨[.pv (.list 1 (a.map eSecs)),.pv (.list 1 (b.map eSecs)),.any,.any,.any,.any,.any,.row 1 (((a.zip b).take i).map fun q=>eExts (volDiff q.1 q.2)),.any,.any,.any,.any,.any,.any,.any,.any,.pv (.int .i64 a.length),.pv (.int .i64 i),.any,.any,.any,.any,.any,.any,.any,.any,.any,.any,.any,.any,.any,.any,.any,.any],[],[],none⟩) (fun i=>some (.normal,⟨[.any,.any,.any,.any,.any,.any,.any,.row 1 ((differ a b).map eExts),.any,.any,.any,.any,.any,.any,.any,.any,.any,.any,.any,.any,.any,.any,.any,.any,.any,.any,.any,.any,.any,.any,.any,.any,.any,.any],[],[],none⟩)) h (fun _=>rfl) (fun _=>rfl) ?_ ?_
 ·intro i rb hi ih
  have hi1:=i64_next hi hl
  have hj:i<b.length:=by omega
  have hiz:i<(a.zip b).length:=by omega
  have F1:((i:Int)<(a.length:Int))=True:=eq_true (by omega)
  have F2:(((a.zip b).take i).length+1≤lim)=True:=eq_true (by rw [List.length_take];omega)
  have e1:=cal77 (hr _ (List.getElem_mem hi)) (hs i hi hj)
  simp only [fn30_b0,F1,F2,e1,eSecs,index_nat hi,index_nat hj,List.getElem?_map,List.getElem?_eq_getElem hi,List.getElem?_eq_getElem hj,memAll,vAll,reduceCtorEq,Nat.reduceEqDiff,Nat.reduceAdd,Nat.reduceLT,Nat.reduceLeDiff,Nat.beq]
  rw [ih _ (by simp only [hi1];rw [← take_map_succ _ hiz,List.getElem_zip];rfl)]
 ·intro rb
  simp only [fn30_b0,Int.lt_irrefl,memAll,vAll,reduceCtorEq,Nat.reduceEqDiff,Nat.reduceAdd,Nat.reduceLT,Nat.reduceLeDiff,Nat.beq]
  rw [← hz,List.take_length]
  simp only [differ,List.map_map]
  rfl
theorem cal30 {a b:Img} (ha:a.length≤lim) (hb':b.length≤lim) (hr:∀ v∈a,v.length≤lim):cal env 30 [.list 1 (a.map eSecs),.list 1 (b.map eSecs)]=some [(.list 1 ((differOut a b).map eExts),true),(.int .i64 (pairErr a b),false)]:=by
 have e1:=cal76 ha hb'
 unfold differOut
 by_cases c:pairErr a b=0
 ·have hs:imSizes a=imSizes b:=by
   unfold pairErr at c
   split at c
   ·omega
   ·split at c
    ·omega
    ·split at c
     ·assumption
     ·omega
  have G1:(pairErr a b != 0)=false:=by simp [c]
  rw [cal_code env30 rfl];simp only [fn30];simp only [start,z_map_cons,z_map_nil,z_len_cons,z_len_nil,z_repl_zero,z_repl_succ,z_cons_app,z_nil_app,Nat.reduceAdd,Nat.reduceSub]
  simp only [G1,e1,memAll,vAll,reduceCtorEq,Nat.reduceEqDiff,Nat.reduceAdd,Nat.reduceLT,Nat.reduceLeDiff,Nat.beq]
  rw [loop30 ha hr (sizes_inj hs).1 (sizes_inj hs).2]
  rotate_left
  ·rfl
  ·simp only [c,memAll,vAll,reduceCtorEq,Nat.reduceEqDiff,Nat.reduceAdd,Nat.reduceLT,Nat.reduceLeDiff,Nat.beq]
 ·have G1:(pairErr a b != 0)=true:=by simp [c]
  rw [cal_code env30 rfl];simp only [fn30];simp only [start,z_map_cons,z_map_nil,z_len_cons,z_len_nil,z_repl_zero,z_repl_succ,z_cons_app,z_nil_app,Nat.reduceAdd,Nat.reduceSub]
  simp only [G1,e1,memAll,vAll,reduceCtorEq,Nat.reduceEqDiff,Nat.reduceAdd,Nat.reduceLT,Nat.reduceLeDiff,Nat.beq]
  simp only [c,if_false]
  rfl
--+
theorem loop64 {a b:Img} (hl:a.length≤lim) (hr:∀ v∈a,v.length≤lim) (hab:a.length=b.length) (hs:∀ i (h1:i<a.length) (h2:i<b.length),a[i].length=b[i].length)
  {st:St} (h:st.head [0,1,7,8,32] st.boxes.length=some ⟨[.pv (.list 1 (a.map eSecs)),.pv (.list 1 (b.map eSecs)),.any,.any,.any,.any,.any,.row 1 [],.pv (.int .i64 (0:Nat)),.any,.any,.any,.any,.any,.any,.any,.any,.any,.any,.any,.any,.any,.any,.any,.any,.any,.any,.any,.any,.any,.any,.any,.any,.any],[],[],none⟩) :
  den env fn64_l1 st=some (.normal,⟨[.any,.any,.any,.any,.any,.any,.any,.row 1 ((differ a b).map eExts),.any,.any,.any,.any,.any,.any,.any,.any,.any,.any,.any,.any,.any,.any,.any,.any,.any,.any,.any,.any,.any,.any,.any,.any,.any,.any],[],[],none⟩):=by
 unfold fn64_l1
 have hz:(a.zip b).length=a.length:=by simp;omega
 refine clean_up (env:=env) a.length (fun i=>⟨[.pv (.list 1 (a.map eSecs)),.pv (.list 1 (b.map eSecs)),.any,.any,.any,.any,.any,.row 1 (((a.zip b).take i).map fun q=>eExts (volDiff q.1 q.2)),.pv (.int .i64 i),.any,.any,.any,.any,.any,.any,.any,.any,.any,.any,.any,.any,.any,.any,.any,.any,.any,.any,.any,.any,.any,.any,.any,.any,.any],[],[],none⟩) (fun i=>some (.normal,⟨[.any,.any,.any,.any,.any,.any,.any,.row 1 ((differ a b).map eExts),.any,.any,.any,.any,.any,.any,.any,.any,.any,.any,.any,.any,.any,.any,.any,.any,.any,.any,.any,.any,.any,.any,.any,.any,.any,.any],[],[],none⟩)) h (fun _=>rfl) (fun _=>rfl) ?_ ?_
 ·intro i rb hi ih
  have hi1:=i64_next hi hl
  have hj:i<b.length:=by omega
  have hiz:i<(a.zip b).length:=by omega
  have F1:((i:Int)<(a.length:Int))=True:=eq_true (by omega)
  have F2:(((a.zip b).take i).length+1≤lim)=True:=eq_true (by rw [List.length_take];omega)
  have e1:=cal110 (hr _ (List.getElem_mem hi)) (hs i hi hj)
  simp only [fn64_b0,F1,F2,e1,eSecs,index_nat hi,index_nat hj,List.getElem?_map,List.getElem?_eq_getElem hi,List.getElem?_eq_getElem hj,memAll,vAll,reduceCtorEq,Nat.reduceEqDiff,Nat.reduceAdd,Nat.reduceLT,Nat.reduceLeDiff,Nat.beq]
  rw [ih _ (by simp only [hi1];rw [← take_map_succ _ hiz,List.getElem_zip];rfl)]
 ·intro rb
  simp only [fn64_b0,Int.lt_irrefl,memAll,vAll,reduceCtorEq,Nat.reduceEqDiff,Nat.reduceAdd,Nat.reduceLT,Nat.reduceLeDiff,Nat.beq]
  rw [← hz,List.take_length]
  simp only [differ,List.map_map]
  rfl
theorem cal64 {a b:Img} (ha:a.length≤lim) (hb':b.length≤lim) (hr:∀ v∈a,v.length≤lim):cal env 64 [.list 1 (a.map eSecs),.list 1 (b.map eSecs)]=some [(.list 1 ((differOut a b).map eExts),true),(.int .i64 (pairErr a b),false)]:=by
 have e1:=cal109 ha hb'
 unfold differOut
 by_cases c:pairErr a b=0
 ·have hs:imSizes a=imSizes b:=by
   unfold pairErr at c
   split at c
   ·omega
   ·split at c
    ·omega
    ·split at c
     ·assumption
     ·omega
  have G1:(pairErr a b != 0)=false:=by simp [c]
  rw [cal_code env64 rfl];simp only [fn64];simp only [start,z_map_cons,z_map_nil,z_len_cons,z_len_nil,z_repl_zero,z_repl_succ,z_cons_app,z_nil_app,Nat.reduceAdd,Nat.reduceSub]
  simp only [G1,e1,memAll,vAll,reduceCtorEq,Nat.reduceEqDiff,Nat.reduceAdd,Nat.reduceLT,Nat.reduceLeDiff,Nat.beq]
  rw [loop64 ha hr (sizes_inj hs).1 (sizes_inj hs).2]
  rotate_left
  ·rfl
  ·simp only [c,memAll,vAll,reduceCtorEq,Nat.reduceEqDiff,Nat.reduceAdd,Nat.reduceLT,Nat.reduceLeDiff,Nat.beq]
 ·have G1:(pairErr a b != 0)=true:=by simp [c]
  rw [cal_code env64 rfl];simp only [fn64];simp only [start,z_map_cons,z_map_nil,z_len_cons,z_len_nil,z_repl_zero,z_repl_succ,z_cons_app,z_nil_app,Nat.reduceAdd,Nat.reduceSub]
  simp only [G1,e1,memAll,vAll,reduceCtorEq,Nat.reduceEqDiff,Nat.reduceAdd,Nat.reduceLT,Nat.reduceLeDiff,Nat.beq]
  simp only [c,if_false]
  rfl
end Go.Proofs.YtioijcfcehhmdaaGreatDoor.V

namespace Go.Proofs.YtioijcfcehhmdaaGreatDoor.V
def inE (e:Exn) (s:Nat):Bool:=decide (0<e.count)&&(decide (e.start≤(s:Int))&&decide ((s:Int)<e.start+e.count))
end Go.Proofs.YtioijcfcehhmdaaGreatDoor.V

namespace Go.Proofs.YtioijcfcehhmdaaGreatDoor.V
structure SwSt where
 d0:Int
 d1:Int
 st:Int
 ins:Bool
 out:List Exn
end Go.Proofs.YtioijcfcehhmdaaGreatDoor.V

namespace Go.Proofs.YtioijcfcehhmdaaGreatDoor.V
def inS (l:List Exn) (s:Nat):Bool:=l.any fun e=>inE e s
end Go.Proofs.YtioijcfcehhmdaaGreatDoor.V

namespace Go.Proofs.YtioijcfcehhmdaaGreatDoor.V
theorem addAt_len (l:List Exn) (i:Nat):(addAt l i).length≤l.length+1:=by
 rcases snoc_cases l with rfl|⟨p,x,rfl⟩
 ·simp [addAt]
 ·rw [addAt_snoc];split<;>simp
theorem ext_len (p:Nat→Bool):∀ n,(ext p n).length≤n
 |0=>Nat.le_refl _
 |n+1=>by
  rw [ext_succ]
  have:=ext_len p n
  have:=addAt_len (ext p n) n
  split<;>omega
theorem ext_in (p:Nat→Bool) (n:Nat):(∀ x∈ext p n,0≤x.start∧1≤x.count∧x.start+x.count≤(n:Int)):=by
 induction n with
 |zero=>intro x hx;cases hx
 |succ n ih =>
  rw [ext_succ]
  split
  ·rcases snoc_cases (ext p n) with e|⟨pre,y,e⟩
   ·rw [e]
    intro x hx
    have:addAt [] n=[⟨(n:Int),1⟩]:=rfl
    rw [this] at hx
    simp only [List.mem_singleton] at hx
    subst hx
    simp only;omega
   ·rw [e] at ih ⊢
    intro x hx
    rw [addAt_snoc] at hx
    split at hx
    ·rcases List.mem_append.1 hx with h|h
     ·have:=ih x (by simp [h]);omega
     ·simp only [List.mem_singleton] at h
      have:=ih y (by simp)
      subst h;simp only;omega
    ·rcases List.mem_append.1 hx with h|h
     ·have:=ih x h;omega
     ·simp only [List.mem_singleton] at h
      subst h;simp only;omega
  ·intro x hx;have:=ih x hx;omega
end Go.Proofs.YtioijcfcehhmdaaGreatDoor.V

namespace Go.Proofs.YtioijcfcehhmdaaGreatDoor.V
def sE:List Exn→Int
 |[]=>0
 |e :: l=>e.count+sE l
def sL:List (List Exn)→Int
 |[]=>0
 |x :: l=>sE x+sL l
theorem sE_app:∀ a b:List Exn,sE (a++b)=sE a+sE b
 |[],b=>by simp [sE]
 |e :: a,b=>by simp only [List.cons_append,sE,sE_app a b];omega
theorem sL_app:∀ a b:List (List Exn),sL (a++b)=sL a+sL b
 |[],b=>by simp [sL]
 |e :: a,b=>by simp only [List.cons_append,sL,sL_app a b];omega
theorem sE_take {l:List Exn} {i:Nat} (h:i<l.length):sE (l.take (i+1))=sE (l.take i)+l[i].count:=by
 rw [List.take_succ_eq_append_getElem h,sE_app];simp [sE]
theorem sL_take {l:List (List Exn)} {i:Nat} (h:i<l.length):sL (l.take (i+1))=sL (l.take i)+sE l[i]:=by
 rw [List.take_succ_eq_append_getElem h,sL_app];simp [sL]
def okS (x:List Exn):Prop:=x.length≤4096∧∀ e∈x,0≤e.count∧e.count≤4096
theorem sE_le:∀ {l:List Exn},(∀ e∈l,0≤e.count∧e.count≤4096)→0≤sE l∧sE l≤4096 * (l.length:Int)
 |[],_=>by simp [sE]
 |e :: l,h=>by
  have h1:=h e (by simp)
  have h2:=sE_le (l:=l) fun x hx=>h x (by simp [hx])
  simp only [sE,List.length_cons]
  omega
theorem sE_tk {l:List Exn} (h:okS l) (i:Nat):0≤sE (l.take i)∧sE (l.take i)≤16777216:=by
 have h1:=sE_le (l:=l.take i) fun e he=>h.2 e (List.mem_of_mem_take he)
 have h2:=h.1
 have h3:(l.take i).length≤l.length:=by rw [List.length_take];omega
 omega
theorem sE_all {l:List Exn} (h:okS l):0≤sE l∧sE l≤16777216:=by
 have:=sE_tk h l.length
 rwa [List.take_length] at this
theorem sL_le:∀ {l:List (List Exn)},(∀ x∈l,okS x)→0≤sL l∧sL l≤16777216 * (l.length:Int)
 |[],_=>by simp [sL]
 |x :: l,h=>by
  have h1:=sE_all (h x (by simp))
  have h2:=sL_le (l:=l) fun y hy=>h y (by simp [hy])
  simp only [sL,List.length_cons]
  omega
theorem sL_tk {l:List (List Exn)} (h:∀ x∈l,okS x) (hl:l.length≤4096) (i:Nat):0≤sL (l.take i)∧sL (l.take i)≤68719476736:=by
 have h1:=sL_le (l:=l.take i) fun e he=>h e (List.mem_of_mem_take he)
 have h3:(l.take i).length≤l.length:=by rw [List.length_take];omega
 omega
theorem eExt_at {l:List Exn} {i:Nat} (h:i<l.length):(l.map eExt)[i]?=some (.agg [.int .i64 l[i].start,.int .i64 l[i].count]):=by rw [List.getElem?_map,List.getElem?_eq_getElem h];rfl
theorem eExts_at {l:List (List Exn)} {i:Nat} (h:i<l.length):(l.map eExts)[i]?=some (.list 2 (l[i].map eExt)):=by rw [List.getElem?_map,List.getElem?_eq_getElem h];rfl
theorem loop17 {ll:List (List Exn)} {x:List Exn} {c:Int} {j:Nat} (hc:0≤c∧c≤68719476736) (hx0:okS x) {st:St} (h:st.head [6,8,10,17,22,23,24,27,28,29,30] st.boxes.length=some ⟨sl 41 [(6,.row 1 (ll.map eExts)),(8,.pv (.int .i64 (c+sE (x.take ((0:Nat)))))),(10,.pv (.list 2 (x.map eExt))),(17,.any),(22,.ref (.slot 6) 0 ll.length),(23,.pv (.int .i64 ll.length)),(24,.pv (.int .i64 j)),(27,.pv (.list 2 (x.map eExt))),(28,.pv (.list 2 (x.map eExt))),(29,.pv (.int .i64 x.length)),(30,.pv (.int .i64 (0:Nat)))],[],[],none⟩) :
  den env fn17_l1 st=some (.normal,⟨sl 41 [(4,.any),(5,.any),(6,.row 1 (ll.map eExts)),(8,.pv (.int .i64 (c+sE x))),(17,.any),(22,.ref (.slot 6) 0 ll.length),(23,.pv (.int .i64 ll.length)),(24,.pv (.int .i64 j))],[],[],none⟩):=by
 unfold fn17_l1
 refine clean_up (env:=env) (nb:=0) (x.length) (fun i=>⟨sl 41 [(6,.row 1 (ll.map eExts)),(8,.pv (.int .i64 (c+sE (x.take (i))))),(10,.pv (.list 2 (x.map eExt))),(17,.any),(22,.ref (.slot 6) 0 ll.length),(23,.pv (.int .i64 ll.length)),(24,.pv (.int .i64 j)),(27,.pv (.list 2 (x.map eExt))),(28,.pv (.list 2 (x.map eExt))),(29,.pv (.int .i64 x.length)),(30,.pv (.int .i64 i))],[],[],none⟩) (fun i=>some (.normal,⟨sl 41 [(4,.any),(5,.any),(6,.row 1 (ll.map eExts)),(8,.pv (.int .i64 (c+sE x))),(17,.any),(22,.ref (.slot 6) 0 ll.length),(23,.pv (.int .i64 ll.length)),(24,.pv (.int .i64 j))],[],[],none⟩)) h (fun _=>rfl) (fun _=>by simp only [slAll,slsAll,Nat.reduceMul,Nat.reduceBEq,Nat.reduceLT,Nat.reduceLeDiff,Nat.reduceAdd,decide_true,Bool.and_self,Bool.true_and]) ?_ ?_
 ·intro i rb hi ih
  have hl:=hx0.1
  have hi1:=i64_next hi (Nat.le_trans hl (by decide))
  have F1:((i:Int)<(x.length:Int))=True:=eq_true (by omega)
  have hx:=eExt_at hi
  have P2:∀ a b:PV,part [a,b] 0 (some 2)=some (.agg [a,b]):=fun _ _=>rfl
  have b1:=sE_tk hx0 i
  have b2:=hx0.2 _ (List.getElem_mem hi)
  have W:IntKind.i64.wrap (c+sE (x.take i)+x[i].count)=c+sE (x.take (i+1)):=by rw [sE_take hi,i64_fits (by omega)];omega
  simp only [fn17_b0,F1,hx,P2,W,index_nat hi,List.length_map,slAll,slsAll,Nat.reduceMul,Nat.reduceBEq,Nat.reduceLT,Nat.reduceLeDiff,memAll,vAll,reduceCtorEq,Nat.reduceEqDiff,Nat.reduceAdd,Nat.reduceLT,Nat.reduceLeDiff,Nat.beq]
  rw [ih _ (by simp only [hi1,slAll,slsAll,Nat.reduceMul,Nat.reduceBEq,Nat.reduceLT,Nat.reduceLeDiff,memAll,vAll,reduceCtorEq,Nat.reduceEqDiff,Nat.reduceAdd,Nat.reduceLT,Nat.reduceLeDiff,Nat.beq]<;>rfl)]
 ·intro rb
  rw [List.take_length]
  simp only [fn17_b0,Int.lt_irrefl,List.length_map,slAll,slsAll,Nat.reduceMul,Nat.reduceBEq,Nat.reduceLT,Nat.reduceLeDiff,memAll,vAll,reduceCtorEq,Nat.reduceEqDiff,Nat.reduceAdd,Nat.reduceLT,Nat.reduceLeDiff,Nat.beq]
theorem loop17l3 {ll:List (List Exn)} (ho:∀ x∈ll,okS x) (hl:ll.length≤4096) {st:St} (h:st.head [6,8,17,22,23,24] st.boxes.length=some ⟨sl 41 [(6,.row 1 (ll.map eExts)),(8,.pv (.int .i64 (sL (ll.take ((0:Nat)))))),(17,.any),(22,.ref (.slot 6) 0 ll.length),(23,.pv (.int .i64 ll.length)),(24,.pv (.int .i64 (0:Nat)))],[],[],none⟩) :
  den env fn17_l3 st=some (.normal,⟨sl 41 [(4,.any),(5,.any),(8,.pv (.int .i64 (sL ll)))],[],[],none⟩):=by
 unfold fn17_l3
 refine clean_up (env:=env) (nb:=0) (ll.length) (fun i=>⟨sl 41 [(6,.row 1 (ll.map eExts)),(8,.pv (.int .i64 (sL (ll.take (i))))),(17,.any),(22,.ref (.slot 6) 0 ll.length),(23,.pv (.int .i64 ll.length)),(24,.pv (.int .i64 i))],[],[],none⟩) (fun i=>some (.normal,⟨sl 41 [(4,.any),(5,.any),(8,.pv (.int .i64 (sL ll)))],[],[],none⟩)) h (fun _=>rfl) (fun _=>by simp only [slAll,slsAll,Nat.reduceMul,Nat.reduceBEq,Nat.reduceLT,Nat.reduceLeDiff,Nat.reduceAdd,decide_true,Bool.and_self,Bool.true_and]) ?_ ?_
 ·intro i rb hi ih
  have hi1:=i64_next hi (Nat.le_trans hl (by decide))
  have F1:((i:Int)<(ll.length:Int))=True:=eq_true (by omega)
  have hx:=eExts_at hi
  have b1:=sL_tk ho hl i
  have hs:=sL_take hi
  simp only [fn17_b2,F1,hx,index_nat hi,List.length_map,slAll,slsAll,Nat.reduceMul,Nat.reduceBEq,Nat.reduceLT,Nat.reduceLeDiff,memAll,vAll,reduceCtorEq,Nat.reduceEqDiff,Nat.reduceAdd,Nat.reduceLT,Nat.reduceLeDiff,Nat.beq]
  rw [loop17 (ll:=ll) (x:=ll[i]) (c:=sL (ll.take i)) (j:=i) b1 (ho _ (List.getElem_mem hi)) (by simp only [List.take_zero,sE,Int.add_zero];simp only [slAll,slsAll,Nat.reduceMul,Nat.reduceBEq,Nat.reduceLT,Nat.reduceLeDiff,Nat.reduceAdd,decide_true,Bool.and_self,Bool.true_and]<;>rfl)]
  simp only [← hs,slAll,slsAll,Nat.reduceMul,Nat.reduceBEq,Nat.reduceLT,Nat.reduceLeDiff,memAll,vAll,reduceCtorEq,Nat.reduceEqDiff,Nat.reduceAdd,Nat.reduceLT,Nat.reduceLeDiff,Nat.beq]
  rw [ih _ (by simp only [hi1,slAll,slsAll,Nat.reduceMul,Nat.reduceBEq,Nat.reduceLT,Nat.reduceLeDiff,memAll,vAll,reduceCtorEq,Nat.reduceEqDiff,Nat.reduceAdd,Nat.reduceLT,Nat.reduceLeDiff,Nat.beq]<;>rfl)]
 ·intro rb
  rw [List.take_length]
  simp only [fn17_b2,Int.lt_irrefl,List.length_map,slAll,slsAll,Nat.reduceMul,Nat.reduceBEq,Nat.reduceLT,Nat.reduceLeDiff,memAll,vAll,reduceCtorEq,Nat.reduceEqDiff,Nat.reduceAdd,Nat.reduceLT,Nat.reduceLeDiff,Nat.beq]
theorem differ_okS {a b:Img} (ha:a.length≤4096) (hv:∀ v∈a,v.length≤4096):(differOut a b).length≤4096∧∀ x∈differOut a b,okS x:=by
 unfold differOut
 split
 ·unfold differ
  refine ⟨by rw [List.length_map,List.length_zip];omega,?_⟩
  intro x hx
  obtain ⟨q,hq,rfl⟩:=List.mem_map.1 hx
  have h1:=hv _ (List.of_mem_zip hq).1
  have e:volDiff q.1 q.2=ext (dif q.1 q.2) q.1.length:=rfl
  rw [e]
  refine ⟨Nat.le_trans (ext_len _ _) h1,?_⟩
  intro y hy
  have:=ext_in _ _ y hy
  omega
 ·exact ⟨by simp,fun x h=>by cases h⟩
theorem cal17 {a b:Img} (ha:a.length≤4096) (hb:b.length≤lim) (hv:∀ v∈a,v.length≤4096):cal env 17 [.list 1 (a.map eSecs),.list 1 (b.map eSecs)]=some [(.int .i64 (if pairErr a b=0 then sL (differOut a b) else 0),false),(.int .i64 (pairErr a b),false)]:=by
 have hl:lim=1073741824:=rfl
 have e1:=cal30 (a:=a) (b:=b) (by omega) hb (fun v h=>by have:=hv v h;omega)
 obtain ⟨h1,h2⟩:=differ_okS (a:=a) (b:=b) ha hv
 by_cases c:pairErr a b=0
 ·have F1:((0:Int) != 0)=false:=rfl
  rw [c] at e1
  rw [if_pos c,c]
  rw [cal_code env17 rfl];simp only [fn17,slAll,Nat.reduceBEq,Nat.reduceLeDiff,Nat.reduceAdd,List.length_cons,List.length_nil]
  simp only [e1,F1,List.length_map,slAll,slsAll,Nat.reduceMul,Nat.reduceBEq,Nat.reduceLT,Nat.reduceLeDiff,memAll,vAll,reduceCtorEq,Nat.reduceEqDiff,Nat.reduceAdd,Nat.reduceLT,Nat.reduceLeDiff,Nat.beq]
  rw [loop17l3 h2 h1]
  rotate_left
  ·simp only [List.take_zero,sL];simp only [slAll,slsAll,Nat.reduceMul,Nat.reduceBEq,Nat.reduceLT,Nat.reduceLeDiff,Nat.reduceAdd,decide_true,Bool.and_self,Bool.true_and]<;>rfl
  ·simp only [slAll,slsAll,Nat.reduceMul,Nat.reduceBEq,Nat.reduceLT,Nat.reduceLeDiff,memAll,vAll,reduceCtorEq,Nat.reduceEqDiff,Nat.reduceAdd,Nat.reduceLT,Nat.reduceLeDiff,Nat.beq]
 ·have F1:(pairErr a b != 0)=true:=by simp [c]
  rw [if_neg c]
  rw [cal_code env17 rfl];simp only [fn17,slAll,Nat.reduceBEq,Nat.reduceLeDiff,Nat.reduceAdd,List.length_cons,List.length_nil]
  simp only [e1,F1,slAll,slsAll,Nat.reduceMul,Nat.reduceBEq,Nat.reduceLT,Nat.reduceLeDiff,memAll,vAll,reduceCtorEq,Nat.reduceEqDiff,Nat.reduceAdd,Nat.reduceLT,Nat.reduceLeDiff,Nat.beq]
theorem loop18 {ll:List (List Exn)} {c:Int} {j:Nat} (hj:j<ll.length) (hc:0≤c∧c≤68719476736) (hx0:okS ll[j]) {st:St} (h:st.head [6,8,9,10,15] st.boxes.length=some ⟨sl 46 [(6,.row 1 (ll.map eExts)),(8,.pv (.int .i64 (c+sE (ll[j].take ((0:Nat)))))),(9,.pv (.int .i64 j)),(10,.pv (.int .i64 (0:Nat))),(15,.any)],[],[],none⟩) :
  den env fn18_l1 st=some (.normal,⟨sl 46 [(4,.any),(5,.any),(6,.row 1 (ll.map eExts)),(8,.pv (.int .i64 (c+sE ll[j]))),(9,.pv (.int .i64 j)),(15,.any)],[],[],none⟩):=by
 unfold fn18_l1
 refine clean_up (env:=env) (nb:=0) (ll[j].length) (fun i=>⟨sl 46 [(6,.row 1 (ll.map eExts)),(8,.pv (.int .i64 (c+sE (ll[j].take (i))))),(9,.pv (.int .i64 j)),(10,.pv (.int .i64 i)),(15,.any)],[],[],none⟩) (fun i=>some (.normal,⟨sl 46 [(4,.any),(5,.any),(6,.row 1 (ll.map eExts)),(8,.pv (.int .i64 (c+sE ll[j]))),(9,.pv (.int .i64 j)),(15,.any)],[],[],none⟩)) h (fun _=>rfl) (fun _=>by simp only [slAll,slsAll,Nat.reduceMul,Nat.reduceBEq,Nat.reduceLT,Nat.reduceLeDiff,Nat.reduceAdd,decide_true,Bool.and_self,Bool.true_and]) ?_ ?_
 ·intro i rb hi ih
  have hl:=hx0.1
  have hi1:=i64_next hi (Nat.le_trans hl (by decide))
  have F1:((i:Int)<(ll[j].length:Int))=True:=eq_true (by omega)
  have hx:=eExt_at hi
  have hxx:=eExts_at hj
  have P2:∀ a b:PV,part [a,b] 0 (some 2)=some (.agg [a,b]):=fun _ _=>rfl
  have P0:∀ a:PV,part [a] 0 none=some a:=fun _=>rfl
  have b1:=sE_tk hx0 i
  have b2:=hx0.2 _ (List.getElem_mem hi)
  have W:IntKind.i64.wrap (c+sE (ll[j].take i)+ll[j][i].count)=c+sE (ll[j].take (i+1)):=by rw [sE_take hi,i64_fits (by omega)];omega
  simp only [fn18_b0,F1,hx,hxx,P2,W,index_nat hi,index_nat hj,List.length_map,slAll,slsAll,Nat.reduceMul,Nat.reduceBEq,Nat.reduceLT,Nat.reduceLeDiff,memAll,vAll,reduceCtorEq,Nat.reduceEqDiff,Nat.reduceAdd,Nat.reduceLT,Nat.reduceLeDiff,Nat.beq]
  rw [ih _ (by simp only [hi1,slAll,slsAll,Nat.reduceMul,Nat.reduceBEq,Nat.reduceLT,Nat.reduceLeDiff,memAll,vAll,reduceCtorEq,Nat.reduceEqDiff,Nat.reduceAdd,Nat.reduceLT,Nat.reduceLeDiff,Nat.beq]<;>rfl)]
 ·intro rb
  have hxx:=eExts_at hj
  rw [List.take_length]
  simp only [fn18_b0,hxx,index_nat hj,Int.lt_irrefl,List.length_map,slAll,slsAll,Nat.reduceMul,Nat.reduceBEq,Nat.reduceLT,Nat.reduceLeDiff,memAll,vAll,reduceCtorEq,Nat.reduceEqDiff,Nat.reduceAdd,Nat.reduceLT,Nat.reduceLeDiff,Nat.beq]
theorem loop18l3 {ll:List (List Exn)} (ho:∀ x∈ll,okS x) (hl:ll.length≤4096) {st:St} (h:st.head [6,8,9,15] st.boxes.length=some ⟨sl 46 [(6,.row 1 (ll.map eExts)),(8,.pv (.int .i64 (sL (ll.take ((0:Nat)))))),(9,.pv (.int .i64 (0:Nat))),(15,.any)],[],[],none⟩) :
  den env fn18_l3 st=some (.normal,⟨sl 46 [(4,.any),(5,.any),(8,.pv (.int .i64 (sL ll)))],[],[],none⟩):=by
 unfold fn18_l3
 refine clean_up (env:=env) (nb:=0) (ll.length) (fun i=>⟨sl 46 [(6,.row 1 (ll.map eExts)),(8,.pv (.int .i64 (sL (ll.take (i))))),(9,.pv (.int .i64 i)),(15,.any)],[],[],none⟩) (fun i=>some (.normal,⟨sl 46 [(4,.any),(5,.any),(8,.pv (.int .i64 (sL ll)))],[],[],none⟩)) h (fun _=>rfl) (fun _=>by simp only [slAll,slsAll,Nat.reduceMul,Nat.reduceBEq,Nat.reduceLT,Nat.reduceLeDiff,Nat.reduceAdd,decide_true,Bool.and_self,Bool.true_and]) ?_ ?_
 ·intro i rb hi ih
  have hi1:=i64_next hi (Nat.le_trans hl (by decide))
  have F1:((i:Int)<(ll.length:Int))=True:=eq_true (by omega)
  have b1:=sL_tk ho hl i
  have hs:=sL_take hi
  simp only [fn18_b2,F1,index_nat hi,List.length_map,slAll,slsAll,Nat.reduceMul,Nat.reduceBEq,Nat.reduceLT,Nat.reduceLeDiff,memAll,vAll,reduceCtorEq,Nat.reduceEqDiff,Nat.reduceAdd,Nat.reduceLT,Nat.reduceLeDiff,Nat.beq]
  rw [loop18 (ll:=ll) (c:=sL (ll.take i)) (j:=i) hi b1 (ho _ (List.getElem_mem hi)) (by simp only [List.take_zero,sE,Int.add_zero];simp only [slAll,slsAll,Nat.reduceMul,Nat.reduceBEq,Nat.reduceLT,Nat.reduceLeDiff,Nat.reduceAdd,decide_true,Bool.and_self,Bool.true_and]<;>rfl)]
  simp only [← hs,slAll,slsAll,Nat.reduceMul,Nat.reduceBEq,Nat.reduceLT,Nat.reduceLeDiff,memAll,vAll,reduceCtorEq,Nat.reduceEqDiff,Nat.reduceAdd,Nat.reduceLT,Nat.reduceLeDiff,Nat.beq]
  rw [ih _ (by simp only [hi1,slAll,slsAll,Nat.reduceMul,Nat.reduceBEq,Nat.reduceLT,Nat.reduceLeDiff,memAll,vAll,reduceCtorEq,Nat.reduceEqDiff,Nat.reduceAdd,Nat.reduceLT,Nat.reduceLeDiff,Nat.beq]<;>rfl)]
 ·intro rb
  rw [List.take_length]
  simp only [fn18_b2,Int.lt_irrefl,List.length_map,slAll,slsAll,Nat.reduceMul,Nat.reduceBEq,Nat.reduceLT,Nat.reduceLeDiff,memAll,vAll,reduceCtorEq,Nat.reduceEqDiff,Nat.reduceAdd,Nat.reduceLT,Nat.reduceLeDiff,Nat.beq]
theorem cal18 {a b:Img} (ha:a.length≤4096) (hb:b.length≤lim) (hv:∀ v∈a,v.length≤4096):cal env 18 [.list 1 (a.map eSecs),.list 1 (b.map eSecs)]=some [(.int .i64 (if pairErr a b=0 then sL (differOut a b) else 0),false),(.int .i64 (pairErr a b),false)]:=by
 have hl:lim=1073741824:=rfl
 have e1:=cal64 (a:=a) (b:=b) (by omega) hb (fun v h=>by have:=hv v h;omega)
 obtain ⟨h1,h2⟩:=differ_okS (a:=a) (b:=b) ha hv
 by_cases c:pairErr a b=0
 ·have F1:((0:Int) != 0)=false:=rfl
  rw [c] at e1
  rw [if_pos c,c]
  rw [cal_code env18 rfl];simp only [fn18,slAll,Nat.reduceBEq,Nat.reduceLeDiff,Nat.reduceAdd,List.length_cons,List.length_nil]
  simp only [e1,F1,List.length_map,slAll,slsAll,Nat.reduceMul,Nat.reduceBEq,Nat.reduceLT,Nat.reduceLeDiff,memAll,vAll,reduceCtorEq,Nat.reduceEqDiff,Nat.reduceAdd,Nat.reduceLT,Nat.reduceLeDiff,Nat.beq]
  rw [loop18l3 h2 h1]
  rotate_left
  ·simp only [List.take_zero,sL];simp only [slAll,slsAll,Nat.reduceMul,Nat.reduceBEq,Nat.reduceLT,Nat.reduceLeDiff,Nat.reduceAdd,decide_true,Bool.and_self,Bool.true_and]<;>rfl
  ·simp only [slAll,slsAll,Nat.reduceMul,Nat.reduceBEq,Nat.reduceLT,Nat.reduceLeDiff,memAll,vAll,reduceCtorEq,Nat.reduceEqDiff,Nat.reduceAdd,Nat.reduceLT,Nat.reduceLeDiff,Nat.beq]
 ·have F1:(pairErr a b != 0)=true:=by simp [c]
  rw [if_neg c]
  rw [cal_code env18 rfl];simp only [fn18,slAll,Nat.reduceBEq,Nat.reduceLeDiff,Nat.reduceAdd,List.length_cons,List.length_nil]
  simp only [e1,F1,slAll,slsAll,Nat.reduceMul,Nat.reduceBEq,Nat.reduceLT,Nat.reduceLeDiff,memAll,vAll,reduceCtorEq,Nat.reduceEqDiff,Nat.reduceAdd,Nat.reduceLT,Nat.reduceLeDiff,Nat.beq]
end Go.Proofs.YtioijcfcehhmdaaGreatDoor.V
