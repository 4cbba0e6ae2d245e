/-
  Part 8 of the texts that the statement stands on.
-/
import Derived.Test.YtioijcfcehhmdaaGreatDoorZ7
set_option linter.all false
namespace Go.Proofs.YtioijcfcehhmdaaGreatDoor.V
def addAt (out:List Exn) (i:Nat):List Exn:=match out.getLast? with
 |some x=>if x.start+x.count=(i:Int) then out.dropLast++[⟨x.start,x.count+1⟩] else out++[⟨i,1⟩]
 |none=>[⟨i,1⟩]
def exts (l:List Nat):List Exn:=l.foldl addAt []
end Go.Proofs.YtioijcfcehhmdaaGreatDoor.V

namespace Go.Proofs.YtioijcfcehhmdaaGreatDoor.V
def ext (p:Nat→Bool) (n:Nat):List Exn:=exts ((List.range n).filter p)
def dep (i:Nat) (s:Nat):List End→Int
 |[]=>0
 |x :: l=>(if x.list=i∧x.pos≤s then x.step else 0)+dep i s l
def Asc:List End→Prop
 |[]=>True
 |[_]=>True
 |x :: y :: l=>x.pos≤y.pos∧Asc (y :: l)
theorem Asc.tail {x:End} {l:List End} (h:Asc (x :: l)):Asc l:=by
 cases l with
 |nil=>trivial
 |cons y l=>exact h.2
def atStart (N:Nat):List End→Nat→Prop
 |[],a=>a=N
 |x :: _,a=>a=x.pos
end Go.Proofs.YtioijcfcehhmdaaGreatDoor.V

namespace Go.Proofs.YtioijcfcehhmdaaGreatDoor
def look:List (Nat × AV)→Nat→AV
 |[],_=>.any
 |(j,v) :: l,i=>bcase (Nat.beq i j) v (look l i)
def sl (n:Nat) (l:List (Nat × AV)):List AV:=(List.range n).map (look l)
def mapA (f:AV→AV):List (Nat × AV)→List (Nat × AV)
 |[]=>[]
 |(j,v) :: l=>(j,f v) :: mapA f l
def keepA (l:List (Nat × AV)):List Nat→List (Nat × AV)
 |[]=>[]
 |k :: ks=>(k,look l k) :: keepA l ks
def argsA:Nat→List PV→List (Nat × AV)
 |_,[]=>[]
 |k,v :: l=>(k,.pv v) :: argsA (k+1) l
def lowA (nb:Nat):List (Nat × AV)→Bool
 |[]=>true
 |(_,v) :: l=>AV.low nb v&&lowA nb l
def insA (n:Nat):List Nat→Bool
 |[]=>true
 |k :: ks=>decide (k<n)&&insA n ks
theorem look_hit (i:Nat) (v:AV) (l:List (Nat × AV)):look ((i,v) :: l) i=v:=by
 show bcase (Nat.beq i i) v _=v
 rw [Nat.beq_refl];rfl
theorem look_nil (i:Nat):look [] i=.any:=(rfl)
theorem sl_get {n i:Nat} {l:List (Nat × AV)} (h':i<n):(sl n l).getD i .any=look l i:=by
 simp [sl,List.getD_eq_getElem?_getD,h']
theorem sl_some {n i:Nat} {l:List (Nat × AV)} (h':i<n):(sl n l)[i]?=some (look l i):=by
 simp [sl,h']
theorem look_cons (l:List (Nat × AV)) (i j:Nat) (v:AV):look ((j,v) :: l) i=if i=j then v else look l i:=by
 show bcase (Nat.beq i j) v _=_
 by_cases h:i=j
 ·subst h;rw [Nat.beq_refl,if_pos rfl];rfl
 ·rw [if_neg h]
  have:Nat.beq i j=false:=by
   cases e:Nat.beq i j with
   |false=>rfl
   |true=>exact absurd (Nat.eq_of_beq_eq_true e) h
  rw [this];rfl
theorem sl_set (n i:Nat) (v:AV) (l:List (Nat × AV)):(sl n l).set i v=sl n ((i,v) :: l):=by
 apply List.ext_getElem (by simp [sl])
 intro k h1 h2
 have hk:k<n:=by simpa [sl] using h2
 simp only [sl,List.getElem_set,List.getElem_map,List.getElem_range,look_cons]
 by_cases h:i=k
 ·subst h;simp
 ·rw [if_neg h,if_neg (fun e=>h e.symm)]
theorem look_skip {i j:Nat} {v:AV} {l:List (Nat × AV)} (h:(i==j)=false):look ((j,v) :: l) i=look l i:=by
 rw [look_cons,if_neg (by simpa using h)]
theorem look_mapA (f:AV→AV) (hf:f .any=.any):∀ (l:List (Nat × AV)) (i:Nat),look (mapA f l) i=f (look l i)
 |[],i=>hf.symm
 |(j,v) :: l,i=>by
  show look ((j,f v) :: mapA f l) i=_
  rw [look_cons,look_cons,look_mapA f hf l i]
  split<;>rfl
theorem sl_map {f:AV→AV} (hf:f .any=.any) (n:Nat) (l:List (Nat × AV)):(sl n l).map f=sl n (mapA f l):=by
 unfold sl
 rw [List.map_map]
 apply List.map_congr_left
 intro i _
 exact (look_mapA f hf l i).symm
theorem sl_kill (n d:Nat) (l:List (Nat × AV)):(sl n l).map (AV.kill d)=sl n (mapA (AV.kill d) l):=sl_map rfl n l
theorem sl_killc (n d:Nat) (l:List (Nat × AV)):(sl n l).map (AV.killCell d)=sl n (mapA (AV.killCell d) l):=sl_map rfl n l
theorem sl_froze (n:Nat) (l:List (Nat × AV)):(sl n l).map AV.froze=sl n (mapA AV.froze l):=sl_map rfl n l
theorem mapA_nil (f:AV→AV):mapA f []=[]:=(rfl)
theorem mapA_cons (f:AV→AV) (j:Nat) (v:AV) (l:List (Nat × AV)):mapA f ((j,v) :: l)=(j,f v) :: mapA f l:=(rfl)
theorem keepA_nil (l:List (Nat × AV)):keepA l []=[]:=(rfl)
theorem keepA_cons (l:List (Nat × AV)) (k:Nat) (ks:List Nat):keepA l (k :: ks)=(k,look l k) :: keepA l ks:=(rfl)
theorem lowA_nil (nb:Nat):lowA nb []=true:=(rfl)
theorem lowA_cons (nb k:Nat) (v:AV) (l:List (Nat × AV)):lowA nb ((k,v) :: l)=(AV.low nb v&&lowA nb l):=(rfl)
theorem insA_nil (n:Nat):insA n []=true:=(rfl)
theorem insA_cons (n k:Nat) (l:List Nat):insA n (k :: l)=(decide (k<n)&&insA n l):=(rfl)
theorem argsA_nil (k:Nat):argsA k []=[]:=(rfl)
theorem argsA_cons (k:Nat) (v:PV) (l:List PV):argsA k (v :: l)=(k,.pv v) :: argsA (k+1) l:=(rfl)
theorem look_keepA (l:List (Nat × AV)):∀ (ks:List Nat) (i:Nat),look (keepA l ks) i=if ks.contains i then look l i else .any
 |[],i=>rfl
 |k :: ks,i=>by
  rw [keepA_cons,look_cons,look_keepA l ks i,List.contains_cons]
  by_cases h:i=k
  ·subst h;simp
  ·have:(i==k)=false:=by simpa using h
   rw [if_neg h,this,Bool.false_or]
theorem lowA_iff (nb n:Nat) (l:List (Nat × AV)):∀ ks:List Nat,insA n ks=true→(lowA nb (keepA l ks)=true ↔ ∀ k∈ks,(look l k).low nb=true)
 |[],_=>by simp [keepA,lowA]
 |k :: ks,h=>by
  rw [insA_cons,Bool.and_eq_true] at h
  rw [keepA_cons,lowA_cons,Bool.and_eq_true,lowA_iff nb n l ks h.2]
  simp
theorem head_sl {n nb:Nat} {l:List (Nat × AV)} {keep:List Nat} {bx:List Box} {ys:List (List PV)} {sp:Option (Option Nat)} (h:insA n keep=true) (hb:nb≤bx.length) (hl:lowA nb (keepA l keep)=true) :
  St.head ⟨sl n l,bx,ys,sp⟩ keep nb=some ⟨sl n (keepA l keep),bx.take nb,ys,sp⟩:=by
 have e:((sl n l).zipIdx.map fun (v,i)=>if keep.contains i then v else AV.any)=sl n (keepA l keep):=by
  apply List.ext_getElem (by simp [sl])
  intro i h1 h2
  simp only [sl,List.getElem_map,List.getElem_zipIdx,List.getElem_range,look_keepA,Nat.zero_add]
 unfold St.head
 simp only
 rw [e,if_pos]
 rw [Bool.and_eq_true,decide_eq_true_eq]
 refine ⟨?_,hb⟩
 rw [List.all_eq_true]
 intro v hv
 unfold sl at hv
 obtain ⟨i,hi,rfl⟩:=List.mem_map.1 hv
 rw [look_keepA]
 split
 ·rename_i hc
  exact (lowA_iff nb n l keep h).1 hl i (by simpa using hc)
 ·rfl
theorem clean_sl {n nb:Nat} {e:Ex} {l:List (Nat × AV)} {keep:List Nat} {bx:List Box} {ys:List (List PV)} {sp:Option (Option Nat)} (h:insA n keep=true) (hb:nb≤bx.length) (hl:lowA nb (keepA l keep)=true) :
  cleanEnd keep nb (e,⟨sl n l,bx,ys,sp⟩)=some (e,⟨sl n (keepA l keep),bx.take nb,ys,sp⟩):=by
 unfold cleanEnd
 simp only
 rw [head_sl h hb hl]
 rfl
theorem look_argsA:∀ (l:List PV) (k i:Nat),look (argsA k l) i=if k≤i then ((l[i - k]?).map AV.pv).getD .any else .any:=by
 intro l
 induction l with
 |nil=>intro k i;simp [argsA,look]
 |cons v l ih =>
  intro k i
  rw [argsA_cons,look_cons,ih]
  by_cases h1:i=k
  ·subst h1;simp
  ·rw [if_neg h1]
   by_cases h2:k≤i
   ·rw [if_pos (by omega),if_pos h2,show i - k=(i - (k+1))+1 by omega,List.getElem?_cons_succ]
   ·rw [if_neg (by omega),if_neg h2]
theorem startL_sl {n:Nat} {x:LArg} {args:List PV} (hn:args.length+1≤n):startL n x args=⟨sl n ((0,x.av) :: argsA 1 args),x.boxes,[],none⟩:=by
 unfold startL
 congr 1
 apply List.ext_getElem (by simp [sl];omega)
 intro i h1 h2
 simp only [sl,List.getElem_map,List.getElem_range,look_cons,look_argsA]
 cases i with
 |zero=>simp
 |succ i =>
  rw [List.getElem_cons_succ,if_neg (by omega),if_pos (by omega),show i+1 - 1=i by omega]
  by_cases hi:i<args.length
  ·rw [List.getElem_append_left (by simpa using hi)]
   simp [hi]
  ·rw [List.getElem_append_right (by simp;omega)]
   simp [hi]
theorem start_sl {n:Nat} {args:List PV} (hn:args.length≤n):start n args=⟨sl n (argsA 0 args),[],[],none⟩:=by
 have key:=look_argsA
 unfold start
 congr 1
 apply List.ext_getElem (by simp [sl];omega)
 intro i h1 h2
 simp only [sl,List.getElem_map,List.getElem_range,key,Nat.zero_le,if_true,Nat.sub_zero]
 by_cases hi:i<args.length
 ·rw [List.getElem_append_left (by simpa using hi)]
  simp [hi]
 ·rw [List.getElem_append_right (by simp;omega)]
  simp [hi]
theorem low_pv (nb:Nat) (v:PV):AV.low nb (.pv v)=true:=(rfl)
theorem low_any (nb:Nat):AV.low nb .any=true:=(rfl)
theorem low_yld (nb:Nat):AV.low nb .yld=true:=(rfl)
theorem low_row (nb sz:Nat) (es:List PV):AV.low nb (.row sz es)=true:=(rfl)
theorem low_pbox (nb o j:Nat):AV.low nb (.pbox o j)=decide (o<nb):=(rfl)
theorem low_refs (nb t off len:Nat):AV.low nb (.ref (.slot t) off len)=true:=(rfl)
theorem low_refc (nb o j off len:Nat):AV.low nb (.ref (.cell o j) off len)=decide (o<nb):=(rfl)
theorem low_pels (nb t i j:Nat):AV.low nb (.pel (.slot t) i j)=true:=(rfl)
theorem low_pelc (nb o q i j:Nat):AV.low nb (.pel (.cell o q) i j)=decide (o<nb):=(rfl)
theorem low_fn (nb f:Nat) (caps:List AV):AV.low nb (.fn f caps)=caps.all fun c=>match c with
  |.pv _=>true
  |.pbox o _=>o<nb
  |_=>false:=(rfl)
def slAll:=And.intro @look_hit (And.intro @look_skip (And.intro @look_nil (And.intro @sl_get (And.intro @sl_some (And.intro @sl_set (And.intro @sl_kill (And.intro @sl_killc (And.intro @sl_froze (And.intro @mapA_nil (And.intro @mapA_cons (And.intro @keepA_nil (And.intro @keepA_cons (And.intro @lowA_nil (And.intro @lowA_cons (And.intro @insA_nil (And.intro @insA_cons (And.intro @argsA_nil (And.intro @argsA_cons (And.intro @head_sl (And.intro @clean_sl (And.intro @start_sl (And.intro @startL_sl (And.intro @low_pv (And.intro @low_any (And.intro @low_yld (And.intro @low_row (And.intro @low_pbox (And.intro @low_refs (And.intro @low_refc (And.intro @low_pels (And.intro @low_pelc (@low_fn))))))))))))))))))))))))))))))))
end Go.Proofs.YtioijcfcehhmdaaGreatDoor

namespace Go.Proofs.YtioijcfcehhmdaaGreatDoor.V
def inE (e:Exn) (s:Nat):Bool:=decide (0<e.count)&&(decide (e.start≤(s:Int))&&decide ((s:Int)<e.start+e.count))
end Go.Proofs.YtioijcfcehhmdaaGreatDoor.V

namespace Go.Proofs.YtioijcfcehhmdaaGreatDoor.V
structure SwSt where
 d0:Int
 d1:Int
 st:Int
 ins:Bool
 out:List Exn
end Go.Proofs.YtioijcfcehhmdaaGreatDoor.V

namespace Go.Proofs.YtioijcfcehhmdaaGreatDoor.V
def inS (l:List Exn) (s:Nat):Bool:=l.any fun e=>inE e s
end Go.Proofs.YtioijcfcehhmdaaGreatDoor.V

namespace Go.Proofs.YtioijcfcehhmdaaGreatDoor.V
end Go.Proofs.YtioijcfcehhmdaaGreatDoor.V

namespace Go.Proofs.YtioijcfcehhmdaaGreatDoor.V
end Go.Proofs.YtioijcfcehhmdaaGreatDoor.V

namespace Go.Proofs.YtioijcfcehhmdaaGreatDoor
end Go.Proofs.YtioijcfcehhmdaaGreatDoor

namespace Go.Proofs.YtioijcfcehhmdaaGreatDoor.V
def mk (f:Nat→Bool):List Bool:=(List.range 4096).map f
end Go.Proofs.YtioijcfcehhmdaaGreatDoor.V

namespace Go.Proofs.YtioijcfcehhmdaaGreatDoor.V
end Go.Proofs.YtioijcfcehhmdaaGreatDoor.V

namespace Go.Proofs.YtioijcfcehhmdaaGreatDoor.V
end Go.Proofs.YtioijcfcehhmdaaGreatDoor.V

namespace Go.Proofs.YtioijcfcehhmdaaGreatDoor.V
end Go.Proofs.YtioijcfcehhmdaaGreatDoor.V

namespace Go.Proofs.YtioijcfcehhmdaaGreatDoor.V
end Go.Proofs.YtioijcfcehhmdaaGreatDoor.V

namespace Go.Proofs.YtioijcfcehhmdaaGreatDoor.V
end Go.Proofs.YtioijcfcehhmdaaGreatDoor.V

namespace Go.Proofs.YtioijcfcehhmdaaGreatDoor.V
end Go.Proofs.YtioijcfcehhmdaaGreatDoor.V

namespace Go.Proofs.YtioijcfcehhmdaaGreatDoor.V
end Go.Proofs.YtioijcfcehhmdaaGreatDoor.V

namespace Go.Proofs.YtioijcfcehhmdaaGreatDoor.V
end Go.Proofs.YtioijcfcehhmdaaGreatDoor.V

namespace Go.Proofs.YtioijcfcehhmdaaGreatDoor.V
end Go.Proofs.YtioijcfcehhmdaaGreatDoor.V

namespace Go.Proofs.YtioijcfcehhmdaaGreatDoor.V
end Go.Proofs.YtioijcfcehhmdaaGreatDoor.V

namespace Go.Proofs.YtioijcfcehhmdaaGreatDoor.V
end Go.Proofs.YtioijcfcehhmdaaGreatDoor.V

namespace Go.Proofs.YtioijcfcehhmdaaGreatDoor.V
def secsW (l:List Wrt):Int:=(l.map fun w=>(w.data.length:Int)).sum
theorem secsW_snoc (l:List Wrt) (x:Wrt):secsW (l++[x])=secsW l+x.data.length:=by simp [secsW]
theorem secsW_take {l:List Wrt} {i:Nat} (h:i<l.length):secsW (l.take (i+1))=secsW (l.take i)+(l[i].data.length:Int):=by
 rw [List.take_succ_eq_append_getElem h,secsW_snoc]
theorem secsW_lim {k:Nat}:∀ {l:List Wrt},(∀ w∈l,w.data.length≤k)→0≤secsW l∧secsW l≤(k * l.length:Nat)
 |[],_=>by simp [secsW]
 |x :: l,h=>by
  have:=secsW_lim (l:=l) fun w hw=>h w (by simp [hw])
  have hx:=h x (by simp)
  have e:secsW (x :: l)=(x.data.length:Int)+secsW l:=by simp [secsW]
  rw [e,List.length_cons,Nat.mul_add,Nat.mul_one];omega
theorem loop67 {l:List Wrt} (hd:∀ w∈l,w.data.length≤10000) (hl:l.length≤1000000) {st:St} (h:st.head [0,3,4] st.boxes.length=some ⟨[.pv (.list 3 (l.map eWr)),.any,.any,.pv (.int .i64 (secsW (l.take (0:Nat)))),.pv (.int .i64 (0:Nat)),.any,.any,.any,.any,.any,.any,.any,.any,.any,.any,.any,.any,.any,.any,.any],[],[],none⟩) :
  den env fn67_l1 st=some (.normal,⟨[.any,.any,.any,.pv (.int .i64 (secsW l)),.any,.any,.any,.any,.any,.any,.any,.any,.any,.any,.any,.any,.any,.any,.any,.any],[],[],none⟩):=by
 unfold fn67_l1
 refine clean_up (env:=env) (l.length) (fun i=>⟨[.pv (.list 3 (l.map eWr)),.any,.any,.pv (.int .i64 (secsW (l.take i))),.pv (.int .i64 i),.any,.any,.any,.any,.any,.any,.any,.any,.any,.any,.any,.any,.any,.any,.any],[],[],none⟩) (fun i=>some (.normal,⟨[.any,.any,.any,.pv (.int .i64 (secsW l)),.any,.any,.any,.any,.any,.any,.any,.any,.any,.any,.any,.any,.any,.any,.any,.any],[],[],none⟩)) h (fun _=>rfl) (fun _=>rfl) ?_ ?_
 ·intro i rb hi ih
  have hi1:=i64_next hi (Nat.le_trans hl (by decide))
  have F1:((i:Int)<(l.length:Int))=True:=eq_true (by omega)
  have h1:=secsW_lim (l:=l.take i) fun w hw=>hd w (List.mem_of_mem_take hw)
  have h2:=hd _ (List.getElem_mem hi)
  have h3:(l.take i).length≤1000000:=by rw [List.length_take];omega
  have W:IntKind.i64.wrap (secsW (l.take i)+(l[i].data.length:Int))=secsW (l.take (i+1)):=by rw [secsW_take hi];exact i64_fits (by omega)
  simp only [fn67_b0,F1,W,eWr,index_nat hi,List.getElem?_map,List.getElem?_eq_getElem hi,memAll,vAll,reduceCtorEq,Nat.reduceEqDiff,Nat.reduceAdd,Nat.reduceLT,Nat.reduceLeDiff,Nat.beq]
  rw [ih _ (by simp only [hi1];rfl)]
 ·intro rb
  simp only [fn67_b0,Int.lt_irrefl, memAll,vAll,reduceCtorEq,Nat.reduceEqDiff,Nat.reduceAdd,Nat.reduceLT,Nat.reduceLeDiff,Nat.beq]
  rfl
theorem cal67 {l:List Wrt} (hd:∀ w∈l,w.data.length≤10000) (hl:l.length≤1000000):cal env 67 [.list 3 (l.map eWr)]=some [(.int .i64 (secsW l),false)]:=by
 rw [cal_code env67 rfl];simp only [fn67];simp only [start,z_map_cons,z_map_nil,z_len_cons,z_len_nil,z_repl_zero,z_repl_succ,z_cons_app,z_nil_app,Nat.reduceAdd,Nat.reduceSub]
 simp only [List.length_map,memAll,vAll,reduceCtorEq,Nat.reduceEqDiff,Nat.reduceAdd,Nat.reduceLT,Nat.reduceLeDiff,Nat.beq]
 rw [loop67 hd hl]
 rotate_left
 ·rfl
 ·simp only [memAll,vAll,reduceCtorEq,Nat.reduceEqDiff,Nat.reduceAdd,Nat.reduceLT,Nat.reduceLeDiff,Nat.beq]
end Go.Proofs.YtioijcfcehhmdaaGreatDoor.V

namespace Go.Proofs.YtioijcfcehhmdaaGreatDoor.V
def few22 (l:List Wrt):Bool:=(l.take 60).all (fun w=>decide (w.data.length≤24))&&decide (l.length≤40)
theorem few22_len {l:List Wrt} (h:few22 l=true):l.length≤40∧∀ w∈l,w.data.length≤24:=by
 unfold few22 at h
 simp only [Bool.and_eq_true,decide_eq_true_eq] at h
 rw [List.take_of_length_le (by omega)] at h
 exact ⟨h.2,fun w hw=>by have:=List.all_eq_true.1 h.1 w hw;simpa using this⟩
theorem loop65 {l:List Wrt} {st:St} (h:st.head [0,3] st.boxes.length=some ⟨[.pv (.list 3 (l.map eWr)),.any,.any,.pv (.int .i64 (0:Nat)),.any,.any,.any,.any,.any,.any,.any,.any,.any,.any,.any,.any,.any,.any,.any,.any,.any,.any,.any,.any],[],[],none⟩) :
  den env fn65_l1 st=if (l.take 60).all (fun w=>decide (w.data.length≤24)) then some (.normal,⟨[.pv (.list 3 (l.map eWr)),.any,.any,.any,.any,.any,.any,.any,.any,.any,.any,.any,.any,.any,.any,.any,.any,.any,.any,.any,.any,.any,.any,.any],[],[],none⟩) else some (.ret,⟨[.pv (.list 3 (l.map eWr)),.any,.pv (.bool false),.any,.any,.any,.any,.any,.any,.any,.any,.any,.any,.any,.any,.any,.any,.any,.any,.any,.any,.any,.any,.any],[],[],none⟩):=by
 unfold fn65_l1
 rw [ clean_up (env:=env) ((l.take 60).length) (fun i=>⟨[.pv (.list 3 (l.map eWr)),.any,.any,.pv (.int .i64 i),.any,.any,.any,.any,.any,.any,.any,.any,.any,.any,.any,.any,.any,.any,.any,.any,.any,.any,.any,.any],[],[],none⟩) (fun i=>if ((l.take 60).drop i).all (fun w=>decide (w.data.length≤24)) then some (.normal,⟨[.pv (.list 3 (l.map eWr)),.any,.any,.any,.any,.any,.any,.any,.any,.any,.any,.any,.any,.any,.any,.any,.any,.any,.any,.any,.any,.any,.any,.any],[],[],none⟩) else some (.ret,⟨[.pv (.list 3 (l.map eWr)),.any,.pv (.bool false),.any,.any,.any,.any,.any,.any,.any,.any,.any,.any,.any,.any,.any,.any,.any,.any,.any,.any,.any,.any,.any],[],[],none⟩)) h (fun _=>rfl) (fun _=>rfl) ?_ ?_]
 ·first|rfl|simp only [List.drop_zero,List.take_zero,List.map_nil,Nat.zero_add,List.nil_append,List.foldl_nil]
 ·intro i rb hi ih
  have hlim:lim=1073741824:=rfl
  have hi60:i<60:=by rw [List.length_take] at hi;omega
  have hil:i<l.length:=by rw [List.length_take] at hi;omega
  have hi1:=i64_next (show i<i+1 by omega) (by omega)
  have F1:((i:Int)<(l.length:Int))=True:=eq_true (by omega)
  have F2:((i:Int)<60)=True:=eq_true (by omega)
  rw [List.drop_eq_getElem_cons hi,List.all_cons]
  have hx:l[i]?=some (l.take 60)[i]:=by rw [List.getElem_take];exact List.getElem?_eq_getElem hil
  generalize (l.take 60)[i]=w at *
  simp only [fn65_b0,F1,F2,hx,eWr,index_nat hil,List.getElem?_map,Option.map_some,List.length_map,memAll,vAll,reduceCtorEq,Nat.reduceEqDiff,Nat.reduceAdd,Nat.reduceLT,Nat.reduceLeDiff,Nat.beq]
  (try simp only [bcase_bind,bcase_map,tail_bcase]);refine bcase_split (fun hb=>?_) (fun hb=>?_)<;>try simp only [hb, memAll,vAll,reduceCtorEq,Nat.reduceEqDiff,Nat.reduceAdd,Nat.reduceLT,Nat.reduceLeDiff,Nat.beq]
  ·rw [decide_eq_false (by simp at hb;omega)];rfl
  ·rw [ih _ (by simp only [hi1];rfl),decide_eq_true (show w.data.length≤24 by simp at hb;omega),Bool.true_and]
 ·intro rb
  rw [List.drop_length]
  by_cases c:l.length<60
  ·have hn:(l.take 60).length=l.length:=by rw [List.length_take];omega
   rw [hn]
   simp only [fn65_b0,Int.lt_irrefl, memAll,vAll,reduceCtorEq,Nat.reduceEqDiff,Nat.reduceAdd,Nat.reduceLT,Nat.reduceLeDiff,Nat.beq]
   rfl
  ·have hn:(l.take 60).length=60:=by rw [List.length_take];omega
   rw [hn]
   by_cases c2:l.length=60
   ·have F1:(((60:Nat):Int)<(l.length:Int))=False:=eq_false (by omega)
    simp only [fn65_b0,F1,List.length_map,memAll,vAll,reduceCtorEq,Nat.reduceEqDiff,Nat.reduceAdd,Nat.reduceLT,Nat.reduceLeDiff,Nat.beq]
    rfl
   ·have F1:(((60:Nat):Int)<(l.length:Int))=True:=eq_true (by omega)
    have F2:(((60:Nat):Int)<60)=False:=eq_false (by omega)
    simp only [fn65_b0,F1,F2,List.length_map,memAll,vAll,reduceCtorEq,Nat.reduceEqDiff,Nat.reduceAdd,Nat.reduceLT,Nat.reduceLeDiff,Nat.beq]
    rfl
theorem cal65 {l:List Wrt}:cal env 65 [.list 3 (l.map eWr)]=some [(.bool (few22 l),false)]:=by
 rw [cal_code env65 rfl];simp only [fn65];simp only [start,z_map_cons,z_map_nil,z_len_cons,z_len_nil,z_repl_zero,z_repl_succ,z_cons_app,z_nil_app,Nat.reduceAdd,Nat.reduceSub]
 simp only [ memAll,vAll,reduceCtorEq,Nat.reduceEqDiff,Nat.reduceAdd,Nat.reduceLT,Nat.reduceLeDiff,Nat.beq]
 rw [loop65 (l:=l)]
 rotate_left
 ·rfl
 unfold few22
 have F1:decide ((l.length:Int)≤40)=decide (l.length≤40):=decide_eq_decide.2 (by omega)
 cases (l.take 60).all (fun w=>decide (w.data.length≤24))<;>simp only [F1,if_true,if_false,Bool.false_eq_true,memAll,vAll,reduceCtorEq,Nat.reduceEqDiff,Nat.reduceAdd,Nat.reduceLT,Nat.reduceLeDiff,Nat.beq]
end Go.Proofs.YtioijcfcehhmdaaGreatDoor.V
