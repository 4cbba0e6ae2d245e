/-
  Part 9 of the texts that the statement stands on.
-/
import Derived.Test.YtioijcfcehhmdaaGreatDoorZ8
import Derived.Test.YtioijcfcehhmdaaGreatDoorRows
import Derived.WalkSmall
import Derived.WalkSpells
import Derived.Lib.SliceRun
import Derived.Tactics
import Derived.Tactics2
import Derived.Defers
import Derived.Recover
import Derived.TacticsInMore
import Derived.RegionIn
import Derived.RecoverIn
import Derived.Laws.Pointers
set_option linter.all false
namespace Go.Proofs.YtioijcfcehhmdaaGreatDoor.V
end Go.Proofs.YtioijcfcehhmdaaGreatDoor.V

namespace Go.Proofs.YtioijcfcehhmdaaGreatDoor.V
end Go.Proofs.YtioijcfcehhmdaaGreatDoor.V

namespace Go.Proofs.YtioijcfcehhmdaaGreatDoor.V
end Go.Proofs.YtioijcfcehhmdaaGreatDoor.V

namespace Go.Proofs.YtioijcfcehhmdaaGreatDoor
open Go.RowKit
theorem BM {w:World} {a:Addr} {v:Value} (h:w.cell? a=some v):∀ x:Later w,x.w.cell? a=some v:=fun x=>(x.below.cell (World.block_lt_of_cell? w a h)).trans h
structure rX (W:World) (g:Nat) where
 w:World
 grown:W.grownBy w (some g)
instance (W:World) (g:Nat):Nonempty (rX W g):=⟨⟨W,World.grownBy.refl _ _⟩⟩
theorem rX.of {W w:World} {g:Nat} (h:W.grownBy w (some g)):∃ x:rX W g,w=x.w:=⟨⟨w,h⟩,rfl⟩
theorem grown_drew (W:World) (row:Option Nat):W.grownBy W.drew row:=⟨rfl,rfl,rfl,Nat.le_refl _,fun _ _ _=>rfl⟩
theorem rX.drew (W:World) (g:Nat):∃ x:rX W g,W.drew=x.w:=rX.of (grown_drew _ _)
theorem uJ {w:World} {g:Nat} {a:Addr} {v:Value} (h:w.cell? a=some v) (hne:a.block≠g):∀ x:rX w g,x.w.cell? a=some v:=fun x =>
 x.grown.cell h fun e=>hne (Option.some.inj e)
theorem QI {a b c:World} {row:Option Nat} (h:a.grownBy b row) (k:b.grownBy c row):a.grownBy c row :=
 ⟨k.os.trans h.os,k.tape.trans h.tape,k.output.trans h.output,Nat.le_trans h.size k.size,fun i hi hr=>(k.block i (Nat.lt_of_lt_of_le hi h.size) hr).trans (h.block i hi hr)⟩
theorem grown_below {B:Nat} {w w':World} {row:Option Nat} (h:w.grownBy w' row) (hB:B≤w.heap.size) (hr:∀ k,row=some k→B≤k):Below B w w':=(Below.refl B w).grown h hB hr
theorem below_grown {w w':World} (h:Below w.heap.size w w'):w.grownBy w' none:=⟨h.os,h.tape,h.output,h.size,fun k hk _=>h.block k hk⟩
theorem uK {w w1:World} {cs:Array Value} {T:TypeId} (hb:Below (w.alloc (.cells cs T)).heap.size (w.alloc (.cells cs T)) w1) {j:Nat} {v:Value} (h:cs[j]?=some v):w1.cell? ⟨w.heap.size,j,none⟩=some v:=by
 rw [hb.cell (p:=⟨w.heap.size,j,none⟩) (by simp),World.cell?_alloc_mark w cs T (0,0) j,h]
theorem GI (w:World) (E:TypeId) (cs:Array Value):∀ j u,cs.toList[j]?=some u→(w.alloc (.cells cs E)).cell? ((⟨w.heap.size,0,none⟩:Addr).add j)=some u:=fun j u hu=>by
 rw [Addr.add_lit,Nat.zero_add,World.cell?_alloc_mark w cs E (0,0) j]
 simpa using hu
theorem ade {α:Type} {r:Rep α} {ok:Nat→Prop} {w w':World} {cs:List Value} {x:α} (h:r.rd ok w cs x) (hb:Below w.heap.size w w'):r.rd ok w' cs x :=
 r.mono (fun _ hb=>hb.1) (r.frame (fun b hb'=>hb.block b hb'.2) (r.live h))
theorem GK {α:Type} {r:Rep α} {ok:Nat→Prop} {w:World} {cs:List Value} {x:α} (h:r.rd ok w cs x) {o:Obj}:r.rd ok (w.alloc o) cs x:=ade h ((Below.refl _ _).alloc (Nat.le_refl _) _)
def dK {α:Type} (r:Rep α) (tag:Nat→Nat) (ok:Nat→Prop) (w:World):Nat→List Value→List α→Prop
 |_,xs,[]=>xs=[]
 |i,xs,x :: l=>∃ c rest,xs=c++rest∧r.rd (fun b=>ok b∧tag b=i) w c x∧dK r tag ok w (i+1) rest l
section
variable {α:Type} {r:Rep α} {tag tag':Nat→Nat} {ok ok':Nat→Prop} {w w':World}
theorem dK.mono (hk:∀ b,ok b→ok' b):∀ {l:List α} {i:Nat} {xs:List Value},dK r tag ok w i xs l→dK r tag ok' w i xs l
 |[],_,_,h=>h
 |_ :: _,_,_,⟨c,rest,e,h1,h2⟩=>⟨c,rest,e,r.mono (fun b hb=>⟨hk b hb.1,hb.2⟩) h1,h2.mono hk⟩
theorem dK.retag (hk:∀ b,ok b→tag' b=tag b):∀ {l:List α} {i:Nat} {xs:List Value},dK r tag ok w i xs l→dK r tag' ok w i xs l
 |[],_,_,h=>h
 |_ :: _,_,_,⟨c,rest,e,h1,h2⟩=>⟨c,rest,e,r.mono (fun b hb=>⟨hb.1,by rw [hk b hb.1];exact hb.2⟩) h1,h2.retag hk⟩
theorem dK.live:∀ {l:List α} {i:Nat} {xs:List Value},dK r tag ok w i xs l→dK r tag (fun b=>ok b∧b<w.heap.size) w i xs l
 |[],_,_,h=>h
 |_ :: _,_,_,⟨c,rest,e,h1,h2⟩=>⟨c,rest,e,r.mono (fun b hb=>⟨⟨hb.1.1,hb.2⟩,hb.1.2⟩) (r.live h1),h2.live⟩
theorem dK.frame (hf:∀ b,ok b→w'.heap[b]?=w.heap[b]?):∀ {l:List α} {i:Nat} {xs:List Value},dK r tag ok w i xs l→dK r tag ok w' i xs l
 |[],_,_,h=>h
 |_ :: _,_,_,⟨c,rest,e,h1,h2⟩=>⟨c,rest,e,r.frame (fun b hb=>hf b hb.1) h1,h2.frame hf⟩
theorem dK.chunks:∀ {l:List α} {i:Nat} {xs:List Value},dK r tag ok w i xs l→Chunks r ok w xs l
 |[],_,_,h=>h
 |_ :: _,_,_,⟨c,rest,e,h1,h2⟩=>⟨c,rest,e,r.mono (fun b hb=>hb.1) h1,h2.chunks⟩
theorem dK.snoc {c:List Value} {x:α}:∀ {l:List α} {i:Nat} {xs:List Value},dK r tag ok w i xs l→r.rd (fun b=>ok b∧tag b=i+l.length) w c x→dK r tag ok w i (xs++c) (l++[x])
 |[],i,xs,h,hc=>by
  simp only [dK] at h
  subst h
  exact ⟨c,[],by simp,by simpa using hc,rfl⟩
 |y :: l,i,xs,⟨d,rest,e,h1,h2⟩,hc=>⟨d,rest++c,by rw [e,List.append_assoc],h1,h2.snoc (by rw [List.length_cons] at hc;rw [show i+1+l.length=i+(l.length+1) by omega];exact hc)⟩
theorem dK.pick:∀ {l:List α} {i:Nat} {xs:List Value},dK r tag ok w i xs l→∀ {k:Nat} {x:α},l[k]?=some x →
  ∃ c,(∀ j,j<r.sz→xs[k * r.sz+j]?=c[j]?)∧r.rd (fun b=>ok b∧tag b=i+k) w c x ∧
   ∀ (w':World) (x':α),(∀ b,ok b→tag b≠i+k→w'.heap[b]?=w.heap[b]?)→r.rd (fun b=>ok b∧tag b=i+k) w' c x'→dK r tag ok w' i xs (l.set k x')
 |[],_,_,_,k,x,hx=>by simp at hx
 |y :: l,i,xs,⟨c,rest,e,h1,h2⟩,0,x,hx=>by
  simp only [List.getElem?_cons_zero,Option.some.injEq] at hx
  subst hx
  refine ⟨c,fun j hj=>by rw [e,Nat.zero_mul,Nat.zero_add,List.getElem?_append_left (by rw [r.len h1];exact hj)],h1,fun w' x' hf hr=>?_⟩
  refine ⟨c,rest,e,hr,?_⟩
  -- the tail's elements bear other tags
  have:∀ {l:List α} {m:Nat} {xs:List Value},i<m→dK r tag ok w m xs l→dK r tag ok w' m xs l:=by
   intro l
   induction l with
   |nil=>intro m xs _ h;exact h
   |cons z l ih =>
    intro m xs hm h
    obtain ⟨d,rs,e',h3,h4⟩:=h
    exact ⟨d,rs,e',r.frame (fun b hb=>hf b hb.1 (by rw [hb.2];omega)) h3,ih (by omega) h4⟩
  exact this (Nat.lt_succ_self _) h2
 |y :: l,i,xs,⟨c,rest,e,h1,h2⟩,k+1,x,hx=>by
  obtain ⟨d,h3,h4,h5⟩:=h2.pick (k:=k) (x:=x) (by simpa using hx)
  have ei:i+1+k=i+(k+1):=by omega
  refine ⟨d,fun j hj=>?_,by rw [← ei];exact h4,fun w' x' hf hr=>?_⟩
  ·rw [e,List.getElem?_append_right (by rw [r.len h1,Nat.add_mul];omega),r.len h1,← h3 j hj]
   congr 1
   rw [Nat.add_mul];omega
  ·refine ⟨c,rest,e,r.frame (fun b hb=>hf b hb.1 (by rw [hb.2];omega)) h1,?_⟩
   exact h5 w' x' (fun b hb hne=>hf b hb (by rw [← ei];exact hne)) (by rw [ei];exact hr)
end
def jH {α:Type} (r:Rep α) (B F:Nat) (E:TypeId) (w:World) (v:Value) (l:List α):Prop :=
 ∃ tag xs,w.ownsRow B E r.sz v l.length xs∧dK r tag (fun b=>B≤b∧b<F∧Option.some b≠v.ownBlock) w 0 xs l
section
variable {α:Type} {r:Rep α} {B F:Nat} {E:TypeId} {w w':World} {v:Value} {l:List α}
theorem jH.nil (r:Rep α) (B F:Nat) (E:TypeId) (w:World):jH r B F E w (.slice none 0 0) []:=⟨fun _=>0,[],World.ownsRow_nil _ _ _ _,rfl⟩
theorem jH.up {F':Nat} (h:jH r B F E w v l) (hF:F≤F'):jH r B F' E w v l :=
 let ⟨tag,xs,h1,h2⟩:=h;⟨tag,xs,h1,h2.mono fun _ hb=>⟨hb.1,Nat.lt_of_lt_of_le hb.2.1 hF,hb.2.2⟩⟩
theorem jH.live (h:jH r B F E w v l):jH r B w.heap.size E w v l :=
 let ⟨tag,xs,h1,h2⟩:=h;⟨tag,xs,h1,h2.live.mono fun _ hb=>⟨hb.1.1,hb.2,hb.1.2.2⟩⟩
theorem jH.lt (h:jH r B F E w v l):∀ k,v.ownBlock=some k→B≤k∧k<w.heap.size:=let ⟨_,_,h1,_⟩:=h;h1.lt
theorem jH.below (h:jH r B F E w v l) (hb:Below w.heap.size w w'):jH r B F E w' v l:=by
 obtain ⟨tag,xs,h1,h2⟩:=h
 exact ⟨tag,xs,h1.kept (below_grown hb) (by cases v.ownBlock<;>simp),(dK.frame (fun b hb'=>hb.block b hb'.2) h2.live).mono fun b hb=>hb.1⟩
theorem jH.own (h:jH r B F E w v l):Own r B E (B≤·) w v l :=
 let ⟨_,xs,h1,h2⟩:=h;⟨xs,h1,h2.chunks.mono fun _ hb=>⟨hb.1,hb.2.2⟩⟩
theorem jH.sl (h:jH r B F E w v l):∃ a n c,v=.slice a n c∧Sl r (B≤·) w a n c l :=
 let ⟨a,n,c,e,h⟩:=h.own.sl;⟨a,n,c,e,h.mono fun _ hb=>hb.elim id id⟩
theorem wF {P:Program} {ops:Array Oper} {rest:List Oper} {o:Oper} {a:Act} {Q:Exit→Act→World→Prop} {T bytes:Nat} {z:Value} (ht:pW P T E r.sz bytes z) (hgd:o.guard=none) (s x:Operand)
  (ho:o.op=.call { callee:=.builtin .append,args:=#[s,x],argTypes:=#[T,T] }) (hs:a.eval s=v) (h:jH r B F E w v l) {ad:Addr} {c:Nat} (hx:a.eval x=.slice (some ad) 1 c)
  {y:α} {news:List Value} (hnews:∀ j u,news[j]?=some u→w.cell? (ad.add j)=some u) (hrd:r.rd (F≤·) w news y) (hown:∀ k,v.ownBlock=some k→k<F)
  (h63:l.length+1≤maxLen) (hby:(l.length+1) * bytes≤140737488355328) (hB:B≤F) (hF:F≤w.heap.size)
  (hk:∀ v' w',jH r B w'.heap.size E w' v' (l++[y])→w.grownBy w' v.ownBlock→(v'.ownBlock=v.ownBlock∨v'.ownBlock=some w.heap.size)→wpList P ops Q rest (a.put o.dst v') w'):wpList P ops Q (o :: rest) a w:=by
 refine wpList_plain hgd fun K hK=>?_
 obtain ⟨i,hi,hz0,hz1,hz2⟩:=info_parts ht.i
 obtain ⟨tag,xs,h1,h2⟩:=h
 obtain ⟨v',w',hr,h3,h4,_,h6⟩:=run_append_own_at (P:=P) w B T o.type E i z r.sz bytes ht.u hi hz0 hz1 hz2 ht.zs ht.pos v l.length xs h1 ad 1 c news (by rw [r.len hrd];simp) hnews (r.one hrd) h63 hby (by omega)
 unfold Oper.wp execOp
 simp only [ho,resolve,invoke,builtin,Sem.run_bind,Sem.run_pure,Result.andThen_ok,List.map_toArray,List.map_cons,List.map_nil,hs,hx,hr]
 refine hK _ _ (hk v' w' ?_ h4 h6)
 refine ⟨fun b=>if F≤b then l.length else tag b,xs++news,by rw [List.length_append];exact h3,?_⟩
 have hne:∀ b,b<w.heap.size→Option.some b≠v.ownBlock→Option.some b≠v'.ownBlock:=fun b hb hn=>by
  rcases h6 with h6|h6
  ·rw [h6];exact hn
  ·rw [h6];intro e;have:=Option.some.inj e;omega
 refine dK.snoc ?_ ?_
 ·have e1:dK r (fun b=>if F≤b then l.length else tag b) (fun b=>B≤b∧b<F∧Option.some b≠v.ownBlock) w 0 xs l:=h2.retag fun b hb=>by
   show (if F≤b then l.length else tag b)=tag b
   rw [if_neg (by omega)]
  refine (dK.frame (fun b hb=>h4.block b (by omega) hb.2.2) e1).mono fun b hb=>⟨hb.1,Nat.lt_of_lt_of_le hb.2.1 (Nat.le_trans hF h4.size),hne b (by omega) hb.2.2⟩
 ·have hno:∀ b,F≤b→Option.some b≠v.ownBlock:=fun b hb e=>by have:=hown b e.symm;omega
  refine r.mono (fun b hb=>⟨⟨by omega,Nat.lt_of_lt_of_le hb.2 h4.size,hne b hb.2 (hno b hb.1)⟩,?_⟩) (r.frame (fun b hb=>h4.block b hb.2 (hno b hb.1)) (r.live hrd))
  show (if F≤b then l.length else tag b)=0+l.length
  rw [if_pos hb.1,Nat.zero_add]
def adf {α:Type} (r:Rep α) (ok:Nat→Prop) (w:World) (l:List α) (err:Int):Ending→World→Prop:=fun e w' =>
 ∃ a n c,e=.returned (.tuple #[.slice a n c,.int .i64 err])∧Sl r ok w' a n c l∧Below w.heap.size w w'
theorem adf.mk {α:Type} {r:Rep α} {ok:Nat→Prop} {w w':World} {l:List α} {err err':Int} {a:Option Addr} {n c:Nat} (he:err'=err) (h:Sl r ok w' a n c l) (hB:Below w.heap.size w w') :
  adf r ok w l err (.returned (.tuple #[.slice a n c,.int .i64 err'])) w':=⟨a,n,c,by rw [he],h,hB⟩
theorem Sl.nil0 {α:Type} (r:Rep α) (ok:Nat→Prop) (w:World):Sl r ok w none 0 0 []:=⟨rfl,Nat.le_refl _,Nat.zero_le _,fun _=>rfl,.inl rfl⟩
def Flat {α:Type} (r:Rep α):Prop:=∀ {ok ok':Nat→Prop} {w w':World} {cs:List Value} {x:α},r.rd ok w cs x→r.rd ok' w' cs x
theorem Flat.int:Flat uZ:=fun h=>h
theorem Flat.sec:Flat sZ:=fun h=>h
theorem Flat.u8:Flat u8R:=fun h=>h
theorem Flat.u64:Flat anp:=fun h=>h
theorem Flat.bool:Flat aj7:=fun h=>h
theorem Chunks.flat {α:Type} {r:Rep α} (hf:Flat r) {ok ok':Nat→Prop} {w w':World}:∀ {l:List α} {xs:List Value},Chunks r ok w xs l→Chunks r ok' w' xs l
 |[],_,h=>h
 |_ :: _,_,⟨c,rest,e,h1,h2⟩=>⟨c,rest,e,hf h1,h2.flat hf⟩
theorem Src.flat {α:Type} {r:Rep α} (hf:Flat r) {ok ok':Nat→Prop} {w:World} {ao:Option Addr} {m c:Nat} {ys:List α} (h:Src r ok w ao m c ys):Src r ok' w ao m c ys :=
 let ⟨h1,h2,news,h3,h4⟩:=h;⟨h1,h2,news,h3,h4.flat hf⟩
theorem Own.ajo {α:Type} (r:Rep α) {B:Nat} {E:TypeId} {ok:Nat→Prop} {w:World} (hB:B≤w.heap.size):Own r B E ok (w.alloc (.cells #[] E)) (.slice (some ⟨w.heap.size,0,none⟩) 0 0) [] :=
 ⟨[],World.ownsRow_lit w #[] 0 hB (Nat.zero_le _) (by simp),rfl⟩
theorem jH.at (h:jH r B F E w v l) {k:Nat} {x:α} (hx:l[k]?=some x) :
  ∃ g cap c,∃ okk:Nat→Prop,v=.slice (some ⟨g,0,none⟩) l.length cap∧B≤g∧g<w.heap.size∧(∀ j,j<r.sz→w.cell? ⟨g,k * r.sz+j,none⟩=c[j]?)∧r.rd okk w c x∧(∀ b,okk b→B≤b∧b<F∧b≠g) ∧
   ∀ (w':World) (x':α),(∀ b,b<w.heap.size→¬ okk b→w'.heap[b]?=w.heap[b]?)→w'.os=w.os→w'.tape=w.tape→w'.output=w.output→w.heap.size≤w'.heap.size→r.rd okk w' c x'→jH r B F E w' v (l.set k x'):=by
 obtain ⟨tag,xs,h1,h2⟩:=h
 have hk:=(List.getElem?_eq_some_iff.1 hx).1
 obtain ⟨g,cap,rfl,hBg,hg⟩:∃ g cap,v=.slice (some ⟨g,0,none⟩) l.length cap∧B≤g∧g<w.heap.size:=by
  rcases h1.2 with ⟨_,h0⟩|⟨g,cap,cur,hv,hb,hg,_⟩
  ·omega
  ·exact ⟨g,cap,hv,hb,(Array.getElem?_eq_some_iff.1 hg).1⟩
 obtain ⟨c,h3,h4,h5⟩:=h2.live.pick hx
 refine ⟨g,cap,c,_,rfl,hBg,hg,fun j hj=>?_,h4,fun b hb=>⟨hb.1.1.1,hb.1.1.2.1,fun e=>hb.1.1.2.2 (by rw [e];rfl)⟩,fun w' x' hf hos htp hout hsz hr=>?_⟩
 ·rw [← h3 j hj,h1.cellAt]
  calc k * r.sz+j<k * r.sz+r.sz:=by omega
   _=(k+1) * r.sz:=by rw [Nat.add_mul];omega
   _≤l.length * r.sz:=Nat.mul_le_mul_right _ (by omega)
 ·have h6:=h5 w' x' (fun b hb hne=>hf b hb.2 fun e=>hne (by simpa using e.2)) hr
  refine ⟨tag,xs,?_,h6.mono fun b hb=>hb.1⟩
  rw [List.length_set]
  have hgk:w'.heap[g]?=w.heap[g]?:=hf g hg fun e=>e.1.1.2.2 rfl
  obtain ⟨hl,⟨hv,h0⟩|⟨g',cap',cur,hv,r1,r2,r3⟩⟩:=h1
  ·cases hv
  ·cases hv
   exact ⟨hl,.inr ⟨g,cap,cur,rfl,r1,by rw [hgk];exact r2,r3⟩⟩
end
def iE {α:Type} (r:Rep α) (E:TypeId):Rep (List α) where
 sz:=1
 rd ok w cs l:=∃ v,cs=[v]∧(∀ b,v.ownBlock=some b→ok b)∧Own r 0 E (fun _=>False) w v l∧(l=[]→v=.slice none 0 0∨∃ g c,v=.slice (some ⟨g,0,none⟩) 0 c)
 len h:=by obtain ⟨v,rfl,_⟩:=h;rfl
 mono hk h:=let ⟨v,e,h1,h2⟩:=h;⟨v,e,fun b hb=>hk b (h1 b hb),h2⟩
 live h:=let ⟨v,e,h1,h2,h3⟩:=h;⟨v,e,fun b hb=>⟨h1 b hb,(h2.lt b hb).2⟩,h2,h3⟩
 frame hf h:=by
  obtain ⟨v,e,h1,⟨xs,h2,h3⟩,h4⟩:=h
  refine ⟨v,e,h1,⟨xs,⟨h2.1,?_⟩,(Chunks.frame (fun b hb=>hb.1.elim) h3)⟩,h4⟩
  rcases h2.2 with h0|⟨g,cap,cur,hv,hb,hg,rest⟩
  ·exact .inl h0
  ·refine .inr ⟨g,cap,cur,hv,hb,?_,rest⟩
   rw [hf g (h1 g (by rw [hv];rfl))];exact hg
 one h:=by
  obtain ⟨v,rfl,_,⟨xs,h2,_⟩,_⟩:=h
  intro u hu
  cases List.mem_singleton.1 hu
  rcases h2.2 with ⟨rfl,_⟩|⟨g,cap,cur,rfl,_⟩<;>rfl
theorem iE.sl {α:Type} {r:Rep α} {E:TypeId} {ok:Nat→Prop} {w:World} {v:Value} {l:List α} (hf:Flat r) (h:(iE r E).rd ok w [v] l):∃ a n c,v=.slice a n c∧Sl r ok w a n c l:=by
 obtain ⟨_,e,h1,h2,_⟩:=h
 cases e
 obtain ⟨a,n,c,rfl,h3⟩:=h2.sl
 refine ⟨a,n,c,rfl,h3.len,h3.cap,h3.bnd,h3.nil,h3.cells.imp id fun ⟨b,off,e,_,hb,hc⟩=>⟨b,off,e,h1 b (by rw [e];rfl),hb,fun i x hx=>let ⟨cs,g1,g2⟩:=hc i x hx;⟨cs,g1,hf g2⟩⟩⟩
theorem iE.mk {α:Type} {r:Rep α} {B:Nat} {E:TypeId} {w:World} {v:Value} {l:List α} (h:Own r B E (fun _=>False) w v l) (hv:l=[]→v=.slice none 0 0∨∃ g c,v=.slice (some ⟨g,0,none⟩) 0 c):(iE r E).rd (B≤·) w [v] l:=by
 refine ⟨v,rfl,fun b hb=>(h.lt b hb).1,?_,hv⟩
 obtain ⟨xs,h1,h2⟩:=h
 refine ⟨xs,⟨h1.1,h1.2.imp id fun ⟨g,cap,cur,a1,a2,a3⟩=>⟨g,cap,cur,a1,Nat.zero_le _,a3⟩⟩,h2⟩
section
variable {P:Program} {ops:Array Oper} {rest:List Oper} {o:Oper} {a:Act} {Q:Exit→Act→World→Prop} {α:Type} {r:Rep α} {B:Nat} {E:TypeId} {w:World}
theorem Ai {T bytes:Nat} {z:Value} (ht:pW P T E r.sz bytes z) (hg:o.guard=none) (l c:Operand) (hop:o.op=Op.makeSlice T l c)
  {kl kc:IntKind} {n:Nat} (hl:a.eval l=.int kl 0) (hc:a.eval c=.int kc (n:Int)) (b2:bytes * n≤281474976710656) (b3:n≤maxLen) (b4:B≤w.heap.size)
  (hK:∀ w',(∀ F,jH r B F E w' (.slice (some ⟨w.heap.size,0,none⟩) 0 n) [])→Below w.heap.size w w'→wpList P ops Q rest (a.put o.dst (.slice (some ⟨w.heap.size,0,none⟩) 0 n)) w'):wpList P ops Q (o :: rest) a w:=by
 obtain ⟨i,hi,hz0,hz1,hz2⟩:=info_parts ht.i
 refine wpList_make_own w hg l c T hop B E i z r.sz ht.u hi hz0 hz1 kl kc (n:Int) n hl hc rfl (by rw [hz2];exact b2) b3 b4 fun w' h1 h2=>hK w' (fun F=>⟨fun _=>0,[],h1,rfl⟩) (grown_below h2 (Nat.le_refl _) (fun k e=>by cases e))
end
section
variable {P:Program} {α:Type} {r:Rep α} {B:Nat} {E:TypeId} {w:World} {g cap:Nat} {l:List α}
theorem MS (h:Own r B E (fun _=>False) w (.slice (some ⟨g,0,none⟩) l.length cap) l) {s:Nat} {ys:List α} {news:List Value} (hn:Chunks r (fun _=>False) w news ys) (hs:s+ys.length≤l.length) (hne:l≠[]∨ys≠[]) :
  ∃ w',(storeCells ⟨g,s * r.sz,none⟩ news).run P w=.ok () w'∧Own r B E (fun _=>False) w' (.slice (some ⟨g,0,none⟩) l.length cap) (l.take s++ys++l.drop (s+ys.length))∧w.grownBy w' (some g)∧w'.heap.size=w.heap.size:=by
 obtain ⟨xs,h1,h2⟩:=h
 obtain ⟨hx,⟨hv,_⟩|⟨g',cap',cur,hv,hb,hg,hnc,hcm,hcs,ht⟩⟩:=h1
 ·cases hv
 ·cases hv
  have hnl:=hn.length
  have hxl:=h2.length
  have hfit:s * r.sz+0+news.length≤cur.size:=by
   rw [hcs,hnl,Nat.add_zero,← Nat.add_mul]
   exact Nat.mul_le_mul_right _ (by omega)
  have hrun:=run_storeCells_at P g (s * r.sz) E news 0 cur w hg hfit hn.one
  rw [Nat.add_zero] at hrun
  refine ⟨_,hrun,?_,⟨rfl,rfl,rfl,by simp,fun k _ hk=>setRow_other w g k _ (fun e=>hk (by simp [e]))⟩,by simp⟩
  have hlen':(l.take s++ys++l.drop (s+ys.length)).length=l.length:=by simp;omega
  have hcell:∀ i,(xs.take (s * r.sz)++news++xs.drop (s * r.sz+news.length))[i]?=if i<s * r.sz then xs[i]? else if i<s * r.sz+news.length then news[i - s * r.sz]? else xs[i]?:=by
   intro i
   have hs1:s * r.sz≤xs.length:=by rw [hxl];exact Nat.mul_le_mul_right _ (by omega)
   have e1:(xs.take (s * r.sz)).length=s * r.sz:=by rw [List.length_take];omega
   by_cases hi:i<s * r.sz
   ·rw [if_pos hi,List.append_assoc,List.getElem?_append_left (by rw [e1];exact hi),List.getElem?_take,if_pos hi]
   ·rw [if_neg hi]
    by_cases hi2:i<s * r.sz+news.length
    ·rw [if_pos hi2,List.getElem?_append_left (by rw [List.length_append,e1];exact hi2),List.getElem?_append_right (by rw [e1];omega),e1]
    ·rw [if_neg hi2,List.getElem?_append_right (by rw [List.length_append,e1];omega),List.length_append,e1,List.getElem?_drop]
     congr 1;omega
  refine ⟨xs.take (s * r.sz)++news++xs.drop (s * r.sz+news.length),⟨?_,.inr ⟨g,cap,_,by rw [hlen'],hb,setRow_heap w g cur _ E _ hg,by rw [hlen'];exact hnc,hcm,?_,?_⟩⟩,?_⟩
  ·rw [hlen',List.length_append,List.length_append,List.length_take,List.length_drop,hxl,hnl]
   have:(s+ys.length) * r.sz≤l.length * r.sz:=Nat.mul_le_mul_right _ hs
   rw [Nat.add_mul] at this
   omega
  ·rw [List.size_toArray,List.length_append,List.length_append,List.length_take,List.length_drop,Array.length_toList]
   omega
  ·rw [hlen',← ht]
   have hA:s * r.sz+news.length≤l.length * r.sz:=by rw [hnl,← Nat.add_mul];exact Nat.mul_le_mul_right _ hs
   have hB2:l.length * r.sz≤cur.size:=by rw [hcs];exact Nat.mul_le_mul_right _ hnc
   apply List.ext_getElem?
   intro i
   have e1:(cur.toList.take (s * r.sz)).length=s * r.sz:=by rw [List.length_take,Array.length_toList];omega
   have e2:((cur.toList.take (l.length * r.sz)).take (s * r.sz)).length=s * r.sz:=by simp only [List.length_take,Array.length_toList];omega
   by_cases hi:i<s * r.sz
   ·rw [List.getElem?_take,if_pos (by omega),List.append_assoc,List.getElem?_append_left (by rw [e1];exact hi),List.append_assoc,List.getElem?_append_left (by rw [e2];exact hi),List.getElem?_take,if_pos hi,List.getElem?_take,if_pos hi,List.getElem?_take,if_pos (by omega)]
   ·by_cases hi2:i<s * r.sz+news.length
    ·rw [List.getElem?_take,if_pos (by omega),List.getElem?_append_left (by rw [List.length_append,e1];exact hi2),List.getElem?_append_right (by rw [e1];omega),e1,
      List.getElem?_append_left (by rw [List.length_append,e2];exact hi2),List.getElem?_append_right (by rw [e2];omega),e2]
    ·rw [List.getElem?_take,List.getElem?_append_right (by rw [List.length_append,e1];omega),List.getElem?_append_right (by rw [List.length_append,e2];omega),List.length_append,List.length_append,e1,e2,List.getElem?_drop,List.getElem?_drop,List.getElem?_take]
     have:s * r.sz+news.length+(i - (s * r.sz+news.length))=i:=by omega
     rw [this]
  ·-- the elements
   have:=Chunks.U5 (r:=r) (ok:=fun b=>False∧Option.some b≠(Value.slice (some ⟨g,0,none⟩) l.length cap).ownBlock) (w:=w.setRow g (cur.toList.take (s * r.sz)++news++cur.toList.drop (s * r.sz+news.length)).toArray) (xs:=xs.take (s * r.sz)++news++xs.drop (s * r.sz+news.length)) (l:=l.take s++ys++l.drop (s+ys.length)) 0 (by
     rw [hlen',List.length_append,List.length_append,List.length_take,List.length_drop,hxl,hnl]
     have:(s+ys.length) * r.sz≤l.length * r.sz:=Nat.mul_le_mul_right _ hs
     rw [Nat.add_mul] at this
     omega) (fun i x hx=>by
     have key:∃ c w0,(∀ j,j<r.sz→(xs.take (s * r.sz)++news++xs.drop (s * r.sz+news.length))[i * r.sz+j]?=c[j]?)∧r.rd (fun _=>False) w0 c x:=by
      have es:(l.take s).length=s:=by rw [List.length_take];omega
      by_cases hi:i<s
      ·rw [List.append_assoc,List.getElem?_append_left (by rw [es];exact hi),List.getElem?_take,if_pos hi] at hx
       obtain ⟨c,h3,h4⟩:=h2.at hx
       refine ⟨c,w,fun j hj=>?_,r.mono (fun b hb=>hb.1) h4⟩
       rw [hcell,if_pos,h3 j hj]
       calc i * r.sz+j<i * r.sz+r.sz:=by omega
        _=(i+1) * r.sz:=by rw [Nat.add_mul];omega
        _≤s * r.sz:=Nat.mul_le_mul_right _ (by omega)
      ·by_cases hi2:i<s+ys.length
       ·rw [List.getElem?_append_left (by rw [List.length_append,es];exact hi2),List.getElem?_append_right (by rw [es];omega),es] at hx
        obtain ⟨c,h3,h4⟩:=hn.at hx
        refine ⟨c,w,fun j hj=>?_,h4⟩
        have e3:s * r.sz≤i * r.sz:=Nat.mul_le_mul_right _ (by omega)
        have e4:(i+1) * r.sz≤(s+ys.length) * r.sz:=Nat.mul_le_mul_right _ (by omega)
        rw [Nat.add_mul,Nat.add_mul] at e4
        rw [hcell,if_neg (by omega),if_pos (by rw [hnl];omega),← h3 j hj]
        congr 1
        rw [Nat.sub_mul];omega
       ·rw [List.getElem?_append_right (by rw [List.length_append,es];omega),List.length_append,es,List.getElem?_drop,show s+ys.length+(i - (s+ys.length))=i by omega] at hx
        obtain ⟨c,h3,h4⟩:=h2.at hx
        refine ⟨c,w,fun j hj=>?_,r.mono (fun b hb=>hb.1) h4⟩
        have e3:(s+ys.length) * r.sz≤i * r.sz:=Nat.mul_le_mul_right _ (by omega)
        rw [Nat.add_mul] at e3
        rw [hcell,if_neg (by omega),if_neg (by rw [hnl];omega),h3 j hj]
     obtain ⟨c,w0,h3,h4⟩:=key
     exact ⟨c,fun j hj=>by rw [Nat.zero_add];exact h3 j hj,r.mono (fun b hb=>hb.elim) (r.frame (fun b hb=>hb.elim) h4)⟩)
   simpa using this
end
def uM (a:Option Addr) (c lo sz:Nat):Option Addr:=if c=lo then a else a.map (·.add (lo * sz))
theorem QJ {P:Program} {T E sz:Nat} (hT:P.underlying T=some (.slice E)) (hi:(P.info? E).map (·.size)=some sz) (a:Option Addr) (n c s:Nat) (h:s≤n) (w:World) :
  (Instr.sliceAt T (.slice a n c) (some (.int .i64 (s:Int))) none none).run P w=.ok (.slice (uM a c s sz) (n - s) (c - s)) w:=by
 have he:P.elem T=E:=by simp [Program.elem,hT]
 have hT':P.underlying T=some (.slice (P.elem T)):=by rw [he];exact hT
 have hz:(sizeOf (P.elem T)).run P w=.ok sz w:=by
  obtain ⟨i,hi,hs⟩:=Option.map_eq_some_iff.1 hi
  rw [he];simp [sizeOf,typeInfo,hi,hs]
 rw [run_sliceAt_slice w T _ _ _ _ hT',run_slice_l w T a n c hT' .i64 s (by omega) (by omega),hz,Result.andThen_ok]
 simp only [sliced,uM,Int.toNat_natCast]
theorem Sl.sub {α:Type} {r:Rep α} {ok:Nat→Prop} {w:World} {a:Option Addr} {n c:Nat} {l:List α} (h:Sl r ok w a n c l) {s k:Nat} (hk:s+k≤n):Sl r ok w (uM a c s r.sz) k (c - s) ((l.drop s).take k):=by
 have h1:=h.len
 have h2:=h.cap
 refine ⟨by simp;omega,by omega,Nat.le_trans (Nat.sub_le _ _) h.bnd,fun e=>?_,?_⟩
 ·unfold uM at e
  split at e
  ·omega
  ·have:a=none:=by simpa using e
   have:=h.nil this
   omega
 ·rcases h.cells with h0|⟨b,off,rfl,hb,hlt,hc⟩
  ·left;omega
  ·by_cases hk0:k=0
   ·exact .inl hk0
   ·refine .inr ⟨b,off+s * r.sz,?_,hb,hlt,fun i x hx=>?_⟩
    ·unfold uM
     rw [if_neg (by omega)]
     simp [Addr.add_lit]
    ·have hik:i<k:=by have:=(List.getElem?_eq_some_iff.1 hx).1;simp at this;omega
     rw [List.getElem?_take,if_pos hik,List.getElem?_drop] at hx
     obtain ⟨cs,g1,g2⟩:=hc (s+i) x hx
     refine ⟨cs,fun j hj=>?_,g2⟩
     rw [← g1 j hj,Nat.add_mul,Nat.add_assoc off]
section
variable {P:Program} {ops:Array Oper} {rest:List Oper} {o:Oper} {a:Act} {Q:Exit→Act→World→Prop} {α:Type} {r:Rep α} {B:Nat} {E:TypeId} {w:World} {g cap:Nat} {l:List α}
theorem GL {T bytes:Nat} {z:Value} (ht:pW P T E r.sz bytes z) (hfl:Flat r) (hgd:o.guard=none) (d x:Operand)
  (ho:o.op=.call { callee:=.builtin .copy,args:=#[d,x],argTypes:=#[T,T] }) {s dl dc:Nat} (hd:a.eval d=.slice (some ⟨g,s * r.sz,none⟩) dl dc) {ao:Option Addr} {m c:Nat} (hx:a.eval x=.slice ao m c)
  (h:Own r B E (fun _=>False) w (.slice (some ⟨g,0,none⟩) l.length cap) l) {ok:Nat→Prop} {ys:List α} (hs:Sl r ok w ao m c ys) (hle:s+m≤l.length) (hm:0<m) (hdl:m≤dl)
  (hk:∀ w',Own r B E (fun _=>False) w' (.slice (some ⟨g,0,none⟩) l.length cap) (l.take s++ys++l.drop (s+ys.length))→w.grownBy w' (some g)→w'.heap.size=w.heap.size→wpList P ops Q rest (a.put o.dst (.int .i64 m)) w'):wpList P ops Q (o :: rest) a w:=by
 refine wpList_plain hgd fun K hK=>?_
 obtain ⟨i,hi,_,hz1,_⟩:=info_parts ht.i
 obtain ⟨hlen,hnil,news,hnews,hch⟩:=Src.NK hs
 obtain ⟨ad,rfl⟩:∃ ad,ao=some ad:=by
  cases ao with
  |some ad=>exact ⟨ad,rfl⟩
  |none=>have:=(hnil rfl).1;omega
 have hnl:=hch.length
 obtain ⟨w',hst,h1,h2,h3⟩:=MS (P:=P) h (s:=s) (ys:=ys) (hch.flat hfl) (by omega) (.inr (by intro e;rw [e] at hlen;simp at hlen;omega))
 have hld:=run_loadCells_list (P:=P) (w:=w) ad news (hnews ad rfl)
 have hmin:Nat.min m dl=m:=Nat.min_eq_left hdl
 rw [hnl,hlen] at hld
 unfold Oper.wp execOp
 have hrun:(Builtin.copy_ #[T,T] o.type #[.slice (some ⟨g,s * r.sz,none⟩) dl dc,.slice (some ad) m c]).run P w=.ok (goInt m) w':=by
  simp [Builtin.copy_,run_underlying ht.u,Builtin.lenOf,Builtin.firstCells,sizeOf,typeInfo,hi,hz1,hmin,hld,hst]
 simp only [ho,resolve,invoke,builtin,Sem.run_bind,Sem.run_pure,Result.andThen_ok,List.map_toArray,List.map_cons,List.map_nil,hd,hx,hrun]
 exact hK _ _ (hk w' h1 h2 h3)
end
section
variable {ok:Nat→Prop} {w:World} {n c:Nat}
theorem Sl.wr {b off:Nat} {l:List (Int × Int × List fP)} (h:Sl (NH uZ (NH uZ (U3 sZ))) ok w (some ⟨b,off,none⟩) n c l) {k:Nat} {v s:Int} {d:List fP} (hx:l[k]?=some (v,s,d)) :
  ∃ a' n' c',w.cell? ⟨b,off+k * 3,none⟩=some (.int .i64 v)∧w.cell? ⟨b,off+k * 3+1,none⟩=some (.int .i64 s)∧w.cell? ⟨b,off+k * 3+2,none⟩=some (.slice a' n' c')∧nZ v∧nZ s∧Sl sZ ok w a' n' c' d:=by
 obtain ⟨cs,h1,c1,c2,rfl,⟨rfl,hv⟩,c3,c4,rfl,⟨rfl,hs⟩,a',n',c',rfl,hd⟩:=h.at hx
 refine ⟨a',n',c',?_,?_,?_,hv,hs,hd⟩
 ·exact h1 0 (by show 0<3;omega)
 ·exact h1 1 (by show 1<3;omega)
 ·exact h1 2 (by show 2<3;omega)
theorem Sl.ext {b off:Nat} {l:List (Int × Int)} (h:Sl (NH uZ uZ) ok w (some ⟨b,off,none⟩) n c l) {k:Nat} {s m:Int} (hx:l[k]?=some (s,m)) :
  w.cell? ⟨b,off+k * 2,none⟩=some (.int .i64 s)∧w.cell? ⟨b,off+k * 2+1,none⟩=some (.int .i64 m)∧nZ s∧nZ m:=by
 obtain ⟨cs,h1,c1,c2,rfl,⟨rfl,hv⟩,⟨rfl,hs⟩⟩:=h.at hx
 exact ⟨h1 0 (by show 0<2;omega),h1 1 (by show 1<2;omega),hv,hs⟩
end
end Go.Proofs.YtioijcfcehhmdaaGreatDoor

namespace Go.Proofs.YtioijcfcehhmdaaGreatDoor
open Go.RowKit
abbrev mY:Rep (List fP):=U3 sZ
abbrev Wr:=Int × Int × List fP
abbrev wrR:Rep Wr:=NH uZ (NH uZ mY)
def agv:fP:=Vector.replicate 8 0
theorem Tryz.mixed:Tryz.prog.follows .mixedOrders=true:=by kernel_rfl
theorem Tryz.ahe:pW Tryz.prog 33 3 1 8 (.int .i64 0):=⟨Tryz.underlying33,by kernel_rfl,rfl,by decide⟩
theorem Tryz.adg:pW Tryz.prog 66 68 8 8 (.agg #[.int .u8 0,.int .u8 0,.int .u8 0,.int .u8 0,.int .u8 0,.int .u8 0,.int .u8 0,.int .u8 0]):=⟨Tryz.underlying66,by kernel_rfl,rfl,by decide⟩
theorem Tryz.alF:pW Tryz.prog 27 66 1 24 (.slice none 0 0):=⟨Tryz.underlying27,by kernel_rfl,rfl,by decide⟩
theorem Tryz.adh:pW Tryz.prog 26 66 1 24 (.slice none 0 0):=⟨Tryz.underlying26,by kernel_rfl,rfl,by decide⟩
theorem pJ {k:IntKind} {a b:Int} (h:a=b):Ending.returned (.int k a)=.returned (.int k b):=by rw [h]
theorem wG {a b:Bool} (h:a=b):Ending.returned (.bool a)=.returned (.bool b):=by rw [h]
theorem YL {n:Nat} (h:n≤maxLen):nZ (n:Int):=by unfold nZ maxLen at *;omega
theorem Sl.i64 {α:Type} {r:Rep α} {ok:Nat→Prop} {w:World} {a:Option Addr} {n c:Nat} {l:List α} (h:Sl r ok w a n c l):nZ (n:Int):=YL (Nat.le_trans h.cap h.bnd)
theorem Sl.small {α:Type} {r:Rep α} {ok:Nat→Prop} {w:World} {a:Option Addr} {n c:Nat} {l:List α} (h:Sl r ok w a n c l):n≤9223372036854775807:=by
 have:=Nat.le_trans h.cap h.bnd;unfold maxLen at this;omega
theorem Iq {α:Type} {p:α→Bool} {l:List α} {k:Nat} {x:α} (h:l[k]?=some x):(l.take (k+1)).any p=((l.take k).any p || p x):=by
 rw [List.take_add_one,h];simp
theorem any_true {α:Type} {p:α→Bool} {l:List α} {k:Nat} {x:α} (h:l[k]?=some x) (hp:p x=true):l.any p=true:=by
 rw [List.any_eq_true];exact ⟨x,List.mem_of_getElem? h,hp⟩
theorem kT {α:Type} {l:List α} {k:Nat} {x:α} (h:l[k]?=some x):l.take (k+1)=l.take k++[x]:=by
 rw [List.take_add_one,h];rfl
theorem wH {α:Type} {l:List α} {n:Nat} (h:l.length=n):l.take n=l:=List.take_of_length_le (by omega)
end Go.Proofs.YtioijcfcehhmdaaGreatDoor

namespace Go.Proofs.YtioijcfcehhmdaaGreatDoor
open Go.RowKit
def mZ (n:Int):Bool:=decide (n<1) || decide (4096<n)
def iy (l:List Int):Int:=if l.length<1∨8<l.length then 6 else if l.any mZ then 2 else 0
def lens (im:List (List fP)):List Int:=im.map fun v=>(v.length:Int)
def qC (im:List (List fP)):Int:=iy (lens im)
end Go.Proofs.YtioijcfcehhmdaaGreatDoor

namespace Go.Proofs.YtioijcfcehhmdaaGreatDoor
open Go.RowKit
def kN (sizes:List Int) (JL start:Int) (len:Nat):Int :=
 if JL<0∨(sizes.length:Int)≤JL then 7 else if len=0 then 1
 else if start<0∨sizes.getD JL.toNat 0≤start∨sizes.getD JL.toNat 0 - start<len then 2 else 0
theorem D9 {α:Type} {l:List α} {k:Nat} {x d:α} (h:l[k]?=some x):l.getD k d=x:=by simp [List.getD,h]
end Go.Proofs.YtioijcfcehhmdaaGreatDoor

namespace Go.Proofs.YtioijcfcehhmdaaGreatDoor
open Go.RowKit
def mP (im:List (List fP)) (JL start:Int) (len:Nat):Int:=if qC im≠0 then qC im else kN (lens im) JL start len
end Go.Proofs.YtioijcfcehhmdaaGreatDoor

namespace Go.Proofs.YtioijcfcehhmdaaGreatDoor
open Go.RowKit
end Go.Proofs.YtioijcfcehhmdaaGreatDoor

namespace Go.Proofs.YtioijcfcehhmdaaGreatDoor
open Go.RowKit
theorem VO {x:Int} {w:World} (_hx:nZ x):Calls Tryz.prog 148 #[.int .i64 x] w fun e w'=>e=.returned (.bool (mZ x))∧Below w.heap.size w w':=by
 by_cases h1:x<1
 ·go_enter Tryz.func148,Tryz.ntmps148
  go_wp2
  go_ret
  exact ⟨wG (by simp [mZ,h1]),Below.refl _ _⟩
 ·by_cases h2:4096<x
  ·go_enter Tryz.func148,Tryz.ntmps148
   go_wp2
   go_ret
   exact ⟨wG (by simp [mZ,h2]),Below.refl _ _⟩
  ·go_enter Tryz.func148,Tryz.ntmps148
   go_wp2
   go_ret
   exact ⟨wG (by simp [mZ];omega),Below.refl _ _⟩
set_option maxHeartbeats 1000000 in
theorem BN {a:Option Addr} {n c:Nat} {l:List Int} {ok:Nat→Prop} {w:World} (h:Sl uZ ok w a n c l) :
  Calls Tryz.prog 151 #[.slice a n c,.func (.func 148) #[] #[]] w fun e w'=>∃ z:Int,e=.returned (.int .i64 z)∧(0≤z ↔ l.any mZ=true)∧nZ z∧Below w.heap.size w w':=by
 have hs:=h.small
 go_enter Tryz.func151,Tryz.ntmps151
 go_wp2
 go_loopw [5,8] (fun _ i wr=>∃ k:Nat,k≤n∧i=.int .i64 k∧Hid ((l.take k).any mZ=false)∧Below w.heap.size w wr) (fun _ i _=>n - (intOf i).toNat)
 case atStart=>exact ⟨0,Nat.zero_le _,rfl,rfl,Below.refl _ _⟩
 case round =>
  obtain ⟨k,hk,rfl,HT,hB⟩:=hrel
  by_cases hlt:k<n
  ·obtain ⟨b,off,rfl,_,_⟩:=h.addr hlt
   obtain ⟨x,hx⟩:=h.get hlt
   obtain ⟨hcell,hi⟩:=(h.below hB).int hx
   have HX:=Lib.hid hx
   clear hx
   cases hp:mZ x with
   |true =>
    have HP:=Lib.hid hp
    have hcall:=VO (w:=wr) hi
    rw [hp] at hcall
    clear hp
    go_wp2_with (fail)
    refine hcall.mono ?_
    rintro e w1 ⟨rfl,hB1⟩
    go_wp2
    go_ret
    exact ⟨k,rfl,by rw [any_true HX.out HP.out];simp,by unfold nZ;omega,hB.trans (hB1.mono hB.size)⟩
   |false =>
    have HP:=Lib.hid hp
    have hcall:=VO (w:=wr) hi
    rw [hp] at hcall
    clear hp
    go_wp2_with (fail)
    refine hcall.mono ?_
    rintro e w1 ⟨rfl,hB1⟩
    go_wp2
    go_roundw
    case rel=>exact ⟨k+1,by omega,by go_num,by show _=false;rw [Iq HX.out,HT.out,HP.out];rfl,hB.trans (hB1.mono hB.size)⟩
    case measure=>simp [intOf];omega
  ·go_wp2
   go_ret
   obtain rfl:k=n:=by omega
   have e:=HT.out
   rw [wH h.len] at e
   exact ⟨-1,rfl,by rw [e];simp,by unfold nZ;omega,hB⟩
theorem MV {a:Option Addr} {n c:Nat} {l:List Int} {ok:Nat→Prop} {w:World} (h:Sl uZ ok w a n c l) :
  Calls Tryz.prog 129 #[.slice a n c,.func (.func 148) #[] #[]] w fun e w'=>e=.returned (.bool (l.any mZ))∧Below w.heap.size w w':=by
 go_enter Tryz.func129,Tryz.ntmps129
 go_wp2_with fail
 refine (BN h).mono ?_
 rintro e w1 ⟨z,rfl,hz,hi,hB⟩
 unfold nZ at hi
 cases hp:l.any mZ with
 |true =>
  have hz0:0≤z:=hz.2 hp
  have HP:=Lib.hid hp
  clear hz hp
  go_wp2
  go_ret
  exact ⟨wG HP.out.symm,hB⟩
 |false =>
  have hz0:z<0:=by rw [hp] at hz;simp at hz;omega
  have HP:=Lib.hid hp
  clear hz hp
  go_wp2
  go_ret
  exact ⟨wG (by rw [HP.out];simp;omega),hB⟩
theorem GN {a:Option Addr} {n c:Nat} {l:List Int} {ok:Nat→Prop} {w:World} (h:Sl uZ ok w a n c l) :
  Calls Tryz.prog 124 #[.slice a n c] w fun e w'=>e=.returned (.int .i64 (iy l))∧Below w.heap.size w w':=by
 have hs:=h.small
 by_cases hn1:n<1
 ·obtain rfl:n=0:=by omega
  go_enter Tryz.func124,Tryz.ntmps124
  go_wp2
  go_ret
  exact ⟨by simp [iy,h.len],Below.refl _ _⟩
 by_cases hn8:8<n
 ·go_enter Tryz.func124,Tryz.ntmps124
  go_wp2
  go_ret
  exact ⟨pJ (by rw [iy,if_pos (by rw [h.len];exact .inr hn8)]),Below.refl _ _⟩
 go_enter Tryz.func124,Tryz.ntmps124
 go_wp2_with fail
 refine (MV h).mono ?_
 rintro e w1 ⟨rfl,hB⟩
 cases hp:l.any mZ with
 |true =>
  have HP:=Lib.hid hp;clear hp
  go_wp2
  go_ret
  exact ⟨pJ (by rw [iy,if_neg (by rw [h.len];omega),if_pos HP.out]),hB⟩
 |false =>
  have HP:=Lib.hid hp;clear hp
  go_wp2
  go_ret
  exact ⟨pJ (by rw [iy,if_neg (by rw [h.len];omega),HP.out];rfl),hB⟩
end Go.Proofs.YtioijcfcehhmdaaGreatDoor

namespace Go.Proofs.YtioijcfcehhmdaaGreatDoor
open Go.RowKit
theorem adi {a:Option Addr} {n c:Nat} {l:List fP} {ok:Nat→Prop} {w:World} (h:Sl sZ ok w a n c l) :
  Calls Tryz.prog 139 #[.slice a n c] w fun e w'=>∃ z:Int,e=.returned (.int .i64 z)∧uZ.rd (w.heap.size≤·) w' [.int .i64 z] (l.length:Int)∧Below w.heap.size w w':=by
 have hs:=h.small
 go_enter Tryz.func139,Tryz.ntmps139
 go_wp2
 go_ret
 exact ⟨_,rfl,⟨by rw [h.len],by rw [h.len];exact h.i64⟩,Below.refl _ _⟩
set_option maxHeartbeats 1000000 in
theorem UK {a:Option Addr} {n c:Nat} {l:List (List fP)} {ok:Nat→Prop} {w:World} (h:Sl mY ok w a n c l) (hn:n≤1000000) :
  Calls Tryz.prog 138 #[.slice a n c,.func (.func 139) #[] #[]] w fun e w'=>∃ v,e=.returned v∧jH uZ w.heap.size w'.heap.size 3 w' v (l.map (fun v:List fP=>(v.length:Int)))∧Below w.heap.size w w':=by
 go_enter Tryz.func138,Tryz.ntmps138
 go_wp2_with (at_make;refine Ai (r:=uZ) (B:=w.heap.size) Tryz.ahe rfl _ _ rfl rfl rfl ?b2 ?b3 ?b4 ?_)
 case b2=>omega
 case b3=>unfold maxLen;omega
 case b4=>exact Nat.le_refl _
 intro w0 hown0 hB0
 have hs:=h.small
 go_wp2
 go_loopw [5,13] (fun v i wr=>∃ k:Nat,k≤n∧i=.int .i64 k∧jH uZ w.heap.size wr.heap.size 3 wr v ((l.map (fun v:List fP=>(v.length:Int))).take k)∧Below w.heap.size w wr) (fun _ i _=>n - (intOf i).toNat)
 case atStart=>exact ⟨0,Nat.zero_le _,rfl,hown0 _,hB0⟩
 case round =>
  obtain ⟨k,hk,rfl,hown,hB⟩:=hrel
  by_cases hlt:k<n
  ·obtain ⟨b,off,rfl,_,_⟩:=h.addr hlt
   obtain ⟨x,hx⟩:=h.get hlt
   obtain ⟨a',n',c',hcell,hx'⟩:=(h.below hB).slice hx
   have hlen:((l.map (fun v:List fP=>(v.length:Int))).take k).length=k:=by have:=h.len;simp;omega
   have HL:=Lib.hid hlen;clear hlen
   have HX:=Lib.hid hx;clear hx
   go_wp2_with (fail)
   refine (adi hx').mono ?_
   rintro e w1 ⟨z,rfl,hrd,hB1⟩
   have Dc:=hown.lt
   have hz1:=hB1.size
   have hz:=hB.size
   go_wp2_with (at_builtin;refine wF Tryz.ahe rfl _ _ rfl rfl ((hown.below hB1).below ((Below.refl _ _).alloc (Nat.le_refl _) _)) rfl (GI w1 3 #[.int .i64 z]) (GK hrd) (fun k hk=>(Dc k hk).2) ?c1 ?c2 ?c3 ?c4 ?_)
   case c1=>rw [HL.out];unfold maxLen;omega
   case c2=>rw [HL.out];omega
   case c3=>omega
   case c4=>simp;omega
   intro v' w2 hown1 hgrow _
   go_wp2
   go_roundw
   case rel=>exact ⟨k+1,by omega,by go_num,by
    have e:(l.map (fun v:List fP=>(v.length:Int))).take (k+1)=(l.map (fun v:List fP=>(v.length:Int))).take k++[(fun v:List fP=>(v.length:Int)) x]:=kT (by rw [List.getElem?_map,HX.out];rfl)
    rw [e];exact hown1,((hB.trans (hB1.mono hB.size)).alloc (by omega) _).grown hgrow (by simp;omega) (fun k hk=>(Dc k hk).1)⟩
   case measure=>simp [intOf];omega
  ·go_wp2
   go_ret
   obtain rfl:k=n:=by omega
   rw [wH (by rw [List.length_map];exact h.len)] at hown
   exact ⟨_,rfl,hown,hB⟩
theorem UL {a:Option Addr} {n c:Nat} {im:List (List fP)} {ok:Nat→Prop} {w:World} (h:Sl mY ok w a n c im) (hn:n≤1000000) :
  Calls Tryz.prog 116 #[.slice a n c] w fun e w'=>∃ a' n' c',e=.returned (.slice a' n' c')∧Sl uZ (w.heap.size≤·) w' a' n' c' (lens im)∧Below w.heap.size w w':=by
 go_enter Tryz.func116,Tryz.ntmps116
 go_wp2_with fail
 refine (UK h hn).mono ?_
 rintro e w1 ⟨v,rfl,hown,hB⟩
 obtain ⟨a',n',c',rfl,h1⟩:=hown.sl
 go_wp2
 go_ret
 exact ⟨_,_,_,rfl,h1,hB⟩
theorem GR {a:Option Addr} {n c:Nat} {im:List (List fP)} {ok:Nat→Prop} {w:World} (h:Sl mY ok w a n c im) (hn:n≤1000000) :
  Calls Tryz.prog 85 #[.slice a n c] w fun e w'=>e=.returned (.int .i64 (qC im))∧Below w.heap.size w w':=by
 go_enter Tryz.func85,Tryz.ntmps85
 go_wp2_with fail
 refine (UL h hn).mono ?_
 rintro e w1 ⟨a',n',c',rfl,h1,hB⟩
 go_wp2_with fail
 refine (GN h1).mono ?_
 rintro e w2 ⟨rfl,hB2⟩
 go_wp2
 go_ret
 exact ⟨rfl,hB.trans (hB2.mono hB.size)⟩
end Go.Proofs.YtioijcfcehhmdaaGreatDoor

namespace Go.Proofs.YtioijcfcehhmdaaGreatDoor
open Go.RowKit
def VP {α:Type} (e:Int) (l:List α):List α:=if e=0 then l else []
theorem adk {α:Type} {e:Int} {l:List α} (h:e=0):VP e l=l:=if_pos h
theorem YM {α:Type} {e:Int} {l:List α} (h:¬ e=0):VP e l=[]:=if_neg h
def zeros (n:Int):List fP:=List.replicate n.toNat agv
def nP (l:List Int):List (List fP):=l.map zeros
set_option maxHeartbeats 1000000 in
theorem YN {a:Option Addr} {n c:Nat} {l:List fP} {ok:Nat→Prop} {w:World} (h:Sl sZ ok w a n c l) (hn:n≤1000000) :
  Calls Tryz.prog 95 #[.slice a n c] w fun e w'=>∃ a' n' c',e=.returned (.slice a' n' c')∧(iE sZ 68).rd (w.heap.size≤·) w' [.slice a' n' c'] l∧Below w.heap.size w w':=by
 have heq:=fun (a:Option Addr) (n c:Nat) (w:World)=>Lib.run_eql_slice_nil (P:=Tryz.prog) w 66 68 a n c 0 0 Tryz.underlying66
 cases a with
 |none =>
  have h0:l=[]:=List.eq_nil_of_length_eq_zero (by rw [h.len];have:=h.nil rfl;have:=h.cap;omega)
  have H0:=Lib.hid h0;clear h0
  go_enter Tryz.func95,Tryz.ntmps95
  go_wp2
  go_ret
  refine ⟨_,_,_,rfl,?_,Below.refl _ _⟩
  rw [H0.out]
  exact iE.mk (Own.nil _ _ _ _ _) (fun _=>.inl rfl)
 |some ad =>
  have hs:=h.small
  go_enter Tryz.func95,Tryz.ntmps95
  go_wp2_with (at_builtin;refine tu Tryz.adg rfl _ _ rfl rfl (Own.ajo sZ (ok:=fun _=>False) (Nat.le_refl _)) rfl ((Src.NK (h.below ((Below.refl _ _).alloc (Nat.le_refl _) _))).flat Flat.sec) ?c1 ?c2 ?c3 ?_)
  case c1=>simp;unfold maxLen;omega
  case c2=>simp;omega
  case c3=>simp
  intro v' w1 hown hgrow hat
  obtain ⟨a',n',c',rfl,_⟩:=hown.sl
  go_wp2
  go_ret
  refine ⟨_,_,_,rfl,iE.mk (by simpa using hown) (fun e=>?_),((Below.refl _ _).alloc (Nat.le_refl _) _).grown hgrow (by simp) (fun k hk=>by cases hk;exact Nat.le_refl _)⟩
  subst e
  obtain ⟨xs,h1,_⟩:=hown
  rcases h1.2 with ⟨hv,_⟩|⟨g,cap,cur,hv,_⟩
  ·exact .inl hv
  ·exact .inr ⟨g,cap,by simpa using hv⟩
end Go.Proofs.YtioijcfcehhmdaaGreatDoor

namespace Go.Proofs.YtioijcfcehhmdaaGreatDoor
open Go.RowKit
def qE (v:List fP):List fP:=v
theorem adl (l:List (List fP)):l.map qE=l:=List.map_id l
abbrev jR:Rep (List fP):=iE sZ 68
set_option maxHeartbeats 1000000 in
theorem MW {a:Option Addr} {n c:Nat} {l:List (List fP)} {ok:Nat→Prop} {w:World} (h:Sl mY ok w a n c l) (hn:n≤1000000)(hv:∀ v∈l,v.length≤1000000) :
  Calls Tryz.prog 125 #[.slice a n c,.func (.func 95) #[] #[]] w fun e w'=>∃ v,e=.returned v∧jH jR w.heap.size w'.heap.size 66 w' v (l.map qE)∧Below w.heap.size w w':=by
 go_enter Tryz.func125,Tryz.ntmps125
 go_wp2_with (at_make;refine Ai (r:=jR) (B:=w.heap.size) Tryz.adh rfl _ _ rfl rfl rfl ?b2 ?b3 ?b4 ?_)
 case b2=>omega
 case b3=>unfold maxLen;omega
 case b4=>exact Nat.le_refl _
 intro w0 hown0 hB0
 have hs:=h.small
 go_wp2
 go_loopw [5,13] (fun v i wr=>∃ k:Nat,k≤n∧i=.int .i64 k∧jH jR w.heap.size wr.heap.size 66 wr v ((l.map qE).take k)∧Below w.heap.size w wr) (fun _ i _=>n - (intOf i).toNat)
 case atStart=>exact ⟨0,Nat.zero_le _,rfl,hown0 _,hB0⟩
 case round =>
  obtain ⟨k,hk,rfl,hown,hB⟩:=hrel
  by_cases hlt:k<n
  ·obtain ⟨b,off,rfl,_,_⟩:=h.addr hlt
   obtain ⟨x,hx⟩:=h.get hlt
   obtain ⟨a',n',c',hcell,hx'⟩:=(h.below hB).slice hx;have hv':=hv x (List.mem_of_getElem? hx)
   have hlen:((l.map qE).take k).length=k:=by have:=h.len;simp;omega
   have HL:=Lib.hid hlen;clear hlen
   have HX:=Lib.hid hx;clear hx
   go_wp2_with (fail)
   refine (YN hx' (by rw [← hx'.len];exact hv')).mono ?_
   rintro e w1 ⟨a2,n2,c2,rfl,hrd,hB1⟩
   have Dc:=hown.lt
   have hz1:=hB1.size
   have hz:=hB.size
   go_wp2_with (at_builtin;refine wF Tryz.adh rfl _ _ rfl rfl ((hown.below hB1).below ((Below.refl _ _).alloc (Nat.le_refl _) _)) rfl (GI w1 66 #[.slice a2 n2 c2]) (GK hrd) (fun k hk=>(Dc k hk).2) ?c1 ?c2 ?c3 ?c4 ?_)
   case c1=>rw [HL.out];unfold maxLen;omega
   case c2=>rw [HL.out];omega
   case c3=>omega
   case c4=>simp;omega
   intro v' w2 hown1 hgrow _
   go_wp2
   go_roundw
   case rel=>exact ⟨k+1,by omega,by go_num,by
    have e:(l.map qE).take (k+1)=(l.map qE).take k++[qE x]:=kT (by rw [List.getElem?_map,HX.out];rfl)
    rw [e];exact hown1,((hB.trans (hB1.mono hB.size)).alloc (by omega) _).grown hgrow (by simp;omega) (fun k hk=>(Dc k hk).1)⟩
   case measure=>simp [intOf];omega
  ·go_wp2
   go_ret
   obtain rfl:k=n:=by omega
   rw [wH (by rw [List.length_map];exact h.len)] at hown
   exact ⟨_,rfl,hown,hB⟩
theorem UM {a:Option Addr} {n c:Nat} {im:List (List fP)} {ok:Nat→Prop} {w:World} (h:Sl mY ok w a n c im) (hn:n≤1000000) (hv:∀ v∈im,v.length≤1000000) :
  Calls Tryz.prog 88 #[.slice a n c] w fun e w'=>∃ v,e=.returned v∧jH jR w.heap.size w'.heap.size 66 w' v im∧Below w.heap.size w w':=by
 go_enter Tryz.func88,Tryz.ntmps88
 go_wp2_with fail
 refine (MW h hn hv).mono ?_
 rintro e w1 ⟨v,rfl,hown,hB⟩
 go_wp2
 go_ret
 exact ⟨_,rfl,by rw [adl] at hown;exact hown,hB⟩
theorem Sl.imp {α:Type} {r s:Rep α} {ok:Nat→Prop} {w:World} {a:Option Addr} {n c:Nat} {l:List α} (hz:s.sz=r.sz) (hi:∀ cs x,r.rd ok w cs x→s.rd ok w cs x) (h:Sl r ok w a n c l):Sl s ok w a n c l :=
 ⟨h.len,h.cap,h.bnd,h.nil,h.cells.imp id fun ⟨b,off,e,hb,hl,hc⟩=>⟨b,off,e,hb,hl,fun i x hx=>let ⟨cs,g1,g2⟩:=hc i x hx;⟨cs,by rw [hz];exact g1,hi cs x g2⟩⟩⟩
theorem MX {ok:Nat→Prop} {w:World} {cs:List Value} {x:List fP} (h:jR.rd ok w cs x):mY.rd ok w cs x:=by
 obtain ⟨v,rfl,h1⟩:=h
 obtain ⟨a,n,c,rfl,h2⟩:=iE.sl Flat.sec (v:=v) ⟨v,rfl,h1⟩
 exact ⟨a,n,c,rfl,h2⟩
theorem jH.img {B F:Nat} {E:TypeId} {w:World} {v:Value} {im:List (List fP)} (h:jH jR B F E w v im):∃ a n c,v=.slice a n c∧Sl mY (B≤·) w a n c im :=
 let ⟨a,n,c,e,h⟩:=h.sl;⟨a,n,c,e,Sl.imp (r:=jR) (s:=mY) rfl (fun _ _ g=>MX g) h⟩
set_option maxHeartbeats 2000000 in
theorem JM {a:Option Addr} {n c:Nat} {im:List (List fP)} {ok:Nat→Prop} {w:World} (h:Sl mY ok w a n c im) {JL start:Int} (hv:nZ JL) (hst:nZ start)
  {da:Option Addr} {dn dc:Nat} (hd:dn≤9223372036854775807) :
  Calls Tryz.prog 89 #[.slice a n c,.agg #[.int .i64 JL,.int .i64 start,.slice da dn dc]] w fun e w'=>e=.returned (.int .i64 (kN (lens im) JL start dn))∧Below w.heap.size w w':=by
 have hs:=h.small
 unfold nZ at hv hst
 have hlen:(lens im).length=n:=by simp [lens,h.len]
 have HL:=Lib.hid hlen;clear hlen
 have hB0:Below w.heap.size w (w.alloc (.cells #[.int .i64 JL,.int .i64 start,.slice da dn dc] 81)):=(Below.refl _ _).alloc (Nat.le_refl _) _
 by_cases h1:JL<0
 ·go_enter Tryz.func89,Tryz.ntmps89
  go_wp2
  go_ret
  exact ⟨pJ (by rw [kN,if_pos (.inl h1)]),hB0⟩
 obtain ⟨k,rfl⟩:=Int.eq_ofNat_of_zero_le (Int.not_lt.1 h1)
 by_cases h2:n≤k
 ·go_enter Tryz.func89,Tryz.ntmps89
  go_wp2
  go_ret
  exact ⟨pJ (by rw [kN,if_pos (.inr (by rw [HL.out];omega))]),hB0⟩
 have hlt:k<n:=by omega
 obtain ⟨b,off,rfl,_,_⟩:=h.addr hlt
 obtain ⟨x,hx⟩:=h.get hlt
 have HX:Hid ((lens im)[k]?=some (x.length:Int)):=by show _=_;rw [lens,List.getElem?_map,hx];rfl
 obtain ⟨a',n',c',hcell,hx'⟩:=(h.below hB0).slice hx
 have hs':=hx'.small
 have hn':=hx'.len
 have HN:=Lib.hid hn';clear hn'
 clear hx
 by_cases h3:dn=0
 ·subst h3
  go_enter Tryz.func89,Tryz.ntmps89
  go_wp2
  go_ret
  exact ⟨pJ (by rw [kN,if_neg (by rw [HL.out];omega),if_pos rfl]),hB0⟩
 have h3':0<dn:=by omega
 clear h3
 by_cases h4:start<0
 ·have d1:decide (start<0)=true:=by simp;omega
  go_enter Tryz.func89,Tryz.ntmps89
  go_wp2_with fail
  refine wp_region_quiet_lit (by kernel_rfl) (by kernel_rfl) ?_
  repeat (go_big_quiet_step (fail))
  refine wpQuiet_nil ?_
  rintro _ ⟨nq,rfl⟩
  go_wp2
  go_ret
  exact ⟨pJ (by rw [kN,if_neg (by rw [HL.out];omega),if_neg (by omega),if_pos (.inl h4)]),below_drewN hB0 _⟩
 have h4':0≤start:=by omega
 have d1:decide (start<0)=false:=by simp;omega
 by_cases h5:(n':Int) - dn<start
 ·have d2:decide ((n':Int) - dn<start)=true:=by simp;omega
  go_enter Tryz.func89,Tryz.ntmps89
  go_wp2_with fail
  refine wp_region_quiet_lit (by kernel_rfl) (by kernel_rfl) ?_
  repeat (go_big_quiet_step (fail))
  refine wpQuiet_nil ?_
  rintro _ ⟨nq,rfl⟩
  go_wp2
  go_ret
  exact ⟨pJ (by rw [kN,if_neg (by rw [HL.out];omega),if_neg (by omega),if_pos (by rw [Int.toNat_natCast,D9 HX.out,HN.out];omega)]),below_drewN hB0 _⟩
 ·have h5':start≤(n':Int) - dn:=by omega
  have d2:decide ((n':Int) - dn<start)=false:=by simp;omega
  go_enter Tryz.func89,Tryz.ntmps89
  go_wp2_with fail
  refine wp_region_quiet_lit (by kernel_rfl) (by kernel_rfl) ?_
  repeat (go_big_quiet_step (fail))
  refine wpQuiet_nil ?_
  rintro _ ⟨nq,rfl⟩
  go_wp2
  go_ret
  exact ⟨pJ (by rw [kN,if_neg (by rw [HL.out];omega),if_neg (by omega),if_neg (by rw [Int.toNat_natCast,D9 HX.out,HN.out];omega)]),below_drewN hB0 _⟩
end Go.Proofs.YtioijcfcehhmdaaGreatDoor

namespace Go.Proofs.YtioijcfcehhmdaaGreatDoor
open Go.RowKit
theorem Tryz.alG:(Tryz.prog.info? 68).map (·.size)=some 8:=by kernel_rfl
set_option maxHeartbeats 1000000 in
theorem YO {a:Option Addr} {n c:Nat} {im:List (List fP)} {ok:Nat→Prop} {w:World} (h:Sl mY ok w a n c im) (hn:n≤1000000) (hvs:∀ v∈im,v.length≤1000000) :
  Calls Tryz.prog 25 #[.slice a n c] w fun e w'=>∃ v,e=.returned v∧jH jR w.heap.size w'.heap.size 66 w' v im∧Below w.heap.size w w':=by
 have hs:=h.small
 go_enter Tryz.func25,Tryz.ntmps25
 go_wp2
 go_loopw [3,4] (fun v i wr=>∃ k:Nat,k≤n∧i=.int .i64 k∧jH jR w.heap.size wr.heap.size 66 wr v (im.take k)∧Below w.heap.size w wr) (fun _ i _=>n - (intOf i).toNat)
 case atStart=>exact ⟨0,Nat.zero_le _,rfl,jH.nil _ _ _ _ _,Below.refl _ _⟩
 case round =>
  obtain ⟨k,hk,rfl,hown,hB⟩:=hrel
  by_cases hlt:k<n
  ·obtain ⟨b,off,rfl,_,_⟩:=h.addr hlt
   obtain ⟨x,hx⟩:=h.get hlt
   obtain ⟨a',n',c',hcell,hx'⟩:=(h.below hB).slice hx
   have hv':=hvs x (List.mem_of_getElem? hx)
   have hn':=hx'.len
   have HN:=Lib.hid hn';clear hn'
   have hlen:(im.take k).length=k:=by have:=h.len;simp;omega
   have HL:=Lib.hid hlen;clear hlen
   have HX:=Lib.hid hx;clear hx
   go_wp2_with (at_builtin;refine tu (o:=⟨some 18,_,_,_,_,_⟩) Tryz.adg rfl _ _ rfl rfl (Own.nil sZ wr.heap.size _ (fun _=>False) _) rfl ((Src.NK hx').flat Flat.sec) ?c1 ?c2 ?c3 ?_)
   case c1=>simp;unfold maxLen;have:=HN.out;omega
   case c2=>simp;have:=HN.out;omega
   case c3=>exact Nat.le_refl _
   intro v' w1 hown1 hgrow _
   have hB1:Below wr.heap.size wr w1:=grown_below hgrow (Nat.le_refl _) (fun k hk=>by cases hk)
   obtain ⟨a2,n2,c2,rfl,hr2⟩:=hown1.sl
   have hrd:jR.rd (wr.heap.size≤·) w1 [.slice a2 n2 c2] x:=iE.mk (by simpa using hown1) (fun e=>by
    obtain ⟨xs,h1,_⟩:=hown1
    rcases h1.2 with ⟨hv,_⟩|⟨g,cap,cur,hv,_⟩
    ·exact .inl hv
    ·exact .inr ⟨g,cap,by rw [hv,e];rfl⟩)
   have Dc:=hown.lt
   have hz1:=hB1.size
   have hz:=hB.size
   go_wp2_with (at_builtin;refine wF Tryz.alF rfl _ _ rfl rfl ((hown.below hB1).below ((Below.refl _ _).alloc (Nat.le_refl _) _)) rfl (GI w1 66 #[.slice a2 n2 c2]) (GK hrd) (fun k hk=>(Dc k hk).2) ?d1 ?d2 ?d3 ?d4 ?_)
   case d1=>rw [HL.out];unfold maxLen;omega
   case d2=>rw [HL.out];omega
   case d3=>omega
   case d4=>simp;omega
   intro v' w2 hown2 hgrow2 _
   go_wp2
   go_roundw
   case rel=>exact ⟨k+1,by omega,by go_num,by rw [kT HX.out];exact hown2,((hB.trans (hB1.mono hB.size)).alloc (by omega) _).grown hgrow2 (by simp;omega) (fun k hk=>(Dc k hk).1)⟩
   case measure=>simp [intOf];omega
  ·go_wp2
   go_ret
   obtain rfl:k=n:=by omega
   rw [wH h.len] at hown
   exact ⟨_,rfl,hown,hB⟩
end Go.Proofs.YtioijcfcehhmdaaGreatDoor

namespace Go.Proofs.YtioijcfcehhmdaaGreatDoor
open Go.RowKit
def Aj (l:List fP) (s:Nat) (d:List fP):List fP:=l.take s++d++l.drop (s+d.length)
def Dz (im:List (List fP)) (x:Wr):List (List fP):=im.set x.1.toNat (Aj (im.getD x.1.toNat []) x.2.1.toNat x.2.2)
def qF (sz:List Int) (x:Wr):Int:=kN sz x.1 x.2.1 x.2.2.length
def dY (sz:List Int):List Wr→Nat→Int × Int
 |[],_=>(0,0)
 |x :: l,i=>if qF sz x≠0 then (i,qF sz x) else dY sz l (i+1)
def qG (im:List (List fP)) (l:List Wr):List (List fP):=if qC im≠0 then [] else VP (dY (lens im) l 0).2 (l.foldl Dz im)
def qH (im:List (List fP)) (l:List Wr):Int:=if qC im≠0 then 0 else (dY (lens im) l 0).1
def qI (im:List (List fP)) (l:List Wr):Int:=if qC im≠0 then qC im else (dY (lens im) l 0).2
def qJ (w:World) (im:List (List fP)) (l:List Wr):Ending→World→Prop:=fun e w' =>
 ∃ a n c,e=.returned (.tuple #[.slice a n c,.int .i64 (qH im l),.int .i64 (qI im l)])∧Sl mY (w.heap.size≤·) w' a n c (qG im l)∧(a=none∨qI im l=0)∧Below w.heap.size w w'
theorem qJ.mk {w w':World} {im:List (List fP)} {l:List Wr} {a:Option Addr} {n c:Nat} {i e:Int} (hi:i=qH im l) (he:e=qI im l) (h:Sl mY (w.heap.size≤·) w' a n c (qG im l)) (hz:a=none∨qI im l=0) (hB:Below w.heap.size w w') :
  qJ w im l (.returned (.tuple #[.slice a n c,.int .i64 i,.int .i64 e])) w':=⟨a,n,c,by rw [hi,he],h,hz,hB⟩
theorem Ir {sz:List Int} {l:List Wr} {k:Nat} {x:Wr} (hx:l[k]?=some x) (h:dY sz l 0=dY sz (l.drop k) k) (hf:qF sz x=0):dY sz l 0=dY sz (l.drop (k+1)) (k+1):=by
 obtain ⟨hk,rfl⟩:=List.getElem?_eq_some_iff.1 hx
 rw [h,List.drop_eq_getElem_cons hk,dY,if_neg (by rw [hf];decide)]
theorem MZ {sz:List Int} {l:List Wr} {k:Nat} {x:Wr} (hx:l[k]?=some x) (h:dY sz l 0=dY sz (l.drop k) k) (hf:qF sz x≠0):dY sz l 0=((k:Int),qF sz x):=by
 obtain ⟨hk,rfl⟩:=List.getElem?_eq_some_iff.1 hx
 rw [h,List.drop_eq_getElem_cons hk,dY,if_pos hf]
theorem Na {sz:List Int} {l:List Wr} {k:Nat} (hk:l.length≤k) (h:dY sz l 0=dY sz (l.drop k) k):dY sz l 0=(0,0):=by
 rw [h,List.drop_eq_nil_of_le hk,dY]
theorem wI {l d:List fP} {s:Nat} (h:s+d.length≤l.length):(Aj l s d).length=l.length:=by
 unfold Aj;simp;omega
theorem VQ {im:List (List fP)} {v s:Int} {d:List fP} (h:qF (lens im) (v,s,d)=0):0≤v∧v<im.length∧0<d.length∧0≤s∧∃ x,im[v.toNat]?=some x∧s+d.length≤x.length:=by
 unfold qF kN at h
 simp only at h
 split at h
 ·omega
 ·rename_i h1
  split at h
  ·omega
  ·rename_i h2
   split at h
   ·omega
   ·rename_i h3
    have h4:v.toNat<im.length:=by simp [lens] at h1;omega
    have e:(lens im).getD v.toNat 0=((im[v.toNat]'h4).length:Int):=by simp [lens,List.getD,h4]
    rw [e] at h3
    simp [lens] at h1
    exact ⟨by omega,by omega,by omega,by omega,_,List.getElem?_eq_getElem h4,by omega⟩
theorem QK {im:List (List fP)} {x:Wr} (h:qF (lens im) x=0):lens (Dz im x)=lens im:=by
 obtain ⟨v,s,d⟩:=x
 obtain ⟨h1,h2,h3,h4,y,hy,h5⟩:=VQ h
 unfold lens Dz
 rw [List.map_set]
 apply List.ext_getElem?
 intro i
 rw [List.getElem?_set]
 by_cases hi:v.toNat=i
 ·subst hi
  have hl:=(List.getElem?_eq_some_iff.1 hy).1
  simp only [List.length_map,if_true,if_pos hl,List.getElem?_map,hy,Option.map_some]
  rw [D9 hy,wI (by omega)]
 ·rw [if_neg hi]
set_option maxHeartbeats 4000000 in
theorem UN {a:Option Addr} {n c:Nat} {im:List (List fP)} {ok ok2:Nat→Prop} {w:World} (h:Sl mY ok w a n c im) (hn:n≤1000000) (hvs:∀ v∈im,v.length≤1000000)
  {la:Option Addr} {ln lc:Nat} {l:List Wr} (hl:Sl wrR ok2 w la ln lc l) :
  Calls Tryz.prog 38 #[.slice a n c,.slice la ln lc] w (qJ w im l):=by
 by_cases he:qC im=0
 rotate_left
 ·have hb:(qC im != 0)=true:=by simp [he]
  have HE:=Lib.hid he;clear he
  go_enter Tryz.func38,Tryz.ntmps38
  go_wp2_with fail
  refine (GR h hn).mono ?_
  rintro e w1 ⟨rfl,hB1⟩
  go_wp2
  go_ret3
  exact qJ.mk (by rw [qH,if_pos HE.out]) (by rw [qI,if_pos HE.out]) (by rw [qG,if_pos HE.out];exact Sl.nil0 _ _ _) (.inl rfl) hB1
 have hb:(qC im != 0)=false:=by simp [he]
 have HE:=Lib.hid he;clear he
 have hls:=hl.small
 go_enter Tryz.func38,Tryz.ntmps38
 go_wp2_with fail
 refine (GR h hn).mono ?_
 rintro e w1 ⟨rfl,hB1⟩
 go_wp2_with fail
 refine (UM (h.below hB1) hn hvs).mono ?_
 rintro e w2 ⟨v0,rfl,hown0,hB2⟩
 have hB3:=hB1.trans (hB2.mono hB1.size)
 go_wp2
 go_loopw [21] (fun i wr=>∃ k:Nat,k≤ln∧i=.int .i64 k∧Hid (dY (lens im) l 0=dY (lens im) (l.drop k) k∧lens ((l.take k).foldl Dz im)=lens im)∧jH jR w1.heap.size wr.heap.size 66 wr v0 ((l.take k).foldl Dz im)∧Below w1.heap.size w1 wr) (fun i _=>ln - (intOf i).toNat)
 case atStart=>exact ⟨0,Nat.zero_le _,rfl,⟨rfl,rfl⟩,hown0,hB2⟩
 case round =>
  obtain ⟨k,hk,rfl,HK,hown,hB⟩:=hrel
  by_cases hlt:k<ln
  ·obtain ⟨b,off,rfl,_,_⟩:=hl.addr hlt
   obtain ⟨⟨v,s,d⟩,hx⟩:=hl.get hlt
   obtain ⟨da,dn,dc,hc0,hc1,hc2,hv,hs,hd⟩:=(hl.below (hB1.trans (hB.mono hB1.size))).wr hx
   have HX:=Lib.hid hx;clear hx
   obtain ⟨a2,n2,c2,rfl,Iu⟩:=hown.img
   generalize hcur:(l.take k).foldl Dz im=cur at *
   have HC:=Lib.hid hcur;clear hcur
   have hds:=hd.small
   by_cases hf:kN (lens cur) v s dn=0
   rotate_left
   ·have hfb:(kN (lens cur) v s dn != 0)=true:=by simp [hf]
    have HF:=Lib.hid hf;clear hf
    go_wp2_with fail
    refine (JM (Iu.below ((Below.refl _ _).alloc (Nat.le_refl _) _)) hv hs hds).mono ?_
    rintro e w3 ⟨rfl,hB4⟩
    go_wp2
    go_ret3
    have e0:dY (lens im) l 0=((k:Int),kN (lens cur) v s dn):=by
     have e1:qF (lens im) (v,s,d)=kN (lens cur) v s dn:=by unfold qF;rw [HK.out.2,hd.len]
     rw [← e1]
     exact MZ HX.out HK.out.1 (by rw [e1];exact HF.out)
    exact qJ.mk (by rw [qH,if_neg (by simp [HE.out]),e0]) (by rw [qI,if_neg (by simp [HE.out]),e0]) (by rw [qG,if_neg (by simp [HE.out]),e0,YM HF.out];exact Sl.nil0 _ _ _) (.inl rfl)
     ((hB1.trans (hB.mono hB1.size)).trans (((Below.refl _ _).alloc (Nat.le_refl _) _).trans (hB4.mono (by simp)) |>.mono (Nat.le_trans hB1.size hB.size)))
   ·have hfb:(kN (lens cur) v s dn != 0)=false:=by simp [hf]
    have hfw:qF (lens cur) (v,s,d)=0:=by unfold qF;rw [hd.len];exact hf
    obtain ⟨h1,h2,h3,h4,x,hx,h5⟩:=VQ hfw
    obtain ⟨v,rfl⟩:=Int.eq_ofNat_of_zero_le h1
    obtain ⟨s,rfl⟩:=Int.eq_ofNat_of_zero_le h4
    rw [Int.toNat_natCast] at hx
    have HFW:=Lib.hid hfw;clear hfw
    have HF:=Lib.hid hf;clear hf
    have hdn:0<dn:=by rw [← hd.len];exact h3
    have h5':s+dn≤x.length:=by rw [hd.len] at h5;omega
    have h2':v<n2:=by rw [← Iu.len];omega
    go_wp2_with fail
    refine (JM (Iu.below ((Below.refl _ _).alloc (Nat.le_refl _) _)) hv hs hds).mono ?_
    rintro e w3 ⟨rfl,hB4⟩
    have VR:Below wr.heap.size wr w3:=((Below.refl _ _).alloc (Nat.le_refl _) _).trans (hB4.mono (by simp))
    -- the row that is written
    obtain ⟨g,cap,cc,okk,hvv,hBg,hg,hcc,⟨u,rfl,hub,hu,_⟩,ajp,hput⟩:=((hown.below VR).below ((Below.refl _ _).drew)).at hx
    cases hvv
    have hu':=hu
    obtain ⟨xs,hrow,_⟩:=hu
    obtain ⟨gi,yX,rfl⟩:∃ gi yX,u=.slice (some ⟨gi,0,none⟩) x.length yX:=by
     rcases hrow.2 with ⟨_,h0⟩|⟨gi,yX,cur',hvu,_⟩
     ·omega
     ·exact ⟨gi,yX,hvu⟩
    have hcap:x.length≤yX:=by obtain ⟨_,_,_,e,q⟩:=hu'.sl;cases e;exact q.cap
    have hcell:w3.cell? ⟨g,v,none⟩=some (.slice (some ⟨gi,0,none⟩) x.length yX):=by have:=hcc 0 Nat.zero_lt_one;simpa [jR,iE] using this
    have hgi:=ajp gi (hub gi rfl)
    have hw3:=VR.size
    have hl0:=uJ (g:=gi) (uK hB4 (j:=0) rfl) (by show wr.heap.size≠gi;omega)
    have hl1:=uJ (g:=gi) (uK hB4 (j:=1) rfl) (by show wr.heap.size≠gi;omega)
    have hl2:=uJ (g:=gi) (uK hB4 (j:=2) rfl) (by show wr.heap.size≠gi;omega)
    have hl3:=uJ (g:=gi) hcell (fun e=>hgi.2.2 e.symm)
    have hsl:=fun w=>QJ Tryz.underlying66 Tryz.alG (some ⟨gi,0,none⟩) x.length yX s (by omega) w
    have hsub:uM (some ⟨gi,0,none⟩) yX s 8=some ⟨gi,s * 8,none⟩:=by unfold uM;rw [if_neg (by omega)];simp [Addr.add_lit]
    rw [hsub] at hsl
    have HS:=Lib.hid hsub;clear hsub
    have aqO:s≤x.length:=by omega
    clear h5 hcc
    go_wp2_with fail
    refine Ec (fun w'=>∃ x:rX (w3) (gi),w'=x.w) [([0,1,2,3,4,5,6,7,8,9],10)] [] Tryz.mixed (by kernel_rfl) (rX.drew _ _) ?_
    refine Rf ?_
    simp only [pick,List.filterMap_cons,List.filterMap_nil,List.getElem?_toArray,List.getElem?_cons_succ,List.getElem?_cons_zero]
    change wpQuiet _ _ _ _ [_,_,_,_,_,_,_,_,_,_] _
    repeat (go_big_quiet_step (fail))
    refine wpQuiet_nil ?_
    change wpList _ _ _ [_] _ _
    refine GL Tryz.adg Flat.sec rfl _ _ rfl (s:=s) (r:=sZ) rfl rfl hu' (ys:=d) (((hd.below VR).below ((Below.refl _ _).drew))) (by omega) hdn (by omega) ?_
    intro w4 hrow4 YP anJ
    have hgr:w3.grownBy w4 (some gi):=QI (grown_drew _ _) YP
    have hown4:=hput w4 (Aj x s d) (fun b hb hne=>YP.block b hb (fun e=>hne (by rw [Option.some.inj e];exact hub gi rfl))) YP.os YP.tape YP.output YP.size ⟨_,rfl,hub,hrow4,fun e=>by
     have:=wI (l:=x) (d:=d) (s:=s) (by rw [hd.len];omega)
     rw [e] at this;simp at this;omega⟩
    have e1:Dz cur ((v:Int),(s:Int),d)=cur.set v (Aj x s d):=by
     unfold Dz;rw [Int.toNat_natCast,Int.toNat_natCast,D9 hx]
    have H1:=Lib.hid e1;clear e1
    have HXX:=Lib.hid hx;clear hx
    go_wp2_with fail
    refine ⟨rX.of hgr,?_⟩
    refine NJ ?_
    simp only [pick,List.filterMap_cons,List.filterMap_nil,List.getElem?_toArray,List.getElem?_cons_succ,List.getElem?_cons_zero]
    change wpQuiet _ _ _ _ [] _
    repeat (go_big_quiet_step (fail))
    refine wpQuiet_nil ?_
    go_wp2
    go_roundw
    case rel =>
     refine ⟨k+1,by omega,by go_num,?_,?_,(hB.trans (VR.mono hB.size)).grown hgr (by have:=hB.size;omega) (fun j hj=>by cases hj;omega)⟩
     ·show _∧_
      have hfw:qF (lens im) ((v:Int),(s:Int),d)=0:=by rw [← HK.out.2];exact HFW.out
      refine ⟨Ir HX.out HK.out.1 hfw,?_⟩
      rw [kT HX.out,List.foldl_append,HC.out]
      show lens (Dz cur _)=_
      rw [QK HFW.out,HK.out.2]
     ·rw [kT HX.out,List.foldl_append,HC.out]
      show jH _ _ _ _ _ _ (Dz cur _)
      rw [H1.out]
      exact hown4.up (by have:=hgr.size;omega)
    case measure=>simp [intOf];omega
  ·obtain rfl:k=ln:=by omega
   obtain ⟨a2,n2,c2,rfl,Iu⟩:=hown.img
   go_wp2
   go_ret3
   have e0:=Na (Nat.le_of_eq hl.len) HK.out.1
   rw [wH hl.len] at Iu
   exact qJ.mk (by rw [qH,if_neg (by simp [HE.out]),e0]) (by rw [qI,if_neg (by simp [HE.out]),e0]) (by rw [qG,if_neg (by simp [HE.out]),e0,adk rfl];exact Iu.mono fun b hb=>Nat.le_trans hB1.size hb) (.inr (by rw [qI,if_neg (by simp [HE.out]),e0]))
    (hB1.trans (hB.mono hB1.size))
end Go.Proofs.YtioijcfcehhmdaaGreatDoor

namespace Go.Proofs.YtioijcfcehhmdaaGreatDoor
open Go.RowKit V
theorem UO {w:World} {b o:Nat} {u:Value} (h:w.cell? ⟨b,o,none⟩=some u):dA w b:=by
 unfold World.cell? at h
 simp only at h
 split at h
 ·rename_i e;exact ⟨_,_,_,e⟩
 ·cases h
theorem yY {α:Type} {r:Rep α} {enc:α→PV} {ok:Nat→Prop} {w:World} {l:List α} {sz:Nat} {v:Value} (hsz:sz=r.sz) (hc:∀ x,(enc x).cells.length=r.sz)
  (hr:∀ x∈l,∀ (cs:List Value),cs.length=r.sz→(∀ (j:Nat) p u,(enc x).cells[j]?=some p→cs[j]?=some u→aC ok w p u)→r.rd ok w cs x) (h:aC ok w (.list sz (l.map enc)) v):∃ a n c,v=.slice a n c∧Sl r ok w a n c l:=by
 generalize he:l.map enc=es at h
 cases h with
 |nil _ a =>
  have:l=[]:=by simpa using he
  subst this
  exact ⟨a,0,0,rfl,⟨rfl,Nat.le_refl _,Nat.zero_le _,fun _=>rfl,.inl rfl⟩⟩
 |list _ _ b off c cv h1 h2 h3 h4 h6 h7 h8 =>
  subst hsz he
  refine ⟨_,_,c,rfl,⟨by simp,h3,h4,(fun e=>by cases e),.inr ⟨b,off,rfl,h1,h2.lt,fun i x hx=>?_⟩⟩⟩
  have hi:(l.map enc)[i]?=some (enc x):=by simp [hx]
  refine ⟨(List.range r.sz).map (cv i),fun j hj=>?_,hr x (List.mem_of_getElem? hx) _ (by simp) fun j p u hp hu=>?_⟩
  ·have hj':j<(enc x).cells.length:=by rw [hc];exact hj
   rw [(h7 i _ j _ hi (List.getElem?_eq_getElem hj')).1]
   simp [hj]
  ·have hj:j<r.sz:=by have:=(List.getElem?_eq_some_iff.1 hp).1;rw [hc] at this;exact this
   have:u=cv i j:=by simp [hj] at hu;exact hu.symm
   rw [this]
   exact h8 i _ j _ hi hp
theorem GU {α:Type} {r:Rep α} {enc:α→PV} {ok ok':Nat→Prop} {w:World} {l:List α} {a:Option Addr} {n c:Nat} (hk:∀ b,ok b→b<w.heap.size→ok' b) (hp0:0<r.sz) (hc:∀ x,(enc x).cells.length=r.sz)
  (hr:∀ x∈l,∀ (cs:List Value),cs.length=r.sz→r.rd ok w cs x→∀ (j:Nat) p u,(enc x).cells[j]?=some p→cs[j]?=some u→u.oneCell'=true∧aC ok' w p u) (hz:l=[]→c=0) (h:Sl r ok w a n c l):aC ok' w (.list r.sz (l.map enc)) (.slice a n c):=by
 obtain ⟨h1,h2,h3,h4,h5⟩:=h
 by_cases hl:l=[]
 ·have:=hz hl
  subst hl
  have:n=0:=by simpa using h1.symm
  subst this
  have:c=0:=by omega
  subst this
  exact .nil _ _
 ·rcases h5 with h5|⟨b,off,rfl,hb,hlt,h6⟩
  ·exact absurd (List.eq_nil_of_length_eq_zero (by omega)) hl
  ·have hn:n=(l.map enc).length:=by simp [h1]
   rw [hn]
   have key:∀ (i:Nat) (x:α) (j:Nat) (p:PV),l[i]?=some x→(enc x).cells[j]?=some p→∃ u,w.cell? ⟨b,off+i * r.sz+j,none⟩=some u∧u.oneCell'=true∧aC ok' w p u:=by
    intro i x j p hx hp
    obtain ⟨cs,g1,g2⟩:=h6 i x hx
    have hj:j<r.sz:=by have:=(List.getElem?_eq_some_iff.1 hp).1;rw [hc] at this;exact this
    have hl2:=r.len g2
    have hu:cs[j]?=some (cs[j]'(by omega)):=List.getElem?_eq_getElem (by omega)
    obtain ⟨k1,k2⟩:=hr x (List.mem_of_getElem? hx) cs hl2 g2 j p _ hp hu
    exact ⟨_,by rw [g1 j hj,hu],k1,k2⟩
   have get:∀ {i:Nat} {e:PV},(l.map enc)[i]?=some e→∃ x,l[i]?=some x∧e=enc x:=by
    intro i e he
    rw [List.getElem?_map] at he
    cases hx:l[i]? with
    |none=>rw [hx] at he;cases he
    |some x=>rw [hx] at he;cases he;exact ⟨x,rfl,rfl⟩
   have hce:dA w b:=by
    cases l with
    |nil=>exact absurd rfl hl
    |cons x l =>
     have hj:0<(enc x).cells.length:=by rw [hc];exact hp0
     obtain ⟨u,k1,_⟩:=key 0 x 0 _ rfl (List.getElem?_eq_getElem hj)
     exact UO k1
   refine .list _ _ b off c (fun i j=>(w.cell? ⟨b,off+i * r.sz+j,none⟩).getD undef) (hk b hb hlt) hce (by simp;omega) h3 (fun e he=>?_) (fun i e j x hi hj=>?_) fun i e j x hi hj=>?_
   ·obtain ⟨x,_,rfl⟩:=List.mem_map.1 he;exact hc x
   ·obtain ⟨x',hx,rfl⟩:=get hi
    obtain ⟨u,k1,k2,k3⟩:=key i x' j x hx hj
    rw [k1];exact ⟨rfl,k2⟩
   ·obtain ⟨x',hx,rfl⟩:=get hi
    obtain ⟨u,k1,k2,k3⟩:=key i x' j x hx hj
    rw [k1];exact k3
theorem VT {ok:Nat→Prop} {w:World} {l:List fP} {v:Value} (h:aC ok w (bF l) v):∃ a n c,v=.slice a n c∧Sl sZ ok w a n c l:=by
 refine yY (r:=sZ) (enc:=ni) rfl (fun x=>kE x) (fun x _ cs hl hcs=>?_) h
 show cs=gZ x
 refine List.ext_getElem? fun j=>?_
 by_cases hj:j<8
 ·have h1:cs[j]?=some (cs[j]'(by rw [hl];exact hj)):=List.getElem?_eq_getElem _
  have h2:(ni x).cells[j]?=some (.int .u8 ((x.toList[j]'(by simpa using hj)).toNat:Int)):=by
   show (oz x)[j]?=_
   have hj':j<x.toList.length:=by simpa using hj
   simp only [oz,List.getElem?_map,List.getElem?_eq_getElem hj',Option.map_some]
  have:=(hcs j _ _ h2 h1).bM
  have hj':j<x.toList.length:=by simpa using hj
  rw [h1,this]
  simp only [gZ,List.getElem?_map,List.getElem?_eq_getElem hj',Option.map_some]
 ·have e1:cs.length=8:=hl
  rw [List.getElem?_eq_none (by omega),List.getElem?_eq_none (by rw [oK];omega)]
theorem adn {ok:Nat→Prop} {w:World} {l:List (List fP)} {v:Value} (h:aC ok w (.list 1 (l.map bF)) v):∃ a n c,v=.slice a n c∧Sl mY ok w a n c l:=by
 refine yY (r:=mY) (enc:=bF) rfl (fun x=>rfl) (fun x _ cs hl hcs=>?_) h
 match cs,hl with
 |[u],_ =>
  obtain ⟨a,n,c,rfl,hs⟩:=VT (hcs 0 _ u rfl rfl)
  exact ⟨a,n,c,rfl,hs⟩
theorem ajq {ok:Nat→Prop} {w:World} {l:List iM} {v:Value} (hok:∀ x∈l,qw x.volume=true∧qw x.start=true) (h:aC ok w (.list 3 (l.map jL)) v):∃ a n c,v=.slice a n c∧Sl wrR ok w a n c (l.map fun x=>(x.volume,x.start,x.data)):=by
 have:∃ a n c,v=.slice a n c∧Sl (α:=iM) ⟨3,fun ok w cs x=>wrR.rd ok w cs (x.volume,x.start,x.data),fun h=>wrR.len h,fun hk h=>wrR.mono hk h,fun h=>wrR.live h,fun hf h=>wrR.frame hf h,fun h=>wrR.one h⟩ ok w a n c l:=by
  refine yY rfl (fun x=>rfl) (fun x hx cs hl hcs=>?_) h
  match cs,hl with
  |[u,u2,u3],_ =>
   have e1:=(hcs 0 _ u rfl rfl).bM
   have e2:=(hcs 1 _ u2 rfl rfl).bM
   obtain ⟨a,n,c,rfl,hs⟩:=VT (l:=x.data) (hcs 2 _ u3 rfl rfl)
   obtain ⟨o1,o2⟩:=hok x hx
   simp only [qw,Bool.and_eq_true,decide_eq_true_eq] at o1 o2
   exact ⟨[u],[u2,.slice a n c],rfl,⟨by rw [e1],o1⟩,⟨[u2],[.slice a n c],rfl,⟨by rw [e2],o2⟩,a,n,c,rfl,hs⟩⟩
 obtain ⟨a,n,c,rfl,h1,h2,h3,h4,h5⟩:=this
 refine ⟨a,n,c,rfl,⟨by simpa using h1,h2,h3,h4,h5.imp id fun ⟨b,off,g1,g2,g3,g4⟩=>⟨b,off,g1,g2,g3,fun i x hx=>?_⟩⟩⟩
 rw [List.getElem?_map] at hx
 cases hx':l[i]? with
 |none=>rw [hx'] at hx;cases hx
 |some y=>rw [hx'] at hx;cases hx;exact g4 i y hx'
theorem Nb {ok ok':Nat→Prop} {w:World} {l:List (List fP)} {a:Option Addr} {n c:Nat} (hk:∀ b,ok b→b<w.heap.size→ok' b) (hz:l=[]→c=0) (hne:∀ x∈l,x≠[]) (h:Sl mY ok w a n c l):aC ok' w (.list 1 (l.map bF)) (.slice a n c):=by
 refine GU (r:=mY) (enc:=bF) hk (by decide) (fun x=>rfl) (fun x hx cs hl hrd j p u hp hu=>?_) hz h
 obtain ⟨a,n,c,rfl,hs⟩:=hrd
 match j with
 |j+1=>simp [bF,PV.cells] at hp
 |0 =>
  cases hp
  cases hu
  refine ⟨rfl,GU (r:=sZ) (enc:=ni) hk (by decide) (fun x=>kE x) (fun s _ cs hl hrd j p u hp hu=>?_) (fun e=>absurd e (hne x hx)) hs⟩
  have hrd:cs=gZ s:=hrd
  subst hrd
  simp only [gZ,List.getElem?_map,Option.map_eq_some_iff] at hu
  have hp:(oz s)[j]?=some p:=hp
  simp only [oz,List.getElem?_map,Option.map_eq_some_iff] at hp
  obtain ⟨b,h1,rfl⟩:=hu
  obtain ⟨b',h2,rfl⟩:=hp
  rw [h1] at h2
  cases h2
  exact ⟨rfl,.int _ _⟩
theorem JO (sz:List Int) (x:iM):xX sz x=qF sz (x.volume,x.start,x.data):=by
 simp only [qF,kN,xX]
 repeat' split
 all_goals first|rfl|omega
theorem BO (sz:List Int):∀ (l:List iM) (i:Nat),rQ sz l i=dY sz (l.map fun x=>(x.volume,x.start,x.data)) i
 |[],_=>rfl
 |x :: l,i=>by rw [List.map_cons,rQ,dY,JO,BO sz l (i+1)]
theorem UQ (im:List (List fP)) (l:List iM):DR im l=qI im (l.map fun x=>(x.volume,x.start,x.data)):=by
 unfold DR qI;rw [BO];rfl
theorem ajr (im:List (List fP)) (l:List iM):apI im l=qH im (l.map fun x=>(x.volume,x.start,x.data)):=by
 unfold apI qH;rw [BO];rfl
theorem agw (im:List (List fP)) (x:iM):X6 im x=Dz im (x.volume,x.start,x.data):=rfl
theorem VU:∀ (l:List iM) (im:List (List fP)),l.foldl X6 im=(l.map fun x=>(x.volume,x.start,x.data)).foldl Dz im
 |[],_=>rfl
 |x :: l,im=>by rw [List.map_cons,List.foldl_cons,List.foldl_cons,agw,VU l]
theorem ajs (im:List (List fP)) (l:List iM):EY im l=qG im (l.map fun x=>(x.volume,x.start,x.data)):=by
 unfold EY qG
 rw [UQ,VU]
 unfold qI VP
 by_cases h:qC im=0
 ·simp [h]
 ·simp [h]
theorem ado {im:List (List fP)} {x:iM} (h:xX (dR im) x=0):dR (X6 im x)=dR im:=by
 rw [JO] at h
 exact QK h
theorem GV:∀ (l:List iM) (im:List (List fP)) (i:Nat),(rQ (dR im) l i).2=0→dR (l.foldl X6 im)=dR im
 |[],_,_,_=>rfl
 |x :: l,im,i,h=>by
  unfold rQ at h
  split at h
  ·rename_i h2;exact absurd h h2
  ·rename_i h2
   have h2:xX (dR im) x=0:=by omega
   have e:=ado h2
   rw [List.foldl_cons,GV l (X6 im x) (i+1) (by rw [e];exact h),e]
theorem xC {im:List (List fP)} {l:List iM} (h:DR im l=0):dR (EY im l)=dR im:=by
 unfold EY
 rw [if_pos h]
 unfold DR at h
 split at h
 ·rename_i h2;exact absurd h h2
 ·exact GV l im 0 h
theorem QL {im:List (List fP)} (h:xW (dR im)=0):im≠[]∧∀ v∈im,v≠[]:=by
 unfold xW at h
 split at h
 ·cases h
 ·rename_i h1
  split at h
  ·cases h
  ·rename_i h2
   refine ⟨fun e=>by subst e;simp [dR] at h1,fun v hv e=>?_⟩
   subst e
   refine h2 (List.any_eq_true.2 ⟨0,?_,by decide⟩)
   exact List.mem_map.2 ⟨[],hv,rfl⟩
theorem adp {im:List (List fP)} {l:List iM}:(DR im l=0→EY im l≠[])∧∀ v∈EY im l,v≠[]:=by
 by_cases h:DR im l=0
 ·have h0:xW (dR im)=0:=by
   unfold DR at h
   split at h
   ·rename_i h2;exact absurd h h2
   ·omega
  have:=QL (im:=EY im l) (by rw [xC h];exact h0)
  exact ⟨fun _=>this.1,this.2⟩
 ·exact ⟨fun e=>absurd e h,fun v hv=>by unfold EY at hv;rw [if_neg h] at hv;cases hv⟩
theorem adq {f:Nat} (hc:callable Tryz.prog f=true) (hA:∀ {a:Option Addr} {n c:Nat} {im:List (List fP)} {ok ok2:Nat→Prop} {w:World},Sl mY ok w a n c im→n≤1000000→(∀ v∈im,v.length≤1000000) →
  ∀ {la:Option Addr} {ln lc:Nat} {l:List Wr},Sl wrR ok2 w la ln lc l→Calls Tryz.prog f #[.slice a n c,.slice la ln lc] w (qJ w im l)) :
  ∀ args rs,uw args=some rs→callable Tryz.prog f=true∧lU Tryz.prog f args rs:=fun args rs h=>by
 obtain ⟨im,l,rfl,hw,hn,hv,rfl⟩:=X7 h
 refine ⟨hc,fun T0 w vs h1 h2 h3 h4 _=>?_⟩
 match vs,h3 with
 |[v0,v1],_ =>
  obtain ⟨a,n,c,rfl,hs⟩:=adn (h4 0 _ v0 rfl rfl)
  obtain ⟨la,ln,lc,rfl,hl⟩:=ajq hw (h4 1 _ v1 rfl rfl)
  refine (hA hs (by rw [← hs.len];exact hn) hv hl).mono ?_
  rintro e w' ⟨a',n',c',rfl,hr,hz,hB⟩
  rw [← ajr,← UQ]
  rw [← ajs] at hr
  rw [← UQ] at hz
  refine ⟨_,fun b=>if w.heap.size≤b∧b<w'.heap.size then .ro else T0 b,rfl,hB,fun b hb=>if_neg (by omega),fun b hb=>?_,#[_,_,_],rfl,rfl,fun i r u hr' hu=>?_⟩
  ·show (if _ then _ else T0 b)=_
   rw [if_neg (by omega)];exact h2 b (by have:=hB.size;omega)
  ·match i with
   |0 =>
    cases hr';cases hu
    refine Nb (ok:=(w.heap.size≤·)) (fun b hb hlt=>if_pos ⟨hb,hlt⟩) (fun e=>?_) adp.2 hr
    rcases hz with hz|hz
    ·exact hr.nil hz
    ·exact absurd e (adp.1 hz)
   |1=>cases hr';cases hu;exact .int _ _
   |2=>cases hr';cases hu;exact .int _ _
   |i+3=>simp at hr'
theorem YQ:∀ args rs,uw args=some rs→callable Tryz.prog 38=true∧lU Tryz.prog 38 args rs:=adq (by kernel_rfl) fun h hn hv _ _ _ _ hl=>UN h hn hv hl
end Go.Proofs.YtioijcfcehhmdaaGreatDoor

namespace Go.Proofs.YtioijcfcehhmdaaGreatDoor
open Go.RowKit V
def Nc (f:Nat) (fn:gW):Env:=fun k=>if k=f then some (.code fn) else none
theorem JQ {P:Program} {f:Nat} {fn:gW} (h:bJ P f fn=true):zM P (Nc f fn):=fun k d hk=>by
 unfold Nc at hk
 split at hk
 ·rename_i e;subst e;cases hk;exact h
 ·cases hk
def emR (n:Nat):Rep Unit where
 sz:=n
 rd _ _ cs _:=cs.length=n∧∀ u∈cs,u.oneCell'=true
 len h:=h.1
 mono _ h:=h
 live h:=h
 frame _ h:=h
 one h:=h.2
theorem Flat.em (n:Nat):Flat (emR n):=fun h=>h
theorem adr {ok:Nat→Prop} {w:World} {sz:Nat} {v:Value} (h:aC ok w (.list sz []) v):∃ a c,v=.slice a 0 c∧Sl (emR sz) (fun _=>True) w a 0 c []:=by
 obtain ⟨l,hl⟩:∃ l:List PV,l=[]:=⟨_,rfl⟩
 rw [← hl] at h
 cases h with
 |nil _ a=>exact ⟨a,0,rfl,⟨rfl,Nat.le_refl _,Nat.zero_le _,fun _=>rfl,.inl rfl⟩⟩
 |list _ _ b off c cv h1 h2 h3 h4 h6 h7 h8=>subst hl;exact ⟨_,c,rfl,⟨rfl,Nat.zero_le _,h4,(fun e=>by cases e),.inl rfl⟩⟩
--+
theorem alH:pW Tryz.prog 66 68 8 8 (.agg #[.int .u8 0,.int .u8 0,.int .u8 0,.int .u8 0,.int .u8 0,.int .u8 0,.int .u8 0,.int .u8 0]):=⟨Tryz.underlying66,by kernel_rfl,rfl,by decide⟩
set_option maxHeartbeats 1000000 in
theorem ads {a:Option Addr} {n c:Nat} {l:List Unit} {ok:Nat→Prop} {w:World} (h:Sl (emR 8) ok w a n c l) (hn:n≤1000000) :
  Calls Tryz.prog 95 #[.slice a n c] w fun e w'=>∃ a' n' c',e=.returned (.slice a' n' c')∧(iE (emR 8) 68).rd (w.heap.size≤·) w' [.slice a' n' c'] l∧Below w.heap.size w w':=by
 have heq:=fun (a:Option Addr) (n c:Nat) (w:World)=>Lib.run_eql_slice_nil (P:=Tryz.prog) w 66 68 a n c 0 0 Tryz.underlying66
 cases a with
 |none =>
  have h0:l=[]:=List.eq_nil_of_length_eq_zero (by rw [h.len];have:=h.nil rfl;have:=h.cap;omega)
  have H0:=Lib.hid h0;clear h0
  go_enter Tryz.func95,Tryz.ntmps95
  go_wp2
  go_ret
  refine ⟨_,_,_,rfl,?_,Below.refl _ _⟩
  rw [H0.out]
  exact iE.mk (Own.nil _ _ _ _ _) (fun _=>.inl rfl)
 |some ad =>
  have hs:n≤9223372036854775807:=by have:=Nat.le_trans h.cap h.bnd;unfold maxLen at this;omega
  go_enter Tryz.func95,Tryz.ntmps95
  go_wp2_with (at_builtin;refine tu alH rfl _ _ rfl rfl (Own.ajo (emR 8) (ok:=fun _=>False) (Nat.le_refl _)) rfl ((Src.NK (h.below ((Below.refl _ _).alloc (Nat.le_refl _) _))).flat (Flat.em 8)) ?c1 ?c2 ?c3 ?_)
  case c1=>simp;unfold maxLen;omega
  case c2=>simp;omega
  case c3=>simp
  intro v' w1 hown hgrow hat
  obtain ⟨a',n',c',rfl,_⟩:=hown.sl
  go_wp2
  go_ret
  refine ⟨_,_,_,rfl,iE.mk (by simpa using hown) (fun e=>?_),((Below.refl _ _).alloc (Nat.le_refl _) _).grown hgrow (by simp) (fun k hk=>by cases hk;exact Nat.le_refl _)⟩
  subst e
  obtain ⟨xs,h1,_⟩:=hown
  rcases h1.2 with ⟨hv,_⟩|⟨g,cap,cur,hv,_⟩
  ·exact .inl hv
  ·exact .inr ⟨g,cap,by simpa using hv⟩
theorem UR:bJ Tryz.prog 95 afO=true:=by kernel_rfl
theorem Nh {en:Env} (hen:en 95=some (.code afO)) {e:PV} {es:List PV} (hl:(e :: es).length≤lim):cal en 95 [.list 8 (e :: es)]=some [(.list 8 (e :: es),true)]:=by
 have F1:(es.length+1≤lim)=True:=eq_true (by simpa using hl)
 rw [ah hen rfl]
 simp only [afO]
 simp only [start,aJ,aT,aH,aS,aA,aB,aI,aO,Nat.reduceAdd,Nat.reduceSub]
 simp only [F1,aO,bI,reduceCtorEq,Nat.reduceEqDiff,Nat.reduceAdd,Nat.reduceLT,Nat.reduceLeDiff,Nat.beq]
theorem UU:∀ args rs,rP 8 args=some rs→callable Tryz.prog 95=true∧lU Tryz.prog 95 args rs:=fun args rs h=>by
 unfold rP at h
 split at h
 case h_2=>cases h
 rename_i sz es
 split at h
 case isFalse=>cases h
 rename_i hc
 obtain ⟨rfl,hl⟩:=hc
 cases h
 cases es with
 |cons e es =>
  obtain ⟨n,hn⟩:=nY (Nh (en:=Nc 95 afO) (if_pos rfl) hl)
  exact xg (JQ UR) hn
 |nil =>
  refine ⟨by kernel_rfl,fun T0 w vs h1 h2 h3 h4 _=>?_⟩
  match vs,h3 with
  |[v],_ =>
   have hv:=h4 0 _ v rfl rfl
   obtain ⟨a,c,rfl,hsl⟩:=adr hv
   refine (ads (ok:=fun _=>True) hsl (by omega)).mono ?_
   rintro e w' ⟨a',n',c',rfl,hrd,hB⟩
   obtain ⟨v,hv,hb,⟨xs,hown,_⟩,hnil⟩:=hrd
   obtain rfl:Value.slice a' n' c'=v:=by simpa using hv
   rcases hown.2 with ⟨e1,_⟩|⟨g,cap,cur,e1,_,hg,_,hm,hs,_⟩
   ·refine ⟨_,T0,rfl,hB,fun _ _=>rfl,fun b hb=>h2 b (by have:=hB.size;omega),#[_],rfl,rfl,fun i r u hr hu=>?_⟩
    cases i with
    |zero=>cases hr;cases hu;exact .inl ⟨rfl,none,e1⟩
    |succ i=>simp at hr
   ·have hg0:w.heap.size≤g:=hb g (by rw [e1];rfl)
    have hgl:g<w'.heap.size:=(Array.getElem?_eq_some_iff.1 hg).1
    refine ⟨_,fun b=>if b=g then .row (.part 0 0) else T0 b,rfl,hB,fun b hb=>if_neg (by omega),fun b hb=>?_,#[_],rfl,rfl,fun i r u hr hu=>?_⟩
    ·show (if b=g then _ else T0 b)=_
     rw [if_neg (by omega)];exact h2 b (by have:=hB.size;omega)
    ·cases i with
     |zero =>
      cases hr;cases hu
      exact .inr ⟨g,cap,cur,_,e1,if_pos rfl,hg,hs,Nat.zero_le _,hm,(fun e he=>by cases he),fun i e j x hi=>by simp at hi⟩
     |succ i=>simp at hr
--+
theorem ajt:pW Tryz.prog 87 144 1 8 (.int .u64 0):=⟨Tryz.underlying87,by kernel_rfl,rfl,by decide⟩
set_option maxHeartbeats 1000000 in
theorem YR {a:Option Addr} {n c:Nat} {l:List Unit} {ok:Nat→Prop} {w:World} (h:Sl (emR 1) ok w a n c l) (hn:n≤1000000) :
  Calls Tryz.prog 146 #[.slice a n c] w fun e w'=>∃ a' n' c',e=.returned (.slice a' n' c')∧(iE (emR 1) 144).rd (w.heap.size≤·) w' [.slice a' n' c'] l∧Below w.heap.size w w':=by
 have heq:=fun (a:Option Addr) (n c:Nat) (w:World)=>Lib.run_eql_slice_nil (P:=Tryz.prog) w 87 144 a n c 0 0 Tryz.underlying87
 cases a with
 |none =>
  have h0:l=[]:=List.eq_nil_of_length_eq_zero (by rw [h.len];have:=h.nil rfl;have:=h.cap;omega)
  have H0:=Lib.hid h0;clear h0
  go_enter Tryz.func146,Tryz.ntmps146
  go_wp2
  go_ret
  refine ⟨_,_,_,rfl,?_,Below.refl _ _⟩
  rw [H0.out]
  exact iE.mk (Own.nil _ _ _ _ _) (fun _=>.inl rfl)
 |some ad =>
  have hs:n≤9223372036854775807:=by have:=Nat.le_trans h.cap h.bnd;unfold maxLen at this;omega
  go_enter Tryz.func146,Tryz.ntmps146
  go_wp2_with (at_builtin;refine tu ajt rfl _ _ rfl rfl (Own.ajo (emR 1) (ok:=fun _=>False) (Nat.le_refl _)) rfl ((Src.NK (h.below ((Below.refl _ _).alloc (Nat.le_refl _) _))).flat (Flat.em 1)) ?c1 ?c2 ?c3 ?_)
  case c1=>simp;unfold maxLen;omega
  case c2=>simp;omega
  case c3=>simp
  intro v' w1 hown hgrow hat
  obtain ⟨a',n',c',rfl,_⟩:=hown.sl
  go_wp2
  go_ret
  refine ⟨_,_,_,rfl,iE.mk (by simpa using hown) (fun e=>?_),((Below.refl _ _).alloc (Nat.le_refl _) _).grown hgrow (by simp) (fun k hk=>by cases hk;exact Nat.le_refl _)⟩
  subst e
  obtain ⟨xs,h1,_⟩:=hown
  rcases h1.2 with ⟨hv,_⟩|⟨g,cap,cur,hv,_⟩
  ·exact .inl hv
  ·exact .inr ⟨g,cap,by simpa using hv⟩
theorem QM:bJ Tryz.prog 146 Vt=true:=by kernel_rfl
theorem Iw {en:Env} (hen:en 146=some (.code Vt)) {e:PV} {es:List PV} (hl:(e :: es).length≤lim):cal en 146 [.list 1 (e :: es)]=some [(.list 1 (e :: es),true)]:=by
 have F1:(es.length+1≤lim)=True:=eq_true (by simpa using hl)
 rw [ah hen rfl]
 simp only [Vt]
 simp only [start,aJ,aT,aH,aS,aA,aB,aI,aO,Nat.reduceAdd,Nat.reduceSub]
 simp only [F1,aO,bI,reduceCtorEq,Nat.reduceEqDiff,Nat.reduceAdd,Nat.reduceLT,Nat.reduceLeDiff,Nat.beq]
theorem QN:∀ args rs,rP 1 args=some rs→callable Tryz.prog 146=true∧lU Tryz.prog 146 args rs:=fun args rs h=>by
 unfold rP at h
 split at h
 case h_2=>cases h
 rename_i sz es
 split at h
 case isFalse=>cases h
 rename_i hc
 obtain ⟨rfl,hl⟩:=hc
 cases h
 cases es with
 |cons e es =>
  obtain ⟨n,hn⟩:=nY (Iw (en:=Nc 146 Vt) (if_pos rfl) hl)
  exact xg (JQ QM) hn
 |nil =>
  refine ⟨by kernel_rfl,fun T0 w vs h1 h2 h3 h4 _=>?_⟩
  match vs,h3 with
  |[v],_ =>
   have hv:=h4 0 _ v rfl rfl
   obtain ⟨a,c,rfl,hsl⟩:=adr hv
   refine (YR (ok:=fun _=>True) hsl (by omega)).mono ?_
   rintro e w' ⟨a',n',c',rfl,hrd,hB⟩
   obtain ⟨v,hv,hb,⟨xs,hown,_⟩,hnil⟩:=hrd
   obtain rfl:Value.slice a' n' c'=v:=by simpa using hv
   rcases hown.2 with ⟨e1,_⟩|⟨g,cap,cur,e1,_,hg,_,hm,hs,_⟩
   ·refine ⟨_,T0,rfl,hB,fun _ _=>rfl,fun b hb=>h2 b (by have:=hB.size;omega),#[_],rfl,rfl,fun i r u hr hu=>?_⟩
    cases i with
    |zero=>cases hr;cases hu;exact .inl ⟨rfl,none,e1⟩
    |succ i=>simp at hr
   ·have hg0:w.heap.size≤g:=hb g (by rw [e1];rfl)
    have hgl:g<w'.heap.size:=(Array.getElem?_eq_some_iff.1 hg).1
    refine ⟨_,fun b=>if b=g then .row (.part 0 0) else T0 b,rfl,hB,fun b hb=>if_neg (by omega),fun b hb=>?_,#[_],rfl,rfl,fun i r u hr hu=>?_⟩
    ·show (if b=g then _ else T0 b)=_
     rw [if_neg (by omega)];exact h2 b (by have:=hB.size;omega)
    ·cases i with
     |zero =>
      cases hr;cases hu
      exact .inr ⟨g,cap,cur,_,e1,if_pos rfl,hg,hs,Nat.zero_le _,hm,(fun e he=>by cases he),fun i e j x hi=>by simp at hi⟩
     |succ i=>simp at hr
end Go.Proofs.YtioijcfcehhmdaaGreatDoor

namespace Go.Proofs.YtioijcfcehhmdaaGreatDoor.V
def okW (l:List iM):Prop:=∀ w∈l,qw w.volume=true∧qw w.start=true
theorem adt {im:iR} {l:List iM} (hw:okW l) (hl:im.length≤1000000) (hr:∀ v∈im,v.length≤1000000):cal env 38 [.list 1 (im.map bF),.list 3 (l.map jL)]=some [(.list 1 ((EY im l).map bF),false),(.int .i64 (apI im l),false),(.int .i64 (DR im l),false)] :=
 (DN akP).trans (Ul hw hl hr)
theorem Ea {im:iR} {l:List iM} (h:DR im l=0):xW (dR im)=0:=by
 unfold DR at h
 split at h
 ·rename_i h2;exact absurd h h2
 ·omega
end Go.Proofs.YtioijcfcehhmdaaGreatDoor.V

namespace Go.Proofs.YtioijcfcehhmdaaGreatDoor.V
def hit (w:iM) (v s:Nat):Bool:=decide (w.volume=(v:Int))&&(decide (w.start≤(s:Int))&&decide ((s:Int) - w.start<w.data.length))
theorem QO {im:iR} {w:iM} (h:xX (dR im) w=0):0≤w.volume∧w.volume<(im.length:Int)∧0<w.data.length∧0≤w.start∧w.start+w.data.length≤((im.getD w.volume.toNat []).length:Int):=by
 unfold xX at h
 have hl:(dR im).length=im.length:=by simp [dR]
 rw [hl] at h
 split at h
 ·omega
 ·rename_i h1
  split at h
  ·omega
  ·rename_i h2
   split at h
   ·omega
   ·rename_i h3
    have h4:w.volume.toNat<im.length:=by omega
    have e:(dR im).getD w.volume.toNat 0=((im.getD w.volume.toNat []).length:Int):=by
     simp only [dR,List.getD_eq_getElem?_getD,List.getElem?_map,List.getElem?_eq_getElem h4,Option.map_some,Option.getD_some]
    rw [e] at h3
    exact ⟨by omega,by omega,by omega,by omega,by omega⟩
theorem VW:∀ (l:List iM) (im:iR) (i:Nat),(rQ (dR im) l i).2=0→∀ w∈l,xX (dR im) w=0
 |[],_,_,_,w,hw=>by cases hw
 |x :: l,im,i,h,w,hw=>by
  unfold rQ at h
  split at h
  ·rename_i h2;exact absurd h h2
  ·rename_i h2
   rcases List.mem_cons.1 hw with rfl|hw
   ·omega
   ·exact VW l im (i+1) h w hw
theorem VX {p:Nat→Bool} {n:Nat}:∀ k,(∀ s,n≤s→p s=false)→ext p (n+k)=ext p n
 |0,_=>rfl
 |k+1,h=>by
  rw [show n+(k+1)=n+k+1 by omega,oD,h (n+k) (by omega)]
  exact VX k h
theorem adu {p:Nat→Bool} {n m:Nat} (h:n≤m) (hp:∀ s,n≤s→p s=false):ext p m=ext p n:=by
 rw [show m=n+(m - n) by omega];exact VX _ hp
end Go.Proofs.YtioijcfcehhmdaaGreatDoor.V

namespace Go.Proofs.YtioijcfcehhmdaaGreatDoor.V
theorem agx {n:Int} (h:0≤n):((lI n).toNat:Int)=lI n:=by unfold lI;omega
def newE (n:Int):Int:=if n<0∨n > 4096 then 2 else 0
def BP (n:Int):Bm:=if n<0∨n > 4096 then ⟨0,[]⟩ else ⟨n,List.replicate (lI n).toNat 0⟩
theorem alI {n:Int}:cal env 83 [.int .i64 n]=some [(jQ (BP n),false),(.int .i64 (newE n),false)]:=by
 have hz:=Gf
 unfold newE BP
 by_cases c0:n<0
 ·rw [if_pos (.inl c0),if_pos (.inl c0),hz]
  have F0:(n<0)=True:=eq_true c0
  rw [ah abG rfl];simp only [Ut,aK,Nat.reduceBEq,Nat.reduceLeDiff,Nat.reduceAdd,List.length_cons,List.length_nil]
  simp only [F0,aN,Nat.reduceMul,Nat.reduceBEq,Nat.reduceLT,Nat.reduceLeDiff,reduceCtorEq,Nat.reduceEqDiff,Nat.reduceAdd,Nat.beq]
 ·have F0:(n<0)=False:=eq_false c0
  by_cases c1:n > 4096
  ·rw [if_pos (.inr c1),if_pos (.inr c1),hz]
   have F1:(n > 4096)=True:=eq_true c1
   rw [ah abG rfl];simp only [Ut,aK,Nat.reduceBEq,Nat.reduceLeDiff,Nat.reduceAdd,List.length_cons,List.length_nil]
   simp only [F0,F1,aN,Nat.reduceMul,Nat.reduceBEq,Nat.reduceLT,Nat.reduceLeDiff,reduceCtorEq,Nat.reduceEqDiff,Nat.reduceAdd,Nat.beq]
  ·have F1:(n > 4096)=False:=eq_false c1
   rw [if_neg (by omega),if_neg (by omega)]
   have e1:=ab5 (n:=n) (by omega)
   have hw:0≤lI n∧lI n≤64:=by unfold lI;omega
   have F3:(0≤lI n)=True:=eq_true hw.1
   have F4:(lI n≤(lim:Int))=True:=eq_true (by unfold lim;omega)
   have F5:(lI n≤lI n)=True:=eq_true (Int.le_refl _)
   have z0:eW 0=.int .u64 0:=rfl
   unfold jQ
   rw [List.map_replicate,z0]
   rw [ah abG rfl];simp only [Ut,aK,Nat.reduceBEq,Nat.reduceLeDiff,Nat.reduceAdd,List.length_cons,List.length_nil]
   simp only [F0,F1,e1,F3,F4,F5,aN,Nat.reduceMul,Nat.reduceBEq,Nat.reduceLT,Nat.reduceLeDiff,reduceCtorEq,Nat.reduceEqDiff,Nat.reduceAdd,Nat.beq]
def Ak (size:Int) (e:eH):Bool:=decide (0≤e.start)&&decide (0≤e.count)&&decide (e.start≤size)&&decide (e.count≤size - e.start)
theorem xE {size:Int} {e:eH}:Ak size e=true ↔ 0≤e.start∧0≤e.count∧e.start≤size∧e.count≤size - e.start:=by
 unfold Ak;simp [and_assoc]
theorem aju {size:Int} {e:eH} (hs:0≤size∧size≤4096):cal env 145 [dW e,.int .i64 size]=some [(.bool (Ak size e),false)]:=by
 unfold Ak dW
 by_cases c0:0≤e.start
 ·have F0:(e.start ≥ 0)=True:=eq_true c0
  rw [decide_eq_true c0]
  by_cases c1:0≤e.count
  ·have F1:(e.count ≥ 0)=True:=eq_true c1
   rw [decide_eq_true c1]
   by_cases c2:e.start≤size
   ·have F2:(e.start≤size)=True:=eq_true c2
    have W:IntKind.i64.wrap (size - e.start)=size - e.start:=bZ (by omega)
    rw [decide_eq_true c2]
    rw [ah LY rfl];simp only [CW,aK,Nat.reduceBEq,Nat.reduceLeDiff,Nat.reduceAdd,List.length_cons,List.length_nil]
    simp only [F0,F1,F2,W,aN,Nat.reduceMul,Nat.reduceBEq,Nat.reduceLT,Nat.reduceLeDiff,reduceCtorEq,Nat.reduceEqDiff,Nat.reduceAdd,Nat.beq]
   ·have F2:(e.start≤size)=False:=eq_false c2
    rw [decide_eq_false c2]
    rw [ah LY rfl];simp only [CW,aK,Nat.reduceBEq,Nat.reduceLeDiff,Nat.reduceAdd,List.length_cons,List.length_nil]
    simp only [F0,F1,F2,aN,Nat.reduceMul,Nat.reduceBEq,Nat.reduceLT,Nat.reduceLeDiff,reduceCtorEq,Nat.reduceEqDiff,Nat.reduceAdd,Nat.beq]
  ·have F1:(e.count ≥ 0)=False:=eq_false c1
   rw [decide_eq_false c1]
   rw [ah LY rfl];simp only [CW,aK,Nat.reduceBEq,Nat.reduceLeDiff,Nat.reduceAdd,List.length_cons,List.length_nil]
   simp only [F0,F1,aN,Nat.reduceMul,Nat.reduceBEq,Nat.reduceLT,Nat.reduceLeDiff,reduceCtorEq,Nat.reduceEqDiff,Nat.reduceAdd,Nat.beq]
 ·have F0:(e.start ≥ 0)=False:=eq_false c0
  rw [decide_eq_false c0]
  rw [ah LY rfl];simp only [CW,aK,Nat.reduceBEq,Nat.reduceLeDiff,Nat.reduceAdd,List.length_cons,List.length_nil]
  simp only [F0,aN,Nat.reduceMul,Nat.reduceBEq,Nat.reduceLT,Nat.reduceLeDiff,reduceCtorEq,Nat.reduceEqDiff,Nat.reduceAdd,Nat.beq]
def chW (f:Wd→Wd→Wd) (ws:List Wd) (e:eH):List Wd:=ws.mapIdx fun k w=>f w (vX k e.start (e.start+e.count))
theorem VY (f:Wd→Wd→Wd) (ws:List Wd) (e:eH):(chW f ws e).length=ws.length:=by simp [chW]
def NG (b:Bm) (e:eH):Int:=if okB b=false then 3 else if Ak b.size e=false then 2 else 0
def VZ (f:Wd→Wd→Wd) (b:Bm) (e:eH):Bm:=if NG b e=0 then ⟨b.size,chW f b.ws e⟩ else ⟨0,[]⟩
def BQ (a b:List Wd) (i:Nat):List PV:=(a.take i++b.drop i).map eW
theorem adw {a b:List Wd} (h:a.length=b.length) (i:Nat):(BQ a b i).length=b.length:=by simp [BQ];omega
theorem adx {a b:List Wd} (h:a.length=b.length) {i:Nat} (hi:i<b.length):(BQ a b i)[i]?=some (eW b[i]):=by
 unfold BQ
 rw [List.getElem?_map,List.getElem?_append_right (by simp;omega),List.length_take,Nat.min_eq_left (by omega),Nat.sub_self,List.getElem?_drop,Nat.add_zero,List.getElem?_eq_getElem hi]
 rfl
theorem ady {a b:List Wd} (h:a.length=b.length) {i:Nat} (hi:i<a.length):(BQ a b i).set i (eW a[i])=BQ a b (i+1):=by
 unfold BQ
 rw [← List.map_set,List.set_append_right _ _ (by simp;omega),List.length_take,Nat.min_eq_left (by omega),Nat.sub_self,List.take_succ_eq_append_getElem hi,List.append_assoc]
 congr 2
 rw [List.drop_eq_getElem_cons (show i<b.length by omega)]
 rfl
theorem YS (a b:List Wd):BQ a b 0=b.map eW:=by simp [BQ]
theorem adz {a b:List Wd} (h:a.length=b.length):BQ a b b.length=a.map eW:=by
 unfold BQ
 rw [List.take_of_length_le (by omega),List.drop_of_length_le (Nat.le_refl _),List.append_nil]
theorem agy {f:Wd→Wd→Wd} {ws:List Wd} {e:eH} {i:Nat} (h:i<(chW f ws e).length) (h2:i<ws.length):(chW f ws e)[i]=f ws[i] (vX i e.start (e.start+e.count)):=by
 simp [chW]
theorem ajv {es:List PV} (hl:es.length≤lim):cal env 146 [.list 1 es]=some [(.list 1 es,true)]:=(DN aix).trans (if_pos ⟨rfl,hl⟩)
set_option maxRecDepth 20000 in
theorem agz {b:Bm} {e:eH} {f:Wd→Wd→Wd} {gf:Nat} (hf:∀ x y,cal env gf [eW x,eW y]=some [(eW (f x y),false)]) (hm:b.ws.length≤64) (he:0≤e.start∧e.start≤4096∧0≤e.count∧e.count≤4096) {st:St} (h:st.head [3,4,5,6,9,25,27,28] st.boxes.length=some ⟨sl 55 [(3,.aV 0 0),(4,.aV 1 0),(5,.aV 2 0),(6,.aV 3 0),(9,.row 1 (BQ (chW f b.ws e) b.ws ((0:Nat)))),(25,.any),(27,.pv (.int .i64 b.ws.length)),(28,.pv (.int .i64 (0:Nat)))],[⟨false,[.pv (.func gf [])]⟩,⟨false,[.pv (.int .i64 b.size),.pv (.list 1 (b.ws.map eW))]⟩,⟨false,[.pv (.int .i64 e.start),.pv (.int .i64 e.count)]⟩,⟨false,[.pv (.int .i64 0),.row 1 []]⟩],[],none⟩) :
  den env Fj st=some (.normal,⟨sl 55 [(4,.aV 1 0),(6,.aV 3 0),(7,.any),(9,.row 1 ((chW f b.ws e).map eW))],[⟨false,[.pv (.func gf [])]⟩,⟨false,[.pv (.int .i64 b.size),.pv (.list 1 (b.ws.map eW))]⟩,⟨false,[.pv (.int .i64 e.start),.pv (.int .i64 e.count)]⟩,⟨false,[.pv (.int .i64 0),.row 1 []]⟩],[],none⟩):=by
 unfold Fj
 refine dG (env:=env) (nb:=4) (b.ws.length) (fun i=>⟨sl 55 [(3,.aV 0 0),(4,.aV 1 0),(5,.aV 2 0),(6,.aV 3 0),(9,.row 1 (BQ (chW f b.ws e) b.ws (i))),(25,.any),(27,.pv (.int .i64 b.ws.length)),(28,.pv (.int .i64 i))],[⟨false,[.pv (.func gf [])]⟩,⟨false,[.pv (.int .i64 b.size),.pv (.list 1 (b.ws.map eW))]⟩,⟨false,[.pv (.int .i64 e.start),.pv (.int .i64 e.count)]⟩,⟨false,[.pv (.int .i64 0),.row 1 []]⟩],[],none⟩) (fun i=>some (.normal,⟨sl 55 [(4,.aV 1 0),(6,.aV 3 0),(7,.any),(9,.row 1 ((chW f b.ws e).map eW))],[⟨false,[.pv (.func gf [])]⟩,⟨false,[.pv (.int .i64 b.size),.pv (.list 1 (b.ws.map eW))]⟩,⟨false,[.pv (.int .i64 e.start),.pv (.int .i64 e.count)]⟩,⟨false,[.pv (.int .i64 0),.row 1 []]⟩],[],none⟩)) h (fun _=>rfl) (fun _=>by simp only [aK,dB,Nat.reduceMul,Nat.reduceBEq,Nat.reduceLT,Nat.reduceLeDiff,Nat.reduceAdd,decide_true,Bool.and_self,Bool.true_and]) ?_ ?_
 ·intro i rb hi ih
  have hi1:=cZ hi (by unfold lim;omega)
  have F1:((i:Int)<(b.ws.length:Int))=True:=eq_true (by omega)
  have hcl:=VY f b.ws e
  have f1:=adw hcl i
  have f2:=adx hcl hi
  have f3:=ady hcl (i:=i) (by omega)
  have e1:=hf b.ws[i] (vX i e.start (e.start+e.count))
  rw [agy (by omega) hi] at f3
  have W:IntKind.i64.wrap (e.start+e.count)=e.start+e.count:=bZ (by omega)
  have e2:=ab6 (k:=i) (a:=e.start) (b:=e.start+e.count) (by omega) (by omega) (by omega)
  unfold eW at e1 e2 f2 f3 ih ⊢
  simp only [Fh,F1,W,e1,e2,f1,f2,f3,ay hi,Option.map_some,List.length_map,aN,Nat.reduceMul,Nat.reduceBEq,Nat.reduceLT,Nat.reduceLeDiff,reduceCtorEq,Nat.reduceEqDiff,Nat.reduceAdd,Nat.beq]
  rw [ih _ (by simp only [hi1,aN,Nat.reduceMul,Nat.reduceBEq,Nat.reduceLT,Nat.reduceLeDiff,reduceCtorEq,Nat.reduceEqDiff,Nat.reduceAdd,Nat.beq]<;>rfl)]
 ·intro rb
  rw [adz (VY f b.ws e)]
  simp only [Fh,Int.lt_irrefl,aN,Nat.reduceMul,Nat.reduceBEq,Nat.reduceLT,Nat.reduceLeDiff,reduceCtorEq,Nat.reduceEqDiff,Nat.reduceAdd,Nat.beq]
theorem ajw {b:Bm} {e:eH} {f:Wd→Wd→Wd} {gf:Nat} (hf:∀ x y,cal env gf [eW x,eW y]=some [(eW (f x y),false)]) :
  cal env 123 [.agg [.func gf []],jQ b,dW e]=some [(jQ (VZ f b e),false),(.int .i64 (NG b e),false)]:=by
 have P:∀ b:Bm,part [PV.int .i64 b.size,.list 1 (b.ws.map eW)] 0 (some 2)=some (jQ b):=fun _=>rfl
 have e1:=Qs (b:=b)
 have Z0:((0:Int) != 0)=false:=rfl
 have Z3:((3:Int) != 0)=true:=rfl
 have hz:=Gf
 have eA:jQ b=.agg [.int .i64 b.size,.list 1 (b.ws.map eW)]:=rfl
 have eX:dW e=.agg [.int .i64 e.start,.int .i64 e.count]:=rfl
 unfold VZ
 cases c1:okB b with
 |false =>
  have hE:NG b e=3:=by unfold NG;rw [if_pos c1]
  rw [hE,if_neg (by decide),hz]
  rw [vZ c1] at e1
  rw [eA] at e1 ⊢;rw [eX]
  rw [ah Uw rfl];simp only [Fp,aK,Nat.reduceBEq,Nat.reduceLeDiff,Nat.reduceAdd,List.length_cons,List.length_nil]
  simp only [e1,Z3,Bo,Bl,EU,aN,Nat.reduceMul,Nat.reduceBEq,Nat.reduceLT,Nat.reduceLeDiff,reduceCtorEq,Nat.reduceEqDiff,Nat.reduceAdd,Nat.beq]
 |true =>
  rw [Bz c1] at e1
  have hsz:=mV c1
  have e2:=aju (size:=b.size) (e:=e) ⟨hsz.1,hsz.2.1⟩
  cases c2:Ak b.size e with
  |false =>
   have hE:NG b e=2:=by unfold NG;rw [if_neg (by rw [c1];decide),if_pos c2]
   rw [hE,if_neg (by decide),hz]
   rw [c2] at e2
   rw [eA] at e1 ⊢;rw [eX] at e2 ⊢
   rw [ah Uw rfl];simp only [Fp,aK,Nat.reduceBEq,Nat.reduceLeDiff,Nat.reduceAdd,List.length_cons,List.length_nil]
   simp only [e1,e2,Z0,aN,Nat.reduceMul,Nat.reduceBEq,Nat.reduceLT,Nat.reduceLeDiff,reduceCtorEq,Nat.reduceEqDiff,Nat.reduceAdd,Nat.beq]
  |true =>
   have hE:NG b e=0:=by unfold NG;rw [if_neg (by rw [c1];decide),if_neg (by rw [c2];decide)]
   rw [hE,if_pos rfl]
   rw [c2] at e2
   have hfi:=xE.1 c2
   have k1:=ajv (es:=b.ws.map eW) (by rw [List.length_map];unfold lim;omega)
   rw [eA] at e1 ⊢;rw [eX] at e2 ⊢
   rw [ah Uw rfl];simp only [Fp,aK,Nat.reduceBEq,Nat.reduceLeDiff,Nat.reduceAdd,List.length_cons,List.length_nil]
   simp only [e1,e2,k1,Z0,List.length_map,aN,Nat.reduceMul,Nat.reduceBEq,Nat.reduceLT,Nat.reduceLeDiff,reduceCtorEq,Nat.reduceEqDiff,Nat.reduceAdd,Nat.beq]
   have q1:b.ws.length≤64:=by omega
   have q2:0≤e.start∧e.start≤4096∧0≤e.count∧e.count≤4096:=by omega
   rw [agz hf q1 q2]
   rotate_left
   ·rw [YS]
    simp only [aK,dB,Nat.reduceMul,Nat.reduceBEq,Nat.reduceLT,Nat.reduceLeDiff,Nat.reduceAdd,decide_true,Bool.and_self,Bool.true_and]<;>rfl
   ·simp only [e1,e2,k1,Z0,List.length_map,aN,Nat.reduceMul,Nat.reduceBEq,Nat.reduceLT,Nat.reduceLeDiff,reduceCtorEq,Nat.reduceEqDiff,Nat.reduceAdd,Nat.beq]
    rfl
theorem ajx (x y:Wd):cal env 122 [eW x,eW y]=some [(eW (x ||| y),false)]:=by
 have W:=alf x y
 unfold eW
 rw [ah aij rfl];simp only [PO];simp only [start,aJ,aT,aH,aS,aA,aB,aI,aO,Nat.reduceAdd,Nat.reduceSub]
 simp only [W,bI,reduceCtorEq,Nat.reduceEqDiff,Nat.reduceAdd,Nat.reduceLT,Nat.reduceLeDiff,Nat.beq]
theorem alJ {b:Bm} {e:eH}:cal env 84 [jQ b,dW e]=some [(jQ (VZ BA b e),false),(.int .i64 (NG b e),false)]:=by
 have e1:=ajw (b:=b) (e:=e) (f:=BA) (gf:=122) ajx
 have eA:∀ a:Bm,jQ a=.agg [.int .i64 a.size,.list 1 (a.ws.map eW)]:=fun _=>rfl
 have eX:dW e=.agg [.int .i64 e.start,.int .i64 e.count]:=rfl
 rw [eA,eA,eX] at e1 ⊢
 rw [ah ak1 rfl];simp only [abg];simp only [start,aJ,aT,aH,aS,aA,aB,aI,aO,Nat.reduceAdd,Nat.reduceSub]
 simp only [e1,bI,reduceCtorEq,Nat.reduceEqDiff,Nat.reduceAdd,Nat.reduceLT,Nat.reduceLeDiff,Nat.beq]
end Go.Proofs.YtioijcfcehhmdaaGreatDoor.V

namespace Go.Proofs.YtioijcfcehhmdaaGreatDoor.V
def xO (b:Bm) (l:List eH):Bm:=l.foldl (fun b e=>VZ BA b e) b
def Y9:Bm→List eH→Int
 |_,[]=>0
 |b,e :: l=>if NG b e=0 then Y9 (VZ BA b e) l else NG b e
def fxE (n:Int) (l:List eH):Int:=if newE n=0 then Y9 (BP n) l else newE n
def fxO (n:Int) (l:List eH):Bm:=if fxE n l=0 then xO (BP n) l else ⟨0,[]⟩
theorem adB {b:Bm} {l:List eH} {k:Nat} (h:k<l.length):Y9 (xO b (l.take k)) (l.drop k)=if NG (xO b (l.take k)) l[k]=0 then Y9 (xO b (l.take (k+1))) (l.drop (k+1)) else NG (xO b (l.take k)) l[k]:=by
 rw [List.drop_eq_getElem_cons h,Y9]
 congr 2
 unfold xO
 rw [List.take_succ_eq_append_getElem h,List.foldl_append]
 rfl
def JR (n:Nat) (b0:Bm) (l:List eH) (e:Int):Option (Ex × St) :=
 if e=0 then some (.normal,⟨sl n [(4,.aV 0 0),(5,.any),(6,.aV 1 0)],[⟨false,[.pv (.int .i64 0),.row 1 []]⟩,⟨false,[.pv (.int .i64 (xO b0 l).size),.pv (.list 1 ((xO b0 l).ws.map eW))]⟩],[],none⟩)
 else some (.ret,⟨sl n [(4,.aV 0 0),(5,.pv (.int .i64 e)),(6,.aV 1 0)],[⟨false,[.pv (.int .i64 0),.pv (.list 1 [])]⟩,⟨false,[.pv (.int .i64 0),.pv (.list 1 [])]⟩],[],none⟩)
theorem adC {l:List eH} {b0:Bm} (hl:l.length≤lim) {st:St} (h:st.head [1,4,6,19,20,21] st.boxes.length=some ⟨sl 37 [(1,.pv (.list 2 (l.map dW))),(4,.aV 0 0),(6,.aV 1 0),(19,.pv (.list 2 (l.map dW))),(20,.pv (.int .i64 l.length)),(21,.pv (.int .i64 (0:Nat)))],[⟨false,[.pv (.int .i64 0),.row 1 []]⟩,⟨false,[.pv (.int .i64 (xO b0 (l.take ((0:Nat)))).size),.pv (.list 1 ((xO b0 (l.take ((0:Nat)))).ws.map eW))]⟩],[],none⟩) :
  den env Ld st=JR 37 b0 l (Y9 (xO b0 (l.take ((0:Nat)))) (l.drop ((0:Nat)))):=by
 unfold Ld
 refine dG (env:=env) (nb:=2) (l.length) (fun i=>⟨sl 37 [(1,.pv (.list 2 (l.map dW))),(4,.aV 0 0),(6,.aV 1 0),(19,.pv (.list 2 (l.map dW))),(20,.pv (.int .i64 l.length)),(21,.pv (.int .i64 i))],[⟨false,[.pv (.int .i64 0),.row 1 []]⟩,⟨false,[.pv (.int .i64 (xO b0 (l.take (i))).size),.pv (.list 1 ((xO b0 (l.take (i))).ws.map eW))]⟩],[],none⟩) (fun i=>JR 37 b0 l (Y9 (xO b0 (l.take (i))) (l.drop (i)))) h (fun _=>rfl) (fun _=>by simp only [aK,dB,Nat.reduceMul,Nat.reduceBEq,Nat.reduceLT,Nat.reduceLeDiff,Nat.reduceAdd,decide_true,Bool.and_self,Bool.true_and]) ?_ ?_
 ·intro i rb hi ih
  have hi1:=cZ hi hl
  have F1:((i:Int)<(l.length:Int))=True:=eq_true (by omega)
  have eA:∀ b:Bm,jQ b=.agg [.int .i64 b.size,.list 1 (b.ws.map eW)]:=fun _=>rfl
  have eX:∀ e:eH,dW e=.agg [.int .i64 e.start,.int .i64 e.count]:=fun _=>rfl
  have P2:∀ a b:PV,part [a,b] 0 (some 2)=some (.agg [a,b]):=fun _ _=>rfl
  have e2:=alJ (b:=xO b0 (l.take i)) (e:=l[i])
  have hx:(l.map dW)[i]?=some (dW l[i]):=by rw [List.getElem?_map,List.getElem?_eq_getElem hi];rfl
  have hs:xO b0 (l.take (i+1))=VZ BA (xO b0 (l.take i)) l[i]:=by unfold xO;rw [List.take_succ_eq_append_getElem hi,List.foldl_append];rfl
  rw [adB hi]
  by_cases c0:NG (xO b0 (l.take i)) l[i]=0
  ·have Z:((0:Int) != 0)=false:=rfl
   rw [if_pos c0]
   rw [c0,← hs] at e2
   generalize xO b0 (l.take i)=p at *
   generalize xO b0 (l.take (i+1))=q at *
   rw [eA,eA,eX] at e2
   rw [eX] at hx
   simp only [DU,F1,Z,hx,e2,P2,ay hi,List.length_map,aN,Nat.reduceMul,Nat.reduceBEq,Nat.reduceLT,Nat.reduceLeDiff,reduceCtorEq,Nat.reduceEqDiff,Nat.reduceAdd,Nat.beq]
   rw [ih _ (by simp only [hi1,aN,Nat.reduceMul,Nat.reduceBEq,Nat.reduceLT,Nat.reduceLeDiff,reduceCtorEq,Nat.reduceEqDiff,Nat.reduceAdd,Nat.beq]<;>rfl)]
  ·have Z:(NG (xO b0 (l.take i)) l[i] != 0)=true:=by simpa using c0
   rw [if_neg c0]
   unfold JR
   rw [if_neg c0]
   have hz:VZ BA (xO b0 (l.take i)) l[i]=⟨0,[]⟩:=by unfold VZ;rw [if_neg c0]
   have hz2:jQ ⟨0,[]⟩=.agg [.int .i64 0,.list 1 []]:=rfl
   rw [hz,hz2] at e2
   generalize xO b0 (l.take i)=p at *
   rw [eA,eX] at e2
   rw [eX] at hx
   simp only [DU,F1,Z,hx,e2,P2,ay hi,List.length_map,aN,Nat.reduceMul,Nat.reduceBEq,Nat.reduceLT,Nat.reduceLeDiff,reduceCtorEq,Nat.reduceEqDiff,Nat.reduceAdd,Nat.beq]
 ·intro rb
  unfold JR
  rw [List.drop_length,List.take_length,Y9,if_pos rfl]
  simp only [DU,Int.lt_irrefl,aN,Nat.reduceMul,Nat.reduceBEq,Nat.reduceLT,Nat.reduceLeDiff,reduceCtorEq,Nat.reduceEqDiff,Nat.reduceAdd,Nat.beq]
theorem alK {l:List eH} {n:Int} (hl:l.length≤lim):cal env 35 [.int .i64 n,.list 2 (l.map dW)]=some [(jQ (fxO n l),false),(.int .i64 (fxE n l),false)]:=by
 have e0:=alI (n:=n)
 have eA:∀ b:Bm,jQ b=.agg [.int .i64 b.size,.list 1 (b.ws.map eW)]:=fun _=>rfl
 have hz2:jQ ⟨0,[]⟩=.agg [.int .i64 0,.list 1 []]:=rfl
 have P2:∀ a b:PV,part [a,b] 0 (some 2)=some (.agg [a,b]):=fun _ _=>rfl
 have Z:((0:Int) != 0)=false:=rfl
 by_cases c0:newE n=0
 ·have hE:fxE n l=Y9 (BP n) l:=by unfold fxE;rw [if_pos c0]
  unfold fxO
  rw [hE]
  rw [c0] at e0
  rw [eA] at e0
  generalize hb:BP n=b0 at *
  by_cases c1:Y9 b0 l=0
  ·rw [if_pos c1,c1,eA]
   rw [ah abB rfl];simp only [Uo,aK,Nat.reduceBEq,Nat.reduceLeDiff,Nat.reduceAdd,List.length_cons,List.length_nil]
   simp only [e0,Z,P2,List.length_map,aN,Nat.reduceMul,Nat.reduceBEq,Nat.reduceLT,Nat.reduceLeDiff,reduceCtorEq,Nat.reduceEqDiff,Nat.reduceAdd,Nat.beq]
   rw [adC (l:=l) (b0:=b0) hl]
   rotate_left
   ·rw [List.take_zero]
    simp only [aK,dB,Nat.reduceMul,Nat.reduceBEq,Nat.reduceLT,Nat.reduceLeDiff,Nat.reduceAdd,decide_true,Bool.and_self,Bool.true_and]<;>rfl
   ·rw [List.take_zero,List.drop_zero]
    unfold JR
    rw [show xO b0 []=b0 from rfl,if_pos c1]
    simp only [e0,Z,P2,List.length_map,aN,Nat.reduceMul,Nat.reduceBEq,Nat.reduceLT,Nat.reduceLeDiff,reduceCtorEq,Nat.reduceEqDiff,Nat.reduceAdd,Nat.beq]
  ·rw [if_neg c1,hz2]
   rw [ah abB rfl];simp only [Uo,aK,Nat.reduceBEq,Nat.reduceLeDiff,Nat.reduceAdd,List.length_cons,List.length_nil]
   simp only [e0,Z,P2,List.length_map,aN,Nat.reduceMul,Nat.reduceBEq,Nat.reduceLT,Nat.reduceLeDiff,reduceCtorEq,Nat.reduceEqDiff,Nat.reduceAdd,Nat.beq]
   rw [adC (l:=l) (b0:=b0) hl]
   rotate_left
   ·rw [List.take_zero]
    simp only [aK,dB,Nat.reduceMul,Nat.reduceBEq,Nat.reduceLT,Nat.reduceLeDiff,Nat.reduceAdd,decide_true,Bool.and_self,Bool.true_and]<;>rfl
   ·rw [List.take_zero,List.drop_zero]
    unfold JR
    rw [show xO b0 []=b0 from rfl,if_neg c1]
    simp only [e0,Z,P2,List.length_map,aN,Nat.reduceMul,Nat.reduceBEq,Nat.reduceLT,Nat.reduceLeDiff,reduceCtorEq,Nat.reduceEqDiff,Nat.reduceAdd,Nat.beq]
 ·have hE:fxE n l=newE n:=by unfold fxE;rw [if_neg c0]
  unfold fxO
  rw [hE,if_neg c0,hz2]
  have Zn:(newE n != 0)=true:=by simpa using c0
  rw [eA] at e0
  rw [ah abB rfl];simp only [Uo,aK,Nat.reduceBEq,Nat.reduceLeDiff,Nat.reduceAdd,List.length_cons,List.length_nil]
  simp only [e0,Zn,P2,List.length_map,aN,Nat.reduceMul,Nat.reduceBEq,Nat.reduceLT,Nat.reduceLeDiff,reduceCtorEq,Nat.reduceEqDiff,Nat.reduceAdd,Nat.beq]
end Go.Proofs.YtioijcfcehhmdaaGreatDoor.V

namespace Go.Proofs.YtioijcfcehhmdaaGreatDoor.V
theorem ajy {n:Nat} (h:n≤4096):newE (n:Int)=0∧okB (BP (n:Int))=true∧(BP (n:Int)).size=(n:Int)∧∀ s,bit (BP (n:Int)).ws s=false:=by
 have e1:newE (n:Int)=0:=by unfold newE;rw [if_neg (by omega)]
 have e2:BP (n:Int)=⟨n,List.replicate (lI n).toNat 0⟩:=by unfold BP;rw [if_neg (by omega)]
 have hb:∀ s,bit (List.replicate (lI n).toNat (0:Wd)) s=false:=fun s=>by
  unfold bit
  rw [List.getD_eq_getElem?_getD,List.getElem?_replicate]
  split<;>simp
 rw [e2]
 refine ⟨e1,kF.2 ⟨⟨by show (0:Int)≤(n:Int);omega,by show (n:Int)≤4096;omega,?_⟩,fun i _=>hb i⟩,rfl,hb⟩
 show ((List.replicate (lI n).toNat (0:Wd)).length:Int)=lI n
 rw [List.length_replicate]
 exact agx (by omega)
theorem agA (ws:List Wd) (e:eH):chW BA ws e=setW ws e.start (e.start+e.count):=rfl
theorem ajz {b:Bm} {e:eH} (h:okB b=true) (hf:Ak b.size e=true):NG b e=0∧okB (VZ BA b e)=true∧(VZ BA b e).size=b.size∧∀ s:Nat,(s:Int)<b.size→bit (VZ BA b e).ws s=(bit b.ws s || decide (e.start≤(s:Int)∧(s:Int)<e.start+e.count)):=by
 have hE:NG b e=0:=by unfold NG;rw [if_neg (by rw [h];decide),if_neg (by rw [hf];decide)]
 have hO:VZ BA b e=⟨b.size,setW b.ws e.start (e.start+e.count)⟩:=by unfold VZ;rw [if_pos hE,agA]
 have hs:=mV h
 have hf:=xE.1 hf
 rw [hO]
 have hl:(setW b.ws e.start (e.start+e.count)).length=b.ws.length:=by simp [setW]
 refine ⟨hE,kF.2 ⟨⟨hs.1,hs.2.1,?_⟩,fun i hi=>?_⟩,rfl,fun s hlt=>VA (by omega)⟩
 ·show ((setW b.ws e.start (e.start+e.count)).length:Int)=_
  rw [hl];exact (kF.1 h).1.2.2
 ·have hi:b.size≤(i:Int):=hi
  by_cases c:i<64 * b.ws.length
  ·show bit (setW b.ws e.start (e.start+e.count)) i=false
   rw [VA c,(kF.1 h).2 i hi,decide_eq_false (by omega)]
   rfl
  ·exact DZ (by show 64 * (setW b.ws e.start (e.start+e.count)).length≤i;rw [hl];omega)
end Go.Proofs.YtioijcfcehhmdaaGreatDoor.V

namespace Go.Proofs.YtioijcfcehhmdaaGreatDoor.V
theorem agB {size:Int} {e:eH} (h:Ak size e=true) (s:Nat):UG e s=decide (e.start≤(s:Int)∧(s:Int)<e.start+e.count):=by
 have h:=xE.1 h
 unfold UG
 rw [Bool.eq_iff_iff]
 simp only [Bool.and_eq_true,decide_eq_true_eq]
 omega
theorem ahg:∀ (l:List eH) {b:Bm},okB b=true→(∀ e∈l,Ak b.size e=true)→Y9 b l=0∧okB (xO b l)=true∧(xO b l).size=b.size∧∀ s:Nat,(s:Int)<b.size→bit (xO b l).ws s=(bit b.ws s || wY l s)
 |[],b,h,_=>⟨rfl,h,rfl,fun s _=>by simp [xO,wY]⟩
 |e :: l,b,h,hf=>by
  obtain ⟨k1,k2,k3,k4⟩:=ajz h (hf e (by simp))
  obtain ⟨g1,g2,g3,g4⟩:=ahg l k2 (fun x hx=>by rw [k3];exact hf x (by simp [hx]))
  refine ⟨?_,g2,g3.trans k3,fun s hs=>?_⟩
  ·unfold Y9
   rw [if_pos k1]
   exact g1
  ·have:=g4 s (by rw [k3];exact hs)
   show bit (xO (VZ BA b e) l).ws s=_
   rw [this,k4 s hs,← agB (hf e (by simp)) s,Bool.or_assoc]
   rfl
theorem alL {n:Nat} {l:List eH} (hn:n≤4096) (h:∀ e∈l,0≤e.start∧1≤e.count∧e.start+e.count≤(n:Int)):fxE n l=0∧fxO n l=xO (BP n) l∧okB (fxO n l)=true∧(fxO n l).size=(n:Int)∧∀ s:Nat,s<n→bit (fxO n l).ws s=wY l s:=by
 obtain ⟨h1,h2,h3,h4⟩:=ajy hn
 obtain ⟨g1,g2,g3,g4⟩:=ahg l h2 (fun e he=>by
  obtain ⟨q1,q2,q3⟩:=h e he
  rw [h3]
  exact xE.2 (by omega))
 have e1:fxE n l=0:=by unfold fxE;rw [if_pos h1];exact g1
 have e2:fxO n l=xO (BP n) l:=by unfold fxO;rw [if_pos e1]
 rw [e2]
 refine ⟨e1,rfl,g2,g3.trans h3,fun s hs=>?_⟩
 rw [g4 s (by rw [h3];omega),h4 s,Bool.false_or]
end Go.Proofs.YtioijcfcehhmdaaGreatDoor.V

namespace Go.Proofs.YtioijcfcehhmdaaGreatDoor.V
structure qK where
 im:iR
 o:List iM
 n:List iM
 rs:List (List iM)
def GX (l:List iM):PV:=.list 3 (l.map jL)
theorem agC (l:List iM):GX l=.list 3 (l.map jL):=rfl
theorem agD {l:List (List iM)} {i:Nat} (h:i<l.length):(l.map GX)[i]?=some (.list 3 (l[i].map jL)):=by rw [List.getElem?_map,List.getElem?_eq_getElem h];rfl
theorem agE {l:List iM} {i:Nat} (h:i<l.length):(l.map jL)[i]?=some (.agg [.int .i64 l[i].volume,.int .i64 l[i].start,.list 8 (l[i].data.map ni)]):=by rw [List.getElem?_map,List.getElem?_eq_getElem h];rfl
theorem alM {l:List Int} {i:Nat} (h:i<l.length):(l.map eI)[i]?=some (.int .i64 l[i]):=by rw [List.getElem?_map,List.getElem?_eq_getElem h];rfl
theorem adD {im:iR} {v:Nat} (h:v<im.length):(im.map bF)[v]?=some (.list 8 (im[v].map ni)):=by rw [List.getElem?_map,List.getElem?_eq_getElem h];rfl
def QS (x:qK):PV:=.agg [.list 1 (x.im.map bF),.list 3 (x.o.map jL),.list 3 (x.n.map jL),.list 1 (x.rs.map GX)]
theorem Am (x:qK):QS x=.agg [.list 1 (x.im.map bF),.list 3 (x.o.map jL),.list 3 (x.n.map jL),.list 1 (x.rs.map GX)]:=rfl
def bOut (x:qK):List BV:=[.pv (.list 1 (x.im.map bF)),.pv (.list 3 (x.o.map jL)),.pv (.list 3 (x.n.map jL)),.pv (.list 1 (x.rs.map GX))]
theorem kG (x:qK):bOut x=[.pv (.list 1 (x.im.map bF)),.pv (.list 3 (x.o.map jL)),.pv (.list 3 (x.n.map jL)),.pv (.list 1 (x.rs.map GX))]:=rfl
theorem Nj {im:iR} {i:Nat} (h:i<im.length):((au im).take (i+1)).map eI=((au im).take i).map eI++[.int .i64 (im[i].length:Int)]:=by
 have hi:i<(au im).length:=by simpa [au] using h
 rw [List.take_succ_eq_append_getElem hi,List.map_append]
 simp [au,eI]
theorem ajA {x:qK} (hi0:x.im.length≤lim) {st:St} (h:st.head [3,7,8,9,17] st.boxes.length=some ⟨sl 20 [(3,.row 1 (((au x.im).take ((0:Nat))).map eI)),(7,.pv (.list 1 (x.im.map bF))),(8,.pv (.int .i64 x.im.length)),(9,.pv (.int .i64 (0:Nat))),(17,.any)],[⟨false,bOut x⟩],[],none⟩) :
  den env Lm st=some (.normal,⟨sl 20 [(2,.any),(3,.row 1 ((au x.im).map eI))],[⟨false,bOut x⟩],[],none⟩):=by
 unfold Lm
 refine dG (env:=env) (nb:=1) (x.im.length) (fun i=>⟨sl 20 [(3,.row 1 (((au x.im).take (i)).map eI)),(7,.pv (.list 1 (x.im.map bF))),(8,.pv (.int .i64 x.im.length)),(9,.pv (.int .i64 i)),(17,.any)],[⟨false,bOut x⟩],[],none⟩) (fun i=>some (.normal,⟨sl 20 [(2,.any),(3,.row 1 ((au x.im).map eI))],[⟨false,bOut x⟩],[],none⟩)) h (fun _=>rfl) (fun _=>by simp only [aK,dB,Nat.reduceMul,Nat.reduceBEq,Nat.reduceLT,Nat.reduceLeDiff,Nat.reduceAdd,decide_true,Bool.and_self,Bool.true_and]) ?_ ?_
 ·intro i rb hi ih
  have hi1:=cZ hi hi0
  have F1:((i:Int)<(x.im.length:Int))=True:=eq_true (by omega)
  have hy:=adD hi
  have e5:=Nj hi
  have F2:(((au x.im).take i).map eI).length+1≤lim:=by simp [au];omega
  have F2:=eq_true F2
  rw [List.length_map] at F2
  simp only [Ll,F1,F2,hy,kG,ay hi,List.length_map,aN,Nat.reduceMul,Nat.reduceBEq,Nat.reduceLT,Nat.reduceLeDiff,reduceCtorEq,Nat.reduceEqDiff,Nat.reduceAdd,Nat.beq]
  rw [ih _ (by simp only [hi1];rw [e5];simp only [kG,aN,Nat.reduceMul,Nat.reduceBEq,Nat.reduceLT,Nat.reduceLeDiff,reduceCtorEq,Nat.reduceEqDiff,Nat.reduceAdd,Nat.beq]<;>rfl)]
  all_goals rfl
 ·intro rb
  have e9:(au x.im).take x.im.length=au x.im:=List.take_of_length_le (by simp [au])
  rw [e9]
  simp only [Ll,Int.lt_irrefl,kG,List.length_map,aN,Nat.reduceMul,Nat.reduceBEq,Nat.reduceLT,Nat.reduceLeDiff,reduceCtorEq,Nat.reduceEqDiff,Nat.reduceAdd,Nat.beq]
theorem alN {x:qK} (hi0:x.im.length≤lim):cal env 40 [QS x]=some [(.list 1 ((au x.im).map eI),true)]:=by
 rw [Am]
 rw [ah akR rfl];simp only [aa4,aK,Nat.reduceBEq,Nat.reduceLeDiff,Nat.reduceAdd,List.length_cons,List.length_nil]
 simp only [List.length_map,aN,Nat.reduceMul,Nat.reduceBEq,Nat.reduceLT,Nat.reduceLeDiff,reduceCtorEq,Nat.reduceEqDiff,Nat.reduceAdd,Nat.beq]
 rw [ajA (x:=x) hi0 (by simp only [List.take_zero,List.map_nil,kG];simp only [aK,dB,Nat.reduceMul,Nat.reduceBEq,Nat.reduceLT,Nat.reduceLeDiff,Nat.reduceAdd,decide_true,Bool.and_self,Bool.true_and]<;>rfl)]
 simp only [kG,aN,Nat.reduceMul,Nat.reduceBEq,Nat.reduceLT,Nat.reduceLeDiff,reduceCtorEq,Nat.reduceEqDiff,Nat.reduceAdd,Nat.beq]
def Nk (im:iR) (l:List (List iM)):Bool:=l.all fun w=>decide (DR im w=0)&&GH w
def YT (x:qK):Bool:=UA x.im&&(decide (x.rs.length≤8)&&Nk x.im (x.o :: x.n :: x.rs))
theorem YU {im:iR} {l:List (List iM)} {i:Nat} (h:i<l.length):Nk im (l.drop i)=((decide (DR im l[i]=0)&&GH l[i])&&Nk im (l.drop (i+1))):=by
 unfold Nk
 rw [List.drop_eq_getElem_cons h,List.all_cons]
def YV (x:qK) (b:Bool):Option (Ex × St):=if b then some (.normal,⟨sl 49 [(2,.any)],[⟨false,bOut x⟩],[],none⟩) else some (.ret,⟨sl 49 [(2,.pv (.bool false))],[⟨false,bOut x⟩],[],none⟩)
def okO (x:qK):Prop:=okW x.o∧okW x.n∧∀ l∈x.rs,okW l
theorem agF {x:qK} (h:okO x):∀ l∈x.o :: x.n :: x.rs,okW l:=fun l hl=>by
 rcases List.mem_cons.1 hl with rfl|hl
 ·exact h.1
 ·rcases List.mem_cons.1 hl with rfl|hl
  ·exact h.2.1
  ·exact h.2.2 l hl
theorem ajB {x:qK} {L:List (List iM)} (ho:∀ l∈L,okW l) (hL:L.length≤lim) (hi0:x.im.length≤1000000) (hr:∀ v∈x.im,v.length≤1000000) {st:St} (h:st.head [1,3,16,27,28,29] st.boxes.length=some ⟨sl 49 [(1,.aV 0 0),(3,.row 1 (L.map GX)),(16,.any),(27,.ref (.slot 3) 0 L.length),(28,.pv (.int .i64 L.length)),(29,.pv (.int .i64 (0:Nat)))],[⟨false,bOut x⟩],[],none⟩) :
  den env Lc st=YV x (Nk x.im (L.drop ((0:Nat)))):=by
 unfold Lc
 refine dG (env:=env) (nb:=1) (L.length) (fun i=>⟨sl 49 [(1,.aV 0 0),(3,.row 1 (L.map GX)),(16,.any),(27,.ref (.slot 3) 0 L.length),(28,.pv (.int .i64 L.length)),(29,.pv (.int .i64 i))],[⟨false,bOut x⟩],[],none⟩) (fun i=>YV x (Nk x.im (L.drop (i)))) h (fun _=>rfl) (fun _=>by simp only [aK,dB,Nat.reduceMul,Nat.reduceBEq,Nat.reduceLT,Nat.reduceLeDiff,Nat.reduceAdd,decide_true,Bool.and_self,Bool.true_and]) ?_ ?_
 ·intro i rb hi ih
  have hi1:=cZ hi hL
  have F1:((i:Int)<(L.length:Int))=True:=eq_true (by omega)
  have hy:=agD hi
  have e1:=adt (im:=x.im) (l:=L[i]) (ho _ (List.getElem_mem hi)) hi0 hr
  have e2:=alA (l:=L[i])
  rw [YU hi]
  by_cases c1:DR x.im L[i]=0
  ·have Z0:((0:Int) != 0)=false:=rfl
   rw [c1] at e1
   rw [decide_eq_true c1,Bool.true_and]
   cases c2:GH L[i] with
   |true =>
    rw [c2] at e2
    rw [Bool.true_and]
    simp only [zS,F1,hy,e1,e2,Z0,kG,ay hi,List.length_map,aN,Nat.reduceMul,Nat.reduceBEq,Nat.reduceLT,Nat.reduceLeDiff,reduceCtorEq,Nat.reduceEqDiff,Nat.reduceAdd,Nat.beq]
    rw [ih _ (by simp only [hi1,kG,aN,Nat.reduceMul,Nat.reduceBEq,Nat.reduceLT,Nat.reduceLeDiff,reduceCtorEq,Nat.reduceEqDiff,Nat.reduceAdd,Nat.beq]<;>rfl)]
    all_goals rfl
   |false =>
    rw [c2] at e2
    rw [Bool.false_and]
    unfold YV
    rw [if_neg (by decide)]
    simp only [zS,F1,hy,e1,e2,Z0,kG,ay hi,List.length_map,aN,Nat.reduceMul,Nat.reduceBEq,Nat.reduceLT,Nat.reduceLeDiff,reduceCtorEq,Nat.reduceEqDiff,Nat.reduceAdd,Nat.beq]
  ·have Z:(DR x.im L[i] != 0)=true:=by simp [c1]
   rw [decide_eq_false c1,Bool.false_and,Bool.false_and]
   unfold YV
   rw [if_neg (by decide)]
   simp only [zS,F1,hy,e1,e2,Z,kG,ay hi,List.length_map,aN,Nat.reduceMul,Nat.reduceBEq,Nat.reduceLT,Nat.reduceLeDiff,reduceCtorEq,Nat.reduceEqDiff,Nat.reduceAdd,Nat.beq]
 ·intro rb
  rw [List.drop_length]
  unfold Nk YV
  rw [List.all_nil,if_pos rfl]
  simp only [zS,Int.lt_irrefl,kG,List.length_map,aN,Nat.reduceMul,Nat.reduceBEq,Nat.reduceLT,Nat.reduceLeDiff,reduceCtorEq,Nat.reduceEqDiff,Nat.reduceAdd,Nat.beq]
theorem V3 {im:iR} (h:UA im=true):im.length≤9∧∀ v∈im,v.length≤24:=by
 unfold UA at h
 simp only [Bool.and_eq_true,decide_eq_true_eq] at h
 exact ⟨h.1,fun v hv=>by simpa using List.all_eq_true.1 h.2 v hv⟩
theorem alO {x:qK} (ho:okO x) (apN:x.rs.length+2≤Rk):cal env 22 [QS x]=some [(.bool (YT x),false)]:=by
 have hlim:lim=1073741824:=rfl
 have e0:=ald (im:=x.im)
 have F0:=eq_true (show 2+x.rs.length≤Rk by omega)
 unfold YT
 rw [Am]
 cases h7:UA x.im with
 |false =>
  rw [h7] at e0
  rw [ah abA rfl];simp only [Un,aK,Nat.reduceBEq,Nat.reduceLeDiff,Nat.reduceAdd,List.length_cons,List.length_nil]
  simp only [e0,F0,List.length_map,List.length_cons,List.length_nil,Nat.reduceAdd,aN,Nat.reduceMul,Nat.reduceBEq,Nat.reduceLT,Nat.reduceLeDiff,reduceCtorEq,Nat.reduceEqDiff,Nat.beq]
 |true =>
  rw [h7] at e0
  obtain ⟨a1,a2⟩:=V3 h7
  by_cases c:x.rs.length≤8
  ·have F1:((x.rs.length:Int) > 8)=False:=eq_false (by omega)
   rw [decide_eq_true c]
   simp only [Bool.true_and]
   rw [ah abA rfl];simp only [Un,aK,Nat.reduceBEq,Nat.reduceLeDiff,Nat.reduceAdd,List.length_cons,List.length_nil]
   simp only [e0,F0,F1,List.length_map,List.length_cons,List.length_nil,Nat.reduceAdd,aN,Nat.reduceMul,Nat.reduceBEq,Nat.reduceLT,Nat.reduceLeDiff,reduceCtorEq,Nat.reduceEqDiff,Nat.beq]
   rw [ajB (x:=x) (L:=x.o :: x.n :: x.rs) (agF ho) (by simp;omega) (by omega) (fun v hv=>by have:=a2 v hv;omega) (by simp only [kG,List.map_cons,List.length_cons,List.length_map,agC];simp only [aK,dB,Nat.reduceMul,Nat.reduceBEq,Nat.reduceLT,Nat.reduceLeDiff,Nat.reduceAdd,decide_true,Bool.and_self,Bool.true_and]<;>rfl)]
   rw [List.drop_zero]
   unfold YV
   cases Nk x.im (x.o :: x.n :: x.rs) with
   |true=>rw [if_pos rfl];simp only [kG,aN,Nat.reduceMul,Nat.reduceBEq,Nat.reduceLT,Nat.reduceLeDiff,reduceCtorEq,Nat.reduceEqDiff,Nat.reduceAdd,Nat.beq]
   |false=>rw [if_neg (by decide)];simp only [kG,aN,Nat.reduceMul,Nat.reduceBEq,Nat.reduceLT,Nat.reduceLeDiff,reduceCtorEq,Nat.reduceEqDiff,Nat.reduceAdd,Nat.beq]
  ·have F1:((x.rs.length:Int) > 8)=True:=eq_true (by omega)
   rw [decide_eq_false c]
   rw [ah abA rfl];simp only [Un,aK,Nat.reduceBEq,Nat.reduceLeDiff,Nat.reduceAdd,List.length_cons,List.length_nil]
   simp only [e0,F0,F1,List.length_map,List.length_cons,List.length_nil,Nat.reduceAdd,aN,Nat.reduceMul,Nat.reduceBEq,Nat.reduceLT,Nat.reduceLeDiff,reduceCtorEq,Nat.reduceEqDiff,Nat.beq]
end Go.Proofs.YtioijcfcehhmdaaGreatDoor.V

namespace Go.Proofs.YtioijcfcehhmdaaGreatDoor.V
def wX8 (w:iM):eH:=⟨w.start,w.data.length⟩
def xP (v:Nat) (l:List iM):List eH:=(l.filter fun w=>decide (w.volume=(v:Int))).map wX8
theorem agG {v:Nat} {l:List iM} {i:Nat} (h:i<l.length) (c:l[i].volume=(v:Int)):xP v (l.take (i+1))=xP v (l.take i)++[wX8 l[i]]:=by
 unfold xP
 rw [List.take_succ_eq_append_getElem h,List.filter_append,List.map_append,List.filter_cons_of_pos (by simpa using c)]
 rfl
theorem ajC {v:Nat} {l:List iM} {i:Nat} (h:i<l.length) (c:¬ l[i].volume=(v:Int)):xP v (l.take (i+1))=xP v (l.take i):=by
 unfold xP
 rw [List.take_succ_eq_append_getElem h,List.filter_append,List.map_append,List.filter_cons_of_neg (by simpa using c)]
 simp
theorem V4 (v:Nat) (l:List iM):(xP v l).length≤l.length:=by
 unfold xP;rw [List.length_map];exact List.length_filter_le ..
def qF (im:iR) (l:List iM):Prop:=∀ w∈l,xX (dR im) w=0
theorem V5 {im:iR} {l:List iM} (h:qF im l) {v:Nat}:∀ e∈xP v l,0≤e.start∧1≤e.count∧e.start+e.count≤((im.getD v []).length:Int):=fun e he=>by
 unfold xP at he
 obtain ⟨w,hw,rfl⟩:=List.mem_map.1 he
 obtain ⟨hw,hc⟩:=List.mem_filter.1 hw
 have hc:w.volume=(v:Int):=by simpa using hc
 obtain ⟨q1,q2,q3,q4,q5⟩:=QO (h w hw)
 have e1:w.volume.toNat=v:=by omega
 rw [e1] at q5
 unfold wX8
 refine ⟨q4,?_,q5⟩
 show (1:Int)≤(w.data.length:Int)
 omega
theorem Nl {im:iR} {k:Nat} (hr:∀ v∈im,v.length≤k) (v:Nat):(im.getD v []).length≤k:=by
 by_cases h:v<im.length
 ·rw [getD_lt h];exact hr _ (List.getElem_mem h)
 ·simp [List.getD_eq_getElem?_getD,List.getElem?_eq_none (Nat.le_of_not_lt h)]
theorem ajD {im:iR} {l:List iM} (h:qF im l) (hr:∀ v∈im,v.length≤4096) (v:Nat):Me (xP v l):=fun e he=>by
 have:=V5 h e he
 have:=Nl hr v
 unfold okE
 omega
theorem agH {l:List eH} {n:Int} (h:∀ e∈l,0≤e.start∧1≤e.count∧e.start+e.count≤n) {s:Nat} (hs:n≤(s:Int)):wY l s=false:=by
 unfold wY
 rw [List.any_eq_false]
 intro e he
 have:=h e he
 unfold UG
 simp only [Bool.and_eq_true,decide_eq_true_eq]
 omega
theorem adE {im:iR} {l:List iM} (h:qF im l) (hr:∀ v∈im,v.length≤4096) (v:Nat):orS (xP v l)=ext (wY (xP v l)) (im.getD v []).length:=by
 have e1:orS (xP v l)=ext (wY (xP v l)) 4096:=by
  unfold orS setOf
  refine JA fun s _=>?_
  unfold orB
  cases wY (xP v l) s<;>rfl
 rw [e1]
 exact adu (Nl hr v) fun s hs=>agH (V5 h) (by omega)
def mB (im:iR) (l:List iM) (v:Nat):Bm:=fxO ((im.getD v []).length:Int) (orS (xP v l))
theorem adF {im:iR} {l:List iM} (h:qF im l) (hr:∀ v∈im,v.length≤4096) (v:Nat):fxE ((im.getD v []).length:Int) (orS (xP v l))=0∧okB (mB im l v)=true∧(mB im l v).size=((im.getD v []).length:Int)∧∀ s:Nat,s<(im.getD v []).length→bit (mB im l v).ws s=wY (xP v l) s:=by
 obtain ⟨g1,g2,g3,g4,g5⟩:=alL (n:=(im.getD v []).length) (l:=orS (xP v l)) (Nl hr v) (fun e he=>by
  rw [adE h hr v] at he
  exact MJ _ _ e he)
 refine ⟨g1,g3,g4,fun s hs=>?_⟩
 unfold mB
 rw [g5 s hs,adE h hr v,ML,decide_eq_true hs,Bool.true_and]
def sS (im:iR) (l:List iM):List Bm:=(List.range im.length).map (mB im l)
theorem adG (im:iR) (l:List iM) (i:Nat):((List.range (i+1)).map (mB im l)).map jQ=((List.range i).map (mB im l)).map jQ++[.agg [.int .i64 (mB im l i).size,.list 1 ((mB im l i).ws.map eW)]]:=by
 rw [List.range_succ,List.map_append,List.map_append];rfl
theorem ajE {im:iR} {l:List iM} {v:Nat} {n:Int} {r:List Bm} (hl:l.length≤1000) {st:St} (h:st.head [0,1,6,7,8,9,14,15,16,21,22,23,39,53] st.boxes.length=some ⟨sl 56 [(0,.pv (.list 1 ((au im).map eI))),(1,.pv (.list 3 (l.map jL))),(6,.row 2 (r.map jQ)),(7,.pv (.int .i64 v)),(8,.pv (.int .i64 n)),(9,.row 2 ((xP v (l.take ((0:Nat)))).map dW)),(14,.pv (.list 1 ((au im).map eI))),(15,.pv (.int .i64 im.length)),(16,.pv (.int .i64 v)),(21,.pv (.list 3 (l.map jL))),(22,.pv (.int .i64 l.length)),(23,.pv (.int .i64 (0:Nat))),(39,.any),(53,.any)],[],[],none⟩) :
  den env Le st=some (.normal,⟨sl 56 [(0,.pv (.list 1 ((au im).map eI))),(1,.pv (.list 3 (l.map jL))),(4,.any),(5,.any),(6,.row 2 (r.map jQ)),(8,.pv (.int .i64 n)),(9,.row 2 ((xP v l).map dW)),(14,.pv (.list 1 ((au im).map eI))),(15,.pv (.int .i64 im.length)),(16,.pv (.int .i64 v)),(39,.any),(53,.any)],[],[],none⟩):=by
 unfold Le
 refine dG (env:=env) (nb:=0) (l.length) (fun i=>⟨sl 56 [(0,.pv (.list 1 ((au im).map eI))),(1,.pv (.list 3 (l.map jL))),(6,.row 2 (r.map jQ)),(7,.pv (.int .i64 v)),(8,.pv (.int .i64 n)),(9,.row 2 ((xP v (l.take (i))).map dW)),(14,.pv (.list 1 ((au im).map eI))),(15,.pv (.int .i64 im.length)),(16,.pv (.int .i64 v)),(21,.pv (.list 3 (l.map jL))),(22,.pv (.int .i64 l.length)),(23,.pv (.int .i64 i)),(39,.any),(53,.any)],[],[],none⟩) (fun i=>some (.normal,⟨sl 56 [(0,.pv (.list 1 ((au im).map eI))),(1,.pv (.list 3 (l.map jL))),(4,.any),(5,.any),(6,.row 2 (r.map jQ)),(8,.pv (.int .i64 n)),(9,.row 2 ((xP v l).map dW)),(14,.pv (.list 1 ((au im).map eI))),(15,.pv (.int .i64 im.length)),(16,.pv (.int .i64 v)),(39,.any),(53,.any)],[],[],none⟩)) h (fun _=>rfl) (fun _=>by simp only [aK,dB,Nat.reduceMul,Nat.reduceBEq,Nat.reduceLT,Nat.reduceLeDiff,Nat.reduceAdd,decide_true,Bool.and_self,Bool.true_and]) ?_ ?_
 ·intro i rb hi ih
  have hlim:lim=1073741824:=rfl
  have hi1:=cZ hi (Nat.le_trans hl (by decide))
  have F1:((i:Int)<(l.length:Int))=True:=eq_true (by omega)
  have hx:=agE hi
  have P3:∀ a b c:PV,part [a,b,c] 0 (some 3)=some (.agg [a,b,c]):=fun _ _ _=>rfl
  have h1:=V4 v (l.take i)
  have h2:(l.take i).length≤l.length:=by rw [List.length_take];omega
  have F3:=eq_true (show (xP v (l.take i)).length+1≤lim by omega)
  by_cases c:l[i].volume=(v:Int)
  ·have F2:(l[i].volume==(v:Int))=true:=by simp [c]
   have hs:(xP v (l.take (i+1))).map dW=(xP v (l.take i)).map dW++[.agg [.int .i64 l[i].start,.int .i64 l[i].data.length]]:=by rw [agG hi c,List.map_append];rfl
   simp only [DV,F1,F2,F3,hx,P3,ay hi,List.length_map,aN,Nat.reduceMul,Nat.reduceBEq,Nat.reduceLT,Nat.reduceLeDiff,reduceCtorEq,Nat.reduceEqDiff,Nat.reduceAdd,Nat.beq]
   rw [ih _ (by simp only [hi1];rw [hs];simp only [aN,Nat.reduceMul,Nat.reduceBEq,Nat.reduceLT,Nat.reduceLeDiff,reduceCtorEq,Nat.reduceEqDiff,Nat.reduceAdd,Nat.beq]<;>rfl)]
  ·have F2:(l[i].volume==(v:Int))=false:=by simp [c]
   simp only [DV,F1,F2,F3,hx,P3,ay hi,List.length_map,aN,Nat.reduceMul,Nat.reduceBEq,Nat.reduceLT,Nat.reduceLeDiff,reduceCtorEq,Nat.reduceEqDiff,Nat.reduceAdd,Nat.beq]
   rw [ih _ (by simp only [hi1];rw [ajC hi c];simp only [aN,Nat.reduceMul,Nat.reduceBEq,Nat.reduceLT,Nat.reduceLeDiff,reduceCtorEq,Nat.reduceEqDiff,Nat.reduceAdd,Nat.beq]<;>rfl)]
 ·intro rb
  rw [List.take_length]
  simp only [DV,Int.lt_irrefl,List.length_map,aN,Nat.reduceMul,Nat.reduceBEq,Nat.reduceLT,Nat.reduceLeDiff,reduceCtorEq,Nat.reduceEqDiff,Nat.reduceAdd,Nat.beq]
theorem adH {im:iR} {l:List iM} (hl:l.length≤1000) (hf:qF im l) (hi0:im.length≤1000) (hr:∀ v∈im,v.length≤4096) {st:St} (h:st.head [0,1,6,14,15,16,39,53] st.boxes.length=some ⟨sl 56 [(0,.pv (.list 1 ((au im).map eI))),(1,.pv (.list 3 (l.map jL))),(6,.row 2 (((List.range ((0:Nat))).map (mB im l)).map jQ)),(14,.pv (.list 1 ((au im).map eI))),(15,.pv (.int .i64 im.length)),(16,.pv (.int .i64 (0:Nat))),(39,.any),(53,.any)],[],[],none⟩) :
  den env Lj st=some (.normal,⟨sl 56 [(4,.any),(5,.any),(6,.row 2 ((sS im l).map jQ))],[],[],none⟩):=by
 unfold Lj
 refine dG (env:=env) (nb:=0) (im.length) (fun i=>⟨sl 56 [(0,.pv (.list 1 ((au im).map eI))),(1,.pv (.list 3 (l.map jL))),(6,.row 2 (((List.range (i)).map (mB im l)).map jQ)),(14,.pv (.list 1 ((au im).map eI))),(15,.pv (.int .i64 im.length)),(16,.pv (.int .i64 i)),(39,.any),(53,.any)],[],[],none⟩) (fun i=>some (.normal,⟨sl 56 [(4,.any),(5,.any),(6,.row 2 ((sS im l).map jQ))],[],[],none⟩)) h (fun _=>rfl) (fun _=>by simp only [aK,dB,Nat.reduceMul,Nat.reduceBEq,Nat.reduceLT,Nat.reduceLeDiff,Nat.reduceAdd,decide_true,Bool.and_self,Bool.true_and]) ?_ ?_
 ·intro i rb hi ih
  have hlim:lim=1073741824:=rfl
  have hi1:=cZ hi (Nat.le_trans hi0 (by decide))
  have F1:((i:Int)<(im.length:Int))=True:=eq_true (by omega)
  have hil:i<(au im).length:=by simpa [au] using hi
  have hx:((au im).map eI)[i]?=some (.int .i64 ((im.getD i []).length:Int)):=by
   rw [alM hil,getD_lt hi];simp [au]
  have P2:∀ a b:PV,part [a,b] 0 (some 2)=some (.agg [a,b]):=fun _ _=>rfl
  have hol:=V4 i l
  obtain ⟨g1,_,_,_⟩:=adF hf hr i
  have e1:=alr (a:=xP i l) (b:=[]) (ajD hf hr i) acP (by omega) (by simp)
  rw [List.map_nil,show setOf orB (xP i l) []=orS (xP i l) from rfl] at e1
  have e2:=alK (l:=orS (xP i l)) (n:=((im.getD i []).length:Int)) (Nat.le_trans (JJ _ _ _) (by decide))
  rw [g1,show fxO ((im.getD i []).length:Int) (orS (xP i l))=mB im l i from rfl,show jQ (mB im l i)=.agg [.int .i64 (mB im l i).size,.list 1 ((mB im l i).ws.map eW)] from rfl] at e2
  have Z0:((0:Int) != 0)=false:=rfl
  have hs:=adG im l i
  obtain ⟨r,hr2⟩:∃ r,r=(List.range i).map (mB im l):=⟨_,rfl⟩
  have hrl:r.length=i:=by rw [hr2,List.length_map,List.length_range]
  rw [← hr2] at hs ⊢
  have F3:=eq_true (show r.length+1≤lim by omega)
  simp only [Lh,F1,hx,ay hil,List.length_map,aN,Nat.reduceMul,Nat.reduceBEq,Nat.reduceLT,Nat.reduceLeDiff,reduceCtorEq,Nat.reduceEqDiff,Nat.reduceAdd,Nat.beq]
  rw [ajE (im:=im) (l:=l) (v:=i) (n:=((im.getD i []).length:Int)) (r:=r) hl (by simp only [List.take_zero,show xP i []=[] from rfl,List.map_nil];simp only [aK,dB,Nat.reduceMul,Nat.reduceBEq,Nat.reduceLT,Nat.reduceLeDiff,Nat.reduceAdd,decide_true,Bool.and_self,Bool.true_and]<;>rfl)]
  simp only [e1,e2,Z0,F3,P2,scB,List.length_map,aN,Nat.reduceMul,Nat.reduceBEq,Nat.reduceLT,Nat.reduceLeDiff,reduceCtorEq,Nat.reduceEqDiff,Nat.reduceAdd,Nat.beq]
  rw [ih _ (by simp only [hi1];rw [hs];simp only [aN,Nat.reduceMul,Nat.reduceBEq,Nat.reduceLT,Nat.reduceLeDiff,reduceCtorEq,Nat.reduceEqDiff,Nat.reduceAdd,Nat.beq]<;>rfl)]
 ·intro rb
  simp only [Lh,Int.lt_irrefl,List.length_map,aN,Nat.reduceMul,Nat.reduceBEq,Nat.reduceLT,Nat.reduceLeDiff,reduceCtorEq,Nat.reduceEqDiff,Nat.reduceAdd,Nat.beq]
  rfl
theorem ahh {im:iR} {l:List iM} (hl:l.length≤1000) (hf:qF im l) (hi0:im.length≤1000) (hr:∀ v∈im,v.length≤4096):cal env 39 [.list 1 ((au im).map eI),.list 3 (l.map jL)]=some [(.list 2 ((sS im l).map jQ),true),(.bool true,false)]:=by
 have hz:(au im).length=im.length:=by simp [au]
 rw [ah akQ rfl];simp only [aa3,aK,Nat.reduceBEq,Nat.reduceLeDiff,Nat.reduceAdd,List.length_cons,List.length_nil]
 simp only [List.length_map,hz,aN,Nat.reduceMul,Nat.reduceBEq,Nat.reduceLT,Nat.reduceLeDiff,reduceCtorEq,Nat.reduceEqDiff,Nat.reduceAdd,Nat.beq]
 rw [adH (im:=im) (l:=l) hl hf hi0 hr (by simp only [List.range_zero,List.map_nil];simp only [aK,dB,Nat.reduceMul,Nat.reduceBEq,Nat.reduceLT,Nat.reduceLeDiff,Nat.reduceAdd,decide_true,Bool.and_self,Bool.true_and]<;>rfl)]
 simp only [aN,Nat.reduceMul,Nat.reduceBEq,Nat.reduceLT,Nat.reduceLeDiff,reduceCtorEq,Nat.reduceEqDiff,Nat.reduceAdd,Nat.beq]
end Go.Proofs.YtioijcfcehhmdaaGreatDoor.V

namespace Go.Proofs.YtioijcfcehhmdaaGreatDoor.V
theorem alP {im:iR} {d:List Bm}:cal env 44 [.list 1 (im.map bF),.list 2 (d.map jQ)]=some [(CZ ⟨0,[⟨1,1,7⟩],d,im⟩,false)]:=by
 have e:[(⟨1,1,7⟩:xI)].map lg=[.agg [.int .i64 1,.int .i64 1,.int .i64 7]]:=rfl
 rw [fC,e]
 rw [ah akT rfl];simp only [aa6,aK,Nat.reduceBEq,Nat.reduceLeDiff,Nat.reduceAdd,List.length_cons,List.length_nil]
 simp only [aN,Nat.reduceMul,Nat.reduceBEq,Nat.reduceLT,Nat.reduceLeDiff,reduceCtorEq,Nat.reduceEqDiff,Nat.reduceAdd,Nat.beq]
theorem alQ {im:iR} {d:List Bm}:cal env 45 [.list 1 (im.map bF),.list 2 (d.map jQ)]=some [(CZ ⟨1,[⟨1,1,5⟩,⟨2,6,9⟩],d,im⟩,false)]:=by
 have e:[(⟨1,1,5⟩:xI),⟨2,6,9⟩].map lg=[.agg [.int .i64 1,.int .i64 1,.int .i64 5],.agg [.int .i64 2,.int .i64 6,.int .i64 9]]:=rfl
 rw [fC,e]
 rw [ah akU rfl];simp only [aa7,aK,Nat.reduceBEq,Nat.reduceLeDiff,Nat.reduceAdd,List.length_cons,List.length_nil]
 simp only [aN,Nat.reduceMul,Nat.reduceBEq,Nat.reduceLT,Nat.reduceLeDiff,reduceCtorEq,Nat.reduceEqDiff,Nat.reduceAdd,Nat.beq]
def jI (x:qK):Pt:=⟨0,[⟨1,1,7⟩],sS x.im x.o,EY x.im x.o⟩
def dI (x:qK):Pt:=⟨1,[⟨1,1,5⟩,⟨2,6,9⟩],sS x.im x.n,EY x.im x.n⟩
theorem Np {im:iR} {l:List iM} (h:DR im l=0):qF im l:=by
 have h0:=Ea h
 have hA:(rQ (dR im) l 0).2=0:=by unfold DR at h;rwa [if_neg (by rw [h0];simp)] at h
 exact VW l im 0 hA
structure OkR (x:qK):Prop where
 ok:okO x
 im9:x.im.length≤9
 v24:∀ v∈x.im,v.length≤24
 eo:DR x.im x.o=0
 en:DR x.im x.n=0
 lo:x.o.length≤40
 ln:x.n.length≤40
theorem ajG {x:qK} (ho:okO x) (h:YT x=true):OkR x:=by
 unfold YT Nk at h
 simp only [Bool.and_eq_true,decide_eq_true_eq,List.all_cons] at h
 obtain ⟨h7,_,⟨a1,a2⟩,⟨b1,b2⟩,_⟩:=h
 obtain ⟨c1,c2⟩:=V3 h7
 exact ⟨ho,c1,c2,a1,b1,(JK a2).1,(JK b2).1⟩
theorem alR {x:qK} (h:OkR x):cal env 23 [QS x]=some [(CZ (jI x),false),(CZ (dI x),false),(.bool true,false)]:=by
 have hlim:lim=1073741824:=rfl
 have hv4:∀ v∈x.im,v.length≤4096:=fun v hv=>by have:=h.v24 v hv;omega
 have e1:=adt (im:=x.im) (l:=x.o) h.ok.1 (by have:=h.im9;omega) (fun v hv=>by have:=h.v24 v hv;omega)
 have e2:=adt (im:=x.im) (l:=x.n) h.ok.2.1 (by have:=h.im9;omega) (fun v hv=>by have:=h.v24 v hv;omega)
 rw [h.eo] at e1
 rw [h.en] at e2
 have e3:=alN (x:=x) (by have:=h.im9;omega)
 have e4:=ahh (im:=x.im) (l:=x.o) (by have:=h.lo;omega) (Np h.eo) (by have:=h.im9;omega) hv4
 have e5:=ahh (im:=x.im) (l:=x.n) (by have:=h.ln;omega) (Np h.en) (by have:=h.im9;omega) hv4
 have e6:=alP (im:=EY x.im x.o) (d:=sS x.im x.o)
 have e7:=alQ (im:=EY x.im x.n) (d:=sS x.im x.n)
 have P4:∀ a b c d:PV,part [a,b,c,d] 0 (some 4)=some (.agg [a,b,c,d]):=fun _ _ _ _=>rfl
 have Z0:((0:Int)==0)=true:=rfl
 rw [fC] at e6 e7
 unfold jI dI
 rw [Am] at e3 ⊢
 rw [fC,fC]
 rw [ah akL rfl];simp only [aa0,aK,Nat.reduceBEq,Nat.reduceLeDiff,Nat.reduceAdd,List.length_cons,List.length_nil]
 simp only [e1,e2,e3,e4,e5,e6,e7,P4,Z0,scP,aN,Nat.reduceMul,Nat.reduceBEq,Nat.reduceLT,Nat.reduceLeDiff,reduceCtorEq,Nat.reduceEqDiff,Nat.reduceAdd,Nat.beq]
end Go.Proofs.YtioijcfcehhmdaaGreatDoor.V

namespace Go.Proofs.YtioijcfcehhmdaaGreatDoor.V
theorem BR:∀ {bs:List Bm} {vs:iR},(∀ i (h1:i<bs.length) (h2:i<vs.length),okB bs[i]=true∧bs[i].size=(vs[i].length:Int))→wz bs vs=0
 |[],vs,_=>by unfold wz;rfl
 |_ :: _,[],_=>by unfold wz;rfl
 |b :: bs,v :: vs,h=>by
  obtain ⟨h1,h2⟩:=h 0 (by simp) (by simp)
  have h1:okB b=true:=h1
  have h2:b.size=(v.length:Int):=h2
  unfold wz
  have e:Ii b=0:=by unfold Ii;rw [if_pos h1]
  rw [if_neg (by rw [e];simp),if_neg (by rw [h2];simp)]
  exact BR fun i g1 g2=>h (i+1) (by simpa using g1) (by simpa using g2)
theorem Ap (im:iR) (l:List iM):(sS im l).length=im.length:=by simp [sS]
theorem V6 {im:iR} {l:List iM} {i:Nat} (h:i<(sS im l).length):(sS im l)[i]=mB im l i:=by simp [sS]
theorem adI {im:iR} {l:List iM} {site:Int} {lin:List xI} (h:DR im l=0) (hr:∀ v∈im,v.length≤4096) (hs:0≤site∧site≤1073741824) (hl:qx lin=true):iJ ⟨site,lin,sS im l,EY im l⟩=0:=by
 have hz:=xC h
 have h0:iZ (EY im l)=0:=by show xW (dR (EY im l))=0;rw [hz];exact Ea h
 obtain ⟨g1,g2⟩:=xB (a:=EY im l) (b:=im) hz
 unfold iJ
 rw [if_neg (by show ¬ (site<0∨1073741824<site);omega),if_neg (by show ¬ qx lin=false;rw [hl];decide),if_neg (by show ¬ iZ (EY im l)≠0;rw [h0];simp),if_neg (by show ¬ (sS im l).length≠(EY im l).length;rw [Ap,g1];simp)]
 show wz (sS im l) (EY im l)=0
 refine BR fun i h1 h2=>?_
 have hi:i<im.length:=by omega
 obtain ⟨_,k2,k3,_⟩:=adF (Np h) hr i
 rw [V6,k3,getD_lt hi,g2 i h2 hi]
 exact ⟨k2,rfl⟩
section
variable {x:qK} (h:OkR x)
include h
theorem adJ:∀ v∈x.im,v.length≤4096:=fun v hv=>by have:=h.v24 v hv;omega
theorem ajH:iJ (jI x)=0:=adI h.eo (adJ h) (by decide) (by decide)
theorem Nq:iJ (dI x)=0:=adI h.en (adJ h) (by decide) (by decide)
theorem V7:dR (jI x).img=dR x.im:=xC h.eo
theorem GY:dR (dI x).img=dR x.im:=xC h.en
theorem adK:au (jI x).img=au (dI x).img:=(V7 h).trans (GY h).symm
theorem ajI:btE (jI x) (dI x)=0:=by
 unfold btE
 rw [if_pos (ajH h),if_pos (Nq h),if_pos (adK h)]
theorem V8:rW (jI x) (dI x) 3=0:=by
 unfold rW
 have s1:je (jI x).site=true:=by show je 0=true;decide
 have s2:je (dI x).site=true:=by show je 1=true;decide
 have s3:(jI x).site≠(dI x).site:=by show (0:Int)≠1;decide
 have s4:(jD (jI x).lin).epoch<3:=by show (1:Int)<3;decide
 have s5:(jD (dI x).lin).epoch<3:=by show (2:Int)<3;decide
 rw [if_pos (ajI h),if_pos s1,if_pos s2,if_pos s3,if_pos s4,if_pos s5,if_pos (by decide)]
end
end Go.Proofs.YtioijcfcehhmdaaGreatDoor.V

namespace Go.Proofs.YtioijcfcehhmdaaGreatDoor.V
theorem agI {im im2:iR} {l:List iM} {site:Int} {lin:List xI} (h:DR im l=0) (hr:∀ v∈im,v.length≤4096) (hs:0≤site∧site≤1073741824) (hl:qx lin=true) (hz:dR im2=dR im):iJ ⟨site,lin,sS im l,im2⟩=0:=by
 have h0:iZ im2=0:=by show xW (dR im2)=0;rw [hz];exact Ea h
 obtain ⟨g1,g2⟩:=xB (a:=im2) (b:=im) hz
 unfold iJ
 rw [if_neg (by show ¬ (site<0∨1073741824<site);omega),if_neg (by show ¬ qx lin=false;rw [hl];decide),if_neg (by show ¬ iZ im2≠0;rw [h0];simp),if_neg (by show ¬ (sS im l).length≠im2.length;rw [Ap,g1];simp)]
 show wz (sS im l) im2=0
 refine BR fun i h1 h2=>?_
 have hi:i<im.length:=by omega
 obtain ⟨_,k2,k3,_⟩:=adF (Np h) hr i
 rw [V6,k3,getD_lt hi,g2 i h2 hi]
 exact ⟨k2,rfl⟩
def QT:Au:=⟨3,1,0,0,3,5,false,false⟩
def Nr:Au:=⟨3,1,0,1,3,9,false,false⟩
section
variable {x:qK} (h:OkR x)
include h
theorem ajJ:uI (jI x) (dI x) 3=QT:=by
 unfold uI
 rw [if_pos (V8 h)]
 rfl
theorem UW:oI QT (dI x) 9 0=0:=by
 unfold oI
 rw [if_pos (by decide),if_pos (Nq h),if_pos (show (dI x).site=QT.pF from rfl),if_pos (show QT.done=false from rfl),if_pos (by decide),if_pos (by decide),if_pos (show (jD (dI x).lin).to≤9 by show (9:Int)≤9;decide),if_pos (by decide)]
theorem agJ:qB QT (dI x) 9 0=Nr:=by
 unfold qB
 rw [if_pos (UW h)];rfl
theorem agK:(mX QT (dI x) 9 0).num=9:=by
 unfold mX
 rw [if_pos (UW h)]
theorem adL:oI Nr (dI x) 9 0=2:=by
 unfold oI
 rw [if_pos (by decide),if_pos (Nq h),if_pos (show (dI x).site=Nr.pF from rfl),if_pos (show Nr.done=false from rfl),if_pos (by decide),if_neg (by decide)]
theorem adM {im:iR} (hz:dR im=dR x.im):qy [{ jI x with img:=im },dI x]=0:=by
 have h1:iJ { jI x with img:=im }=0:=agI h.eo (adJ h) (by show (0:Int)≤0∧(0:Int)≤1073741824;decide) (show qx [⟨1,1,7⟩]=true by decide) hz
 show (if iJ { jI x with img:=im }=0 then (if iJ (dI x)=0 then 0 else iJ (dI x)) else _)=(0:Int)
 rw [if_pos h1,if_pos (Nq h)]
theorem adN:qA QT (jI x) (dI x)=12:=by
 unfold qA
 rw [if_pos (by decide),if_pos (adM h (im:=(jI x).img) (V7 h)),if_pos (show (jI x).site=QT.to from rfl),if_pos (show (dI x).site=QT.pF from rfl),if_pos (show QT.done=false from rfl),if_neg (by decide)]
theorem adO {im:iR} (hz:dR im=dR x.im):qA Nr { jI x with img:=im } (dI x)=if im=(dI x).img then 0 else 22:=by
 unfold qA
 rw [if_pos (by decide),if_pos (adM h hz),if_pos (show ({ jI x with img:=im }:Pt).site=Nr.to from rfl),if_pos (show (dI x).site=Nr.pF from rfl),if_pos (show Nr.done=false from rfl),if_pos (show 0<Nr.step by decide)]
theorem ahj:0<(dI x).img.length∧∀ v∈(dI x).img,0<v.length:=by
 have h0:xW (dR (dI x).img)=0:=by rw [GY h];exact Ea h.en
 obtain ⟨h1,h2⟩:=QL h0
 refine ⟨List.length_pos_iff.2 h1,fun v hv=>List.length_pos_iff.2 (h2 v hv)⟩
theorem Ns {im:iR} (hz:dR im=dR x.im):BD { jI x with img:=im }∧(∀ v∈im,v.length≤24)∧im.length≤9:=by
 obtain ⟨g1,g2⟩:=xB (a:=im) (b:=x.im) hz
 have h9:=h.im9
 have hv:∀ v∈im,v.length≤24:=fun v hv=>by
  obtain ⟨i,hi,rfl⟩:=List.mem_iff_getElem.1 hv
  rw [g2 i hi (by omega)]
  exact h.v24 _ (List.getElem_mem _)
 refine ⟨⟨by show 1≤lim;decide,?_,?_⟩,hv,by omega⟩
 ·show (sS x.im x.o).length≤lim
  rw [Ap];unfold lim;omega
 ·show im.length≤lim
  unfold lim;omega
theorem xG:BD (dI x)∧(∀ v∈(dI x).img,v.length≤24)∧(dI x).img.length≤9:=by
 obtain ⟨_,h2,h3⟩:=Ns h (GY h)
 refine ⟨⟨by show 2≤lim;decide,?_,by unfold lim;omega⟩,h2,h3⟩
 show (sS x.im x.n).length≤lim
 rw [Ap];have:=h.im9;unfold lim;omega
end
def Aq (s:fP):fP:=s.set 0 (s[0]+1)
theorem ajK (s:fP):Aq s≠s:=fun e=>by
 have h1:(Aq s)[0]=s[0]:=by rw [e]
 unfold Aq at h1
 rw [Vector.getElem_set_self] at h1
 have:=congrArg UInt8.toNat h1
 rw [UInt8.toNat_add] at this
 have hb:=s[0].toNat_lt
 have:(1:UInt8).toNat=1:=rfl
 omega
def BU (im:iR) (v k:Nat):iR:=im.set v ((im.getD v []).set k (Aq ((im.getD v []).getD k KN)))
theorem V9 {im:iR} {v k:Nat} (hv:v<im.length) (hk:k<(im.getD v []).length):BU im v k≠im∧dR (BU im v k)=dR im:=by
 refine ⟨fun e=>?_,?_⟩
 ·have h1:(BU im v k).getD v []=im.getD v []:=by rw [e]
  unfold BU at h1
  have h2:(im.set v ((im.getD v []).set k (Aq ((im.getD v []).getD k KN)))).getD v []=(im.getD v []).set k (Aq ((im.getD v []).getD k KN)):=by
   rw [List.getD_eq_getElem?_getD,List.getElem?_set_self hv];rfl
  rw [h2] at h1
  have h3:=congrArg (fun l:List fP=>l[k]?) h1
  rw [List.getElem?_set_self hk,List.getElem?_eq_getElem hk] at h3
  have h4:=Option.some.inj h3
  rw [List.getD_eq_getElem?_getD,List.getElem?_eq_getElem hk] at h4
  exact ajK _ h4
 ·unfold BU dR
  rw [List.map_set,List.length_set]
  apply List.ext_getElem?
  intro i
  rw [List.getElem?_set]
  by_cases c:v=i
  ·subst c
   rw [if_pos rfl,if_pos (by rw [List.length_map];exact hv),List.getElem?_map,List.getD_eq_getElem?_getD,List.getElem?_eq_getElem hv];rfl
  ·rw [if_neg c]
end Go.Proofs.YtioijcfcehhmdaaGreatDoor.V

namespace Go.Proofs.YtioijcfcehhmdaaGreatDoor
open Go.RowKit
theorem QU (n:Int) (w:World):Calls Tryz.prog 51 #[.bool true,.int .i64 n] w fun e w'=>e=.returned (.tuple #[])∧w'=w:=by
 go_enter Tryz.func51,Tryz.ntmps51
 have hnot:∀ (x:Bool) (w:World),(Op.unary .not (.bool x)).run Tryz.prog w=.ok (.bool (!x)) w:=fun _ _=>rfl
 go_wp2
 go_end0
 exact ⟨rfl,rfl⟩
theorem Nu (n:Int) (w:World):Calls Tryz.prog 51 #[.bool false,.int .i64 n] w fun e w'=>e=.panicked [{ v:=.iface 148 (.int .i64 n),recovered:=false }]∧w'=w:=by
 go_enter Tryz.func51,Tryz.ntmps51
 have hnot:∀ (x:Bool) (w:World),(Op.unary .not (.bool x)).run Tryz.prog w=.ok (.bool (!x)) w:=fun _ _=>rfl
 have hp:=run_panic_iface (P:=Tryz.prog) 148 (.int .i64 n)
 go_wp2
 exact ⟨rfl,rfl,rfl⟩
theorem UY {w:World} {b:Nat} {x v:Value} {E:TypeId} (h:w.heap[b]?=some (.cells #[x] E (0,0))):w.setCell ⟨b,0,none⟩ v=w.setRow b #[v]:=by
 simp only [World.setCell,World.setRow]
 congr 1
 refine Array.ext_getElem? fun i=>?_
 rw [Array.getElem?_modify,Array.getElem?_modify]
 by_cases e:b=i
 ·subst e
  simp [h]
 ·simp [e]
theorem uS {F:Fence} {k:Nat} {P:Program} {ops:Array Oper} {Q:Exit→Act→World→Prop} {rest:List Oper} {a:Act} {w w1:World} {o:Oper} (hF:F=Fence.wide) (hg:o.guard=none) {v:Value} {nx:Next} (hr:(execOp a.eval o).run P w=.ok nx w1) (hnx:nx=.value v∨nx=.skip∧v=undef) (hd:∀ c,o.op≠.defer c)
  (h:wpListIn F k P ops Q rest (a.put o.dst v) w1):wpListIn F k P ops Q (o :: rest) a w:=by
 subst hF
 have hw:Region.wanted o (yielded ops a.tmps)=true:=by simp only [Region.wanted,hg]
 simp only [wpListIn,hw,↓reduceIte]
 refine ⟨fun f _=>trivial,?_⟩
 rw [semAt_eq hd,hr]
 rcases hnx with rfl|⟨rfl,rfl⟩
 ·exact h
 ·exact h
theorem QV (b:Nat) (m n:Int) (E:TypeId) (w:World) (h:w.heap[b]?=some (.cells #[.int .i64 m] E (0,0))):CallsDIn Fence.wide 0 Tryz.prog 47 #[.pointer (some ⟨b,0,none⟩)] (.panicking [{ v:=.iface 148 (.int .i64 n),recovered:=false }]) w fun e u' w'=>e=.returned (.tuple #[])∧settle u'=.returning∧w'=w.setRow b #[.int .i64 n]:=by
 have hc:w.cell? ⟨b,0,none⟩=some (.int .i64 m):=by rw [cell_of_row w _ _ _ _ (0,0) h];rfl
 have hz:w.frozen? ⟨b,0,none⟩=false:=by
  simp only [World.frozen?,h]
  rw [decide_eq_false (Nat.not_lt_zero 0),Bool.and_false]
 have hS:=UY (v:=.int .i64 n) h
 refine callsDIn_of_wpSIn Tryz.func47 rfl trivial fun c₀ cs hu=>?_
 apply wpSIn_seq
 apply wpSIn_region
 simp [wpOpsSIn,go_sem,recoverD,hu,Tryz.ntmps47,Exit.thenS]
 refine wpSIn_of_wpIn rfl ?_
 obtain ⟨I,hI⟩:∃ I:Value,I=.iface 148 (.int .i64 n):=⟨_,rfl⟩
 have hta:(Instr.typeAssert I 20 148 true).run Tryz.prog w=.ok (.tuple #[.int .i64 n,.bool true]) w:=by
  rw [hI];simp [Instr.typeAssert,run_underlying Tryz.underlying148]
 have heq:(do eqGuard .eql 20 (.tmp 6) (.const .nilIface) I .nilIface;Go.binOp .eql 20 I .nilIface:Sem Value).run Tryz.prog w=.ok (.bool false) w:=by
  rw [hI]
  simp [eqGuard,go_sem]
 refine wpIn_seq (wpIn_seq (wpIn_region_list ?_))
 refine uS (w1:=w) rfl rfl (v:=I) (nx:=.value I) (by simp [execOp,Act.eval,Act.put,hI]) (.inl rfl) (by intro c h;cases h) ?_
 refine uS (w1:=w) rfl rfl (v:=.bool false) (nx:=.value (.bool false)) (by simp [execOp,Act.eval,Act.put,hI,eqGuard,go_sem]) (.inl rfl) (by intro c h;cases h) ?_
 simp only [wpListIn,Exit.then]
 refine wpIn_cond (t:=false) (by simp [Act.eval,Act.put]) ?_
 simp only [Bool.false_eq_true,if_false]
 refine wpIn_skip ?_
 simp only [Exit.then]
 refine wpIn_seq (wpIn_region_list ?_)
 refine uS (w1:=w) rfl rfl (v:=I) (nx:=.value I) (by simp [execOp,Act.eval,Act.put,hI]) (.inl rfl) (by intro c h;cases h) ?_
 refine uS (w1:=w) rfl rfl (v:=.tuple #[.int .i64 n,.bool true]) (nx:=.value (.tuple #[.int .i64 n,.bool true])) (by rw [hI] at hta;simp [execOp,Act.eval,Act.put,hI,hta]) (.inl rfl) (by intro c h;cases h) ?_
 refine uS (w1:=w) rfl rfl (v:=.tuple #[.int .i64 n,.bool true]) (nx:=.value (.tuple #[.int .i64 n,.bool true])) (by simp [execOp,Act.eval,Act.put,hI]) (.inl rfl) (by intro c h;cases h) ?_
 refine uS (w1:=w) rfl rfl (v:=.int .i64 n) (nx:=.value (.int .i64 n)) (by simp [execOp,Act.eval,Act.put,hI,go_sem]) (.inl rfl) (by intro c h;cases h) ?_
 refine uS (w1:=w) rfl rfl (v:=.bool true) (nx:=.value (.bool true)) (by simp [execOp,Act.eval,Act.put,hI,go_sem]) (.inl rfl) (by intro c h;cases h) ?_
 refine uS (w1:=w) rfl rfl (v:=.int .i64 n) (nx:=.value (.int .i64 n)) (by simp [execOp,Act.eval,Act.put,hI]) (.inl rfl) (by intro c h;cases h) ?_
 refine uS (w1:=w) rfl rfl (v:=.bool true) (nx:=.value (.bool true)) (by simp [execOp,Act.eval,Act.put,hI]) (.inl rfl) (by intro c h;cases h) ?_
 simp only [wpListIn,Exit.then]
 refine wpIn_seq (wpIn_seq (wpIn_region_list ?_))
 refine uS (w1:=w) rfl rfl (v:=.bool true) (nx:=.value (.bool true)) (by simp [execOp,Act.eval,Act.put,hI]) (.inl rfl) (by intro c h;cases h) ?_
 refine uS (w1:=w) rfl rfl (v:=.bool false) (nx:=.value (.bool false)) (by simp [execOp,Act.eval,Act.put,hI,go_sem]) (.inl rfl) (by intro c h;cases h) ?_
 simp only [wpListIn,Exit.then]
 refine wpIn_cond (t:=false) (by simp [Act.eval,Act.put]) ?_
 simp only [Bool.false_eq_true,if_false]
 refine wpIn_skip ?_
 simp only [Exit.then]
 refine wpIn_region_list ?_
 refine uS (w1:=w) rfl rfl (v:=.pointer (some ⟨b,0,none⟩)) (nx:=.value (.pointer (some ⟨b,0,none⟩))) (by simp [execOp,Act.eval,Act.put,hI]) (.inl rfl) (by intro c h;cases h) ?_
 refine uS (w1:=w) rfl rfl (v:=.int .i64 n) (nx:=.value (.int .i64 n)) (by simp [execOp,Act.eval,Act.put,hI]) (.inl rfl) (by intro c h;cases h) ?_
 refine uS (w1:=w) rfl rfl (v:=.pointer (some ⟨b,0,none⟩)) (nx:=.value (.pointer (some ⟨b,0,none⟩))) (by simp [execOp,Act.eval,Act.put,hI,go_sem]) (.inl rfl) (by intro c h;cases h) ?_
 refine uS (w1:=w.setRow b #[.int .i64 n]) rfl rfl (v:=undef) (nx:=.skip) (by simp [execOp,Act.eval,Act.put,hI,go_sem,hc,hz,hS]) (.inr ⟨rfl,rfl⟩) (by intro c h;cases h) ?_
 simp only [wpListIn]
 simp [bodyPostS,results,Tryz.results47,settle,Act.put]
theorem Nv (b:Nat) (w:World):CallsDIn Fence.wide 0 Tryz.prog 47 #[.pointer (some ⟨b,0,none⟩)] .returning w fun e u' w'=>e=.returned (.tuple #[])∧settle u'=.returning∧w'=w:=by
 refine callsDIn_of_wpSIn Tryz.func47 rfl trivial fun c₀ cs hu=>?_
 apply wpSIn_seq
 apply wpSIn_region
 simp [wpOpsSIn,go_sem,recoverD,hu,Tryz.ntmps47,Exit.thenS]
 refine wpSIn_of_wpIn rfl ?_
 refine wpIn_seq (wpIn_seq (wpIn_region_list ?_))
 refine uS (w1:=w) rfl rfl (v:=.nilIface) (nx:=.value .nilIface) (by simp [execOp,Act.eval,Act.put]) (.inl rfl) (by intro c h;cases h) ?_
 refine uS (w1:=w) rfl rfl (v:=.bool true) (nx:=.value (.bool true)) (by simp [execOp,Act.eval,Act.put,eqGuard,go_sem]) (.inl rfl) (by intro c h;cases h) ?_
 simp only [wpListIn,Exit.then]
 refine wpIn_cond (t:=true) (by simp [Act.eval,Act.put]) ?_
 simp only [if_true]
 refine wpIn_ret ?_
 simp only [Exit.then]
 simp [bodyPostS,results,Tryz.results47,settle,Act.put]
 cases c₀
 simp_all
theorem Nw:EJ Tryz.prog 47 148:=⟨by kernel_rfl,fun b m n E w h=>QV b m n E w h,fun b w=>Nv b w⟩
theorem YW:(∀ args,uy args=some none→callable Tryz.prog 51=true∧lU Tryz.prog 51 args [])∧∀ args t n,uy args=some (some (t,n))→callable Tryz.prog 51=true∧Oj Tryz.prog 51 args t n:=by
 have hc:callable Tryz.prog 51=true:=by kernel_rfl
 refine ⟨fun args h=>⟨hc,fun T0 w vs h0 hf hl hr hG=>?_⟩,fun args t n h=>⟨hc,fun T0 w vs h0 hf hl hr hG=>?_⟩⟩
 ·unfold uy at h
  split at h<;>try (cases h;done)
  match vs,hl with
  |[u,v],_ =>
   have e1:=(hr 0 _ u rfl rfl).jm
   have e2:=(hr 1 _ v rfl rfl).bM
   subst e1;subst e2
   refine (QU _ w).mono ?_
   rintro e w' ⟨rfl,rfl⟩
   exact ⟨.tuple #[],T0,rfl,Below.refl _ _,fun _ _=>rfl,hf,#[],rfl,rfl,fun i r u hr=>by simp at hr⟩
 ·unfold uy at h
  split at h<;>try (cases h;done)
  cases h
  match vs,hl with
  |[u,v],_ =>
   have e1:=(hr 0 _ u rfl rfl).jm
   have e2:=(hr 1 _ v rfl rfl).bM
   subst e1;subst e2
   refine (Nu _ w).mono ?_
   rintro e w' ⟨rfl,rfl⟩
   exact ⟨rfl,Below.refl _ _⟩
theorem sU {P:Program} {T0:TypeId} {w:World} {b:Nat} {v:Value} {arr:Array Value} {E:TypeId} (hs:iV P T0=some v.cells.size) (hb:w.heap[b]?=some (.cells arr E (0,0))) (hl:arr.size=v.cells.size) (h1:∀ u∈v.cells.toList,u.oneCell'=true) :
  (Instr.storeAt T0 (.pointer (some ⟨b,0,none⟩)) v).run P w=.ok () (w.setRow b v.cells):=by
 have:=lS (P:=P) (T0:=T0) (off:=0) hs hb (by omega) h1
 have e:arr.toList.drop (0+v.cells.toList.length)=[]:=List.drop_eq_nil_of_le (by simp [hl])
 rw [e] at this
 simp [Instr.storeAt,Instr.sureAddr]
 simpa using this
theorem adP {bs:List Nat} (h:bs.length=1):∃ b,bs=[b]:=by
 match bs,h with
 |[b],_=>exact ⟨b,rfl⟩
theorem Ny {bs:List Nat} (h:bs.length=2):∃ b c,bs=[b,c]:=by
 match bs,h with
 |[b,c],_=>exact ⟨b,c,rfl⟩
theorem QW:yM Tryz.prog 62 [[.int .i64 0,.int .i64 0,.int .i64 0,.int .i64 0,.int .i64 0,.int .i64 0,.bool false,.bool false]]:=by
 refine ⟨by kernel_rfl,fun be bs E w hl h=>?_,fun be bs m E w hm hl h hb hn=>?_⟩
 ·obtain ⟨b0,rfl⟩:=adP hl
  have hc:w.cell? ⟨be,0,none⟩=some (.int .i64 0):=by rw [cell_of_row w _ _ _ _ (0,0) h];rfl
  refine (callsDIn_of_wp (R:=fun e w'=>e=.returned (.tuple #[])∧w'=w) Tryz.func62 rfl trivial ?_).mono (by rintro e u' w' ⟨rfl,rfl,rfl⟩;exact ⟨rfl,rfl,rfl⟩)
  simp only [ptrs,List.map_cons,List.map_nil,Tryz.ntmps62]
  refine wpIn_seq (wpIn_region_list ?_)
  refine uS (w1:=w) rfl rfl (v:=.int .i64 0) (nx:=.value (.int .i64 0)) (by simp [execOp,Act.eval,Act.put,go_sem,hc]) (.inl rfl) (by intro c h;cases h) ?_
  refine uS (w1:=w) rfl rfl (v:=.bool false) (nx:=.value (.bool false)) (by simp [execOp,Act.eval,Act.put,eqGuard,go_sem]) (.inl rfl) (by intro c h;cases h) ?_
  simp only [wpListIn,Exit.then]
  refine wpIn_cond (t:=false) (by simp [Act.eval,Act.put]) ?_
  simp only [Bool.false_eq_true,if_false]
  refine wpIn_skip ?_
  simp [bodyPost,results,Tryz.results62,Act.put]
 ·obtain ⟨b0,rfl⟩:=adP hl
  have hc:w.cell? ⟨be,0,none⟩=some (.int .i64 m):=by rw [cell_of_row w _ _ _ _ (0,0) h];rfl
  refine (callsDIn_of_wp (R:=fun e w'=>e=.returned (.tuple #[])∧w'=mF [b0] [[.int .i64 0,.int .i64 0,.int .i64 0,.int .i64 0,.int .i64 0,.int .i64 0,.bool false,.bool false]] w) Tryz.func62 rfl trivial ?_).mono (by rintro e u' w' ⟨rfl,rfl,rfl⟩;exact ⟨rfl,rfl,rfl⟩)
  simp only [ptrs,List.map_cons,List.map_nil,Tryz.ntmps62]
  refine wpIn_seq (wpIn_region_list ?_)
  have hm':(m != 0)=true:=by simpa using hm
  obtain ⟨yA,E0,g0,s0⟩:=hb 0 b0 _ rfl rfl
  refine uS (w1:=w) rfl rfl (v:=.int .i64 m) (nx:=.value (.int .i64 m)) (by simp [execOp,Act.eval,Act.put,go_sem,hc]) (.inl rfl) (by intro c h;cases h) ?_
  refine uS (w1:=w) rfl rfl (v:=.bool true) (nx:=.value (.bool true)) (by simp [execOp,Act.eval,Act.put,eqGuard,go_sem,hm']) (.inl rfl) (by intro c h;cases h) ?_
  simp only [wpListIn,Exit.then]
  refine wpIn_cond (t:=true) (by simp [Act.eval,Act.put]) ?_
  simp only [if_true]
  refine wpIn_region_list ?_
  refine uS (w1:=w) rfl rfl (v:=.agg #[.int .i64 0,.int .i64 0,.int .i64 0,.int .i64 0,.int .i64 0,.int .i64 0,.bool false,.bool false]) (nx:=.value (.agg #[.int .i64 0,.int .i64 0,.int .i64 0,.int .i64 0,.int .i64 0,.int .i64 0,.bool false,.bool false])) (by simp [execOp,Act.eval,Act.put,go_sem]) (.inl rfl) (by intro c h;cases h) ?_
  have S0:=sU (P:=Tryz.prog) (T0:=23) (v:=.agg #[.int .i64 0,.int .i64 0,.int .i64 0,.int .i64 0,.int .i64 0,.int .i64 0,.bool false,.bool false]) (by kernel_rfl) g0 (by rw [s0];rfl) (by simp [Value.cells,Value.oneCell'])
  refine uS (w1:=(w.setRow b0 #[.int .i64 0,.int .i64 0,.int .i64 0,.int .i64 0,.int .i64 0,.int .i64 0,.bool false,.bool false])) rfl rfl (v:=undef) (nx:=.skip) (by simp [execOp,Act.eval,Act.put];simp [S0,Value.cells]) (.inr ⟨rfl,rfl⟩) (by intro c h;cases h) ?_
  simp only [wpListIn]
  simp [bodyPost,results,Tryz.results62,Act.put,mF,zval,Value.cells]
theorem UZ:yM Tryz.prog 68 [[.int .i64 0,.int .i64 0,.int .i64 0,.int .i64 0,.int .i64 0,.int .i64 0,.bool false,.bool false],[.list 1 []]]:=by
 refine ⟨by kernel_rfl,fun be bs E w hl h=>?_,fun be bs m E w hm hl h hb hn=>?_⟩
 ·obtain ⟨b0,b1,rfl⟩:=Ny hl
  have hc:w.cell? ⟨be,0,none⟩=some (.int .i64 0):=by rw [cell_of_row w _ _ _ _ (0,0) h];rfl
  refine (callsDIn_of_wp (R:=fun e w'=>e=.returned (.tuple #[])∧w'=w) Tryz.func68 rfl trivial ?_).mono (by rintro e u' w' ⟨rfl,rfl,rfl⟩;exact ⟨rfl,rfl,rfl⟩)
  simp only [ptrs,List.map_cons,List.map_nil,Tryz.ntmps68]
  refine wpIn_seq (wpIn_region_list ?_)
  refine uS (w1:=w) rfl rfl (v:=.int .i64 0) (nx:=.value (.int .i64 0)) (by simp [execOp,Act.eval,Act.put,go_sem,hc]) (.inl rfl) (by intro c h;cases h) ?_
  refine uS (w1:=w) rfl rfl (v:=.bool false) (nx:=.value (.bool false)) (by simp [execOp,Act.eval,Act.put,eqGuard,go_sem]) (.inl rfl) (by intro c h;cases h) ?_
  simp only [wpListIn,Exit.then]
  refine wpIn_cond (t:=false) (by simp [Act.eval,Act.put]) ?_
  simp only [Bool.false_eq_true,if_false]
  refine wpIn_skip ?_
  simp [bodyPost,results,Tryz.results68,Act.put]
 ·obtain ⟨b0,b1,rfl⟩:=Ny hl
  have hc:w.cell? ⟨be,0,none⟩=some (.int .i64 m):=by rw [cell_of_row w _ _ _ _ (0,0) h];rfl
  refine (callsDIn_of_wp (R:=fun e w'=>e=.returned (.tuple #[])∧w'=mF [b0,b1] [[.int .i64 0,.int .i64 0,.int .i64 0,.int .i64 0,.int .i64 0,.int .i64 0,.bool false,.bool false],[.list 1 []]] w) Tryz.func68 rfl trivial ?_).mono (by rintro e u' w' ⟨rfl,rfl,rfl⟩;exact ⟨rfl,rfl,rfl⟩)
  simp only [ptrs,List.map_cons,List.map_nil,Tryz.ntmps68]
  refine wpIn_seq (wpIn_region_list ?_)
  have hm':(m != 0)=true:=by simpa using hm
  obtain ⟨yA,E0,g0,s0⟩:=hb 0 b0 _ rfl rfl
  obtain ⟨arr1,E1,g1,s1⟩:=hb 1 b1 _ rfl rfl
  have hne:b1≠b0:=fun e=>by subst e;simp at hn
  refine uS (w1:=w) rfl rfl (v:=.int .i64 m) (nx:=.value (.int .i64 m)) (by simp [execOp,Act.eval,Act.put,go_sem,hc]) (.inl rfl) (by intro c h;cases h) ?_
  refine uS (w1:=w) rfl rfl (v:=.bool true) (nx:=.value (.bool true)) (by simp [execOp,Act.eval,Act.put,eqGuard,go_sem,hm']) (.inl rfl) (by intro c h;cases h) ?_
  simp only [wpListIn,Exit.then]
  refine wpIn_cond (t:=true) (by simp [Act.eval,Act.put]) ?_
  simp only [if_true]
  refine wpIn_region_list ?_
  refine uS (w1:=w) rfl rfl (v:=.agg #[.int .i64 0,.int .i64 0,.int .i64 0,.int .i64 0,.int .i64 0,.int .i64 0,.bool false,.bool false]) (nx:=.value (.agg #[.int .i64 0,.int .i64 0,.int .i64 0,.int .i64 0,.int .i64 0,.int .i64 0,.bool false,.bool false])) (by simp [execOp,Act.eval,Act.put,go_sem]) (.inl rfl) (by intro c h;cases h) ?_
  have S0:=sU (P:=Tryz.prog) (T0:=23) (v:=.agg #[.int .i64 0,.int .i64 0,.int .i64 0,.int .i64 0,.int .i64 0,.int .i64 0,.bool false,.bool false]) (by kernel_rfl) g0 (by rw [s0];rfl) (by simp [Value.cells,Value.oneCell'])
  refine uS (w1:=(w.setRow b0 #[.int .i64 0,.int .i64 0,.int .i64 0,.int .i64 0,.int .i64 0,.int .i64 0,.bool false,.bool false])) rfl rfl (v:=undef) (nx:=.skip) (by simp [execOp,Act.eval,Act.put];simp [S0,Value.cells]) (.inr ⟨rfl,rfl⟩) (by intro c h;cases h) ?_
  have S1:=sU (P:=Tryz.prog) (w:=w.setRow b0 #[.int .i64 0,.int .i64 0,.int .i64 0,.int .i64 0,.int .i64 0,.int .i64 0,.bool false,.bool false]) (T0:=62) (v:=.slice none 0 0) (by kernel_rfl) ((setRow_other w b0 b1 _ hne).trans g1) (by rw [s1];rfl) (by simp [Value.cells,Value.oneCell'])
  refine uS (w1:=((w.setRow b0 #[.int .i64 0,.int .i64 0,.int .i64 0,.int .i64 0,.int .i64 0,.int .i64 0,.bool false,.bool false]).setRow b1 #[.slice none 0 0])) rfl rfl (v:=undef) (nx:=.skip) (by simp [execOp,Act.eval,Act.put];simp [S1,Value.cells]) (.inr ⟨rfl,rfl⟩) (by intro c h;cases h) ?_
  simp only [wpListIn]
  simp [bodyPost,results,Tryz.results68,Act.put,mF,zval,Value.cells]
theorem U0:yM Tryz.prog 46 [[.int .i64 0,.int .i64 0,.int .i64 0,.int .i64 0,.int .i64 0,.int .i64 0,.bool false,.bool false],[.int .i64 0,.int .i64 0,.int .i64 0,.list 1 [],.list 3 []]]:=by
 refine ⟨by kernel_rfl,fun be bs E w hl h=>?_,fun be bs m E w hm hl h hb hn=>?_⟩
 ·obtain ⟨b0,b1,rfl⟩:=Ny hl
  have hc:w.cell? ⟨be,0,none⟩=some (.int .i64 0):=by rw [cell_of_row w _ _ _ _ (0,0) h];rfl
  refine (callsDIn_of_wp (R:=fun e w'=>e=.returned (.tuple #[])∧w'=w) Tryz.func46 rfl trivial ?_).mono (by rintro e u' w' ⟨rfl,rfl,rfl⟩;exact ⟨rfl,rfl,rfl⟩)
  simp only [ptrs,List.map_cons,List.map_nil,Tryz.ntmps46]
  refine wpIn_seq (wpIn_region_list ?_)
  refine uS (w1:=w) rfl rfl (v:=.int .i64 0) (nx:=.value (.int .i64 0)) (by simp [execOp,Act.eval,Act.put,go_sem,hc]) (.inl rfl) (by intro c h;cases h) ?_
  refine uS (w1:=w) rfl rfl (v:=.bool false) (nx:=.value (.bool false)) (by simp [execOp,Act.eval,Act.put,eqGuard,go_sem]) (.inl rfl) (by intro c h;cases h) ?_
  simp only [wpListIn,Exit.then]
  refine wpIn_cond (t:=false) (by simp [Act.eval,Act.put]) ?_
  simp only [Bool.false_eq_true,if_false]
  refine wpIn_skip ?_
  simp [bodyPost,results,Tryz.results46,Act.put]
 ·obtain ⟨b0,b1,rfl⟩:=Ny hl
  have hc:w.cell? ⟨be,0,none⟩=some (.int .i64 m):=by rw [cell_of_row w _ _ _ _ (0,0) h];rfl
  refine (callsDIn_of_wp (R:=fun e w'=>e=.returned (.tuple #[])∧w'=mF [b0,b1] [[.int .i64 0,.int .i64 0,.int .i64 0,.int .i64 0,.int .i64 0,.int .i64 0,.bool false,.bool false],[.int .i64 0,.int .i64 0,.int .i64 0,.list 1 [],.list 3 []]] w) Tryz.func46 rfl trivial ?_).mono (by rintro e u' w' ⟨rfl,rfl,rfl⟩;exact ⟨rfl,rfl,rfl⟩)
  simp only [ptrs,List.map_cons,List.map_nil,Tryz.ntmps46]
  refine wpIn_seq (wpIn_region_list ?_)
  have hm':(m != 0)=true:=by simpa using hm
  obtain ⟨yA,E0,g0,s0⟩:=hb 0 b0 _ rfl rfl
  obtain ⟨arr1,E1,g1,s1⟩:=hb 1 b1 _ rfl rfl
  have hne:b1≠b0:=fun e=>by subst e;simp at hn
  refine uS (w1:=w) rfl rfl (v:=.int .i64 m) (nx:=.value (.int .i64 m)) (by simp [execOp,Act.eval,Act.put,go_sem,hc]) (.inl rfl) (by intro c h;cases h) ?_
  refine uS (w1:=w) rfl rfl (v:=.bool true) (nx:=.value (.bool true)) (by simp [execOp,Act.eval,Act.put,eqGuard,go_sem,hm']) (.inl rfl) (by intro c h;cases h) ?_
  simp only [wpListIn,Exit.then]
  refine wpIn_cond (t:=true) (by simp [Act.eval,Act.put]) ?_
  simp only [if_true]
  refine wpIn_region_list ?_
  refine uS (w1:=w) rfl rfl (v:=.agg #[.int .i64 0,.int .i64 0,.int .i64 0,.int .i64 0,.int .i64 0,.int .i64 0,.bool false,.bool false]) (nx:=.value (.agg #[.int .i64 0,.int .i64 0,.int .i64 0,.int .i64 0,.int .i64 0,.int .i64 0,.bool false,.bool false])) (by simp [execOp,Act.eval,Act.put,go_sem]) (.inl rfl) (by intro c h;cases h) ?_
  refine uS (w1:=w) rfl rfl (v:=.agg #[.int .i64 0,.int .i64 0,.int .i64 0,.slice none 0 0,.slice none 0 0]) (nx:=.value (.agg #[.int .i64 0,.int .i64 0,.int .i64 0,.slice none 0 0,.slice none 0 0])) (by simp [execOp,Act.eval,Act.put,go_sem]) (.inl rfl) (by intro c h;cases h) ?_
  have S0:=sU (P:=Tryz.prog) (T0:=23) (v:=.agg #[.int .i64 0,.int .i64 0,.int .i64 0,.int .i64 0,.int .i64 0,.int .i64 0,.bool false,.bool false]) (by kernel_rfl) g0 (by rw [s0];rfl) (by simp [Value.cells,Value.oneCell'])
  refine uS (w1:=(w.setRow b0 #[.int .i64 0,.int .i64 0,.int .i64 0,.int .i64 0,.int .i64 0,.int .i64 0,.bool false,.bool false])) rfl rfl (v:=undef) (nx:=.skip) (by simp [execOp,Act.eval,Act.put];simp [S0,Value.cells]) (.inr ⟨rfl,rfl⟩) (by intro c h;cases h) ?_
  have S1:=sU (P:=Tryz.prog) (w:=w.setRow b0 #[.int .i64 0,.int .i64 0,.int .i64 0,.int .i64 0,.int .i64 0,.int .i64 0,.bool false,.bool false]) (T0:=36) (v:=.agg #[.int .i64 0,.int .i64 0,.int .i64 0,.slice none 0 0,.slice none 0 0]) (by kernel_rfl) ((setRow_other w b0 b1 _ hne).trans g1) (by rw [s1];rfl) (by simp [Value.cells,Value.oneCell'])
  refine uS (w1:=((w.setRow b0 #[.int .i64 0,.int .i64 0,.int .i64 0,.int .i64 0,.int .i64 0,.int .i64 0,.bool false,.bool false]).setRow b1 #[.int .i64 0,.int .i64 0,.int .i64 0,.slice none 0 0,.slice none 0 0])) rfl rfl (v:=undef) (nx:=.skip) (by simp [execOp,Act.eval,Act.put];simp [S1,Value.cells]) (.inr ⟨rfl,rfl⟩) (by intro c h;cases h) ?_
  simp only [wpListIn]
  simp [bodyPost,results,Tryz.results46,Act.put,mF,zval,Value.cells]
end Go.Proofs.YtioijcfcehhmdaaGreatDoor
