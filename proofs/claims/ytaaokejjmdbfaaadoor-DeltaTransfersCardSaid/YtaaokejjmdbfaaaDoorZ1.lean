/-
  Part 1 of the texts that the statement stands on.
-/
import Derived.WalkKit
import Derived.Lib.Hide
import Derived.BigQuiet
import Derived.Deep.QuietTactic
import Derived.Deep.LoopGhost
import Derived.Deep.Draws
import Derived.ChangeKeysEq
import Derived.Laws.StructEq
import Derived.OrdersHeld
import Derived.Deep.Quiet
import Derived.Tactics
import Derived.Tactics2
import Derived.Maps.AppendAt
import Derived.OrdersIn
import Derived.TacticsIn
import Derived.OwnWalkIn
import Derived.Test.YtaaokejjmdbfaaaDoorRows
import Derived.WalkSmall
import Derived.WalkSpells
import Derived.Lib.LazyBuf
set_option linter.all false
namespace Go.Proofs.YtaaokejjmdbfaaaDoor
open Go.RowKit
structure Rep (α:Type) where
 sz:Nat
 rd:(Nat→Prop)→World→List Value→α→Prop
 len:∀ {ok w cs x},rd ok w cs x→cs.length=sz
 mono:∀ {ok ok':Nat→Prop} {w cs x},(∀ b,ok b→ok' b)→rd ok w cs x→rd ok' w cs x
 live:∀ {ok w cs x},rd ok w cs x→rd (fun b=>ok b∧b<w.heap.size) w cs x
 frame:∀ {ok} {w w':World} {cs x},(∀ b,ok b→w'.heap[b]?=w.heap[b]?)→rd ok w cs x→rd ok w' cs x
 one:∀ {ok w cs x},rd ok w cs x→∀ u∈cs,u.oneCell'=true
def rY (n:Int):Prop:=-9223372036854775808≤n∧n≤9223372036854775807
def NI:Rep Int where
 sz:=1
 rd _ _ cs n:=cs=[.int .i64 n]∧rY n
 len h:=by rw [h.1];rfl
 mono _ h:=h
 live h:=h
 frame _ h:=h
 one h:=by rw [h.1];intro u hu;cases List.mem_singleton.1 hu;rfl
def afG:Rep Bool where
 sz:=1
 rd _ _ cs b:=cs=[.bool b]
 len h:=by rw [h];rfl
 mono _ h:=h
 live h:=h
 frame _ h:=h
 one h:=by rw [h];intro u hu;cases List.mem_singleton.1 hu;rfl
def u8R:Rep UInt8 where
 sz:=1
 rd _ _ cs b:=cs=[.int .u8 (b.toNat:Int)]
 len h:=by rw [h];rfl
 mono _ h:=h
 live h:=h
 frame _ h:=h
 one h:=by rw [h];intro u hu;cases List.mem_singleton.1 hu;rfl
def ail:Rep UInt64 where
 sz:=1
 rd _ _ cs b:=cs=[.int .u64 (b.toNat:Int)]
 len h:=by rw [h];rfl
 mono _ h:=h
 live h:=h
 frame _ h:=h
 one h:=by rw [h];intro u hu;cases List.mem_singleton.1 hu;rfl
abbrev fV:=Vector UInt8 8
def aV (x:fV):List Value:=x.toList.map fun b=>.int .u8 (b.toNat:Int)
theorem dY (x:fV):(aV x).length=8:=by simp [aV]
theorem FZ (x:fV):∀ u∈aV x,u.oneCell'=true:=by
 intro u hu;obtain ⟨_,_,rfl⟩:=List.mem_map.1 hu;rfl
def pR:Rep fV where
 sz:=8
 rd _ _ cs x:=cs=aV x
 len h:=by rw [h];exact dY _
 mono _ h:=h
 live h:=h
 frame _ h:=h
 one h:=by rw [h];exact FZ _
def Vp {α β:Type} (r:Rep α) (s:Rep β):Rep (α × β) where
 sz:=r.sz+s.sz
 rd ok w cs x:=∃ c1 c2,cs=c1++c2∧r.rd ok w c1 x.1∧s.rd ok w c2 x.2
 len h:=by obtain ⟨c1,c2,rfl,h1,h2⟩:=h;simp [r.len h1,s.len h2]
 mono hk h:=by obtain ⟨c1,c2,rfl,h1,h2⟩:=h;exact ⟨c1,c2,rfl,r.mono hk h1,s.mono hk h2⟩
 live h:=by obtain ⟨c1,c2,rfl,h1,h2⟩:=h;exact ⟨c1,c2,rfl,r.live h1,s.live h2⟩
 frame hf h:=by obtain ⟨c1,c2,rfl,h1,h2⟩:=h;exact ⟨c1,c2,rfl,r.frame hf h1,s.frame hf h2⟩
 one h:=by
  obtain ⟨c1,c2,rfl,h1,h2⟩:=h
  intro u hu
  rcases List.mem_append.1 hu with hu|hu
  ·exact r.one h1 u hu
  ·exact s.one h2 u hu
structure Sl {α:Type} (r:Rep α) (ok:Nat→Prop) (w:World) (a:Option Addr) (n c:Nat) (l:List α):Prop where
 len:l.length=n
 cap:n≤c
 bnd:c≤maxLen
 nil:a=none→c=0
 cells:n=0∨∃ b off,a=some ⟨b,off,none⟩∧ok b∧b<w.heap.size ∧
  ∀ i x,l[i]?=some x→∃ cs,(∀ j,j<r.sz→w.cell? ⟨b,off+i * r.sz+j,none⟩=cs[j]?)∧r.rd ok w cs x
theorem F9 {w w':World} {b:Nat} (h:w'.heap[b]?=w.heap[b]?) (hb:b<w.heap.size):b<w'.heap.size:=by
 rcases Nat.lt_or_ge b w'.heap.size with g|g
 ·exact g
 ·rw [Array.getElem?_eq_none g,Array.getElem?_eq_getElem hb] at h;cases h
theorem Sl.mono {α:Type} {r:Rep α} {ok ok':Nat→Prop} {w:World} {a:Option Addr} {n c:Nat} {l:List α} (hk:∀ b,ok b→ok' b) (h:Sl r ok w a n c l):Sl r ok' w a n c l :=
 ⟨h.len,h.cap,h.bnd,h.nil,h.cells.imp id fun ⟨b,off,h1,h2,h3,h4⟩=>⟨b,off,h1,hk _ h2,h3,fun i x hx=>let ⟨cs,h5,h6⟩:=h4 i x hx;⟨cs,h5,r.mono hk h6⟩⟩⟩
theorem Sl.live {α:Type} {r:Rep α} {ok:Nat→Prop} {w:World} {a:Option Addr} {n c:Nat} {l:List α} (h:Sl r ok w a n c l):Sl r (fun b=>ok b∧b<w.heap.size) w a n c l :=
 ⟨h.len,h.cap,h.bnd,h.nil,h.cells.imp id fun ⟨b,off,h1,h2,h3,h4⟩=>⟨b,off,h1,⟨h2,h3⟩,h3,fun i x hx=>let ⟨cs,h5,h6⟩:=h4 i x hx;⟨cs,h5,r.live h6⟩⟩⟩
theorem Sl.frame {α:Type} {r:Rep α} {ok:Nat→Prop} {w w':World} {a:Option Addr} {n c:Nat} {l:List α} (hf:∀ b,ok b→w'.heap[b]?=w.heap[b]?) (h:Sl r ok w a n c l):Sl r ok w' a n c l :=
 ⟨h.len,h.cap,h.bnd,h.nil,h.cells.imp id fun ⟨b,off,h1,h2,h3,h4⟩=>⟨b,off,h1,h2,F9 (hf b h2) h3,
  fun i x hx=>let ⟨cs,h5,h6⟩:=h4 i x hx;⟨cs,fun j hj=>(World.cell?_of_block (w:=w) (a:=⟨b,_,none⟩) (hf b h2)).trans (h5 j hj),r.frame hf h6⟩⟩⟩
theorem Sl.below {α:Type} {r:Rep α} {ok:Nat→Prop} {w w':World} {a:Option Addr} {n c:Nat} {l:List α} (hb:Below w.heap.size w w') (h:Sl r ok w a n c l):Sl r ok w' a n c l :=
 (Sl.frame (fun b hb'=>hb.block b hb'.2) h.live).mono fun _ h=>h.1
def Qr {α:Type} (r:Rep α):Rep (List α) where
 sz:=1
 rd ok w cs l:=∃ a n c,cs=[.slice a n c]∧Sl r ok w a n c l
 len h:=by obtain ⟨a,n,c,rfl,_⟩:=h;rfl
 mono hk h:=let ⟨a,n,c,e,h⟩:=h;⟨a,n,c,e,h.mono hk⟩
 live h:=let ⟨a,n,c,e,h⟩:=h;⟨a,n,c,e,h.live⟩
 frame hf h:=let ⟨a,n,c,e,h⟩:=h;⟨a,n,c,e,h.frame hf⟩
 one h:=by obtain ⟨a,n,c,rfl,_⟩:=h;intro u hu;cases List.mem_singleton.1 hu;rfl
section
variable {ok:Nat→Prop} {w:World} {a:Option Addr} {n c:Nat}
theorem Sl.addr {α:Type} {r:Rep α} {l:List α} (h:Sl r ok w a n c l) {k:Nat} (hk:k<n):∃ b off,a=some ⟨b,off,none⟩∧ok b∧b<w.heap.size:=by
 rcases h.cells with h0|⟨b,off,h1,h2,h3,_⟩
 ·omega
 ·exact ⟨b,off,h1,h2,h3⟩
theorem Sl.at {α:Type} {r:Rep α} {b off:Nat} {l:List α} (h:Sl r ok w (some ⟨b,off,none⟩) n c l) {k:Nat} {x:α} (hx:l[k]?=some x) :
  ∃ cs,(∀ j,j<r.sz→w.cell? ⟨b,off+k * r.sz+j,none⟩=cs[j]?)∧r.rd ok w cs x:=by
 rcases h.cells with h0|⟨b',off',h1,_,_,h4⟩
 ·have:=(List.getElem?_eq_some_iff.1 hx).1
  have:=h.len
  omega
 ·cases h1
  exact h4 k x hx
theorem Sl.get {α:Type} {r:Rep α} {l:List α} (h:Sl r ok w a n c l) {k:Nat} (hk:k<n):∃ x,l[k]?=some x:=by
 have:=h.len
 exact ⟨l[k],List.getElem?_eq_getElem (by omega)⟩
theorem Sl.int {b off:Nat} {l:List Int} (h:Sl NI ok w (some ⟨b,off,none⟩) n c l) {k:Nat} {x:Int} (hx:l[k]?=some x) :
  w.cell? ⟨b,off+k,none⟩=some (.int .i64 x)∧rY x:=by
 obtain ⟨cs,h1,rfl,h2⟩:=h.at hx
 refine ⟨?_,h2⟩
 have:=h1 0 Nat.zero_lt_one
 simpa [NI] using this
theorem Sl.slice {α:Type} {r:Rep α} {b off:Nat} {l:List (List α)} (h:Sl (Qr r) ok w (some ⟨b,off,none⟩) n c l) {k:Nat} {x:List α} (hx:l[k]?=some x) :
  ∃ a' n' c',w.cell? ⟨b,off+k,none⟩=some (.slice a' n' c')∧Sl r ok w a' n' c' x:=by
 obtain ⟨cs,h1,a',n',c',rfl,h2⟩:=h.at hx
 refine ⟨a',n',c',?_,h2⟩
 have:=h1 0 Nat.zero_lt_one
 simpa [Qr] using this
theorem Sl.sec {b off:Nat} {l:List fV} (h:Sl pR ok w (some ⟨b,off,none⟩) n c l) {k:Nat} {x:fV} (hx:l[k]?=some x) :
  ∀ j,j<8→w.cell? ⟨b,off+k * 8+j,none⟩=(aV x)[j]?:=by
 obtain ⟨cs,h1,rfl⟩:=h.at hx
 exact h1
end
theorem y7 {P:Program} {w:World} {T:TypeId} {d:TypeDesc} {ad:Addr} {cs:List Value} (hu:P.underlying T=some d) (hd:(match d with|.struct _|.array _ _=>true|_=>false)=true)
  (hi:(P.info? T).map (·.size)=some cs.length) (hc:∀ j,j<cs.length→w.cell? (ad.add j)=cs[j]?):(loadVar T ad).run P w=.ok (.agg cs.toArray) w:=by
 have hl:=run_loadCells_list (P:=P) (w:=w) ad cs (fun j v hv=>by
  have h1:=(List.getElem?_eq_some_iff.1 hv).1
  rw [hc j h1];exact hv)
 obtain ⟨i,hi,hi2⟩:=Option.map_eq_some_iff.1 hi
 have hag:(isAgg T).run P w=.ok true w:=by
  unfold isAgg
  simp only [Sem.run_bind,run_underlying hu,Result.andThen_ok]
  cases d<;>first|rfl|(simp at hd)
 simp [loadVar,hag,sizeOf,typeInfo,hi,hi2,hl]
theorem bW {P:Program} {C:World→Prop} {K:Act→Prop} {a:Act} {o:Oper} (T:TypeId) (x:Operand) (ho:o.op=.load T x) (ad:Addr) (hx:a.eval x=.pointer (some ad)) (v:Value)
  (hrun:∀ w,C w→(loadVar T ad).run P w=.ok v w) (hk:K (a.put o.dst v)):o.quiet P a C K :=
 ⟨v,fun w hw=>by
  unfold Oper.quietAt execOp
  simp only [ho,hx,Instr.loadAt,Instr.sureAddr,Sem.run_bind,Sem.run_pure,Result.andThen_ok,hrun w hw]
  exact ⟨rfl,rfl⟩,hk⟩
theorem wR {P:Program} {w:World} {d:Nat} {e:TypeId} {k:IntKind} (he:P.underlying e=some (.int k)) (f:UInt8→Int) (hf:∀ a b,f a=f b→a=b) (xs ys:List UInt8) (hl:xs.length=ys.length) :
  ∀ (m i:Nat),i+m=xs.length→(Op.eqItems (d+1) e 1 ((xs.map fun b=>Value.int k (f b)).toArray) ((ys.map fun b=>Value.int k (f b)).toArray) (List.range' i m)).run P w=.ok (xs.drop i==ys.drop i) w:=by
 have hag:(isAgg e).run P w=.ok false w:=by unfold isAgg;simp only [Sem.run_bind,run_underlying he,Result.andThen_ok];rfl
 intro m
 induction m with
 |zero =>
  intro i hi
  rw [List.drop_eq_nil_of_le (by omega),List.drop_eq_nil_of_le (by omega)]
  simp [Op.eqItems]
 |succ m ih =>
  intro i hi
  have h1:i<xs.length:=by omega
  have h2:i<ys.length:=by omega
  rw [List.range'_succ,List.drop_eq_getElem_cons h1,List.drop_eq_getElem_cons h2]
  simp only [Op.eqItems,part,Sem.run_bind,hag,Result.andThen_ok,Nat.mul_one,List.getElem?_toArray,List.getElem?_map,List.getElem?_eq_getElem h1,List.getElem?_eq_getElem h2,Option.map_some,Sem.run_pure,Bool.false_eq_true,if_false,run_equalIn_int w d e k k _ _ he]
  by_cases hab:f xs[i]=f ys[i]
  ·have hxy:=hf _ _ hab
   simp only [beq_self_eq_true,Bool.not_true,Bool.false_eq_true,if_false,ih (i+1) (by omega),hxy,List.cons_beq_cons,Bool.true_and]
  ·have hxy:¬ xs[i]=ys[i]:=fun h=>hab (by rw [h])
   simp only [beq_eq_false_iff_ne.2 hab,Bool.not_false,if_true,List.cons_beq_cons,beq_eq_false_iff_ne.2 hxy,Bool.false_and,Sem.run_pure]
theorem zN {P:Program} {T e:TypeId} {i:TypeInfo} (hT:P.underlying T=some (.array 8 e)) (he:P.underlying e=some (.int .u8)) (hi:P.info? e=some i) (hc:P.cellsOf e=1) (x y:fV) (w:World) :
  (Op.equalIn 10000 T (.agg (aV x).toArray) (.agg (aV y).toArray)).run P w=.ok (x==y) w:=by
 rw [run_equalIn_array w 9999 _ _ hT hi,hc,List.range_eq_range']
 have:=wR (P:=P) (w:=w) (d:=9998) he (fun b=>(b.toNat:Int)) (fun a b h=>UInt8.toNat_inj.1 (by omega)) x.toList y.toList (by simp) 8 0 (by simp)
 rw [aV,aV,this]
 simp only [List.drop_zero]
 congr 1
 rw [Bool.eq_iff_iff,beq_iff_eq,beq_iff_eq]
 constructor
 ·intro h;exact Vector.toList_inj.1 h
 ·intro h;rw [h]
structure Later (W:World) where
 w:World
 below:Below W.heap.size W w
instance (W:World):Nonempty (Later W):=⟨⟨W,Below.refl _ _⟩⟩
def dL (W:World):World→Prop:=fun w'=>∃ x:Later W,w'=x.w
theorem dL.of {W w:World} (h:Below W.heap.size W w):dL W w:=⟨⟨w,h⟩,rfl⟩
theorem dL.drew (W:World):dL W W.drew:=.of ((Below.refl _ _).drew)
end Go.Proofs.YtaaokejjmdbfaaaDoor

namespace Go.Proofs.YtaaokejjmdbfaaaDoor
def pick (ops:Array Oper) (is:List Nat):List Oper:=is.filterMap (ops[·]?)
def wS:Op→Bool
 |.move _|.assign _|.pick _ _ _|.load _ _|.binOp _ _ _ _ _|.unOp _ _ _|.convert _ _ _|.makeFunc _ _ _|.fieldAddr _ _ _|.field _ _ _|.indexAddr _ _ _|.index _ _ _|.slice _ _ _ _ _|.extract _ _|.build _ _|.makeInterface _ _=>true
 |.call ⟨.builtin .len,_,_⟩|.call ⟨.builtin .min,_,_⟩|.call ⟨.builtin .max,_,_⟩=>true
 |_=>false
theorem pU {P:Program} {β:Type} {s:Sem β} {f:β→Value} {w w':World} {n:Next} (h:((do let x ← s;pure (Next.value (f x))):Sem Next).run P w=.ok n w'):∃ x,n=.value x:=by
 rw [Sem.run_bind] at h
 cases hs:s.run P w with
 |ok x w1=>rw [hs] at h;simp at h;exact ⟨f x,h.1.symm⟩
 |halt x w1=>rw [hs] at h;simp [Result.andThen] at h
theorem rZ {P:Program} {ρ:Operand→Value} {o:Oper} (hp:wS o.op=true) {w w':World} {n:Next} (h:(execOp ρ o).run P w=.ok n w'):∃ x,n=.value x:=by
 unfold execOp at h
 cases ho:o.op<;>rw [ho] at hp h<;>try (simp [wS] at hp;done)
 case move x=>simp at h;exact ⟨_,h.1.symm⟩
 case assign x=>simp at h;exact ⟨_,h.1.symm⟩
 case call c =>
  obtain ⟨callee,args,ats⟩:=c
  cases callee<;>try (simp [wS] at hp;done)
  rename_i b
  cases b<;>try (simp [wS] at hp;done)
  all_goals
   simp only [resolve,Sem.run_bind,Sem.run_pure,Result.andThen_ok,invoke,builtin] at h
   exact pU (f:=fun x=>x) (by simpa [Sem.run_bind] using h)
 case pick c x y=>exact pU (s:=asBool (ρ c)) (f:=fun b=>if b=true then ρ x else ρ y) h
 all_goals exact pU (f:=fun x=>x) h
def bK (ops:Array Oper):List Nat→Array Bool→Option (Array Bool)
 |[],l=>some l
 |i :: is,l=>if ((ops[i]?).map fun o=>wS o.op).getD false&&Region.free .any ops l i&&(Region.ready .any ops l).contains i then bK ops is (l.setIfInBounds i true) else none
def JG (ops:Array Oper):List (List Nat × Nat)→List Nat→Array Bool→Bool
 |[],last,l=>match bK ops last l with
  |some l'=>(Region.ready .any ops l').isEmpty
  |none=>false
 |(seg,i) :: more,last,l=>match bK ops seg l with
  |some l'=>(Region.ready .any ops l'==[i])&&JG ops more last (l'.setIfInBounds i true)
  |none=>false
def lN:List (List Nat × Nat)→List Nat→Nat
 |[],last=>last.length
 |(seg,_) :: more,last=>lN more last+1+seg.length
def Vq (ops:Array Oper) (acts:List (List Nat × Nat)) (last:List Nat):Bool :=
 Region.noSelect ops&&(lN acts last==ops.size)&&JG ops acts last (Array.replicate ops.size false)
def og (P:Program) (ops:Array Oper) (S:World→Prop) (Q:Act→World→Prop):List (List Nat × Nat)→List Nat→Act→World→Prop
 |[],last,a,w=>wpQuiet P ops S (fun a'=>Q a' w) (pick ops last) a
 |(seg,i) :: more,last,a,w=>wpQuiet P ops S (fun a'=>wpList P ops (fun e a'' w''=>e=.normal∧S w''∧og P ops S Q more last a'' w'') (pick ops [i]) a' w) (pick ops seg) a
section
variable {P:Program} {ops:Array Oper} {S:World→Prop} {Q:Act→World→Prop}
theorem vT {seg:List Nat} {i:Nat} {more:List (List Nat × Nat)} {last:List Nat} {a:Act} {w:World}
  (h:wpQuiet P ops S (fun a'=>wpList P ops (fun e a'' w''=>e=.normal∧S w''∧og P ops S Q more last a'' w'') (pick ops [i]) a' w) (pick ops seg) a):og P ops S Q ((seg,i) :: more) last a w:=by
 unfold og;exact h
theorem dU {last:List Nat} {a:Act} {w:World} (h:wpQuiet P ops S (fun a'=>Q a' w) (pick ops last) a):og P ops S Q [] last a w:=by
 unfold og;exact h
def bF (Q:Act→World→Prop):Exit→Act→World→Prop:=fun e a w=>e=.normal∧Q a w
theorem nX (hsel:Region.noSelect ops=true) {w:World} (hS:S w):∀ (seg:List Nat) (n:Nat) (l l':Array Bool) (a:Act),bK ops seg l=some l' →
  wpQuiet P ops S (fun a'=>wpAnyH P .any ops (bF Q) S n l' a' w) (pick ops seg) a→wpAnyH P .any ops (bF Q) S (n+seg.length) l a w
 |[],n,l,l',a,hq,h=>by
  simp only [bK,Option.some.injEq] at hq
  subst hq
  exact h
 |i :: is,n,l,l',a,hq,h=>by
  unfold bK at hq
  split at hq
  case isFalse=>cases hq
  rename_i hc
  simp only [Bool.and_eq_true] at hc
  obtain ⟨⟨hp,hf⟩,hr⟩:=hc
  cases ho:ops[i]? with
  |none=>rw [ho] at hp;simp at hp
  |some o =>
   rw [ho] at hp
   simp only [Option.map_some,Option.getD_some] at hp
   simp only [pick,List.filterMap_cons,ho] at h
   unfold wpQuiet at h
   have key:∃ v,YieldsIf P ops S o v a∧wpQuiet P ops S (fun a'=>wpAnyH P .any ops (bF Q) S n l' a' w) (pick ops is) (a.put o.dst v):=by
    split at h
    ·rename_i hw
     obtain ⟨v,h1,h2⟩:=h
     refine ⟨v,.inl ⟨hw,fun w1 hw1=>?_⟩,h2⟩
     have h3:=h1 w1 hw1
     unfold Oper.quietAt at h3
     cases hrun:(execOp a.eval o).run P w1 with
     |halt x w2=>rw [hrun] at h3;exact h3.elim
     |ok x w2 =>
      obtain ⟨y,rfl⟩:=rZ hp hrun
      rw [hrun] at h3
      obtain ⟨e1,e2⟩:=h3
      rw [e1,e2]
    ·rename_i hw
     exact ⟨undef,.inr ⟨by simpa using hw,rfl⟩,h⟩
   obtain ⟨v,hy,hk⟩:=key
   exact wpAnyH_take ho hsel hf hr (fun c a w h=>by cases h.1) hy hS (nX hsel hS is n _ l' _ hq hk)
theorem Gf {o:Oper} {a:Act} {w:World} {K K':Act→World→Prop} {Qa Qb:Exit→Act→World→Prop} (hK:∀ a w,K a w→K' a w) (hQ:∀ e a w,Qa e a w→e=.normal) (h:o.wp P a w K Qa):o.wp P a w K' Qb:=by
 unfold Oper.wp at *
 generalize (execOp a.eval o).run P w=r at *
 cases r with
 |ok n w' =>
  cases n<;>simp only [Oper.upon] at h ⊢
  case value v=>exact hK _ _ h
  case skip=>exact hK _ _ h
  case defer d=>exact hK _ _ h
  case enter f args =>
   exact h.mono fun e w'' he=>by
    cases e with
    |returned v=>exact hK _ _ he
    |panicked c=>cases hQ _ _ _ he
    |outgrown=>obtain ⟨a0,w0,h0⟩:=he;cases hQ _ _ _ h0
  case row r args=>exact h.mono fun v w'' hv=>hK _ _ hv
 |halt x w' =>
  cases x<;>simp only [Oper.upon] at h ⊢
  case panic v=>cases hQ _ _ _ h
theorem qI (hsel:Region.noSelect ops=true):∀ (acts:List (List Nat × Nat)) (last:List Nat) (l:Array Bool) (a:Act) (w:World),JG ops acts last l=true→S w →
  og P ops S Q acts last a w→wpAnyH P .any ops (bF Q) S (lN acts last) l a w
 |[],last,l,a,w,hB,hS,h=>by
  unfold JG at hB
  split at hB
  case h_2=>cases hB
  rename_i l' hq
  have:=nX (Q:=Q) (P:=P) hsel hS last 0 l l' a hq (by
   unfold og at h
   have hd:∀ a',Q a' w→wpAnyH P .any ops (bF Q) S 0 l' a' w:=fun a' hq'=>⟨by simpa using hB,rfl,hq'⟩
   revert h
   generalize pick ops last=os
   induction os generalizing a with
   |nil=>exact hd a
   |cons o os ih =>
    intro h
    unfold wpQuiet at h ⊢
    split at h
    ·rename_i hw;rw [if_pos hw];exact Oper.quiet_mono (fun a' h'=>ih a' h') h
    ·rename_i hw;rw [if_neg hw];exact ih _ h)
  simpa [lN] using this
 |(seg,i) :: more,last,l,a,w,hB,hS,h=>by
  unfold JG at hB
  split at hB
  case h_2=>cases hB
  rename_i l' hq
  simp only [Bool.and_eq_true,beq_iff_eq] at hB
  obtain ⟨hr,hB'⟩:=hB
  have:=nX (Q:=Q) (P:=P) hsel hS seg (lN more last+1) l l' a hq (by
   unfold og at h
   have hd:∀ a',wpList P ops (fun e a'' w''=>e=.normal∧S w''∧og P ops S Q more last a'' w'') (pick ops [i]) a' w→wpAnyH P .any ops (bF Q) S (lN more last+1) l' a' w:=fun a' h'=>by
    refine wpAnyH_all hr (by simp) fun j hj=>?_
    obtain rfl:j=i:=by simpa using hj
    unfold wpOp
    cases ho:ops[j]? with
    |none =>
     simp only [pick,List.filterMap_cons,ho,List.filterMap_nil] at h'
     obtain ⟨_,hs,ha⟩:=h'
     exact ⟨hs,qI hsel more last _ _ _ hB' hs ha⟩
    |some o =>
     simp only [pick,List.filterMap_cons,ho,List.filterMap_nil] at h'
     unfold wpList at h'
     simp only
     split at h'
     ·rename_i hw
      rw [if_pos hw]
      rcases h' with h'|⟨_,a0,w0,h0⟩
      ·exact .inl (Gf (fun a1 w1 h1=>⟨h1.2.1,qI hsel more last _ _ _ hB' h1.2.1 h1.2.2⟩) (fun e a1 w1 h1=>h1.1) h')
      ·cases h0.1
     ·rename_i hw
      rw [if_neg hw]
      exact ⟨h'.2.1,qI hsel more last _ _ _ hB' h'.2.1 h'.2.2⟩
   revert h
   generalize pick ops seg=os
   induction os generalizing a with
   |nil=>exact hd a
   |cons o os ih =>
    intro h
    unfold wpQuiet at h ⊢
    split at h
    ·rename_i hw;rw [if_pos hw];exact Oper.quiet_mono (fun a' h'=>ih a' h') h
    ·rename_i hw;rw [if_neg hw];exact ih _ h)
  simpa [lN] using this
theorem cu {id:Nat} {l:List Oper} {a:Act} {w:World} {Q:Exit→Act→World→Prop} (S:World→Prop) (acts:List (List Nat × Nat)) (last:List Nat) (hm:P.follows .mixedOrders=true)
  (hB:Vq l.toArray acts last=true) (hS:S w.drew) (h:og P l.toArray S (Q .normal) acts last a w.drew):(Code.region id l.toArray true).wp P Q a w:=by
 simp only [Vq,Bool.and_eq_true,beq_iff_eq] at hB
 obtain ⟨⟨hsel,hn⟩,hB⟩:=hB
 refine Code.wp_mono (Q:=bF (Q .normal)) (fun e a w h=>by obtain ⟨rfl,h⟩:=h;exact h) (wp_region_held (S:=S) hm ?_)
 have:=qI hsel acts last _ a _ hB hS h
 rw [hn] at this
 exact this
end
end Go.Proofs.YtaaokejjmdbfaaaDoor

namespace Go.Proofs.YtaaokejjmdbfaaaDoor
open Go.RowKit
def Chunks {α:Type} (r:Rep α) (ok:Nat→Prop) (w:World):List Value→List α→Prop
 |xs,[]=>xs=[]
 |xs,x :: l=>∃ c rest,xs=c++rest∧r.rd ok w c x∧Chunks r ok w rest l
section
variable {α:Type} {r:Rep α} {ok ok':Nat→Prop} {w w':World}
theorem Chunks.mono (hk:∀ b,ok b→ok' b):∀ {l:List α} {xs:List Value},Chunks r ok w xs l→Chunks r ok' w xs l
 |[],_,h=>h
 |_ :: _,_,⟨c,rest,e,h1,h2⟩=>⟨c,rest,e,r.mono hk h1,h2.mono hk⟩
theorem Chunks.live:∀ {l:List α} {xs:List Value},Chunks r ok w xs l→Chunks r (fun b=>ok b∧b<w.heap.size) w xs l
 |[],_,h=>h
 |_ :: _,_,⟨c,rest,e,h1,h2⟩=>⟨c,rest,e,r.live h1,h2.live⟩
theorem Chunks.frame (hf:∀ b,ok b→w'.heap[b]?=w.heap[b]?):∀ {l:List α} {xs:List Value},Chunks r ok w xs l→Chunks r ok w' xs l
 |[],_,h=>h
 |_ :: _,_,⟨c,rest,e,h1,h2⟩=>⟨c,rest,e,r.frame hf h1,h2.frame hf⟩
theorem Chunks.length:∀ {l:List α} {xs:List Value},Chunks r ok w xs l→xs.length=l.length * r.sz
 |[],_,h=>by rw [h];simp
 |x :: l,_,⟨c,rest,e,h1,h2⟩=>by rw [e,List.length_append,r.len h1,h2.length,List.length_cons,Nat.add_mul];omega
theorem Chunks.one:∀ {l:List α} {xs:List Value},Chunks r ok w xs l→∀ u∈xs,u.oneCell'=true
 |[],_,h=>by rw [h];intro u hu;cases hu
 |_ :: _,_,⟨c,rest,e,h1,h2⟩=>by
  rw [e];intro u hu
  rcases List.mem_append.1 hu with hu|hu
  ·exact r.one h1 u hu
  ·exact h2.one u hu
theorem Chunks.append:∀ {l:List α} {xs:List Value},Chunks r ok w xs l→∀ {m:List α} {ys:List Value},Chunks r ok w ys m→Chunks r ok w (xs++ys) (l++m)
 |[],_,h,_,_,hm=>by rw [h];exact hm
 |_ :: _,_,⟨c,rest,e,h1,h2⟩,_,ys,hm=>⟨c,rest++ys,by rw [e,List.append_assoc],h1,h2.append hm⟩
theorem Chunks.single {c:List Value} {x:α} (h:r.rd ok w c x):Chunks r ok w c [x]:=⟨c,[],by simp,h,rfl⟩
theorem Chunks.at:∀ {l:List α} {xs:List Value},Chunks r ok w xs l→∀ {i:Nat} {x:α},l[i]?=some x→∃ c,(∀ j,j<r.sz→xs[i * r.sz+j]?=c[j]?)∧r.rd ok w c x
 |[],_,_,i,x,hx=>by simp at hx
 |y :: l,_,⟨c,rest,e,h1,h2⟩,0,x,hx=>by
  simp only [List.getElem?_cons_zero,Option.some.injEq] at hx
  subst hx
  exact ⟨c,fun j hj=>by rw [e,Nat.zero_mul,Nat.zero_add,List.getElem?_append_left (by rw [r.len h1];exact hj)],h1⟩
 |y :: l,_,⟨c,rest,e,h1,h2⟩,i+1,x,hx=>by
  obtain ⟨d,h3,h4⟩:=h2.at (i:=i) (x:=x) (by simpa using hx)
  refine ⟨d,fun j hj=>?_,h4⟩
  rw [e,List.getElem?_append_right (by rw [r.len h1,Nat.add_mul];omega),r.len h1,← h3 j hj]
  congr 1
  rw [Nat.add_mul];omega
end
structure yu (P:Program) (T E sz bytes:Nat) (z:Value):Prop where
 u:P.underlying T=some (.slice E)
 i:(P.info? E).map (fun i=>(i.zero,i.size,i.bytes))=some (some z,sz,bytes)
 zs:z.cells.size=sz
 pos:0<sz
def Own {α:Type} (r:Rep α) (B:Nat) (E:TypeId) (ok:Nat→Prop) (w:World) (v:Value) (l:List α):Prop :=
 ∃ xs,w.ownsRow B E r.sz v l.length xs∧Chunks r (fun b=>ok b∧Option.some b≠v.ownBlock) w xs l
def Src {α:Type} (r:Rep α) (ok:Nat→Prop) (w:World) (ao:Option Addr) (m c:Nat) (ys:List α):Prop :=
 ys.length=m∧(ao=none→m=0∧c=0)∧∃ news,(∀ ad,ao=some ad→∀ j u,news[j]?=some u→w.cell? (ad.add j)=some u)∧Chunks r ok w news ys
section
variable {α:Type} {r:Rep α} {B:Nat} {E:TypeId} {ok:Nat→Prop} {w w':World} {v:Value} {l:List α}
theorem Own.nil (r:Rep α) (B:Nat) (E:TypeId) (ok:Nat→Prop) (w:World):Own r B E ok w (.slice none 0 0) []:=⟨[],World.ownsRow_nil _ _ _ _,rfl⟩
theorem Own.kept {row:Option Nat} (h:Own r B E ok w v l) (hg:w.grownBy w' row) (hne:v.ownBlock=none∨v.ownBlock≠row) (hr:∀ b,row=some b→¬ ok b):Own r B E ok w' v l:=by
 obtain ⟨xs,h1,h2⟩:=h
 refine ⟨xs,h1.kept hg hne,(Chunks.frame (fun b hb=>?_) h2.live).mono fun b hb=>hb.1⟩
 exact hg.block b hb.2 fun e=>hr b e.symm hb.1.1
theorem Own.lt (h:Own r B E ok w v l):∀ k,v.ownBlock=some k→B≤k∧k<w.heap.size:=let ⟨_,h1,_⟩:=h;h1.lt
theorem Own.below (h:Own r B E ok w v l) (hb:Below w.heap.size w w'):Own r B E ok w' v l:=by
 obtain ⟨xs,h1,h2⟩:=h
 have hg:w.grownBy w' none:=⟨hb.os,hb.tape,hb.output,hb.size,fun k hk _=>hb.block k hk⟩
 exact ⟨xs,h1.kept hg (by cases v.ownBlock<;>simp),(Chunks.frame (fun b hb'=>hb.block b hb'.2) h2.live).mono fun b hb=>hb.1⟩
theorem Own.mono {ok':Nat→Prop} (hk:∀ b,ok b→ok' b) (h:Own r B E ok w v l):Own r B E ok' w v l :=
 let ⟨xs,h1,h2⟩:=h;⟨xs,h1,h2.mono fun b hb=>⟨hk b hb.1,hb.2⟩⟩
theorem Own.sl (h:Own r B E ok w v l):∃ a n c,v=.slice a n c∧Sl r (fun b=>ok b∨B≤b) w a n c l:=by
 obtain ⟨xs,h1,h2⟩:=h
 have h1':=h1
 obtain ⟨hx,⟨rfl,h0⟩|⟨g,cap,cur,rfl,hb,hg,hn,hc,hs,ht⟩⟩:=h1
 ·refine ⟨none,0,0,rfl,⟨h0,Nat.le_refl _,Nat.zero_le _,fun _=>rfl,.inl rfl⟩⟩
 ·refine ⟨_,_,_,rfl,⟨rfl,hn,hc,(fun e=>by cases e),.inr ⟨g,0,rfl,.inr hb,(Array.getElem?_eq_some_iff.1 hg).1,fun i x hi=>?_⟩⟩⟩
  obtain ⟨c,h3,h4⟩:=h2.at hi
  refine ⟨c,fun j hj=>?_,r.mono (fun b hb=>.inl hb.1) h4⟩
  rw [← h3 j hj,Nat.zero_add,h1'.cellAt]
  have:=(List.getElem?_eq_some_iff.1 hi).1
  calc i * r.sz+j<i * r.sz+r.sz:=by omega
   _=(i+1) * r.sz:=by rw [Nat.add_mul];omega
   _≤l.length * r.sz:=Nat.mul_le_mul_right _ (by omega)
theorem aac {P:Program} {T ty bytes:Nat} {z:Value} (ht:yu P T E r.sz bytes z) (h:Own r B E ok w v l) {ao:Option Addr} {m c:Nat} {ys:List α}
  (hs:Src r (fun b=>ok b∧Option.some b≠v.ownBlock) w ao m c ys) (h63:l.length+m≤maxLen) (hby:(l.length+m) * bytes≤140737488355328) (hB:B≤w.heap.size) :
  ∃ v' w',(Builtin.append_ #[T,T] ty #[v,.slice ao m c]).run P w=.ok v' w'∧Own r B E ok w' v' (l++ys)∧w.grownBy w' v.ownBlock∧(v'.ownBlock=v.ownBlock∨v'.ownBlock=some w.heap.size):=by
 obtain ⟨i,hi,hz0,hz1,hz2⟩:=info_parts ht.i
 obtain ⟨xs,h1,h2⟩:=h
 obtain ⟨hm,hnil,news,hnews,hch⟩:=hs
 cases ao with
 |none =>
  obtain ⟨rfl,rfl⟩:=hnil rfl
  have:ys=[]:=List.eq_nil_of_length_eq_zero hm
  subst this
  exact ⟨v,w,run_append_owned_none w B T ty E i r.sz ht.u hi v l.length xs h1,by rw [List.append_nil];exact ⟨xs,h1,h2⟩,World.grownBy.refl _ _,.inl rfl⟩
 |some ad =>
  obtain ⟨v',w',hr,h3,h4,_,h6⟩:=run_append_own_at (P:=P) w B T ty E i z r.sz bytes ht.u hi hz0 hz1 hz2 ht.zs ht.pos v l.length xs h1 ad m c news (by rw [hch.length,hm]) (hnews ad rfl) hch.one h63 hby hB
  refine ⟨v',w',hr,⟨xs++news,by rw [List.length_append,hm];exact h3,?_⟩,h4,h6⟩
  have hfr:∀ {xs:List Value} {l:List α},Chunks r (fun b=>ok b∧Option.some b≠v.ownBlock) w xs l→Chunks r (fun b=>ok b∧Option.some b≠v'.ownBlock) w' xs l:=fun hc=>by
   refine (Chunks.frame (fun b hb=>h4.block b hb.2 hb.1.2) hc.live).mono fun b hb=>⟨hb.1.1,?_⟩
   rcases h6 with h6|h6
   ·rw [h6];exact hb.1.2
   ·rw [h6];intro e;have:=Option.some.inj e;have:=hb.2;omega
  exact (hfr h2).append (hfr hch)
theorem AL {P:Program} {ops:Array Oper} {rest:List Oper} {o:Oper} {a:Act} {Q:Exit→Act→World→Prop} {T bytes:Nat} {z:Value} (ht:yu P T E r.sz bytes z) (hgd:o.guard=none) (s x:Operand)
  (ho:o.op=.call { callee:=.builtin .append,args:=#[s,x],argTypes:=#[T,T] }) (hs:a.eval s=v) (h:Own r B E ok w v l) {ao:Option Addr} {m c:Nat} {ys:List α} (hx:a.eval x=.slice ao m c)
  (hsrc:Src r (fun b=>ok b∧Option.some b≠v.ownBlock) w ao m c ys) (h63:l.length+m≤maxLen) (hby:(l.length+m) * bytes≤140737488355328) (hB:B≤w.heap.size)
  (hk:∀ v' w',Own r B E ok w' v' (l++ys)→w.grownBy w' v.ownBlock→(v'.ownBlock=v.ownBlock∨v'.ownBlock=some w.heap.size)→wpList P ops Q rest (a.put o.dst v') w'):wpList P ops Q (o :: rest) a w:=by
 refine wpList_plain hgd fun K hK=>?_
 obtain ⟨v',w',hr,h2,h3,h4⟩:=aac (P:=P) (ty:=o.type) ht h hsrc h63 hby hB
 unfold Oper.wp execOp
 simp only [ho,resolve,invoke,builtin,Sem.run_bind,Sem.run_pure,Result.andThen_ok,List.map_toArray,List.map_cons,List.map_nil,hs,hx,hr]
 exact hK _ _ (hk v' w' h2 h3 h4)
end
end Go.Proofs.YtaaokejjmdbfaaaDoor

namespace Go.Proofs.YtaaokejjmdbfaaaDoor
section
variable {F:Fence} {n:Nat} {P:Program} {ops:Array Oper} {S:World→Prop} {Q:Act→World→Prop}
def jA (ops:Array Oper):Bool:=ops.all fun o=>match o.op with|.defer _=>false|_=>true
theorem wU (h:jA ops=true) {j:Nat} {o:Oper} (ho:ops[j]?=some o):∀ c,o.op≠.defer c:=by
 intro c e
 have:=Array.all_eq_true_iff_forall_mem.1 h o (Array.mem_of_getElem? ho)
 simp [e] at this
theorem Vr (hF:∀ f,F.fn f) (hnd:jA ops=true) (hsel:Region.noSelect ops=true) {i j:Nat} {oi oj:Oper} {v:Value} (hi:ops[i]?=some oi) (hj:ops[j]?=some oj) (hap:oi.apart ops oj=true) {K:Act→World→Prop} {a:Act} {w:World}
  (hy:YieldsIf P ops S oi v a) (h:wpOpIn F n P ops (bF Q) j K (a.put oi.dst v) w):wpOpIn F n P ops (bF Q) j (fun a' w'=>YieldsIf P ops S oi v a'∧K (a'.put oi.dst v) w') a w:=by
 obtain ⟨h1,h2,h3⟩:=Oper.apart_spec hap
 have hsi:=fun cs b=>Region.noSelect_spec hsel i oi cs b hi
 have hsj:=fun cs b=>Region.noSelect_spec hsel j oj cs b hj
 have keep:∀ u,YieldsIf P ops S oi v (a.put oj.dst u):=fun u=>hy.of_same (execOp_put oi hsi a oj.dst u h3) (wanted_put oi a oj.dst u h3)
 have hab:∀ (b:Act) f,oj.about P w b.eval=some f→F.fn f:=fun _ f _=>hF f
 unfold wpOpIn at h ⊢
 simp only [hj] at h ⊢
 rw [wanted_put oj a oi.dst v h1] at h
 by_cases hw:Region.wanted oj (yielded ops a.tmps)=true
 ·rw [if_pos hw] at h ⊢
  refine ⟨hab a,?_⟩
  have h':=h.2
  rw [Oper.semAt_eq _ _ _ (wU hnd hj)] at h' ⊢
  rw [execOp_put oj hsj a oi.dst v h1] at h'
  have put:∀ u w',K ((a.put oi.dst v).put oj.dst u) w'→K ((a.put oj.dst u).put oi.dst v) w':=fun u w' hk=>by rw [← Act.put_comm a v u h2];exact hk
  have adb:∀ {c a w},bF Q (.panic c) a w→False:=fun h=>by cases h.1
  have out:LetsOut (bF Q)→False:=fun ⟨_,_,h⟩=>by cases h.1
  cases hrun:(execOp a.eval oj).run P w with
  |halt x w1 =>
   rw [hrun] at h'
   cases x<;>simp only [Oper.uponIn] at h' ⊢
   exact (adb h').elim
  |ok x w1 =>
   rw [hrun] at h'
   cases x<;>simp only [Oper.uponIn] at h' ⊢
   case value u=>exact ⟨keep u,put u _ h'⟩
   case skip=>exact ⟨keep _,put _ _ h'⟩
   case defer d =>
    have hd:YieldsIf P ops S oi v { a with defers:=d :: a.defers }:=hy.of_same rfl rfl
    refine ⟨hd.of_same (execOp_put oi hsi _ oj.dst undef h3) (wanted_put oi _ oj.dst undef h3),?_⟩
    rw [← Act.put_comm _ v undef h2,← Act.put_defers]
    exact h'
   case enter f args =>
    refine ⟨h'.1,CallsIn.mono h'.2 fun e w2 he=>?_⟩
    cases e with
    |returned u=>exact ⟨keep u,put u _ he⟩
    |panicked c=>exact (adb he).elim
    |outgrown=>exact (out he).elim
   case row r args=>exact ⟨h'.1,RowsIn.mono h'.2 fun u w2 he=>⟨keep u,put u _ he⟩⟩
   case round l f tmps assign body =>
    refine ⟨h'.1,RoundIn.mono h'.2 fun e w2 he=>?_⟩
    cases e with
    |returned u=>exact ⟨keep u,put u _ he⟩
    |panicked c=>exact (adb he).elim
    |outgrown=>exact (out he).elim
 ·rw [if_neg hw] at h ⊢
  exact ⟨hab a,keep _,by rw [← Act.put_comm a v undef h2];exact h.2⟩
theorem dB {R R':Act→Prop} (h:∀ a,R a→R' a):∀ (os:List Oper) (a:Act),wpQuiet P ops S R os a→wpQuiet P ops S R' os a
 |[],a,hq=>h a hq
 |o :: os,a,hq=>by
  unfold wpQuiet at hq ⊢
  split at hq
  ·rename_i hw;rw [if_pos hw];exact Oper.quiet_mono (fun a' h'=>dB h os a' h') hq
  ·rename_i hw;rw [if_neg hw];exact dB h os _ hq
end
end Go.Proofs.YtaaokejjmdbfaaaDoor

namespace Go.Proofs.YtaaokejjmdbfaaaDoor
section
variable {F:Fence} {n:Nat} {P:Program} {ops:Array Oper} {S:World→Prop} {Q:Act→World→Prop} {f:Nat}
def RF (ops:Array Oper):Nat→Nat→Nat
 |0,s=>s
 |k+1,s=>RF ops k (if s.testBit k then (match ops[k]? with
  |some o=>o.after.toList.foldl (fun s e=>if Region.binds .any e then s ||| 2 ^ e.on else s) s
  |none=>s) else s)
def vg (ops:Array Oper) (k m i:Nat):Bool:=(RF ops k (2 ^ m)).testBit i
def Closed (ops:Array Oper) (l:Array Bool):Prop:=∀ m o,l.getD m false=true→ops[m]?=some o→∀ e∈o.after,Region.binds .any e=true→l.getD e.on false=true
theorem Closed.RF {l:Array Bool} (hc:Closed ops l):∀ (k s:Nat),(∀ i,s.testBit i=true→l.getD i false=true)→∀ i,(RF ops k s).testBit i=true→l.getD i false=true
 |0,s,h,i,hi=>h i hi
 |k+1,s,h,i,hi=>by
  refine hc.RF k _ ?_ i hi
  intro j hj
  split at hj
  ·rename_i hk
   split at hj
   ·rename_i o ho
    have key:∀ (es:List Edge) (s:Nat),(∀ e∈es,e∈o.after)→(∀ i,s.testBit i=true→l.getD i false=true)→∀ i,(es.foldl (fun s e=>if Region.binds .any e then s ||| 2 ^ e.on else s) s).testBit i=true→l.getD i false=true:=by
     intro es
     induction es with
     |nil=>exact fun s _ h i hi=>h i hi
     |cons e es ih =>
      intro s2 he h2 i hi
      refine ih _ (fun x hx=>he x (List.mem_cons_of_mem _ hx)) ?_ i hi
      intro i hi
      by_cases hb:Region.binds .any e=true
      ·simp only [hb,if_true] at hi
       rw [Nat.testBit_or,Bool.or_eq_true] at hi
       rcases hi with hi|hi
       ·exact h2 i hi
       ·rw [Nat.testBit_two_pow,decide_eq_true_eq] at hi
        rw [← hi]
        exact hc k o (h k hk) ho e (he e List.mem_cons_self) hb
      ·simp only [hb] at hi
       exact h2 i hi
    exact key _ _ (fun e he=>Array.mem_toList_iff.1 he) h j hj
   ·exact h j hj
  ·exact h j hj
theorem Closed.dep {l:Array Bool} (hc:Closed ops l) (k m i:Nat) (hm:l.getD m false=true) (h:vg ops k m i=true):l.getD i false=true:=by
 refine hc.RF k _ ?_ i h
 intro j hj
 rw [Nat.testBit_two_pow,decide_eq_true_eq] at hj
 rw [← hj];exact hm
theorem fF (l:Array Bool) (i j:Nat) (hi:i<l.size):(l.setIfInBounds i true).getD j false=if i=j then true else l.getD j false:=by
 by_cases h:i=j
 ·subst h;rw [if_pos rfl];simp [hi]
 ·rw [if_neg h];exact getD_set_ne false h
theorem eP {l:Array Bool} (hs:l.size=ops.size) {i:Nat} (h:i∈Region.ready .any ops l):i<l.size:=by
 rw [hs]
 have:=List.mem_filter.1 h
 simpa using this.1
theorem Closed.set {l:Array Bool} (hc:Closed ops l) (hs:l.size=ops.size) {i:Nat} (h:i∈Region.ready .any ops l):Closed ops (l.setIfInBounds i true):=by
 intro m o hm ho e he hb
 have hil:=eP hs h
 rw [fF l i _ hil] at hm ⊢
 split
 ·rfl
 ·split at hm
  ·rename_i him
   subst him
   obtain ⟨_,oi,hoi,hall⟩:=mem_ready.1 h
   rw [ho] at hoi;cases hoi
   exact hall e he hb
  ·exact hc m o hm ho e he hb
theorem vU (hF:∀ f,F.fn f) {i:Nat} {R:Act→World→Prop} {a:Act} {w:World} {K:Act→World→Prop} (hK:∀ a w,R a w→K a w)
  (h:wpListIn F n P ops (fun e a'' w''=>e=.normal∧R a'' w'') (pick ops [i]) a w):wpOpIn F n P ops (bF Q) i K a w:=by
 unfold wpOpIn
 cases ho:ops[i]? with
 |none =>
  simp only [pick,List.filterMap_cons,ho,List.filterMap_nil] at h
  exact hK _ _ h.2
 |some o =>
  simp only [pick,List.filterMap_cons,ho,List.filterMap_nil] at h
  unfold wpListIn at h
  simp only
  split at h
  ·rename_i hw
   rw [if_pos hw]
   refine ⟨fun f _=>hF f,?_⟩
   have h2:=h.2
   have go:∀ {a1:Act} {w1:World},wpListIn F n P ops (fun e a'' w''=>e=.normal∧R a'' w'') [] a1 w1→K a1 w1:=fun h1=>hK _ _ h1.2
   generalize (o.semAt F.round a.eval).run P w=r at h2 ⊢
   cases r with
   |halt x w1 =>
    cases x<;>simp only [Oper.uponIn] at h2 ⊢
    cases h2.1
   |ok x w1 =>
    cases x<;>simp only [Oper.uponIn] at h2 ⊢
    case value u=>exact go h2
    case skip=>exact go h2
    case defer d=>exact go h2
    case enter f args =>
     refine ⟨h2.1,CallsIn.mono h2.2 fun e w2 he=>?_⟩
     cases e with
     |returned u=>exact go he
     |panicked c=>cases he.1
     |outgrown=>obtain ⟨_,_,h⟩:=he;cases h.1
    case row r args=>exact ⟨h2.1,RowsIn.mono h2.2 fun u w2 he=>go he⟩
    case round l f tmps assign body =>
     refine ⟨h2.1,RoundIn.mono h2.2 fun e w2 he=>?_⟩
     cases e with
     |returned u=>exact go he
     |panicked c=>cases he.1
     |outgrown=>obtain ⟨_,_,h⟩:=he;cases h.1
  ·rename_i hw
   rw [if_neg hw]
   exact ⟨fun f _=>hF f,hK _ _ h.2.2⟩
end
end Go.Proofs.YtaaokejjmdbfaaaDoor

namespace Go.Proofs.YtaaokejjmdbfaaaDoor
inductive PV where
 |int (k:IntKind) (n:Int)
 |bool (b:Bool)
 |str (s:ByteArray)
 |list (sz:Nat) (es:List PV)
 |agg (cs:List PV)
 |func (f:Nat) (caps:List PV)
 |su
 |dS (cs:List PV) (j:Nat)
 |void
 |kU (sz:Nat)
 deriving Inhabited
def PV.cells:PV→List PV
 |.agg cs=>cs
 |v=>[v]
inductive Root where
 |slot (t:Nat)
 |part (t i:Nat)
 |cell (o j:Nat)
 deriving DecidableEq
inductive BV where
 |pv (v:PV)
 |row (sz:Nat) (es:List PV)
 deriving Inhabited
inductive AV where
 |pv (v:PV)
 |row (sz:Nat) (es:List PV)
 |ref (r:Root) (off len:Nat)
 |aQ (o j:Nat)
 |ny (r:Root) (i j:Nat)
 |fn (f:Nat) (caps:List AV)
 |jY (st:Bool) (l:List AV)
 |DN (sz:Nat) (es:List PV)
 |oQ
 |any
 deriving Inhabited
structure Box where
 fz:Bool
 cs:List BV
 deriving Inhabited
structure St where
 slots:List AV
 boxes:List Box
 ys:List (List PV)
 stop:Option (Option Nat)
 deriving Inhabited
inductive bP where
 |t (n:Nat)
 |c (v:PV)
 |nil (sz:Nat)
 deriving Inhabited
inductive fM where
 |aj (d:Nat) (x:bP)
 |aB (d:Nat) (x:bP)
 |pick (d:Nat) (c x y:bP)
 |bin (d:Nat) (o:BinOp) (x y:bP)
 |Qs (d:Nat) (neg:Bool) (n:Nat) (x y:bP)
 |eqb (d:Nat) (neg:Bool) (x y:bP)
 |eqm (d:Nat) (neg:Bool) (ks:List Bool) (x y:bP)
 |isn (d:Nat) (neg:Bool) (x:bP)
 |cut (d:Nat) (sz:Nat) (x:bP)
 |Vk (d:Nat) (n:Nat) (x:bP)
 |asz (d:Nat) (n sz:Nat) (x:bP)
 |Qu (d:Nat) (n:Option Nat) (p:bP)
 |mvz (d:Nat) (x:bP)
 |un (d:Nat) (o:UnOp) (x:bP)
 |conv (d:Nat) (k:IntKind) (x:bP)
 |alloc (d:Nat) (z:List PV)
 |box (d:Nat) (x:bP)
 |load (d:Nat) (n:Option Nat) (p:bP)
 |store (d:Option Nat) (n:Nat) (p x:bP)
 |aX (d:Nat) (p:bP) (off:Nat)
 |bC (d:Nat) (sz:Nat) (x i:bP)
 |RG (d:Nat) (p i:bP) (len sz:Nat)
 |fld (d:Nat) (x:bP) (off:Nat) (n:Option Nat)
 |idx (d:Nat) (x i:bP) (len sz:Nat) (n:Option Nat)
 |sli (d:Nat) (sz:Nat) (x:bP) (lo hi:Option bP)
 |sl3 (d:Nat) (sz:Nat) (x hi mx:bP)
 |ext (d:Nat) (x:bP) (i:Nat)
 |build (d:Nat) (z:List PV) (parts:List (Nat × Nat × bP))
 |jZ (d:Nat) (sz:Nat) (parts:List bP)
 |make (d:Nat) (z:PV) (n c:bP)
 |len (d:Nat) (x:bP)
 |lens (d:Nat) (x:bP)
 |app (d:Nat) (sz:Nat) (x y:bP)
 |apb (d:Nat) (x y:bP)
 |apf (d:Nat) (sz:Nat) (x y:bP)
 |cpy (d:Nat) (sz:Nat) (x y:bP)
 |mn (d:Nat) (mx:Bool) (x y:bP)
 |call (d:Nat) (f:Nat) (args:List bP)
 |ku (d:Nat) (x:bP) (args:List bP)
 |yield (d:Nat) (x:bP) (args:List bP)
 |RH (d:Nat) (f:Nat) (caps:List bP)
 |Gg (d:Nat) (f:Nat) (x g:bP)
 |ZX (n:Nat) (p x:bP)
 |ZY (d:Nat) (x:bP)
 |ldm (d:Nat) (n:Nat) (p:bP)
 |NJ (d:Nat) (z:List PV) (parts:List (Nat × Nat × bP)) (off m:Nat)
 |lin (d:Nat) (f:Nat) (x:bP) (args:List bP)
 |linv (d:Nat) (g x:bP) (args:List bP)
 |grd (g:Nat) (want:Bool) (o:fM)
 deriving Inhabited
structure fZ where
 acts:List (List Nat × Nat)
 fin:Option (List Nat × List Nat × Nat × List (List Nat × Nat))
 last:List Nat
 ord:List Nat
 sw:Bool
 deriving Inhabited
inductive ak where
 |skip
 |ops (l:List fM)
 |vk (fz:List bP) (acts:List (List Nat × Nat)) (fin:Option (List Nat × List Nat × Nat × List (List Nat × Nat))) (last:List Nat) (l:List fM)
 |drs (fz:List bP) (keep:List Nat) (vo:List fM) (alts:List fZ)
 |lend (d:Nat) (ks:List Nat) (l:List fM)
 |seq (a b:ak)
 |cond (c:bP) (a b:ak)
 |block (id:Nat) (a:ak)
 |loop (keep:List Nat) (a:ak)
 |round (keep:List Nat) (nb:Nat) (a:ak)
 |rng (g:bP) (ps:List Nat) (assign body:ak)
 |clean (pre post:List Nat) (a:ak)
 |exit (id:Nat)
 |ret
 |dem (l:List fM) (d f:Nat) (args:List bP)
 deriving Inhabited
inductive qw where
 |tmp (t:Nat)
 |cell (t:Nat) (n:Option Nat)
 |own (t n:Nat)
 deriving Inhabited
structure jv where
 nargs:Nat
 ntmps:Nat
 results:List qw
 body:ak
 deriving Inhabited
structure DFn where
 nargs:Nat
 ntmps:Nat
 results:List qw
 pre:ak
 body:ak
 t:Nat
 e:Nat
 akw:Nat
 afK:Option (Nat × Nat × List (Nat × List PV))
 deriving Inhabited
abbrev l9:=PV × Bool
inductive Vs where
 |code (f:jv)
 |ext (g:List PV→Option (List l9))
 |Gg (h:PV→List PV→Option (List PV))
 |nK (h:List PV→Option (Option (Nat × Int)))
 |dfn (f:DFn)
 deriving Inhabited
abbrev Env:=Nat→Option Vs
inductive Ex where
 |normal
 |exit (id:Nat)
 |ret
 |nK (t:Nat) (n:Int)
 deriving DecidableEq,Inhabited
def lim:Nat:=1073741824
def ain:Nat:=5864062014805
def St.get (st:St):bP→AV
 |.t n=>st.slots.getD n .any
 |.c v=>.pv v
 |.nil sz=>.row sz []
def St.put (st:St) (d:Nat) (v:AV):St:={ st with slots:=st.slots.set d v }
def AV.roots (d:Nat):AV→Bool
 |.ref (.slot t) _ _=>t==d
 |.ny (.slot t) _ _=>t==d
 |_=>false
def AV.kill (d:Nat) (v:AV):AV:=if v.roots d then .any else v
def St.putRow (st:St) (d sz:Nat) (es:List PV):St:={ st with slots:=(st.slots.map (AV.kill d)).set d (.row sz es) }
def AV.uz (o:Nat):AV→Bool
 |.ref (.cell p _) _ _=>p==o
 |.ny (.cell p _) _ _=>p==o
 |_=>false
def AV.dG (o:Nat) (v:AV):AV:=if v.uz o then .any else v
def St.setCell (st:St) (o j:Nat) (v:BV):St :=
 match st.boxes[o]? with
 |some b=>{ st with boxes:=st.boxes.set o { b with cs:=b.cs.set j v } }
 |none=>st
def AV.zY (o j:Nat):AV→Bool
 |.ref (.cell p q) _ _=>p==o&&q==j
 |.ny (.cell p q) _ _=>p==o&&q==j
 |_=>false
def AV.iE (o j:Nat) (v:AV):AV:=if v.zY o j then .any else v
def St.jC (st:St) (o j sz:Nat) (es:List PV):St:={ (st.setCell o j (.row sz es)) with slots:=st.slots.map (AV.iE o j) }
def St.row (st:St):Root→Option (Nat × List PV)
 |.slot t=>match st.slots[t]? with
  |some (.row sz es)=>some (sz,es)
  |_=>none
 |.cell o j=>match st.boxes[o]? with
  |some b=>if b.fz then none else match b.cs[j]? with
   |some (.row sz es)=>some (sz,es)
   |_=>none
  |none=>none
 |.part _ _=>none
def St.setRow (st:St) (r:Root) (sz:Nat) (es:List PV):St :=
 match r with
 |.slot t=>st.put t (.row sz es)
 |.cell o j=>st.setCell o j (.row sz es)
 |.part _ _=>st
def St.takeRow (st:St):Root→St
 |.slot t=>st.put t .any
 |.cell o j=>st.setCell o j (.pv .void)
 |.part _ _=>st
def St.freeze (st:St) (r:Root):St :=
 match st.row r with
 |some (sz,es)=>match r with
  |.slot t=>st.put t (.pv (.list sz es))
  |.cell o j=>st.setCell o j (.pv (.list sz es))
  |.part _ _=>st
 |none=>st
def BV.frozen:BV→BV
 |.row sz es=>.pv (.list sz es)
 |v=>v
def BV.val:BV→PV
 |.row sz es=>.list sz es
 |.pv v=>v
def BV.av:BV→AV
 |.pv v=>.pv v
 |.row sz es=>.row sz es
def St.bf (st:St) (o:Nat):St :=
 match st.boxes[o]? with
 |some b=>{ st with boxes:=st.boxes.set o { b with cs:=b.cs.map BV.frozen } }
 |none=>st
def St.aZ (st:St) (o:Nat):St :=
 match st.boxes[o]? with
 |some b=>{ st with boxes:=st.boxes.set o ⟨true,b.cs.map BV.frozen⟩ }
 |none=>st
def St.snap (st:St):AV→Option (PV × Bool)
 |.pv v=>some (v,false)
 |.row sz es=>some (.list sz es,true)
 |.ref r off len=>match st.row r with
  |some (sz,es)=>if off+len≤es.length then some (.list sz ((es.drop off).take len),true) else none
  |none=>none
 |.aQ o j=>match st.boxes[o]? with
  |some b=>some (.dS (b.cs.map BV.val) j,!b.fz)
  |none=>none
 |.ny r i j=>match st.row r with
  |some (_,es)=>match es[i]? with
   |some e=>some (.dS e.cells j,true)
   |none=>none
  |none=>none
 |_=>none
def St.jw (st:St):AV→Option (PV × Bool)
 |.fn f caps=>do
  let l ← caps.mapM st.snap
  some (.func f (l.map (·.1)),l.any (·.2))
 |v=>st.snap v
def St.fH (st:St) (v:AV):St :=
 match v with
 |.aQ o _=>st.aZ o
 |_=>st
def St.consume (st:St):bP→Option (PV × Bool × St)
 |.c v=>some (v,false,st)
 |.nil sz=>some (.list sz [],true,st)
 |.t n=>match st.slots.getD n .any with
  |.pv v=>some (v,false,st)
  |.row sz es=>some (.list sz es,true,st.put n .any)
  |.ref r off len=>match st.row r with
   |some (sz,es)=>if off+len≤es.length then some (.list sz ((es.drop off).take len),false,st.freeze r) else none
   |none=>none
  |.fn f caps =>
   match (caps.foldl St.fH st).jw (.fn f caps) with
   |some (p,false)=>some (p,false,caps.foldl St.fH st)
   |_=>none
  |_=>none
def St.bg (st:St) (x:bP) (v:AV):St :=
 match v with
 |.row _ _=>match x with
  |.t n=>st.freeze (.slot n)
  |_=>st
 |.ref r _ _=>st.freeze r
 |.ny r _ _=>st.freeze r
 |.aQ o _=>st.aZ o
 |_=>st
def St.bZ (st:St) (x:bP):St :=
 match st.get x with
 |.fn _ caps=>caps.foldl (fun s v=>s.bg (.c .void) v) st
 |v=>st.bg x v
def St.gG (st:St) (x:bP):St :=
 match st.get x with
 |.aQ o _=>st.aZ o
 |_=>st
def PV.single:PV→Bool
 |.agg _=>false
 |_=>true
def zBV:PV→BV
 |.list (k+1) []=>.row (k+1) []
 |v=>.pv v
def sBV:PV→BV
 |.kU sz=>.row sz []
 |v=>.pv v
def PV.scalar:PV→Bool
 |.int _ _|.bool _|.str _=>true
 |.agg cs=>cs.all fun c=>match c with
  |.int _ _|.bool _|.str _=>true
  |_=>false
 |_=>false
def iM:List PV→List PV→Option Bool
 |[],[]=>some true
 |.int k a :: xs,.int l b :: ys=>if k=l then (iM xs ys).map fun r=>(a==b)&&r else none
 |_,_=>none
def gq (o:BinOp) (k:IntKind) (a b:Int):Option PV :=
 match o with
 |.add=>some (.int k (k.wrap (a+b)))
 |.sub=>some (.int k (k.wrap (a - b)))
 |.mul=>some (.int k (k.wrap (a * b)))
 |.quo=>if b=0 then none else some (.int k (k.wrap (a.tdiv b)))
 |.rem=>if b=0 then none else some (.int k (a.tmod b))
 |.and=>some (.int k (k.wrap (BitVec.ofInt k.bits a &&& BitVec.ofInt k.bits b).toNat))
 |.or=>some (.int k (k.wrap (BitVec.ofInt k.bits a ||| BitVec.ofInt k.bits b).toNat))
 |.xor=>some (.int k (k.wrap (BitVec.ofInt k.bits a ^^^ BitVec.ofInt k.bits b).toNat))
 |.andNot=>some (.int k (k.wrap (BitVec.ofInt k.bits a &&& ~~~(BitVec.ofInt k.bits b)).toNat))
 |.eql=>some (.bool (a==b))
 |.neq=>some (.bool (a != b))
 |.lss=>some (.bool (a<b))
 |.leq=>some (.bool (a≤b))
 |.gtr=>some (.bool (a > b))
 |.geq=>some (.bool (a ≥ b))
 |.shl=>if b<0 then none else some (.int k (k.wrap (a * 2 ^ (min b.toNat k.bits))))
 |.shr=>if b<0 then none else some (.int k (a.fdiv (2 ^ (min b.toNat k.bits))))
def y8 (o:BinOp) (x y:PV):Option PV :=
 match x,y with
 |.int k a,.int l b=>match o with
  |.shl=>gq .shl k a b
  |.shr=>gq .shr k a b
  |o=>if k=l then gq o k a b else none
 |_,_=>none
def RI (o:UnOp) (x:PV):Option PV :=
 match o,x with
 |.neg,.int k n=>some (.int k (k.wrap (0 - n)))
 |.not,.bool b=>some (.bool !b)
 |.xor,.int k n=>gq .xor k (if k.signed then -1 else k.max) n
 |_,_=>none
def part (cs:List PV) (off:Nat):Option Nat→Option PV
 |none=>cs[off]?
 |some n=>if off+n≤cs.length then some (.agg ((cs.drop off).take n)) else none
def splice (cs:List PV) (off:Nat) (new:List PV):Option (List PV) :=
 if off+new.length≤cs.length then some (cs.take off++new++cs.drop (off+new.length)) else none
def index (i:PV) (len:Nat):Option Nat :=
 match i with
 |.int _ n=>if 0≤n∧n<len then some n.toNat else none
 |_=>none
def bound (v:Option PV) (d:Nat) (y:Nat):Option Nat :=
 match v with
 |none=>some d
 |some (.int _ n)=>if 0≤n∧n≤y then some n.toNat else none
 |_=>none
def PV.sD (e:PV) (cs:List PV):Option PV :=
 match e with
 |.agg _=>some (.agg cs)
 |_=>match cs with
  |[.agg _]=>none
  |[c]=>some c
  |_=>none
def St.dH (st:St) (x:bP):Option PV :=
 match st.get x with
 |.pv v=>some v
 |_=>none
def St.vG (st:St):Option bP→Option (Option PV)
 |none=>some none
 |some x=>(st.dH x).map some
def St.elems (st:St) (x:bP):Option (Nat × List PV) :=
 match st.get x with
 |.pv (.list sz es)=>some (sz,es)
 |.row sz es=>some (sz,es)
 |.ref r off len=>match st.row r with
  |some (sz,es)=>if off+len≤es.length then some (sz,(es.drop off).take len) else none
  |none=>none
 |_=>none
def St.place (st:St) (x:bP):Option (Root × Nat × Nat) :=
 match x with
 |.t n=>match st.slots.getD n .any with
  |.ref r off len=>some (r,off,len)
  |.row _ es=>some (.slot n,0,es.length)
  |_=>none
 |_=>none
def St.grab (st:St) (x:bP):Option (Nat × List PV × St) :=
 match x with
 |.nil sz=>some (sz,[],st)
 |.c _=>none
 |.t n=>match st.slots.getD n .any with
  |.row sz es=>some (sz,es,st.put n .any)
  |.ref r 0 len=>match st.row r with
   |some (sz,es)=>if len≤es.length then some (sz,es.take len,st.takeRow r) else none
   |none=>none
  |.pv (.kU sz)=>some (sz,[],st)
  |_=>none
def RJ:PV→AV
 |.list sz es=>.row sz es
 |v=>.pv v
def St.lay (st:St) (d:Nat) (v:PV) (own:Bool):St :=
 if own then match v with
  |.list sz es=>st.putRow d sz es
  |.agg cs=>st.put d (.jY true (cs.map RJ))
  |v=>st.put d (.pv v)
 else st.put d (.pv v)
def St.layAll (st:St) (d:Nat):List l9→St
 |[(v,own)]=>st.lay d v own
 |l=>st.put d (.jY false (l.map fun r=>match r with
  |(.list sz es,true)=>.row sz es
  |(.agg _,true)=>.any
  |(v,_)=>.pv v))
def gW (cs:List PV) (st:St):List (Nat × Nat × bP)→Option (List PV × St)
 |[]=>some (cs,st)
 |(off,n,x) :: l=>do
  let (v,_,st) ← st.consume x
  let cs ← splice cs off v.cells
  if v.cells.length=n then gW cs st l else none
def capOf (st:St) (x:bP):Option AV :=
 match st.get x with
 |.pv v=>some (.pv v)
 |.aQ o j=>some (.aQ o j)
 |_=>none
def vV (st:St):List bP→Option (List AV)
 |[]=>some []
 |x :: l=>do
  let v ← capOf st x
  let vs ← vV st l
  some (v :: vs)
def chunks (sz:Nat) (cs:List PV) (n:Nat):List PV:=(List.range n).map fun i=>.agg ((cs.drop (i * sz)).take sz)
def AO:List Bool→List PV→List PV→Option Bool
 |[],[],[]=>some true
 |false :: ks,.int k a :: xs,.int l b :: ys=>if k=l then (AO ks xs ys).map (a==b&&·) else none
 |true :: ks,.bool a :: xs,.bool b :: ys=>(AO ks xs ys).map ((a==b)&&·)
 |_,_,_=>none
def plain (o:fM) (st:St):Option St :=
 match o with
 |.aj d x=>match st.get x with
  |.row sz es=>match x with
   |.t n=>some (st.put d (.ref (.slot n) 0 es.length))
   |_=>some (st.putRow d sz es)
  |.jY k l=>match x with
   |.t n=>some ((st.put n .any).put d (.jY k l))
   |_=>none
  |v=>some (st.put d v)
 |.aB d x=>match st.get x with
  |.row sz es=>match x with
   |.t n=>some ((st.put n .any).putRow d sz es)
   |_=>some (st.putRow d sz es)
  |.jY k l=>match x with
   |.t n=>some ((st.put n .any).put d (.jY k l))
   |_=>none
  |v=>some (st.put d v)
 |.pick d c x y=>do
  let .bool b ← st.dH c|none
  let v ← st.dH (if b then x else y)
  some (st.put d (.pv v))
 |.bin d o x y=>do
  let a ← st.dH x
  let b ← st.dH y
  let v ← y8 o a b
  some (st.put d (.pv v))
 |.Qs d neg n x y=>do
  let .agg xs ← st.dH x|none
  let .agg ys ← st.dH y|none
  let r ← iM xs ys
  if xs.length=n then some (st.put d (.pv (.bool (if neg then !r else r)))) else none
 |.eqm d neg ks x y=>do
  let .agg xs ← st.dH x|none
  let .agg ys ← st.dH y|none
  let r ← AO ks xs ys
  some (st.put d (.pv (.bool (if neg then !r else r))))
 |.eqb d neg x y=>do
  let .bool a ← st.dH x|none
  let .bool b ← st.dH y|none
  some (st.put d (.pv (.bool (if neg then !(a==b) else a==b))))
 |.isn d neg x=>match st.get x with
  |.pv (.list _ (_ :: _))=>some (st.put d (.pv (.bool neg)))
  |_=>none
 |.cut d sz x=>match st.get x with
  |.pv (.list _ (_ :: _))=>some (st.putRow d sz [])
  |_=>none
 |.mvz d x=>match x with
  |.t n=>match st.slots.getD n .any with
   |.pv v=>some (st.put d (.pv v))
   |.row sz es=>some ((st.freeze (.slot n)).put d (.pv (.list sz es)))
   |_=>none
  |_=>none
 |.Vk d n x=>match st.get x with
  |.aQ o 0=>match st.boxes[o]? with
   |some b=>if b.cs.length=n∧n≤lim∧(b.cs.map BV.val).all PV.single=true then some ((st.aZ o).put d (.pv (.list 1 (b.cs.map BV.val)))) else none
   |none=>none
  |_=>none
 |.asz d n sz x=>match st.get x with
  |.aQ o 0=>match st.boxes[o]? with
   |some b=>if b.cs.length=n * sz∧n≤lim∧(b.cs.map BV.val).all PV.single=true then some ((st.aZ o).put d (.pv (.list sz (chunks sz (b.cs.map BV.val) n)))) else none
   |none=>none
  |_=>none
 |.ldm d n p=>match st.get p with
  |.aQ o 0=>do
   let b ← st.boxes[o]?
   if b.fz || !(b.cs.length=n) then none
   else some (({ st with boxes:=st.boxes.set o { b with cs:=List.replicate n (.pv .void) } }:St).put d (.jY true (b.cs.map BV.av)))
  |_=>none
 |.Qu d n p=>match st.get p with
  |.aQ o j=>match st.boxes[o]? with
   |some b=>if b.fz then (part (b.cs.map BV.val) j n).map fun v=>st.put d (.pv v) else none
   |none=>none
  |.pv (.dS cs j)=>(part cs j n).map fun v=>st.put d (.pv v)
  |_=>none
 |.un d o x=>do
  let a ← st.dH x
  let v ← RI o a
  some (st.put d (.pv v))
 |.conv d k x=>do
  let .int _ n ← st.dH x|none
  some (st.put d (.pv (.int k (k.wrap n))))
 |.load d n p=>match st.get p with
  |.pv (.dS cs j)=>do some (st.put d (.pv (← part cs j n)))
  |.ny r i j=>do
   let (_,es) ← st.row r
   let e ← es[i]?
   some (st.put d (.pv (← part e.cells j n)))
  |.aQ o j=>do
   let b ← st.boxes[o]?
   match n with
   |none=>match b.cs[j]? with
    |some (.pv v)=>some (st.put d (.pv v))
    |some (.row _ es)=>if b.fz then none else some (st.put d (.ref (.cell o j) 0 es.length))
    |none=>none
   |some n=>do
    let v ← part (b.cs.map BV.val) j (some n)
    some ((st.bf o).put d (.pv v))
  |_=>none
 |.aX d p off=>match st.get p with
  |.pv (.dS cs j)=>some (st.put d (.pv (.dS cs (j+off))))
  |.ny r i j=>match st.row r with
   |some _=>some (st.put d (.ny r i (j+off)))
   |none=>none
  |.aQ o j=>some (st.put d (.aQ o (j+off)))
  |_=>none
 |.RG d p i len sz=>do
  let k ← index (← st.dH i) len
  match st.get p with
  |.pv (.dS cs j)=>some (st.put d (.pv (.dS cs (j+k * sz))))
  |.ny r i j=>match st.row r with
   |some _=>some (st.put d (.ny r i (j+k * sz)))
   |none=>none
  |.aQ o j=>some (st.put d (.aQ o (j+k * sz)))
  |_=>none
 |.bC d sz x i=>do
  let iv ← st.dH i
  match st.get x with
  |.pv (.list s es)=>do
   let k ← index iv es.length
   let e ← es[k]?
   if s=sz then some (st.put d (.pv (.dS e.cells 0))) else none
  |.ref r off len=>do
   let (s,es) ← st.row r
   if off+len≤es.length∧s=sz then
    let k ← index iv len
    some (st.put d (.ny r (off+k) 0))
   else none
  |.row s es=>do
   let .t n:=x|none
   let k ← index iv es.length
   if s=sz then some (st.put d (.ny (.slot n) k 0)) else none
  |_=>none
 |.fld d x off n=>do
  let .agg cs ← st.dH x|none
  some (st.put d (.pv (← part cs off n)))
 |.idx d x i len sz n=>do
  let .agg cs ← st.dH x|none
  let k ← index (← st.dH i) len
  some (st.put d (.pv (← part cs (k * sz) n)))
 |.sli d sz x lo hi=>do
  let l ← st.vG lo
  let h ← st.vG hi
  match st.get x with
  |.pv (.list s es)=>do
   let h ← bound h es.length es.length
   let l ← bound l 0 h
   if s=sz then some (st.put d (.pv (.list sz ((es.drop l).take (h - l))))) else none
  |.row s es=>do
   let .t n:=x|none
   let h ← bound h es.length es.length
   let l ← bound l 0 h
   if s=sz then some (st.put d (.ref (.slot n) l (h - l))) else none
  |.ref r off len=>do
   let (s,es) ← st.row r
   if off+len≤es.length∧s=sz then
    let h ← bound h len len
    let l ← bound l 0 h
    some (st.put d (.ref r (off+l) (h - l)))
   else none
  |_=>none
 |.sl3 d sz x hi mx=>do
  let h ← st.dH hi
  let m ← st.dH mx
  match st.get x with
  |.pv (.list s es)=>do
   let k ← bound (some m) es.length es.length
   let k' ← bound (some h) k k
   if s=sz∧k'=k then some (st.put d (.DN sz (es.take k))) else none
  |.ref r 0 len=>do
   let (s,es) ← st.row r
   let k ← bound (some m) len len
   let k' ← bound (some h) k k
   if len≤es.length∧s=sz∧k'=k then some ((st.freeze r).put d (.DN sz (es.take k))) else none
  |_=>none
 |.len d x=>match st.get x with
  |.pv (.list _ es)=>some (st.put d (.pv (.int .i64 es.length)))
  |.row _ es=>some (st.put d (.pv (.int .i64 es.length)))
  |.ref r _ len=>match st.row r with
   |some _=>some (st.put d (.pv (.int .i64 len)))
   |none=>none
  |_=>none
 |.lens d x=>match st.get x with
  |.pv (.str s)=>some (st.put d (.pv (.int .i64 s.size)))
  |_=>none
 |.ext d x i=>match x with
  |.t n=>match st.slots.getD n .any with
   |.jY false l=>match l[i]? with
    |some (.pv v)=>some (st.put d (.pv v))
    |some (.row sz es)=>some ((st.put n (.jY false (l.set i .any))).putRow d sz es)
    |_=>none
   |_=>none
  |_=>none
 |.build d z parts=>do
  let (cs,st) ← gW z st parts
  some (st.put d (.pv (.agg cs)))
 |.NJ d z parts off m=>do
  let (cs,st1) ← gW z st parts
  match st1.slots.getD m .any with
  |.row sz es=>if off<cs.length then some ((st1.put m .any).put d (.jY true ((cs.map AV.pv).set off (.row sz es)))) else none
  |_=>none
 |.mn d mx x y=>do
  let .int k m ← st.dH x|none
  let .int l n ← st.dH y|none
  if k=l then some (st.put d (.pv (.int k (if mx then (if m<n then n else m) else (if n<m then n else m))))) else none
 |.RH d f caps=>do
  let l ← vV st caps
  some (st.put d (.fn f l))
 |_=>none
def mO (st:St):qw→Option (l9 × St)
 |.tmp t=>match st.grab (.t t) with
  |some (sz,es,st1)=>some ((.list sz es,true),st1)
  |none=>match st.slots.getD t .any with
   |.pv v=>some ((v,false),st)
   |.ref r off len=>match st.row r with
    |some (sz,es)=>if off+len≤es.length then some ((.list sz ((es.drop off).take len),false),st.freeze r) else none
    |none=>none
   |_=>none
 |.cell t n=>match st.slots.getD t .any with
  |.aQ o j=>match st.boxes[o]? with
   |some b=>match n with
    |none=>match b.cs[j]? with
     |some (.row sz es)=>if b.fz then none else some ((.list sz es,false),st.freeze (.cell o j))
     |some (.pv v)=>some ((v,false),st)
     |none=>none
    |some n=>(part (b.cs.map BV.val) j (some n)).map fun v=>((v,false),st.bf o)
   |none=>none
  |_=>none
 |.own _ _=>none
def resultList (st:St):List qw→Option (List l9)
 |[]=>some []
 |r :: rs=>do
  let (x,st) ← mO st r
  let l ← resultList st rs
  some (x :: l)
def jD:List BV→Option (List PV)
 |[]=>some []
 |.row sz es :: l=>(jD l).map (PV.list sz es :: ·)
 |.pv (.list _ _) :: _=>none
 |.pv v :: l=>(jD l).map (v :: ·)
def fJ (st:St) (rs:List qw):Option (List l9) :=
 match rs with
 |[.tmp t]=>match st.slots.getD t .any with
  |.fn f caps=>(st.jw (.fn f caps)).map fun p=>[(p.1,false)]
  |_=>resultList st rs
 |[.own t n]=>match st.slots.getD t .any with
  |.aQ o j=>match st.boxes[o]? with
   |some b=>if b.fz || !(j+n≤b.cs.length) then none else (jD ((b.cs.drop j).take n)).map fun cs=>[(.agg cs,true)]
   |none=>none
  |_=>none
 |_=>resultList st rs
inductive kC where
 |row (sz:Nat) (es:List PV)
 |own (l:List AV)
 |box (cs:List PV)
 deriving Inhabited
def kC.av:kC→AV
 |.row sz es=>.row sz es
 |.own l=>.jY true l
 |.box _=>.aQ 0 0
def kC.boxes:kC→List Box
 |.box cs=>[⟨false,cs.map .pv⟩]
 |_=>[]
def qJ (st:St) (x:bP):Option (kC × Option Nat × St) :=
 match st.get x with
 |.jY true l=>match x with
  |.t n=>some (.own l,none,st.put n .any)
  |_=>none
 |.aQ o 0=>match st.boxes[o]? with
  |some b=>if b.fz then none else some (.box (b.cs.map BV.val),some o,st.bf o)
  |none=>none
 |_=>(st.grab x).map fun q=>(.row q.1 q.2.1,none,q.2.2)
def mg (st:St) (bo:Option Nat) (out:Option (List PV)):Option St :=
 match bo,out with
 |none,none=>some st
 |some o,some cs=>match st.boxes[o]? with
  |some b=>some { st with boxes:=st.boxes.set o { b with cs:=cs.map .pv } }
  |none=>none
 |_,_=>none
def iJ (x:kC) (st:St) (rs:List qw):Option (List l9 × Option (List PV)) :=
 match x with
 |.box _=>match (st.bf 0).boxes[0]? with
  |some b=>if b.fz then none else (resultList (st.bf 0) rs).map fun l=>(l,some (b.cs.map BV.val))
  |none=>none
 |_=>(fJ st rs).map fun l=>(l,none)
def swapAt (m o:Nat):Nat:=if o=m then m+1 else if o=m+1 then m else o
def Root.ren (p:Nat→Nat):Root→Root
 |.cell o j=>.cell (p o) j
 |r=>r
def Vt (p:Nat→Nat):AV→AV
 |.aQ o j=>.aQ (p o) j
 |v=>v
def AV.ren (p:Nat→Nat):AV→AV
 |.ref r off len=>.ref (r.ren p) off len
 |.aQ o j=>.aQ (p o) j
 |.ny r i j=>.ny (r.ren p) i j
 |.fn f caps=>.fn f (caps.map (Vt p))
 |v=>v
def St.swap2 (st:St) (nb:Nat):Option St :=
 if nb+2≤st.boxes.length then some { st with slots:=st.slots.map (AV.ren (swapAt (st.boxes.length - 2))),boxes:=st.boxes.take (st.boxes.length - 2)++(st.boxes.drop (st.boxes.length - 1)++(st.boxes.drop (st.boxes.length - 2)).take 1) } else none
def qx (a b:ByteArray):Bool:=a.data.toList==b.data.toList
mutual
def PV.same:PV→PV→Bool
 |.int k n,.int l m=>k==l&&n==m
 |.bool a,.bool b=>a==b
 |.str a,.str b=>qx a b
 |.list s es,.list t fs=>s==t&&PV.jg es fs
 |.agg cs,.agg ds=>PV.jg cs ds
 |.func f cs,.func g ds=>f==g&&PV.jg cs ds
 |.su,.su=>true
 |.dS cs j,.dS ds k=>j==k&&PV.jg cs ds
 |.void,.void=>true
 |.kU s,.kU t=>s==t
 |_,_=>false
def PV.jg:List PV→List PV→Bool
 |[],[]=>true
 |x :: xs,y :: ys=>PV.same x y&&PV.jg xs ys
 |_,_=>false
end
mutual
def AV.same:AV→AV→Bool
 |.pv x,.pv y=>PV.same x y
 |.row s es,.row t fs=>s==t&&PV.jg es fs
 |.ref r a b,.ref q c d=>decide (r=q)&&(a==c&&b==d)
 |.aQ o j,.aQ q k=>o==q&&j==k
 |.ny r i j,.ny q k l=>decide (r=q)&&(i==k&&j==l)
 |.fn f cs,.fn g ds=>f==g&&AV.jg cs ds
 |.jY k xs,.jY m ys=>k==m&&AV.jg xs ys
 |.DN s es,.DN t fs=>s==t&&PV.jg es fs
 |.oQ,.oQ=>true
 |.any,.any=>true
 |_,_=>false
def AV.jg:List AV→List AV→Bool
 |[],[]=>true
 |x :: xs,y :: ys=>AV.same x y&&AV.jg xs ys
 |_,_=>false
end
def BV.same:BV→BV→Bool
 |.pv x,.pv y=>PV.same x y
 |.row s es,.row t fs=>s==t&&PV.jg es fs
 |_,_=>false
def kV {α:Type} (f:α→α→Bool):List α→List α→Bool
 |[],[]=>true
 |x :: xs,y :: ys=>f x y&&kV f xs ys
 |_,_=>false
def Box.same (a b:Box):Bool:=a.fz==b.fz&&kV BV.same a.cs b.cs
def St.same (a b:St):Bool:=AV.jg a.slots b.slots&&(kV Box.same a.boxes b.boxes&&(kV PV.jg a.ys b.ys&&decide (a.stop=b.stop)))
def agree (s:St):List (Option St)→Option St
 |[]=>some s
 |o :: l=>o.bind fun s'=>if s'.same s then agree s l else none
def bQ (vo:List fM) (is:List Nat):List fM:=is.map fun i=>vo.getD i default
section
def AV.flat:AV→AV
 |.pv v=>if v.scalar then .pv v else .any
 |.row sz es=>if es.all PV.scalar then .row sz es else .any
 |.aQ o j=>.aQ o j
 |_=>.any
def BV.flat:BV→Bool
 |.pv v=>v.scalar
 |.row _ es=>es.all PV.scalar
def Gh (d:Nat) (ks:List Nat) (sz:Nat) (es:List PV) (st:St) (t:Nat) (new:AV):AV :=
 if t=d then .row sz es
 else if ks.contains t then (match st.slots[t]? with
  |some (.pv v)=>.pv v
  |_=>new.flat) else new.flat
def St.jq (st:St) (d:Nat) (ks:List Nat) (sz:Nat) (es:List PV) (st2:St):Option St :=
 if st2.boxes.all (fun b=>!b.fz&&b.cs.all BV.flat) then some { st2 with slots:=st2.slots.mapIdx (Gh d ks sz es st) } else none
def varOf (st:St) (s:Nat):Option Nat:=match st.slots[s]? with
 |some (.aQ o 0)=>some o
 |_=>none
def afL:AV→Option Nat
 |.aQ o 0=>some o
 |_=>none
def adf (st:St) (d g:Nat):Option (List Nat):=match st.slots[d]? with
 |some (.fn g' caps)=>if g'=g then caps.mapM afL else none
 |_=>none
def PV.Vu:PV→Bool
 |.int _ _|.bool _=>true
 |.list _ []=>true
 |.kU _=>true
 |_=>false
def St.setVar (st:St) (o:Nat) (vals:List PV):Option St:=match st.boxes[o]? with
 |some b=>if b.fz || !(b.cs.length=vals.length) || !(vals.all PV.Vu) then none else some { st with boxes:=st.boxes.set o { b with cs:=vals.map .pv } }
 |none=>none
def St.AP (st:St) (o:Nat):Option Int:=match st.boxes[o]? with
 |some ⟨false,[.pv (.int .i64 m)]⟩=>some m
 |_=>none
def St.nN:List Nat→List (List PV)→St→Option St
 |[],[],st=>some st
 |o :: os,z :: zs,st=>(st.setVar o z).bind fun st=>St.nN os zs st
 |_,_,_=>none
def DFn.begun (fn:DFn) (st:St):Option St:=match fn.afK with
 |some (d,g,zs)=>plain (.RH d g (.t fn.e :: zs.map fun z=>.t z.1)) st
 |none=>some st
def aad (fn:DFn) (oe:Nat) (e:Ex) (st:St):Option St:=match e with
 |.exit _=>none
 |.nK t n=>if t=fn.t then (st.AP oe).bind fun _=>st.setVar oe [.int .i64 n] else none
 |_=>some st
def aae (fn:DFn) (st0:St) (oe:Nat) (st:St):Option St:=match fn.afK with
 |none=>some st
 |some (d,g,zs)=>(adf st0 d g).bind fun os=>if os.head?=some oe∧os.Nodup∧os.length=zs.length+1 then (st.AP oe).bind fun m=>if m=0 then some st else St.nN os.tail (zs.map (·.2)) st else none
def adg (fn:DFn) (st0:St) (e:Ex) (st:St):Option (List l9) :=
 (varOf st0 fn.e).bind fun oe=>(aad fn oe e st).bind fun st2=>(aae fn st0 oe st2).bind fun st3=>fJ st3 fn.results
variable (rec:ak→St→Option (Ex × St)) (env:Env)
def gJ (f:Nat) (args:List PV):Option (List l9) :=
 match env f with
 |some (.ext g)=>g args
 |some (.code fn) =>
  if args.length=fn.nargs then do
   let (e,st) ← rec fn.body ⟨args.map .pv++List.replicate (fn.ntmps - args.length) .any,[],[],none⟩
   match e with
   |.exit _=>none
   |.nK _ _=>none
   |_=>fJ st fn.results
  else none
 |some (.Gg _)=>none
 |some (.nK h)=>(h args).bind fun r=>match r with
  |none=>some []
  |some _=>none
 |some (.dfn fn)=>if args.length=fn.nargs then
   (rec fn.pre ⟨args.map .pv++List.replicate (fn.ntmps - args.length) .any,[],[],none⟩).bind fun r0=>if r0.1=.normal then
    (fn.begun r0.2).bind fun st0=>(rec fn.body st0).bind fun r1=>adg fn st0 r1.1 r1.2 else none
  else none
 |none=>none
def wV (f:Nat) (args:List PV):Option (Option (Nat × Int)) :=
 match env f with
 |some (.nK h)=>h args
 |some (.code fn)=>if args.length=fn.nargs∧fn.results.isEmpty=true then
   (rec fn.body ⟨args.map .pv++List.replicate (fn.ntmps - args.length) .any,[],[],none⟩).bind fun r=>match r.1 with
    |.exit _=>none
    |.nK t n=>some (some (t,n))
    |_=>some none
  else none
 |_=>none
def gK (f:Nat) (caps:List PV) (stop:Option Nat):Option (List (List PV)) :=
 match env f with
 |some (.code fn) =>
  if caps.length+1=fn.nargs∧fn.results.isEmpty=true then do
   let (e,st) ← rec fn.body ⟨.oQ :: (caps.map .pv++List.replicate (fn.ntmps - (caps.length+1)) .any),[],[],some stop⟩
   match e with
   |.exit _=>none
   |.nK _ _=>none
   |_=>some st.ys
  else none
 |_=>none
def gQ (d f:Nat) (args:List bP) (caps:List AV) (st:St):Option St:=do
 let l ← args.mapM fun x=>st.jw (st.get x)
 let k ← caps.mapM st.snap
 let rs ← gJ rec env f (l.map (·.1)++k.map (·.1))
 let st1:=if (l.any (·.2) || k.any (·.2))&&!(rs.all (·.1.scalar)) then caps.foldl (fun s v=>s.bg (.c .void) v) (args.foldl St.bZ st) else st
 some (st1.layAll d rs)
def kG (f:Nat) (x:kC) (args:List PV):Option (List l9 × Option (List PV)) :=
 match env f with
 |some (.code fn) =>
  if args.length+1=fn.nargs then do
   let (e,st) ← rec fn.body ⟨x.av :: (args.map .pv++List.replicate (fn.ntmps - (args.length+1)) .any),x.boxes,[],none⟩
   match e with
   |.exit _=>none
   |.nK _ _=>none
   |_=>iJ x st fn.results
  else none
 |_=>none
def mP (d f:Nat) (x:bP) (args:List bP) (caps:List AV) (st:St):Option St :=
 (args.mapM fun x=>st.jw (st.get x)).bind fun l=>(caps.mapM st.snap).bind fun k=>(if l.any (·.2) || k.any (·.2) then none else qJ st x).bind fun q =>
  (kG rec env f q.1 (l.map (·.1)++k.map (·.1))).bind fun r=>(mg q.2.2 q.2.1 r.2).bind fun st2=>some (st2.layAll d r.1)
def fD (d f:Nat) (x:bP) (args:List bP) (caps:List AV) (st:St):Option St:=mP rec env d f x args caps (args.foldl St.bZ st)
def eF (st:St):List bP→Option (List PV × St)
 |[]=>some ([],st)
 |x :: l=>do
  let (v,_,st) ← st.consume x
  let (vs,st) ← eF st l
  some (v :: vs,st)
def oZ:List AV→Option (List BV)
 |[]=>some []
 |.pv v :: l=>if v.single then (oZ l).map (BV.pv v :: ·) else none
 |.row sz es :: l=>(oZ l).map (BV.row sz es :: ·)
 |_=>none
def act (o:fM) (st:St):Option St :=
 match o with
 |.alloc d z=>some (({ st with boxes:=st.boxes++[(⟨false,z.map zBV⟩:Box)] }:St).put d (.aQ st.boxes.length 0))
 |.box d x=>do
  let (v,own,st) ← st.consume x
  let cs:=match v,own with
   |.list sz es,true=>[BV.row sz es]
   |.kU sz,_=>[BV.row sz []]
   |v,_=>v.cells.map .pv
  some (({ st with boxes:=st.boxes++[(⟨false,cs⟩:Box)] }:St).put d (.aQ st.boxes.length 0))
 |.store _ n p x=>do
  let (v,own,st) ← st.consume x
  match st.get p with
  |.aQ o j=>do
   let b ← st.boxes[o]?
   if b.fz || !(v.cells.length=n) || !(j+n≤b.cs.length) then none
   else match v,own with
    |.list sz es,true=>some (st.jC o j sz es)
    |v,_=>some { st with boxes:=st.boxes.set o { b with cs:=b.cs.take j++v.cells.map .pv++b.cs.drop (j+n) } }
  |.ny r i j=>do
   let (sz,es) ← st.row r
   let e ← es[i]?
   if v.cells.length=n then
    let cs ← splice e.cells j v.cells
    let e' ← e.sD cs
    some (st.setRow r sz (es.set i e'))
   else none
  |_=>none
 |.jZ d sz parts=>do
  let (vs,st) ← eF st parts
  if vs.all fun v=>v.cells.length==sz then some (st.putRow d sz vs) else none
 |.make d z n c=>do
  let .int _ n ← st.dH n|none
  let .int _ c ← st.dH c|none
  if 0≤n∧n≤c∧c≤lim then some (st.putRow d z.cells.length (List.replicate n.toNat z)) else none
 |.app d sz x y=>do
  let (sy,ys) ← st.elems y
  let (sx,es,st) ← st.grab x
  if sx=sz∧sy=sz∧es.length+ys.length≤lim then some (st.putRow d sz (es++ys)) else none
 |.apb d x y=>do
  let (sy,ys) ← st.elems y
  let (sx,es,st) ← st.grab x
  if sx=1∧sy=1∧es.length+ys.length≤ain then some (st.putRow d 1 (es++ys)) else none
 |.apf d sz x y=>do
  let (sy,ys) ← st.elems y
  match st.get x with
  |.DN s es=>if s=sz∧sy=sz∧es.length+ys.length≤lim then some ((st.putRow d sz []).put d (.pv (.list sz (es++ys)))) else none
  |_=>none
 |.cpy d sz x y=>do
  let (sy,ys) ← st.elems y
  let (r,off,len) ← st.place x
  let (sx,es) ← st.row r
  if sx=sz∧sy=sz∧off+len≤es.length then
   let n:=min ys.length len
   some ((st.setRow r sz (es.take off++ys.take n++es.drop (off+n))).put d (.pv (.int .i64 n)))
  else none
 |.ZX n p x=>match x with
  |.t m=>match st.slots.getD m .any with
   |.jY true l=>match (st.put m .any).get p with
    |.aQ o j=>do
     let b ← st.boxes[o]?
     let cs ← oZ l
     if b.fz || !(l.length=n) || !(j+n≤b.cs.length) then none
     else some { (st.put m .any) with slots:=(st.put m .any).slots.map (AV.dG o),boxes:=st.boxes.set o { b with cs:=b.cs.take j++cs++b.cs.drop (j+n) } }
    |_=>none
   |.pv (.agg zs)=>match st.get p with
    |.aQ o j=>do
     let b ← st.boxes[o]?
     if b.fz || !(zs.length=n) || !(j+n≤b.cs.length) then none
     else some { st with slots:=st.slots.map (AV.dG o),boxes:=st.boxes.set o { b with cs:=b.cs.take j++zs.map sBV++b.cs.drop (j+n) } }
    |_=>none
   |_=>none
  |_=>none
 |.ZY d x=>match x with
  |.t m=>match st.slots.getD m .any with
   |.jY true l=>do
    let cs ← oZ l
    some (({ (st.put m .any) with boxes:=st.boxes++[(⟨false,cs⟩:Box)] }:St).put d (.aQ st.boxes.length 0))
   |_=>none
  |_=>none
 |.Gg d f x g=>match env f with
  |some (.Gg h)=>do
   let (r,off,len) ← st.place x
   let (sz,es) ← st.row r
   let c ← st.dH g
   let es' ← h c es
   if off=0∧len=es.length∧es'.length=es.length then some ((st.setRow r sz es').put d .any) else none
  |_=>none
 |.call d f args=>gQ rec env d f args [] st
 |.lin d f x args=>fD rec env d f x args [] st
 |.linv d g x args=>match st.get g with
  |.pv (.func f caps)=>fD rec env d f x args (caps.map .pv) st
  |.fn f caps=>fD rec env d f x args caps st
  |_=>none
 |.ku d x args=>match st.get x with
  |.pv (.func f caps)=>gQ rec env d f args (caps.map .pv) st
  |.fn f caps=>gQ rec env d f args caps st
  |_=>none
 |.yield d x args=>match st.get x with
  |.oQ=>do
   let stop ← st.stop
   let (vs,st) ← eF st args
   match stop with
   |none=>some (({ st with ys:=st.ys++[vs] }:St).put d (.pv (.bool true)))
   |some k=>if st.ys.length<k then some (({ st with ys:=st.ys++[vs] }:St).put d (.pv (.bool (!(st.ys.length+1==k))))) else none
  |_=>none
 |_=>none
def kW:fM→Bool
 |.alloc ..|.box ..|.store ..|.jZ ..|.make ..|.app ..|.apb ..|.apf ..|.cpy ..|.call ..|.ku ..|.yield ..|.Gg ..|.ZX ..|.ZY ..|.lin ..|.linv ..=>true
 |_=>false
def dw:fM→Option Nat
 |.aj d _|.aB d _|.pick d _ _ _|.bin d _ _ _|.Qs d _ _ _ _|.eqb d _ _ _|.eqm d _ _ _ _|.isn d _ _|.cut d _ _|.Vk d _ _|.asz d _ _ _|.Qu d _ _|.ldm d _ _|.ZY d _|.mvz d _|.un d _ _|.conv d _ _|.alloc d _|.box d _|.load d _ _|.aX d _ _|.bC d _ _ _|.RG d _ _ _ _|.fld d _ _ _|.idx d _ _ _ _ _|.sli d _ _ _ _|.sl3 d _ _ _ _
 |.ext d _ _|.build d _ _|.jZ d _ _|.make d _ _ _|.len d _|.lens d _|.app d _ _ _|.apb d _ _|.apf d _ _ _|.cpy d _ _ _|.mn d _ _ _|.call d _ _|.ku d _ _|.yield d _ _|.RH d _ _|.Gg d _ _ _|.lin d _ _ _|.linv d _ _ _=>some d
 |.store d _ _ _=>d
 |.ZX _ _ _=>none
 |.NJ d _ _ _ _=>some d
 |.grd _ _ _=>none
def op1 (o:fM) (st:St):Option St:=if kW o then act rec env o st else plain o st
def op (o:fM) (st:St):Option St :=
 match o with
 |.grd g want o=>match st.slots.getD g .any with
  |.pv (.bool b)=>if b=want then op1 rec env o st else match dw o with
   |some d=>some (st.put d (.jY false []))
   |none=>some st
  |.jY _ l=>if l.isEmpty then (match dw o with
   |some d=>some (st.put d (.jY false []))
   |none=>some st) else none
  |_=>none
 |o=>op1 rec env o st
def ops:List fM→St→Option St
 |[],st=>some st
 |o :: l,st=>(op rec env o st).bind (ops l)
def AV.low (nb:Nat):AV→Bool
 |.pv _|.row _ _|.DN _ _|.oQ|.any=>true
 |.aQ o _=>o<nb
 |.ref (.cell o _) _ _|.ny (.cell o _) _ _=>o<nb
 |.ref ..|.ny ..=>true
 |.fn _ caps=>caps.all fun c=>match c with
  |.pv _=>true
  |.aQ o _=>o<nb
  |_=>false
 |.jY _ _=>false
def St.head (st:St) (keep:List Nat) (nb:Nat):Option St :=
 let sl:=st.slots.zipIdx.map fun (v,i)=>if keep.contains i then v else .any
 if sl.all (AV.low nb)&&nb≤st.boxes.length then some { st with slots:=sl,boxes:=st.boxes.take nb } else none
def fK (slots:List AV):List Nat→List PV→Option (List AV)
 |[],[]=>some slots
 |p :: ps,v :: vs=>fK (slots.set p (.pv v)) ps vs
 |_,_=>none
def AV.froze:AV→AV
 |.row sz es=>.pv (.list sz es)
 |.jY _ _|.DN _ _|.ref _ _ _|.ny _ _ _=>.any
 |v=>v
def rounds (slots:List AV) (ps:List Nat) (assign body:ak) (nb:Nat):Nat→List (List PV)→St→Option (Option (Ex × Nat) × St)
 |_,[],st=>some (none,st)
 |k,x :: xs,st=>do
  let sl ← fK slots ps x
  let (e,st) ← rec assign { st with slots:=sl }
  match e with
  |.normal=>do
   let (e,st) ← rec body st
   match e with
   |.normal=>if nb≤st.boxes.length then rounds slots ps assign body nb (k+1) xs { st with boxes:=st.boxes.take nb } else none
   |.nK _ _=>none
   |e=>some (some (e,k+1),st)
  |_=>none
def ranged (g:bP) (ps:List Nat) (assign body:ak) (st:St):Option (Ex × St):=do
 let .func f caps ← st.dH g|none
 let slots:=st.slots.map AV.froze
 let st:={ st with slots:=slots }
 let xs ← gK rec env f caps none
 let (r,st1) ← rounds rec slots ps assign body st.boxes.length 0 xs st
 match r with
 |none=>some (.normal,{ st1 with slots:=slots })
 |some (_,k)=>do
  let ys ← gK rec env f caps (some k)
  let (r,st1) ← rounds rec slots ps assign body st.boxes.length 0 ys st
  match r with
  |some (e,m)=>if m=k∧ys.length=k then some (e,{ st1 with slots:=slots }) else none
  |none=>none
def kX (keep:List Nat) (nb:Nat) (sw:Bool) (s:St):Option St:=(s.head keep s.boxes.length).bind fun s=>if sw then s.swap2 nb else some s
def iV (keep:List Nat) (vo:List fM) (st:St) (x:fZ):Option St:=(ops rec env (bQ vo x.ord) st).bind (kX keep st.boxes.length x.sw)
def iO (keep:List Nat) (vo:List fM) (st:St):List fZ→Option St
 |[]=>none
 |x :: xs=>(iV rec env keep vo st x).bind fun s=>agree s (xs.map (iV rec env keep vo st))
def step (c:ak) (st:St):Option (Ex × St) :=
 match c with
 |.skip=>some (.normal,st)
 |.ops l=>(ops rec env l st).map fun st=>(.normal,st)
 |.vk fz _ _ _ l=>(ops rec env l (fz.foldl St.gG st)).map fun st=>(.normal,st)
 |.drs fz keep vo alts=>(iO rec env keep vo (fz.foldl St.gG st) alts).map fun st=>(.normal,st)
 |.lend d ks l=>match st.slots[d]? with
  |some (.row sz es)=>if st.stop.isNone then ((ops rec env l (st.freeze (.slot d))).bind (st.jq d ks sz es)).map fun st=>(.normal,st) else none
  |_=>none
 |.seq a b=>do
  let (e,st) ← rec a st
  match e with
  |.normal=>rec b st
  |e=>some (e,st)
 |.cond c a b=>do
  let .bool t ← st.dH c|none
  if t then rec a st else rec b st
 |.block id a=>do
  let (e,st) ← rec a st
  some (if e=.exit id then .normal else e,st)
 |.loop keep a=>rec (.round keep st.boxes.length a) st
 |.round keep nb a=>do
  let (e,st) ← rec a (← st.head keep nb)
  match e with
  |.normal=>rec (.round keep nb a) st
  |e=>some (e,st)
 |.rng g ps assign body=>ranged rec env g ps assign body st
 |.clean pre post a=>do
  let st1 ← st.head pre st.boxes.length
  let (e,st2) ← rec a st1
  let st3 ← st2.head post st.boxes.length
  some (e,st3)
 |.exit id=>some (.exit id,st)
 |.ret=>some (.ret,st)
 |.dem l d f args=>(ops rec env l st).bind fun st1=>(args.mapM st1.dH).bind fun vs=>(wV rec env f vs).bind fun r=>match r with
  |some (t,n)=>some (.nK t n,st1)
  |none=>(act rec env (.call d f args) st1).map fun st2=>(.normal,st2)
end
def vm (env:Env):Nat→ak→St→Option (Ex × St)
 |0,_,_=>none
 |n+1,c,st=>step (vm env n) env c st
def NK (env:Env) (n f:Nat) (args:List PV):Option (List l9):=gJ (vm env n) env f args
end Go.Proofs.YtaaokejjmdbfaaaDoor

namespace Go.Proofs.YtaaokejjmdbfaaaDoor.V
def eI (n:Int):PV:=.int .i64 n
def eB (b:Bool):PV:=.bool b
def nM (x:fV):List PV:=x.toList.map fun b=>.int .u8 (b.toNat:Int)
def lJ (x:fV):PV:=.agg (nM x)
def Vw:fV:=Vector.replicate 8 0
structure o7 where
 start:Int
 count:Int
 deriving DecidableEq
def jh (x:o7):PV:=.agg [.int .i64 x.start,.int .i64 x.count]
structure Wrt where
 volume:Int
 start:Int
 data:List fV
 deriving DecidableEq
def y9 (x:Wrt):PV:=.agg [.int .i64 x.volume,.int .i64 x.start,.list 8 (x.data.map lJ)]
def cO (l:List fV):PV:=.list 8 (l.map lJ)
abbrev zZ:=List (List fV)
theorem ji (x:fV):(nM x).length=8:=by simp [nM]
theorem Ef {α β:Type} (f:α→β) (l:List α) (x:β):(l.map f++[x]).length=l.length+1:=by simp
theorem RN {α β:Type} (f:α→β) (l:List α) (x:β):(l.map f++[x])[l.length]?=some x:=by
 have:(l.map f).length=l.length:=by simp
 rw [← this];simp
theorem RP {α β:Type} (f:α→β) (l:List α) (x y:β):(l.map f++[x]).set l.length y=l.map f++[y]:=by
 have:(l.map f).length=l.length:=by simp
 rw [← this];simp
theorem NM {α β:Type} (f:α→β) (l:List α) (x:β):(l.map f++[x]).take (l.length+1)=l.map f++[x]:=by
 rw [← Ef f l x,List.take_length]
theorem aag (l:List PV):(l.map BV.pv).map BV.val=l:=by
 rw [List.map_map];exact List.map_id' l
theorem NP (l:List PV):(l.map BV.pv).map BV.frozen=l.map BV.pv:=by
 rw [List.map_map];rfl
end Go.Proofs.YtaaokejjmdbfaaaDoor.V

namespace Go.Proofs.YtaaokejjmdbfaaaDoor
open V
def Eh:PV→Option UInt8
 |.int .u8 n=>if 0≤n∧n<256 then some (UInt8.ofNat n.toNat) else none
 |_=>none
def vW {α:Type} (f:PV→Option α):List PV→Option (List α)
 |[]=>some []
 |p :: l=>match f p with
  |some x=>match vW f l with
   |some xs=>some (x :: xs)
   |none=>none
  |none=>none
def AQ:PV→Option fV
 |.agg cs=>match vW Eh cs with
  |some l=>if h:l.length=8 then some ⟨l.toArray,by simpa using h⟩ else none
  |none=>none
 |_=>none
def uD:PV→Option (List fV)
 |.list 8 es=>vW AQ es
 |_=>none
def RQ (n:Int):Bool:=decide (-9223372036854775808≤n)&&decide (n≤9223372036854775807)
theorem Vx {p:PV} {x:UInt8} (h:Eh p=some x):p=.int .u8 (x.toNat:Int):=by
 unfold Eh at h
 split at h
 case h_2=>cases h
 rename_i n
 split at h
 case isFalse=>cases h
 cases h
 rw [UInt8.toNat_ofNat_of_lt' (show n.toNat<2 ^ 8 by omega)]
 congr 1;omega
theorem RS (x:UInt8):Eh (.int .u8 (x.toNat:Int))=some x:=by
 have:=x.toNat_lt
 unfold Eh
 simp only
 rw [if_pos (by omega)]
 simp
theorem yw {α:Type} {f:PV→Option α} {enc:α→PV} (hf:∀ p x,f p=some x→p=enc x):∀ {l:List PV} {xs:List α},vW f l=some xs→l=xs.map enc
 |[],_,h=>by cases h;rfl
 |p :: l,xs,h=>by
  unfold vW at h
  split at h
  case h_2=>cases h
  rename_i x hx
  split at h
  case h_2=>cases h
  rename_i ys hy
  cases h
  rw [List.map_cons,← hf p x hx,← yw hf hy]
theorem vX {α:Type} {f:PV→Option α} {enc:α→PV}:∀ {l:List α},(∀ x∈l,f (enc x)=some x)→vW f (l.map enc)=some l
 |[],_=>rfl
 |x :: l,h=>by
  simp only [List.map_cons,vW,h x (by simp),vX (l:=l) fun y hy=>h y (by simp [hy])]
theorem RU {p:PV} {x:fV} (h:AQ p=some x):p=lJ x:=by
 unfold AQ at h
 split at h
 case h_2=>cases h
 rename_i cs
 split at h
 case h_2=>cases h
 rename_i l hl
 split at h
 case isFalse=>cases h
 rename_i h8
 cases h
 rw [yw (fun p x=>Vx) hl]
 simp [lJ,nM,Vector.toList]
theorem NQ (x:fV):AQ (lJ x)=some x:=by
 unfold AQ lJ nM
 simp only
 rw [vX (f:=Eh) (enc:=fun b:UInt8=>.int .u8 (b.toNat:Int)) fun b _=>RS b]
 simp
 rfl
theorem AU {p:PV} {x:List fV} (h:uD p=some x):p=cO x:=by
 unfold uD at h
 split at h
 case h_2=>cases h
 rw [yw (fun p x=>RU) h];rfl
theorem sF (x:List fV):uD (cO x)=some x:=by
 unfold uD cO
 simp only
 exact vX fun x _=>NQ x
def acD (l:List Int):Int:=if l.length<1∨8<l.length then 6 else if l.any (fun n=>decide (n<1) || decide (n > 4096)) then 2 else 0
def JH (im:List (List fV)):List Int:=im.map fun v=>(v.length:Int)
def acE (sz:List Int) (w:Wrt):Int :=
 if w.volume<0∨(sz.length:Int)≤w.volume then 7 else if w.data.length=0 then 1
 else if w.start<0∨(sz.getD w.volume.toNat 0) - w.data.length<w.start then 2 else 0
def Vy (sz:List Int):List Wrt→Nat→Int × Int
 |[],_=>(0,0)
 |w :: l,i=>if acE sz w≠0 then (i,acE sz w) else Vy sz l (i+1)
def apE (im:List (List fV)) (l:List Wrt):Int:=if acD (JH im)≠0 then acD (JH im) else (Vy (JH im) l 0).2
def lQ (a:Int):PV:=.agg [.int .u8 a,.int .u8 0,.int .u8 0,.int .u8 0,.int .u8 0,.int .u8 0,.int .u8 0,.int .u8 0]
def ptP (a b c d m:Int):PV:=.agg [.int .i64 0,.list 3 [],.list 2 [.agg [.int .i64 4,.list 1 [.int .u64 m]]],.list 1 [.list 8 [lQ a,lQ b,lQ c,lQ d]]]
def Gi:List PV→Option (List l9)
 |[.agg [.int .u8 a,.int .u8 b,.int .u8 c,.int .u8 d],.list 1 [.int .i64 m,.int .i64 n]] =>
  if a=1∧b=5∧c=0∧d=0∧m=0∧n=1 then some [(ptP 1 5 0 0 3,false)]
  else if a=0∧b=5∧c=6∧d=0∧m=1∧n=2 then some [(ptP 0 5 6 0 6,false)] else none
 |_=>none
end Go.Proofs.YtaaokejjmdbfaaaDoor

namespace Go.Proofs.YtaaokejjmdbfaaaDoor
abbrev Run:=(Int × Int) × List fV
def oh (out:List Run):Run:=out.getD (out.length - 1) ((0,0),[])
def oq (v:Int) (i:Nat) (x:fV) (out:List Run):List Run :=
 if 0<out.length∧(oh out).1.1=v∧(oh out).1.2+((oh out).2.length:Int)=(i:Int) then out.set (out.length - 1) ((oh out).1,(oh out).2++[x]) else out++[((v,(i:Int)),[x])]
def Vz (v:Int) (A B:List fV) (out:List Run) (i:Nat):List Run:=if A[i]?=B[i]? then out else oq v i (A.getD i V.Vw) out
def wP (v:Int) (A B:List fV) (s:Nat):Nat→List Run
 |0=>[]
 |k+1=>Vz v A B (wP v A B s k) (s+k)
def okR (v:Int) (i:Nat) (out:List Run):Prop:=∀ x∈out,x.1.1=v∧0≤x.1.2∧x.1.2+(x.2.length:Int)≤(i:Int)∧x.2≠[]
theorem yx {out:List Run} (h:0<out.length):oh out∈out:=by
 unfold oh
 rw [List.getD_eq_getElem?_getD,List.getElem?_eq_getElem (by omega)]
 exact List.getElem_mem _
theorem aah {v:Int} {i:Nat} {x:fV} {out:List Run} (h:okR v i out):okR v (i+1) (oq v i x out)∧(oq v i x out).length≤out.length+1:=by
 unfold oq
 split
 ·rename_i hc
  obtain ⟨h0,_,h1⟩:=hc
  refine ⟨fun y hy=>?_,by simp⟩
  rcases List.mem_or_eq_of_mem_set hy with hy|rfl
  ·obtain ⟨a,b,c,d⟩:=h y hy
   exact ⟨a,b,by omega,d⟩
  ·obtain ⟨a,b,c,d⟩:=h _ (yx h0)
   refine ⟨a,b,?_,by simp⟩
   simp only [List.length_append,List.length_cons,List.length_nil]
   omega
 ·refine ⟨fun y hy=>?_,by simp⟩
  rcases List.mem_append.1 hy with hy|hy
  ·obtain ⟨a,b,c,d⟩:=h y hy
   exact ⟨a,b,by omega,d⟩
  ·rw [List.mem_singleton.1 hy]
   exact ⟨rfl,by simp,by simp,by simp⟩
theorem yA (v:Int) (A B:List fV) (s:Nat):∀ k,okR v (s+k) (wP v A B s k)∧(wP v A B s k).length≤k
 |0=>⟨fun x hx=>by simp [wP] at hx,Nat.le_refl _⟩
 |k+1=>by
  obtain ⟨h1,h2⟩:=yA v A B s k
  unfold wP Vz
  split
  ·exact ⟨fun x hx=>by
    obtain ⟨a,b,c,d⟩:=h1 x hx
    exact ⟨a,b,by omega,d⟩,by omega⟩
  ·obtain ⟨h3,h4⟩:=aah (v:=v) (i:=s+k) (x:=A.getD (s+k) V.Vw) h1
   exact ⟨h3,by omega⟩
theorem qK {v:Int} {i:Nat} {x:fV} {out:List Run}:oq v i x out≠[]:=by
 unfold oq
 split
 ·rename_i h
  intro e
  have:=congrArg List.length e
  rw [List.length_set] at this
  rw [this] at h
  exact Nat.lt_irrefl _ h.1
 ·simp
def toW (r:Run):V.Wrt:=⟨r.1.1,r.1.2,r.2⟩
def JI:List PV→Option (List l9)
 |[.int .i64 v,f,t,.agg [.int .i64 s,.int .i64 m]]=>match uD f,uD t with
  |some A,some B=>if RQ v=true∧0≤s∧0≤m∧s+m≤(A.length:Int)∧s+m≤(B.length:Int)∧A.length≤1000000 then some [(.list 3 (((wP v A B s.toNat m.toNat).map toW).map V.y9),false)] else none
  |_,_=>none
 |_=>none
theorem aai {args:List PV} {rs:List l9} (h:JI args=some rs):∃ (v:Int) (A B:List fV) (s m:Nat),args=[.int .i64 v,V.cO A,V.cO B,.agg [.int .i64 s,.int .i64 m]]∧RQ v=true∧s+m≤A.length∧s+m≤B.length∧A.length≤1000000 ∧
  rs=[(.list 3 (((wP v A B s m).map toW).map V.y9),false)]:=by
 unfold JI at h
 split at h
 ·rename_i v f t s m
  split at h
  ·rename_i A B hA hB
   split at h
   ·rename_i hc
    obtain ⟨c1,c2,c3,c4,c5,c6⟩:=hc
    have e1:=AU hA
    have e2:=AU hB
    subst e1 e2
    cases h
    exact ⟨v,A,B,s.toNat,m.toNat,by rw [Int.toNat_of_nonneg c2,Int.toNat_of_nonneg c3],c1,by omega,by omega,c6,rfl⟩
   ·cases h
  ·cases h
 ·cases h
theorem VA {v:Int} {A B:List fV} {s m:Nat} (h1:RQ v=true) (h2:s+m≤A.length) (h3:s+m≤B.length) (h4:A.length≤1000000) :
  JI [.int .i64 v,V.cO A,V.cO B,.agg [.int .i64 s,.int .i64 m]]=some [(.list 3 (((wP v A B s m).map toW).map V.y9),false)]:=by
 unfold JI
 simp only [sF]
 rw [if_pos ⟨h1,by omega,by omega,by omega,by omega,h4⟩,Int.toNat_natCast,Int.toNat_natCast]
end Go.Proofs.YtaaokejjmdbfaaaDoor

namespace Go.Proofs.YtaaokejjmdbfaaaDoor
open Go.RowKit
theorem iW {w:World} {a:Addr} {v:Value} (h:w.cell? a=some v):∀ x:Later w,x.w.cell? a=some v:=fun x=>(x.below.cell (World.block_lt_of_cell? w a h)).trans h
structure jU (W:World) (g:Nat) where
 w:World
 grown:W.grownBy w (some g)
instance (W:World) (g:Nat):Nonempty (jU W g):=⟨⟨W,World.grownBy.refl _ _⟩⟩
theorem jU.of {W w:World} {g:Nat} (h:W.grownBy w (some g)):∃ x:jU W g,w=x.w:=⟨⟨w,h⟩,rfl⟩
theorem grown_drew (W:World) (row:Option Nat):W.grownBy W.drew row:=⟨rfl,rfl,rfl,Nat.le_refl _,fun _ _ _=>rfl⟩
theorem jU.drew (W:World) (g:Nat):∃ x:jU W g,W.drew=x.w:=jU.of (grown_drew _ _)
theorem ou {w:World} {g:Nat} {a:Addr} {v:Value} (h:w.cell? a=some v) (hne:a.block≠g):∀ x:jU w g,x.w.cell? a=some v:=fun x =>
 x.grown.cell h fun e=>hne (Option.some.inj e)
theorem zf {a b c:World} {row:Option Nat} (h:a.grownBy b row) (k:b.grownBy c row):a.grownBy c row :=
 ⟨k.os.trans h.os,k.tape.trans h.tape,k.output.trans h.output,Nat.le_trans h.size k.size,fun i hi hr=>(k.block i (Nat.lt_of_lt_of_le hi h.size) hr).trans (h.block i hi hr)⟩
theorem Ei {w w':World} {row:Option Nat} (h:w.grownBy w' none):w.grownBy w' row:=⟨h.os,h.tape,h.output,h.size,fun k hk _=>h.block k hk (by simp)⟩
theorem grown_below {B:Nat} {w w':World} {row:Option Nat} (h:w.grownBy w' row) (hB:B≤w.heap.size) (hr:∀ k,row=some k→B≤k):Below B w w':=(Below.refl B w).grown h hB hr
theorem below_grown {w w':World} (h:Below w.heap.size w w'):w.grownBy w' none:=⟨h.os,h.tape,h.output,h.size,fun k hk _=>h.block k hk⟩
theorem AX (w:World) (E:TypeId) (cs:Array Value):∀ j u,cs.toList[j]?=some u→(w.alloc (.cells cs E)).cell? ((⟨w.heap.size,0,none⟩:Addr).add j)=some u:=fun j u hu=>by
 rw [Addr.add_lit,Nat.zero_add,World.cell?_alloc_mark w cs E (0,0) j]
 simpa using hu
theorem VB {α:Type} {r:Rep α} {ok:Nat→Prop} {w w':World} {cs:List Value} {x:α} (h:r.rd ok w cs x) (hb:Below w.heap.size w w'):r.rd ok w' cs x :=
 r.mono (fun _ hb=>hb.1) (r.frame (fun b hb'=>hb.block b hb'.2) (r.live h))
theorem sG {α:Type} {r:Rep α} {ok:Nat→Prop} {w:World} {cs:List Value} {x:α} (h:r.rd ok w cs x) {o:Obj}:r.rd ok (w.alloc o) cs x:=VB h ((Below.refl _ _).alloc (Nat.le_refl _) _)
def cZ {α:Type} (r:Rep α) (tag:Nat→Nat) (ok:Nat→Prop) (w:World):Nat→List Value→List α→Prop
 |_,xs,[]=>xs=[]
 |i,xs,x :: l=>∃ c rest,xs=c++rest∧r.rd (fun b=>ok b∧tag b=i) w c x∧cZ r tag ok w (i+1) rest l
section
variable {α:Type} {r:Rep α} {tag tag':Nat→Nat} {ok ok':Nat→Prop} {w w':World}
theorem cZ.mono (hk:∀ b,ok b→ok' b):∀ {l:List α} {i:Nat} {xs:List Value},cZ r tag ok w i xs l→cZ r tag ok' w i xs l
 |[],_,_,h=>h
 |_ :: _,_,_,⟨c,rest,e,h1,h2⟩=>⟨c,rest,e,r.mono (fun b hb=>⟨hk b hb.1,hb.2⟩) h1,h2.mono hk⟩
theorem cZ.retag (hk:∀ b,ok b→tag' b=tag b):∀ {l:List α} {i:Nat} {xs:List Value},cZ r tag ok w i xs l→cZ r tag' ok w i xs l
 |[],_,_,h=>h
 |_ :: _,_,_,⟨c,rest,e,h1,h2⟩=>⟨c,rest,e,r.mono (fun b hb=>⟨hb.1,by rw [hk b hb.1];exact hb.2⟩) h1,h2.retag hk⟩
theorem cZ.live:∀ {l:List α} {i:Nat} {xs:List Value},cZ r tag ok w i xs l→cZ r tag (fun b=>ok b∧b<w.heap.size) w i xs l
 |[],_,_,h=>h
 |_ :: _,_,_,⟨c,rest,e,h1,h2⟩=>⟨c,rest,e,r.mono (fun b hb=>⟨⟨hb.1.1,hb.2⟩,hb.1.2⟩) (r.live h1),h2.live⟩
theorem cZ.frame (hf:∀ b,ok b→w'.heap[b]?=w.heap[b]?):∀ {l:List α} {i:Nat} {xs:List Value},cZ r tag ok w i xs l→cZ r tag ok w' i xs l
 |[],_,_,h=>h
 |_ :: _,_,_,⟨c,rest,e,h1,h2⟩=>⟨c,rest,e,r.frame (fun b hb=>hf b hb.1) h1,h2.frame hf⟩
theorem cZ.chunks:∀ {l:List α} {i:Nat} {xs:List Value},cZ r tag ok w i xs l→Chunks r ok w xs l
 |[],_,_,h=>h
 |_ :: _,_,_,⟨c,rest,e,h1,h2⟩=>⟨c,rest,e,r.mono (fun b hb=>hb.1) h1,h2.chunks⟩
theorem cZ.snoc {c:List Value} {x:α}:∀ {l:List α} {i:Nat} {xs:List Value},cZ r tag ok w i xs l→r.rd (fun b=>ok b∧tag b=i+l.length) w c x→cZ r tag ok w i (xs++c) (l++[x])
 |[],i,xs,h,hc=>by
  simp only [cZ] at h
  subst h
  exact ⟨c,[],by simp,by simpa using hc,rfl⟩
 |y :: l,i,xs,⟨d,rest,e,h1,h2⟩,hc=>⟨d,rest++c,by rw [e,List.append_assoc],h1,h2.snoc (by rw [List.length_cons] at hc;rw [show i+1+l.length=i+(l.length+1) by omega];exact hc)⟩
theorem cZ.pick:∀ {l:List α} {i:Nat} {xs:List Value},cZ r tag ok w i xs l→∀ {k:Nat} {x:α},l[k]?=some x →
  ∃ c,(∀ j,j<r.sz→xs[k * r.sz+j]?=c[j]?)∧r.rd (fun b=>ok b∧tag b=i+k) w c x ∧
   ∀ (w':World) (x':α),(∀ b,ok b→tag b≠i+k→w'.heap[b]?=w.heap[b]?)→r.rd (fun b=>ok b∧tag b=i+k) w' c x'→cZ r tag ok w' i xs (l.set k x')
 |[],_,_,_,k,x,hx=>by simp at hx
 |y :: l,i,xs,⟨c,rest,e,h1,h2⟩,0,x,hx=>by
  simp only [List.getElem?_cons_zero,Option.some.injEq] at hx
  subst hx
  refine ⟨c,fun j hj=>by rw [e,Nat.zero_mul,Nat.zero_add,List.getElem?_append_left (by rw [r.len h1];exact hj)],h1,fun w' x' hf hr=>?_⟩
  refine ⟨c,rest,e,hr,?_⟩
  -- the tail's elements bear other tags
  have:∀ {l:List α} {m:Nat} {xs:List Value},i<m→cZ r tag ok w m xs l→cZ r tag ok w' m xs l:=by
   intro l
   induction l with
   |nil=>intro m xs _ h;exact h
   |cons z l ih =>
    intro m xs hm h
    obtain ⟨d,rs,e',h3,h4⟩:=h
    exact ⟨d,rs,e',r.frame (fun b hb=>hf b hb.1 (by rw [hb.2];omega)) h3,ih (by omega) h4⟩
  exact this (Nat.lt_succ_self _) h2
 |y :: l,i,xs,⟨c,rest,e,h1,h2⟩,k+1,x,hx=>by
  obtain ⟨d,h3,h4,h5⟩:=h2.pick (k:=k) (x:=x) (by simpa using hx)
  have ei:i+1+k=i+(k+1):=by omega
  refine ⟨d,fun j hj=>?_,by rw [← ei];exact h4,fun w' x' hf hr=>?_⟩
  ·rw [e,List.getElem?_append_right (by rw [r.len h1,Nat.add_mul];omega),r.len h1,← h3 j hj]
   congr 1
   rw [Nat.add_mul];omega
  ·refine ⟨c,rest,e,r.frame (fun b hb=>hf b hb.1 (by rw [hb.2];omega)) h1,?_⟩
   exact h5 w' x' (fun b hb hne=>hf b hb (by rw [← ei];exact hne)) (by rw [ei];exact hr)
end
def jP {α:Type} (r:Rep α) (B F:Nat) (E:TypeId) (w:World) (v:Value) (l:List α):Prop :=
 ∃ tag xs,w.ownsRow B E r.sz v l.length xs∧cZ r tag (fun b=>B≤b∧b<F∧Option.some b≠v.ownBlock) w 0 xs l
section
variable {α:Type} {r:Rep α} {B F:Nat} {E:TypeId} {w w':World} {v:Value} {l:List α}
theorem jP.nil (r:Rep α) (B F:Nat) (E:TypeId) (w:World):jP r B F E w (.slice none 0 0) []:=⟨fun _=>0,[],World.ownsRow_nil _ _ _ _,rfl⟩
theorem jP.up {F':Nat} (h:jP r B F E w v l) (hF:F≤F'):jP r B F' E w v l :=
 let ⟨tag,xs,h1,h2⟩:=h;⟨tag,xs,h1,h2.mono fun _ hb=>⟨hb.1,Nat.lt_of_lt_of_le hb.2.1 hF,hb.2.2⟩⟩
theorem jP.live (h:jP r B F E w v l):jP r B w.heap.size E w v l :=
 let ⟨tag,xs,h1,h2⟩:=h;⟨tag,xs,h1,h2.live.mono fun _ hb=>⟨hb.1.1,hb.2,hb.1.2.2⟩⟩
theorem jP.lt (h:jP r B F E w v l):∀ k,v.ownBlock=some k→B≤k∧k<w.heap.size:=let ⟨_,_,h1,_⟩:=h;h1.lt
theorem jP.below (h:jP r B F E w v l) (hb:Below w.heap.size w w'):jP r B F E w' v l:=by
 obtain ⟨tag,xs,h1,h2⟩:=h
 exact ⟨tag,xs,h1.kept (below_grown hb) (by cases v.ownBlock<;>simp),(cZ.frame (fun b hb'=>hb.block b hb'.2) h2.live).mono fun b hb=>hb.1⟩
theorem jP.own (h:jP r B F E w v l):Own r B E (B≤·) w v l :=
 let ⟨_,xs,h1,h2⟩:=h;⟨xs,h1,h2.chunks.mono fun _ hb=>⟨hb.1,hb.2.2⟩⟩
theorem jP.sl (h:jP r B F E w v l):∃ a n c,v=.slice a n c∧Sl r (B≤·) w a n c l :=
 let ⟨a,n,c,e,h⟩:=h.own.sl;⟨a,n,c,e,h.mono fun _ hb=>hb.elim id id⟩
theorem mQ {P:Program} {ops:Array Oper} {rest:List Oper} {o:Oper} {a:Act} {Q:Exit→Act→World→Prop} {T bytes:Nat} {z:Value} (ht:yu P T E r.sz bytes z) (hgd:o.guard=none) (s x:Operand)
  (ho:o.op=.call { callee:=.builtin .append,args:=#[s,x],argTypes:=#[T,T] }) (hs:a.eval s=v) (h:jP r B F E w v l) {ad:Addr} {c:Nat} (hx:a.eval x=.slice (some ad) 1 c)
  {y:α} {news:List Value} (hnews:∀ j u,news[j]?=some u→w.cell? (ad.add j)=some u) (hrd:r.rd (F≤·) w news y) (hown:∀ k,v.ownBlock=some k→k<F)
  (h63:l.length+1≤maxLen) (hby:(l.length+1) * bytes≤140737488355328) (hB:B≤F) (hF:F≤w.heap.size)
  (hk:∀ v' w',jP r B w'.heap.size E w' v' (l++[y])→w.grownBy w' v.ownBlock→(v'.ownBlock=v.ownBlock∨v'.ownBlock=some w.heap.size)→wpList P ops Q rest (a.put o.dst v') w'):wpList P ops Q (o :: rest) a w:=by
 refine wpList_plain hgd fun K hK=>?_
 obtain ⟨i,hi,hz0,hz1,hz2⟩:=info_parts ht.i
 obtain ⟨tag,xs,h1,h2⟩:=h
 obtain ⟨v',w',hr,h3,h4,_,h6⟩:=run_append_own_at (P:=P) w B T o.type E i z r.sz bytes ht.u hi hz0 hz1 hz2 ht.zs ht.pos v l.length xs h1 ad 1 c news (by rw [r.len hrd];simp) hnews (r.one hrd) h63 hby (by omega)
 unfold Oper.wp execOp
 simp only [ho,resolve,invoke,builtin,Sem.run_bind,Sem.run_pure,Result.andThen_ok,List.map_toArray,List.map_cons,List.map_nil,hs,hx,hr]
 refine hK _ _ (hk v' w' ?_ h4 h6)
 refine ⟨fun b=>if F≤b then l.length else tag b,xs++news,by rw [List.length_append];exact h3,?_⟩
 have hne:∀ b,b<w.heap.size→Option.some b≠v.ownBlock→Option.some b≠v'.ownBlock:=fun b hb hn=>by
  rcases h6 with h6|h6
  ·rw [h6];exact hn
  ·rw [h6];intro e;have:=Option.some.inj e;omega
 refine cZ.snoc ?_ ?_
 ·have e1:cZ r (fun b=>if F≤b then l.length else tag b) (fun b=>B≤b∧b<F∧Option.some b≠v.ownBlock) w 0 xs l:=h2.retag fun b hb=>by
   show (if F≤b then l.length else tag b)=tag b
   rw [if_neg (by omega)]
  refine (cZ.frame (fun b hb=>h4.block b (by omega) hb.2.2) e1).mono fun b hb=>⟨hb.1,Nat.lt_of_lt_of_le hb.2.1 (Nat.le_trans hF h4.size),hne b (by omega) hb.2.2⟩
 ·have hno:∀ b,F≤b→Option.some b≠v.ownBlock:=fun b hb e=>by have:=hown b e.symm;omega
  refine r.mono (fun b hb=>⟨⟨by omega,Nat.lt_of_lt_of_le hb.2 h4.size,hne b hb.2 (hno b hb.1)⟩,?_⟩) (r.frame (fun b hb=>h4.block b hb.2 (hno b hb.1)) (r.live hrd))
  show (if F≤b then l.length else tag b)=0+l.length
  rw [if_pos hb.1,Nat.zero_add]
def VD {α:Type} (r:Rep α) (ok:Nat→Prop) (w:World) (l:List α) (err:Int):Ending→World→Prop:=fun e w' =>
 ∃ a n c,e=.returned (.tuple #[.slice a n c,.int .i64 err])∧Sl r ok w' a n c l∧Below w.heap.size w w'
theorem VD.mk {α:Type} {r:Rep α} {ok:Nat→Prop} {w w':World} {l:List α} {err err':Int} {a:Option Addr} {n c:Nat} (he:err'=err) (h:Sl r ok w' a n c l) (hB:Below w.heap.size w w') :
  VD r ok w l err (.returned (.tuple #[.slice a n c,.int .i64 err'])) w':=⟨a,n,c,by rw [he],h,hB⟩
def Flat {α:Type} (r:Rep α):Prop:=∀ {ok ok':Nat→Prop} {w w':World} {cs:List Value} {x:α},r.rd ok w cs x→r.rd ok' w' cs x
theorem Flat.int:Flat NI:=fun h=>h
theorem Flat.sec:Flat pR:=fun h=>h
theorem Flat.u8:Flat u8R:=fun h=>h
theorem Flat.u64:Flat ail:=fun h=>h
theorem Flat.bool:Flat afG:=fun h=>h
theorem Chunks.flat {α:Type} {r:Rep α} (hf:Flat r) {ok ok':Nat→Prop} {w w':World}:∀ {l:List α} {xs:List Value},Chunks r ok w xs l→Chunks r ok' w' xs l
 |[],_,h=>h
 |_ :: _,_,⟨c,rest,e,h1,h2⟩=>⟨c,rest,e,hf h1,h2.flat hf⟩
theorem Src.flat {α:Type} {r:Rep α} (hf:Flat r) {ok ok':Nat→Prop} {w:World} {ao:Option Addr} {m c:Nat} {ys:List α} (h:Src r ok w ao m c ys):Src r ok' w ao m c ys :=
 let ⟨h1,h2,news,h3,h4⟩:=h;⟨h1,h2,news,h3,h4.flat hf⟩
theorem jP.at (h:jP r B F E w v l) {k:Nat} {x:α} (hx:l[k]?=some x) :
  ∃ g cap c,∃ NR:Nat→Prop,v=.slice (some ⟨g,0,none⟩) l.length cap∧B≤g∧g<w.heap.size∧(∀ j,j<r.sz→w.cell? ⟨g,k * r.sz+j,none⟩=c[j]?)∧r.rd NR w c x∧(∀ b,NR b→B≤b∧b<F∧b≠g) ∧
   ∀ (w':World) (x':α),(∀ b,b<w.heap.size→¬ NR b→w'.heap[b]?=w.heap[b]?)→w'.os=w.os→w'.tape=w.tape→w'.output=w.output→w.heap.size≤w'.heap.size→r.rd NR w' c x'→jP r B F E w' v (l.set k x'):=by
 obtain ⟨tag,xs,h1,h2⟩:=h
 have hk:=(List.getElem?_eq_some_iff.1 hx).1
 obtain ⟨g,cap,rfl,hBg,hg⟩:∃ g cap,v=.slice (some ⟨g,0,none⟩) l.length cap∧B≤g∧g<w.heap.size:=by
  rcases h1.2 with ⟨_,h0⟩|⟨g,cap,cur,hv,hb,hg,_⟩
  ·omega
  ·exact ⟨g,cap,hv,hb,(Array.getElem?_eq_some_iff.1 hg).1⟩
 obtain ⟨c,h3,h4,h5⟩:=h2.live.pick hx
 refine ⟨g,cap,c,_,rfl,hBg,hg,fun j hj=>?_,h4,fun b hb=>⟨hb.1.1.1,hb.1.1.2.1,fun e=>hb.1.1.2.2 (by rw [e];rfl)⟩,fun w' x' hf hos htp hout hsz hr=>?_⟩
 ·rw [← h3 j hj,h1.cellAt]
  calc k * r.sz+j<k * r.sz+r.sz:=by omega
   _=(k+1) * r.sz:=by rw [Nat.add_mul];omega
   _≤l.length * r.sz:=Nat.mul_le_mul_right _ (by omega)
 ·have h6:=h5 w' x' (fun b hb hne=>hf b hb.2 fun e=>hne (by simpa using e.2)) hr
  refine ⟨tag,xs,?_,h6.mono fun b hb=>hb.1⟩
  rw [List.length_set]
  have hgk:w'.heap[g]?=w.heap[g]?:=hf g hg fun e=>e.1.1.2.2 rfl
  obtain ⟨hl,⟨hv,h0⟩|⟨g',cap',cur,hv,r1,r2,r3⟩⟩:=h1
  ·cases hv
  ·cases hv
   exact ⟨hl,.inr ⟨g,cap,cur,rfl,r1,by rw [hgk];exact r2,r3⟩⟩
end
def jk {α:Type} (r:Rep α) (E:TypeId):Rep (List α) where
 sz:=1
 rd ok w cs l:=∃ v,cs=[v]∧(∀ b,v.ownBlock=some b→ok b)∧Own r 0 E (fun _=>False) w v l∧(l=[]→v=.slice none 0 0∨∃ g c,v=.slice (some ⟨g,0,none⟩) 0 c)
 len h:=by obtain ⟨v,rfl,_⟩:=h;rfl
 mono hk h:=let ⟨v,e,h1,h2⟩:=h;⟨v,e,fun b hb=>hk b (h1 b hb),h2⟩
 live h:=let ⟨v,e,h1,h2,h3⟩:=h;⟨v,e,fun b hb=>⟨h1 b hb,(h2.lt b hb).2⟩,h2,h3⟩
 frame hf h:=by
  obtain ⟨v,e,h1,⟨xs,h2,h3⟩,h4⟩:=h
  refine ⟨v,e,h1,⟨xs,⟨h2.1,?_⟩,(Chunks.frame (fun b hb=>hb.1.elim) h3)⟩,h4⟩
  rcases h2.2 with h0|⟨g,cap,cur,hv,hb,hg,rest⟩
  ·exact .inl h0
  ·refine .inr ⟨g,cap,cur,hv,hb,?_,rest⟩
   rw [hf g (h1 g (by rw [hv];rfl))];exact hg
 one h:=by
  obtain ⟨v,rfl,_,⟨xs,h2,_⟩,_⟩:=h
  intro u hu
  cases List.mem_singleton.1 hu
  rcases h2.2 with ⟨rfl,_⟩|⟨g,cap,cur,rfl,_⟩<;>rfl
theorem jk.sl {α:Type} {r:Rep α} {E:TypeId} {ok:Nat→Prop} {w:World} {v:Value} {l:List α} (hf:Flat r) (h:(jk r E).rd ok w [v] l):∃ a n c,v=.slice a n c∧Sl r ok w a n c l:=by
 obtain ⟨_,e,h1,h2,_⟩:=h
 cases e
 obtain ⟨a,n,c,rfl,h3⟩:=h2.sl
 refine ⟨a,n,c,rfl,h3.len,h3.cap,h3.bnd,h3.nil,h3.cells.imp id fun ⟨b,off,e,_,hb,hc⟩=>⟨b,off,e,h1 b (by rw [e];rfl),hb,fun i x hx=>let ⟨cs,g1,g2⟩:=hc i x hx;⟨cs,g1,hf g2⟩⟩⟩
theorem jk.mk {α:Type} {r:Rep α} {B:Nat} {E:TypeId} {w:World} {v:Value} {l:List α} (h:Own r B E (fun _=>False) w v l) (hv:l=[]→v=.slice none 0 0∨∃ g c,v=.slice (some ⟨g,0,none⟩) 0 c):(jk r E).rd (B≤·) w [v] l:=by
 refine ⟨v,rfl,fun b hb=>(h.lt b hb).1,?_,hv⟩
 obtain ⟨xs,h1,h2⟩:=h
 refine ⟨xs,⟨h1.1,h1.2.imp id fun ⟨g,cap,cur,a1,a2,a3⟩=>⟨g,cap,cur,a1,Nat.zero_le _,a3⟩⟩,h2⟩
section
variable {P:Program} {ops:Array Oper} {rest:List Oper} {o:Oper} {a:Act} {Q:Exit→Act→World→Prop} {α:Type} {r:Rep α} {B:Nat} {E:TypeId} {w:World}
end
section
variable {P:Program} {α:Type} {r:Rep α} {B:Nat} {E:TypeId} {w:World} {g cap:Nat} {l:List α}
end
def Gj (a:Option Addr) (c lo sz:Nat):Option Addr:=if c=lo then a else a.map (·.add (lo * sz))
theorem Sl.sub {α:Type} {r:Rep α} {ok:Nat→Prop} {w:World} {a:Option Addr} {n c:Nat} {l:List α} (h:Sl r ok w a n c l) {s k:Nat} (hk:s+k≤n):Sl r ok w (Gj a c s r.sz) k (c - s) ((l.drop s).take k):=by
 have h1:=h.len
 have h2:=h.cap
 refine ⟨by simp;omega,by omega,Nat.le_trans (Nat.sub_le _ _) h.bnd,fun e=>?_,?_⟩
 ·unfold Gj at e
  split at e
  ·omega
  ·have:a=none:=by simpa using e
   have:=h.nil this
   omega
 ·rcases h.cells with h0|⟨b,off,rfl,hb,hlt,hc⟩
  ·left;omega
  ·by_cases hk0:k=0
   ·exact .inl hk0
   ·refine .inr ⟨b,off+s * r.sz,?_,hb,hlt,fun i x hx=>?_⟩
    ·unfold Gj
     rw [if_neg (by omega)]
     simp [Addr.add_lit]
    ·have hik:i<k:=by have:=(List.getElem?_eq_some_iff.1 hx).1;simp at this;omega
     rw [List.getElem?_take,if_pos hik,List.getElem?_drop] at hx
     obtain ⟨cs,g1,g2⟩:=hc (s+i) x hx
     refine ⟨cs,fun j hj=>?_,g2⟩
     rw [← g1 j hj,Nat.add_mul,Nat.add_assoc off]
section
variable {P:Program} {ops:Array Oper} {rest:List Oper} {o:Oper} {a:Act} {Q:Exit→Act→World→Prop} {α:Type} {r:Rep α} {B:Nat} {E:TypeId} {w:World} {g cap:Nat} {l:List α}
end
section
variable {ok:Nat→Prop} {w:World} {n c:Nat}
theorem Sl.wr {b off:Nat} {l:List (Int × Int × List fV)} (h:Sl (Vp NI (Vp NI (Qr pR))) ok w (some ⟨b,off,none⟩) n c l) {k:Nat} {v s:Int} {d:List fV} (hx:l[k]?=some (v,s,d)) :
  ∃ a' n' c',w.cell? ⟨b,off+k * 3,none⟩=some (.int .i64 v)∧w.cell? ⟨b,off+k * 3+1,none⟩=some (.int .i64 s)∧w.cell? ⟨b,off+k * 3+2,none⟩=some (.slice a' n' c')∧rY v∧rY s∧Sl pR ok w a' n' c' d:=by
 obtain ⟨cs,h1,c1,c2,rfl,⟨rfl,hv⟩,c3,c4,rfl,⟨rfl,hs⟩,a',n',c',rfl,hd⟩:=h.at hx
 refine ⟨a',n',c',?_,?_,?_,hv,hs,hd⟩
 ·exact h1 0 (by show 0<3;omega)
 ·exact h1 1 (by show 1<3;omega)
 ·exact h1 2 (by show 2<3;omega)
theorem Sl.ext {b off:Nat} {l:List (Int × Int)} (h:Sl (Vp NI NI) ok w (some ⟨b,off,none⟩) n c l) {k:Nat} {s m:Int} (hx:l[k]?=some (s,m)) :
  w.cell? ⟨b,off+k * 2,none⟩=some (.int .i64 s)∧w.cell? ⟨b,off+k * 2+1,none⟩=some (.int .i64 m)∧rY s∧rY m:=by
 obtain ⟨cs,h1,c1,c2,rfl,⟨rfl,hv⟩,⟨rfl,hs⟩⟩:=h.at hx
 exact ⟨h1 0 (by show 0<2;omega),h1 1 (by show 1<2;omega),hv,hs⟩
end
end Go.Proofs.YtaaokejjmdbfaaaDoor

namespace Go.Proofs.YtaaokejjmdbfaaaDoor
open Go.RowKit
section
variable {α:Type} {r:Rep α} {tag:Nat→Nat} {ok:Nat→Prop} {w:World}
theorem cZ.put:∀ {l:List α} {i:Nat} {xs:List Value},cZ r tag ok w i xs l→∀ {k:Nat} {x:α},l[k]?=some x→∀ (w':World) (c':List Value) (x':α),(∀ b,ok b→tag b≠i+k→w'.heap[b]?=w.heap[b]?) →
  r.rd (fun b=>ok b∧tag b=i+k) w' c' x'→cZ r tag ok w' i (xs.take (k * r.sz)++(c'++xs.drop ((k+1) * r.sz))) (l.set k x')
 |[],_,_,_,k,x,hx=>by simp at hx
 |y :: l,i,xs,⟨c,rest,e,h1,h2⟩,0,x,hx=>fun w' c' x' hf hr=>by
  have hl:=r.len h1
  have e1:xs.take (0 * r.sz)++(c'++xs.drop ((0+1) * r.sz))=c'++rest:=by
   rw [Nat.zero_mul,List.take_zero,List.nil_append,Nat.zero_add,Nat.one_mul,e,← hl,List.drop_left]
  rw [e1]
  have:∀ {l:List α} {m:Nat} {xs:List Value},i<m→cZ r tag ok w m xs l→cZ r tag ok w' m xs l:=by
   intro l
   induction l with
   |nil=>intro m xs _ h;exact h
   |cons z l ih =>
    intro m xs hm h
    obtain ⟨d,rs,e',h3,h4⟩:=h
    exact ⟨d,rs,e',r.frame (fun b hb=>hf b hb.1 (by rw [hb.2];omega)) h3,ih (by omega) h4⟩
  exact ⟨c',rest,rfl,hr,this (Nat.lt_succ_self _) h2⟩
 |y :: l,i,xs,⟨c,rest,e,h1,h2⟩,k+1,x,hx=>fun w' c' x' hf hr=>by
  have hl:=r.len h1
  have ei:i+1+k=i+(k+1):=by omega
  have ih:=h2.put (k:=k) (x:=x) (by simpa using hx) w' c' x' (fun b hb hne=>hf b hb (by rw [← ei];exact hne)) (by rw [ei];exact hr)
  have e1:(k+1) * r.sz=r.sz+k * r.sz:=by rw [Nat.add_mul,Nat.one_mul];omega
  have e2:(k+1+1) * r.sz=r.sz+(k+1) * r.sz:=by rw [Nat.add_mul (k+1),Nat.one_mul];omega
  refine ⟨c,rest.take (k * r.sz)++(c'++rest.drop ((k+1) * r.sz)),?_,r.frame (fun b hb=>hf b hb.1 (by rw [hb.2];omega)) h1,ih⟩
  rw [e1,e2,e,← hl,List.take_length_add_append,List.drop_length_add_append,List.append_assoc,show (k+1) * c.length=c.length+k * c.length by rw [Nat.add_mul,Nat.one_mul];omega]
end
theorem set_mid {xs c:List Value} {s n j:Nat} {u:Value} (hc:c.length=n) (hs:s+n≤xs.length) (h:∀ j,j<n→xs[s+j]?=c[j]?) (hj:j<n):xs.take s++(c.set j u++xs.drop (s+n))=xs.set (s+j) u:=by
 apply List.ext_getElem?
 intro i
 have e1:(xs.take s).length=s:=by rw [List.length_take];omega
 have e2:(c.set j u).length=n:=by rw [List.length_set];exact hc
 by_cases h1:i<s
 ·rw [List.getElem?_append_left (by rw [e1];exact h1),List.getElem?_take,if_pos h1,List.getElem?_set,if_neg (by omega)]
 ·rw [List.getElem?_append_right (by rw [e1];omega),e1]
  by_cases h2:i<s+n
  ·rw [List.getElem?_append_left (by rw [e2];omega),List.getElem?_set,List.getElem?_set]
   by_cases h3:j=i - s
   ·rw [if_pos h3,if_pos (show s+j=i by omega),if_pos (by omega),if_pos (by omega)]
   ·rw [if_neg h3,if_neg (show ¬ s+j=i by omega),← h (i - s) (by omega)]
    congr 1;omega
  ·rw [List.getElem?_append_right (by rw [e2];omega),e2,List.getElem?_drop,List.getElem?_set,if_neg (by omega)]
   congr 1;omega
section
variable {α:Type} {r:Rep α} {B F:Nat} {E:TypeId} {w:World} {v:Value} {l:List α}
theorem jP.put (h:jP r B F E w v l) {k:Nat} {x:α} (hx:l[k]?=some x) :
  ∃ g cap cur c,∃ NR:Nat→Prop,v=.slice (some ⟨g,0,none⟩) l.length cap∧B≤g∧g<w.heap.size∧w.heap[g]?=some (.cells cur E (0,0))∧(k+1) * r.sz≤cur.size∧(∀ j,j<r.sz→cur[k * r.sz+j]?=c[j]?)∧r.rd NR w c x∧(∀ b,NR b→B≤b∧b<w.heap.size∧b≠g) ∧
   ∀ (w':World) (j:Nat) (u:Value) (x':α),j<r.sz→w'.heap[g]?=some (.cells (cur.setIfInBounds (k * r.sz+j) u) E (0,0))→(∀ b,b<w.heap.size→b≠g→¬ NR b→w'.heap[b]?=w.heap[b]?)→w.heap.size≤w'.heap.size →
    r.rd (fun b=>(NR b∨w.heap.size≤b)∧b≠g) w' (c.set j u) x'→jP r B w'.heap.size E w' v (l.set k x'):=by
 obtain ⟨tag,xs,h1,h2⟩:=h
 have hk:=(List.getElem?_eq_some_iff.1 hx).1
 obtain ⟨hl,⟨_,h0⟩|⟨g,cap,cur,rfl,hb,hg,hnc,hcm,hcs,ht⟩⟩:=h1
 ·omega
 have hgl:g<w.heap.size:=(Array.getElem?_eq_some_iff.1 hg).1
 have hkn:(k+1) * r.sz≤l.length * r.sz:=Nat.mul_le_mul_right _ (by omega)
 have aky:l.length * r.sz≤cap * r.sz:=Nat.mul_le_mul_right _ hnc
 have e1:(k+1) * r.sz=k * r.sz+r.sz:=by rw [Nat.add_mul,Nat.one_mul]
 obtain ⟨c,h3,h4,_⟩:=h2.live.pick hx
 have hcl:=r.len h4
 have hcur:∀ i,i<l.length * r.sz→cur[i]?=xs[i]?:=fun i hi=>by
  rw [← ht,List.getElem?_take,if_pos hi,Array.getElem?_toList]
 refine ⟨g,cap,cur,c,_,rfl,hb,hgl,hg,by omega,fun j hj=>by rw [hcur _ (by omega),h3 j hj],h4,fun b hb=>⟨hb.1.1.1,hb.1.2,fun e=>hb.1.1.2.2 (by rw [e];rfl)⟩,fun w' j u x' hj hg' hf hsz hr=>?_⟩
 have h5:cZ r (fun b=>if w.heap.size≤b then k else tag b) (fun b=>B≤b∧b<w'.heap.size∧b≠g∧(b<w.heap.size→b<F)) w 0 xs l :=
  ((h2.live.retag (tag':=fun b=>if w.heap.size≤b then k else tag b) fun b hb=>by
   show (if w.heap.size≤b then k else tag b)=tag b
   rw [if_neg (by have:=hb.2;omega)]).mono fun b hb=>⟨hb.1.1,by have:=hb.2;omega,fun e=>hb.1.2.2 (by rw [e];rfl),fun _=>hb.1.2.1⟩)
 have h6:=h5.put hx w' (c.set j u) x' (fun b hb hne=>by
  by_cases hbw:b<w.heap.size
  ·refine hf b hbw hb.2.2.1 fun ho=>hne ?_
   show (if w.heap.size≤b then k else tag b)=0+k
   rw [if_neg (by omega)];exact ho.2
  ·exact absurd (show (if w.heap.size≤b then k else tag b)=0+k by rw [if_pos (by omega),Nat.zero_add]) hne) (r.mono (fun b hb=>by
   obtain ⟨⟨h7,h8⟩,h9⟩:=hb
   rcases h7 with h7|h7
   ·refine ⟨⟨h7.1.1.1,h9,h8,fun _=>h7.1.1.2.1⟩,?_⟩
    show (if w.heap.size≤b then k else tag b)=0+k
    rw [if_neg (by have:=h7.1.2;omega)];exact h7.2
   ·refine ⟨⟨by omega,h9,h8,fun e=>by omega⟩,?_⟩
    show (if w.heap.size≤b then k else tag b)=0+k
    rw [if_pos h7,Nat.zero_add]) (r.live hr))
 rw [e1,set_mid hcl (by omega) h3 hj] at h6
 refine ⟨_,xs.set (k * r.sz+j) u,⟨by rw [List.length_set,List.length_set];exact hl,.inr ⟨g,cap,_,by rw [List.length_set],hb,hg',by rw [List.length_set];exact hnc,hcm,by rw [Array.size_setIfInBounds];exact hcs,?_⟩⟩,h6.mono fun b hb=>⟨hb.1,hb.2.1,fun e=>hb.2.2.1 (Option.some.inj e)⟩⟩
 have hA:k * r.sz+j<l.length * r.sz:=by rw [e1] at hkn;omega
 have hB:k * r.sz+j<cur.toList.length:=by rw [Array.length_toList,hcs];omega
 rw [List.length_set,← ht,Array.toList_setIfInBounds]
 apply List.ext_getElem?
 intro i
 rw [List.getElem?_take,List.getElem?_set,List.getElem?_set,List.length_take]
 by_cases hi:i<l.length * r.sz
 ·rw [if_pos hi]
  by_cases c1:k * r.sz+j=i
  ·rw [if_pos c1,if_pos c1,if_pos hB,if_pos (Nat.lt_min.2 ⟨hA,hB⟩)]
  ·rw [if_neg c1,if_neg c1,List.getElem?_take,if_pos hi]
 ·rw [if_neg hi,if_neg (by omega),List.getElem?_take,if_neg hi]
end
def VE {α:Type} (r:Rep α) (E:TypeId):Rep ((Int × Int) × List α) where
 sz:=3
 rd ok w cs x:=∃ v,cs=[.int .i64 x.1.1,.int .i64 x.1.2,v]∧(jk r E).rd ok w [v] x.2
 len h:=by obtain ⟨v,rfl,_⟩:=h;rfl
 mono hk h:=let ⟨v,e,h1⟩:=h;⟨v,e,(jk r E).mono hk h1⟩
 live h:=let ⟨v,e,h1⟩:=h;⟨v,e,(jk r E).live h1⟩
 frame hf h:=let ⟨v,e,h1⟩:=h;⟨v,e,(jk r E).frame hf h1⟩
 one h:=by
  obtain ⟨v,rfl,h1⟩:=h
  intro u hu
  simp only [List.mem_cons,List.not_mem_nil,or_false] at hu
  rcases hu with rfl|rfl|rfl
  ·rfl
  ·rfl
  ·exact (jk r E).one h1 _ (by simp)
end Go.Proofs.YtaaokejjmdbfaaaDoor

namespace Go.Proofs.YtaaokejjmdbfaaaDoor
section
variable {P:Program} {ops:Array Oper} {S:World→Prop} {Q:Act→World→Prop} {f:Nat}
def o8 (P:Program) (ops:Array Oper) (S:World→Prop) (f:Nat) (Q:Act→World→Prop):Nat→Array Bool→Act→World→Prop
 |0,l,a,w=>Region.ready .any ops l=[]∧Q a w
 |fuel+1,l,a,w=>(Region.ready .any ops l=[]→Q a w)∧∀ i∈Region.ready .any ops l,wpOp P ops (bF Q) i (fun a' w'=>((l.setIfInBounds i true).getD f false=true∨S w')∧o8 P ops S f Q fuel (l.setIfInBounds i true) a' w') a w
theorem AY:∀ (fuel:Nat) (l:Array Bool) (a:Act) (w:World),o8 P ops S f Q fuel l a w→wpAny P .any ops (bF Q) fuel l a w
 |0,_,_,_,h=>⟨h.1,rfl,h.2⟩
 |fuel+1,_,_,_,h=>⟨fun h0=>⟨rfl,h.1 h0⟩,fun i hi=>wpOp_mono (fun a' w' h'=>AY fuel _ a' w' h'.2) (h.2 i hi)⟩
theorem DR (hsel:Region.noSelect ops=true) {i:Nat} {oi:Oper} {v:Value} (hi:ops[i]?=some oi) (hfi:f≠i)
  (hT:∀ l:Array Bool,l.size=ops.size→Closed ops l→l.getD i false=false→∀ w,(l.getD f false=true∨S w)→S w) :
  ∀ (fuel:Nat) (l:Array Bool) (a:Act) (w:World),l.size=ops.size→Closed ops l→(l.getD f false=true∨S w) →
   (∀ j oj,ops[j]?=some oj→j≠i→l.getD j true=false→(∀ e∈oj.after,Region.binds .any e=true→e.on≠i)→oi.apart ops oj=true) →
   i∈Region.ready .any ops l→YieldsIf P ops S oi v a →
   o8 P ops S f Q fuel (l.setIfInBounds i true) (a.put oi.dst v) w→o8 P ops S f Q (fuel+1) l a w:=by
 have listed:∀ {l:Array Bool} {w:World},l.size=ops.size→i∈Region.ready .any ops l→(l.getD f false=true∨S w)→((l.setIfInBounds i true).getD f false=true∨S w):=fun hs hr h=>h.imp (fun h=>by rw [fF _ _ _ (eP hs hr),if_neg (Ne.symm hfi)];exact h) id
 have oz:∀ {l:Array Bool},i∈Region.ready .any ops l→l.size=ops.size→l.getD i false=false:=fun h hs=>by
  have h1:=(mem_ready.1 h).1
  have h2:=eP hs h
  simpa [h2] using h1
 intro fuel
 induction fuel with
 |zero =>
  intro l a w hs hc hS _ hr hy H
  refine ⟨fun h=>(by rw [h] at hr;cases hr),fun j hj=>?_⟩
  by_cases hji:j=i
  ·subst hji;exact hy.wpOp hi (hT l hs hc (oz hr hs) w hS) ⟨listed hs hr hS,H⟩
  ·have:=ready_mono hj hji
   rw [H.1] at this
   cases this
 |succ fuel ih =>
  intro l a w hs hc hS hfree hr hy H
  refine ⟨fun h=>(by rw [h] at hr;cases hr),fun j hj=>?_⟩
  by_cases hji:j=i
  ·subst hji;exact hy.wpOp hi (hT l hs hc (oz hr hs) w hS) ⟨listed hs hr hS,H⟩
  ·have h1:=H.2 j (ready_mono hj hji)
   obtain ⟨hjun,oj,hoj,hall⟩:=mem_ready.1 hj
   have hnot:∀ e∈oj.after,Region.binds .any e=true→e.on≠i:=fun e he hb heq=>by
    have h1:=hall e he hb
    rw [heq,oz hr hs] at h1
    cases h1
   have h2:=wpOp_putIf hoj (hfree j oj hoj hji hjun hnot) (fun cs b=>Region.noSelect_spec hsel i oi cs b hi) (fun cs b=>Region.noSelect_spec hsel j oj cs b hoj) (fun c a w h=>by cases h.1) hy h1
   have hs':(l.setIfInBounds j true).size=ops.size:=by simpa using hs
   refine wpOp_mono (fun a' w' h3=>?_) h2
   have hSS:((l.setIfInBounds j true).getD f false=true∨S w'):=h3.2.1.imp (fun h=>by
    rw [fF _ _ _ (by simpa using eP hs hj),fF _ _ _ (eP hs hr),if_neg (Ne.symm hfi)] at h
    rw [fF _ _ _ (eP hs hj)];exact h) id
   refine ⟨hSS,ih (l.setIfInBounds j true) a' w' hs' (hc.set hs hj) hSS (fun k ok hk hki hun hno=>hfree k ok hk hki ?_ hno) (ready_mono hr (Ne.symm hji)) h3.1 ?_⟩
   ·by_cases hjk:j=k
    ·subst hjk;exact hjun
    ·rw [getD_set_ne true hjk] at hun;exact hun
   ·rw [Array.setIfInBounds_comm _ _ hji]
    exact h3.2.2
theorem pV (hsel:Region.noSelect ops=true) {w:World} (hS:S w):∀ (seg:List Nat) (m:Nat) (l l':Array Bool) (a:Act),l.size=ops.size→Closed ops l →
  (∀ i∈seg,f≠i∧vg ops ops.size f i=true)→bK ops seg l=some l' →
  wpQuiet P ops S (fun a'=>∀ (_:l'.size=ops.size) (_:Closed ops l'),o8 P ops S f Q m l' a' w) (pick ops seg) a→o8 P ops S f Q (m+seg.length) l a w
 |[],m,l,l',a,hs,hc,_,hq,h=>by
  simp only [bK,Option.some.injEq] at hq
  subst hq
  exact h hs hc
 |i :: is,m,l,l',a,hs,hc,hT,hq,h=>by
  unfold bK at hq
  split at hq
  case isFalse=>cases hq
  rename_i hcnd
  simp only [Bool.and_eq_true] at hcnd
  obtain ⟨⟨hp,hf⟩,hr⟩:=hcnd
  have hr':i∈Region.ready .any ops l:=by simpa using hr
  cases ho:ops[i]? with
  |none=>rw [ho] at hp;simp at hp
  |some o =>
   rw [ho] at hp
   simp only [Option.map_some,Option.getD_some] at hp
   simp only [pick,List.filterMap_cons,ho] at h
   unfold wpQuiet at h
   have key:∃ v,YieldsIf P ops S o v a∧wpQuiet P ops S (fun a'=>∀ (_:l'.size=ops.size) (_:Closed ops l'),o8 P ops S f Q m l' a' w) (pick ops is) (a.put o.dst v):=by
    split at h
    ·rename_i hw
     obtain ⟨v,h1,h2⟩:=h
     refine ⟨v,.inl ⟨hw,fun w1 hw1=>?_⟩,h2⟩
     have h3:=h1 w1 hw1
     unfold Oper.quietAt at h3
     cases hrun:(execOp a.eval o).run P w1 with
     |halt x w2=>rw [hrun] at h3;exact h3.elim
     |ok x w2 =>
      obtain ⟨y,rfl⟩:=rZ hp hrun
      rw [hrun] at h3
      obtain ⟨e1,e2⟩:=h3
      rw [e1,e2]
    ·rename_i hw
     exact ⟨undef,.inr ⟨by simpa using hw,rfl⟩,h⟩
   obtain ⟨v,hy,hk⟩:=key
   have Z4:=hT i (by simp)
   refine DR hsel ho Z4.1 (fun l _ hc hu w hS=>hS.resolve_left fun hf=>by rw [hc.dep _ _ _ hf Z4.2] at hu;cases hu) (m+is.length) l a w hs hc (.inr hS) (Region.free_spec ho hf) hr' hy ?_
   exact pV hsel hS is m (l.setIfInBounds i true) l' _ (by simpa using hs) (hc.set hs hr') (fun j hj=>hT j (by simp [hj])) hq hk
end
end Go.Proofs.YtaaokejjmdbfaaaDoor

namespace Go.Proofs.YtaaokejjmdbfaaaDoor
section
variable {P:Program} {ops:Array Oper} {S:World→Prop} {Q:Act→World→Prop} {f:Nat}
theorem vH {Q0:Act→World→Prop} {R K:Act→World→Prop} (hK:∀ a w,R a w→K a w) {i:Nat} {a:Act} {w:World} (h:wpList P ops (fun e a'' w''=>e=.normal∧R a'' w'') (pick ops [i]) a w):wpOp P ops (bF Q0) i K a w:=by
 unfold wpOp
 cases ho:ops[i]? with
 |none =>
  simp only [pick,List.filterMap_cons,ho,List.filterMap_nil] at h
  exact hK _ _ h.2
 |some o =>
  simp only [pick,List.filterMap_cons,ho,List.filterMap_nil] at h
  unfold wpList at h
  simp only
  split at h
  ·rename_i hw
   rw [if_pos hw]
   rcases h with h|⟨_,a0,w0,h0⟩
   ·exact .inl (Gf (fun a1 w1 h1=>hK _ _ h1.2) (fun e a1 w1 h1=>h1.1) h)
   ·cases h0.1
  ·rename_i hw
   rw [if_neg hw]
   exact hK _ _ h.2
def JJ (ops:Array Oper) (f:Nat):List (List Nat × Nat)→List Nat→Array Bool→Bool
 |[],bM,l=>bM.all (fun i=>f != i&&vg ops ops.size f i)&&match bK ops bM l with
  |some l1=>(Region.ready .any ops l1==[f])&&(Region.ready .any ops (l1.setIfInBounds f true)).isEmpty
  |none=>false
 |(seg,i) :: more,bM,l=>seg.all (fun i=>f != i&&vg ops ops.size f i)&&f != i&&match bK ops seg l with
  |some l1=>(Region.ready .any ops l1==[i])&&JJ ops f more bM (l1.setIfInBounds i true)
  |none=>false
def uF:List (List Nat × Nat)→List Nat→Nat
 |[],bM=>1+bM.length
 |(seg,_) :: more,bM=>uF more bM+1+seg.length
def Qv (ops:Array Oper) (acts:List (List Nat × Nat)) (bM:List Nat) (f:Nat):Bool :=
 Region.noSelect ops&&(uF acts bM==ops.size)&&JJ ops f acts bM (Array.replicate ops.size false)
def pW (P:Program) (ops:Array Oper) (S:World→Prop) (Q:Act→World→Prop) (f:Nat):List (List Nat × Nat)→List Nat→Act→World→Prop
 |[],bM,a,w=>wpQuiet P ops S (fun a'=>wpList P ops (fun e a'' w''=>e=.normal∧Q a'' w'') (pick ops [f]) a' w) (pick ops bM) a
 |(seg,i) :: more,bM,a,w=>wpQuiet P ops S (fun a'=>wpList P ops (fun e a'' w''=>e=.normal∧S w''∧pW P ops S Q f more bM a'' w'') (pick ops [i]) a' w) (pick ops seg) a
theorem qL {seg:List Nat} {i:Nat} {more:List (List Nat × Nat)} {bM:List Nat} {a:Act} {w:World}
  (h:wpQuiet P ops S (fun a'=>wpList P ops (fun e a'' w''=>e=.normal∧S w''∧pW P ops S Q f more bM a'' w'') (pick ops [i]) a' w) (pick ops seg) a):pW P ops S Q f ((seg,i) :: more) bM a w:=by
 unfold pW;exact h
theorem zh {bM:List Nat} {a:Act} {w:World} (h:wpQuiet P ops S (fun a'=>wpList P ops (fun e a'' w''=>e=.normal∧Q a'' w'') (pick ops [f]) a' w) (pick ops bM) a):pW P ops S Q f [] bM a w:=by
 unfold pW;exact h
theorem AZ (hsel:Region.noSelect ops=true):∀ (acts:List (List Nat × Nat)) (bM:List Nat) (l:Array Bool) (a:Act) (w:World),l.size=ops.size→Closed ops l→JJ ops f acts bM l=true→S w →
  pW P ops S Q f acts bM a w→o8 P ops S f Q (uF acts bM) l a w
 |[],bM,l,a,w,hs,hc,hB,hS,h=>by
  unfold JJ at hB
  simp only [Bool.and_eq_true] at hB
  obtain ⟨hsg,hB⟩:=hB
  split at hB
  case h_2=>cases hB
  rename_i l1 hq
  simp only [Bool.and_eq_true,beq_iff_eq] at hB
  obtain ⟨hr,he⟩:=hB
  unfold pW at h
  exact pV (P:=P) (S:=S) (Q:=Q) (f:=f) hsel hS bM 1 l l1 a hs hc (fun i hi=>by
   have:=List.all_eq_true.1 hsg i hi
   simpa using this) hq (dB (fun a' h' hs1 hc1=>⟨fun h0=>(by rw [hr] at h0;cases h0),fun j hj=>by
    have hj':=hj
    rw [hr] at hj
    obtain rfl:j=f:=by simpa using hj
    exact vH (fun a2 w2 h2=>⟨.inl (by rw [fF _ _ _ (eP hs1 hj'),if_pos rfl]),by simpa using he,h2⟩) h'⟩) _ _ h)
 |(seg,i) :: more,bM,l,a,w,hs,hc,hB,hS,h=>by
  unfold JJ at hB
  simp only [Bool.and_eq_true,bne_iff_ne] at hB
  obtain ⟨⟨hsg,hfi⟩,hB⟩:=hB
  split at hB
  case h_2=>cases hB
  rename_i l1 hq
  simp only [Bool.and_eq_true,beq_iff_eq] at hB
  obtain ⟨hr,hB⟩:=hB
  unfold pW at h
  exact pV (P:=P) (S:=S) (Q:=Q) (f:=f) hsel hS seg (uF more bM+1) l l1 a hs hc (fun i hi=>by
   have:=List.all_eq_true.1 hsg i hi
   simpa using this) hq (dB (fun a' h' hs1 hc1=>⟨fun h0=>(by rw [hr] at h0;cases h0),fun j hj=>by
    have hj':=hj
    rw [hr] at hj
    obtain rfl:j=i:=by simpa using hj
    exact vH (fun a2 w2 h2=>⟨.inr h2.1,AZ hsel more bM _ _ _ (by simpa using hs1) (hc1.set hs1 hj') hB h2.1 h2.2⟩) h'⟩) _ _ h)
theorem sH {id:Nat} {l:List Oper} {a:Act} {w:World} {Q:Exit→Act→World→Prop} (S:World→Prop) (acts:List (List Nat × Nat)) (bM:List Nat) (f:Nat) (hm:P.follows .mixedOrders=true) (hB:Qv l.toArray acts bM f=true) (hS:S w.drew)
  (h:pW P l.toArray S (Q .normal) f acts bM a w.drew):(Code.region id l.toArray true).wp P Q a w:=by
 simp only [Qv,Bool.and_eq_true,beq_iff_eq] at hB
 obtain ⟨⟨hsel,hn⟩,hB⟩:=hB
 refine Code.wp_mono (Q:=bF (Q .normal)) (fun e a w h=>by obtain ⟨rfl,h⟩:=h;exact h) (wp_region_any hm ?_)
 have:=AY _ _ _ _ (AZ hsel acts bM (Array.replicate l.toArray.size false) a _ (by simp) (fun m o hm=>absurd hm (by rw [Array.getD_eq_getD_getElem?,Array.getElem?_replicate];split<;>simp)) hB hS h)
 rw [hn] at this
 exact this
end
end Go.Proofs.YtaaokejjmdbfaaaDoor

namespace Go.Proofs.YtaaokejjmdbfaaaDoor
open Go.RowKit
abbrev zi:Rep (List fV):=Qr pR
abbrev Wr:=Int × Int × List fV
theorem Tryd.mixed:Tryd.prog.follows .mixedOrders=true:=by kernel_rfl
theorem Tryd.acF:yu Tryd.prog 76 78 8 8 (.agg #[.int .u8 0,.int .u8 0,.int .u8 0,.int .u8 0,.int .u8 0,.int .u8 0,.int .u8 0,.int .u8 0]):=⟨Tryd.underlying76,by kernel_rfl,rfl,by decide⟩
theorem Tryd.VF:yu Tryd.prog 50 87 3 40 (.agg #[.int .i64 0,.int .i64 0,.slice none 0 0]):=⟨Tryd.underlying50,by kernel_rfl,rfl,by decide⟩
theorem Tryd.acG (x y:fV) (w:World):(Op.equalIn 10000 78 (.agg (aV x).toArray) (.agg (aV y).toArray)).run Tryd.prog w=.ok (x==y) w:=by
 obtain ⟨i,hi⟩:∃ i,Tryd.prog.info? 5=some i:=Option.isSome_iff_exists.1 (by kernel_rfl)
 exact zN (P:=Tryd.prog) Tryd.underlying78 Tryd.underlying5 hi (by kernel_rfl) x y w
theorem Tryd.Qw {w:World} {b off:Nat} {x:fV} (h:∀ j,j<8→w.cell? ⟨b,off+j,none⟩=(aV x)[j]?):(loadVar 78 ⟨b,off,none⟩).run Tryd.prog w=.ok (.agg (aV x).toArray) w :=
 y7 Tryd.underlying78 rfl (by rw [dY];kernel_rfl) fun j hj=>by rw [Addr.add_lit];exact h j (by rwa [dY] at hj)
theorem Tryd.sJ {ok:Nat→Prop} {w:World} {b off n c k:Nat} {l:List fV} {x:fV} (h:Sl pR ok w (some ⟨b,off,none⟩) n c l) (hx:l[k]?=some x) :
  ∀ w',dL w w'→(loadVar 78 ⟨b,off+k * 8,none⟩).run Tryd.prog w'=.ok (.agg (aV x).toArray) w':=by
 rintro _ ⟨y,rfl⟩
 exact Tryd.Qw ((h.below y.below).sec hx)
theorem RX {n:Nat} (h:n≤maxLen):rY (n:Int):=by unfold rY maxLen at *;omega
theorem Sl.i64 {α:Type} {r:Rep α} {ok:Nat→Prop} {w:World} {a:Option Addr} {n c:Nat} {l:List α} (h:Sl r ok w a n c l):rY (n:Int):=RX (Nat.le_trans h.cap h.bnd)
end Go.Proofs.YtaaokejjmdbfaaaDoor

namespace Go.Proofs.YtaaokejjmdbfaaaDoor
open Go.RowKit
def aaj (n:Int):Bool:=decide (n<1) || decide (4096<n)
def jE (l:List Int):Int:=if l.length<1∨8<l.length then 6 else if l.any aaj then 2 else 0
def lens (im:List (List fV)):List Int:=im.map fun v=>(v.length:Int)
def Gl (im:List (List fV)):Int:=jE (lens im)
end Go.Proofs.YtaaokejjmdbfaaaDoor

namespace Go.Proofs.YtaaokejjmdbfaaaDoor
open Go.RowKit
def adh (sizes:List Int) (vol start:Int) (len:Nat):Int :=
 if vol<0∨(sizes.length:Int)≤vol then 7 else if len=0 then 1
 else if start<0∨sizes.getD vol.toNat 0≤start∨sizes.getD vol.toNat 0 - start<len then 2 else 0
end Go.Proofs.YtaaokejjmdbfaaaDoor

namespace Go.Proofs.YtaaokejjmdbfaaaDoor
open Go.RowKit
end Go.Proofs.YtaaokejjmdbfaaaDoor

namespace Go.Proofs.YtaaokejjmdbfaaaDoor
open Go.RowKit
end Go.Proofs.YtaaokejjmdbfaaaDoor

namespace Go.Proofs.YtaaokejjmdbfaaaDoor
open Go.RowKit
end Go.Proofs.YtaaokejjmdbfaaaDoor

namespace Go.Proofs.YtaaokejjmdbfaaaDoor
open Go.RowKit
end Go.Proofs.YtaaokejjmdbfaaaDoor

namespace Go.Proofs.YtaaokejjmdbfaaaDoor
open Go.RowKit
def afM {α:Type} (e:Int) (l:List α):List α:=if e=0 then l else []
end Go.Proofs.YtaaokejjmdbfaaaDoor

namespace Go.Proofs.YtaaokejjmdbfaaaDoor
open Go.RowKit
abbrev Gm:Rep (List fV):=jk pR 78
theorem Sl.imp {α:Type} {r s:Rep α} {ok:Nat→Prop} {w:World} {a:Option Addr} {n c:Nat} {l:List α} (hz:s.sz=r.sz) (hi:∀ cs x,r.rd ok w cs x→s.rd ok w cs x) (h:Sl r ok w a n c l):Sl s ok w a n c l :=
 ⟨h.len,h.cap,h.bnd,h.nil,h.cells.imp id fun ⟨b,off,e,hb,hl,hc⟩=>⟨b,off,e,hb,hl,fun i x hx=>let ⟨cs,g1,g2⟩:=hc i x hx;⟨cs,by rw [hz];exact g1,hi cs x g2⟩⟩⟩
theorem Gn {ok:Nat→Prop} {w:World} {cs:List Value} {x:List fV} (h:Gm.rd ok w cs x):zi.rd ok w cs x:=by
 obtain ⟨v,rfl,h1⟩:=h
 obtain ⟨a,n,c,rfl,h2⟩:=jk.sl Flat.sec (v:=v) ⟨v,rfl,h1⟩
 exact ⟨a,n,c,rfl,h2⟩
theorem jP.img {B F:Nat} {E:TypeId} {w:World} {v:Value} {im:List (List fV)} (h:jP Gm B F E w v im):∃ a n c,v=.slice a n c∧Sl zi (B≤·) w a n c im :=
 let ⟨a,n,c,e,h⟩:=h.sl;⟨a,n,c,e,Sl.imp (r:=Gm) (s:=zi) rfl (fun _ _ g=>Gn g) h⟩
end Go.Proofs.YtaaokejjmdbfaaaDoor

namespace Go.Proofs.YtaaokejjmdbfaaaDoor
open Go.RowKit
inductive vI where
 |ro
 |box (o:Nat)
 |row (r:Root)
 |other
 deriving DecidableEq
abbrev Tags:=Nat→vI
def dD (w:World) (b:Nat):Prop:=∃ arr E q,w.heap[b]?=some (.cells arr E q)
theorem dD.lt {w:World} {b:Nat} (h:dD w b):b<w.heap.size:=let ⟨_,_,_,h⟩:=h;(Array.getElem?_eq_some_iff.1 h).1
theorem dD.same {w w':World} {b:Nat} (h:dD w b) (hw:w'.heap[b]?=w.heap[b]?):dD w' b:=let ⟨_,_,_,h⟩:=h;⟨_,_,_,hw.trans h⟩
inductive ay (ok:Nat→Prop) (w:World):PV→Value→Prop
 |int (k:IntKind) (n:Int):ay ok w (.int k n) (.int k n)
 |bool (b:Bool):ay ok w (.bool b) (.bool b)
 |str (s:ByteArray):ay ok w (.str s) (.string s)
 |su:ay ok w .su .nilFunc
 |void (v:Value):v.oneCell'=true→ay ok w .void v
 |nil (sz:Nat) (a:Option Addr):ay ok w (.list sz []) (.slice a 0 0)
 |kU (sz:Nat) (a:Option Addr):ay ok w (.kU sz) (.slice a 0 0)
 |list (sz:Nat) (es:List PV) (b off c:Nat) (cv:Nat→Nat→Value):ok b→dD w b→es.length≤c→c≤maxLen→(∀ e∈es,e.cells.length=sz) →
   (∀ i e j x,es[i]?=some e→e.cells[j]?=some x→w.cell? ⟨b,off+i * sz+j,none⟩=some (cv i j)∧(cv i j).oneCell'=true) →
   (∀ i e j x,es[i]?=some e→e.cells[j]?=some x→ay ok w x (cv i j))→ay ok w (.list sz es) (.slice (some ⟨b,off,none⟩) es.length c)
 |agg (cs:List PV) (arr:Array Value):arr.size=cs.length→(∀ (j:Nat) (v:Value),arr[j]?=some v→v.oneCell'=true)→(∀ (j:Nat) (x:PV) (v:Value),cs[j]?=some x→arr[j]?=some v→ay ok w x v)→ay ok w (.agg cs) (.agg arr)
 |func (f:Nat) (caps:List PV) (arr:Array Value):arr.size=caps.length→(∀ (j:Nat) (x:PV) (v:Value),caps[j]?=some x→arr[j]?=some v→ay ok w x v)→ay ok w (.func f caps) (.func (.func f) #[] arr)
 |dS (cs:List PV) (j b off:Nat) (cv:Nat→Value):ok b→dD w b→(∀ k x,cs[k]?=some x→w.cell? ⟨b,off+k,none⟩=some (cv k)∧(cv k).oneCell'=true) →
   (∀ k x,cs[k]?=some x→ay ok w x (cv k))→ay ok w (.dS cs j) (.pointer (some ⟨b,off+j,none⟩))
theorem ay.frame {ok ok':Nat→Prop} {w w':World} (hf:∀ b,ok b→b<w.heap.size→ok' b∧w'.heap[b]?=w.heap[b]?) {x:PV} {v:Value} (h:ay ok w x v):ay ok' w' x v:=by
 induction h with
 |int k n=>exact .int k n
 |bool b=>exact .bool b
 |str s=>exact .str s
 |su=>exact .su
 |void v h=>exact .void v h
 |nil sz a=>exact .nil sz a
 |kU sz a=>exact .kU sz a
 |list sz es b off c cv h1 h2 h3 h4 h6 h7 h8 ih =>
  obtain ⟨g1,g2⟩:=hf b h1 h2.lt
  exact .list sz es b off c cv g1 (h2.same g2) h3 h4 h6 (fun i e j x hi hj=>by
   obtain ⟨k1,k2⟩:=h7 i e j x hi hj
   exact ⟨(World.cell?_of_block (w:=w) (a:=⟨b,_,none⟩) g2).trans k1,k2⟩) ih
 |agg cs arr h1 h2 h3 ih=>exact .agg cs arr h1 h2 ih
 |func f caps arr h1 h2 ih=>exact .func f caps arr h1 ih
 |dS cs j b off cv h1 h2 h3 h4 ih =>
  obtain ⟨g1,g2⟩:=hf b h1 h2.lt
  exact .dS cs j b off cv g1 (h2.same g2) (fun k x hk=>by
   obtain ⟨k1,k2⟩:=h3 k x hk
   exact ⟨(World.cell?_of_block (w:=w) (a:=⟨b,_,none⟩) g2).trans k1,k2⟩) ih
def aH (T:Tags) (w:World) (r:Root) (sz:Nat) (es:List PV) (v:Value):Prop :=
 (es=[]∧∃ a,v=.slice a 0 0) ∨
 ∃ b c arr E,v=.slice (some ⟨b,0,none⟩) es.length c∧T b=.row r∧w.heap[b]?=some (.cells arr E (0,0))∧arr.size=c * sz∧es.length≤c∧c≤maxLen∧(∀ e∈es,e.cells.length=sz) ∧
  ∀ i e j x,es[i]?=some e→e.cells[j]?=some x→∃ u,arr[i * sz+j]?=some u∧u.oneCell'=true∧ay (fun b=>T b=.ro) w x u
def oU (T:Tags) (w w':World):Prop:=w.heap.size≤w'.heap.size∧∀ b,T b≠.other→b<w.heap.size→w'.heap[b]?=w.heap[b]?
theorem oU.refl (T:Tags) (w:World):oU T w w:=⟨Nat.le_refl _,fun _ _ _=>rfl⟩
theorem ay.sees {T T':Tags} {w w':World} (hw:∀ b,T b=.ro→b<w.heap.size→T' b=.ro∧w'.heap[b]?=w.heap[b]?) {x:PV} {v:Value} (h:ay (fun b=>T b=.ro) w x v):ay (fun b=>T' b=.ro) w' x v :=
 h.frame hw
theorem aH.frame {T T':Tags} {w w':World} {r r':Root} {sz:Nat} {es:List PV} {v:Value} (hr:∀ b,T b=.row r→b<w.heap.size→T' b=.row r'∧w'.heap[b]?=w.heap[b]?)
  (hw:∀ b,T b=.ro→b<w.heap.size→T' b=.ro∧w'.heap[b]?=w.heap[b]?) (h:aH T w r sz es v):aH T' w' r' sz es v:=by
 rcases h with h|⟨b,c,arr,E,h1,h2,h3,h4,h5,h6,h7,h8⟩
 ·exact .inl h
 ·have hb:=(Array.getElem?_eq_some_iff.1 h3).1
  obtain ⟨g1,g2⟩:=hr b h2 hb
  refine .inr ⟨b,c,arr,E,h1,g1,g2.trans h3,h4,h5,h6,h7,fun i e j x hi hj=>?_⟩
  obtain ⟨u,k1,k2,k3⟩:=h8 i e j x hi hj
  exact ⟨u,k1,k2,k3.frame hw⟩
theorem aH.list {T T':Tags} {w:World} {r:Root} {sz:Nat} {es:List PV} {v:Value} (hr:∀ b,T b=.row r→T' b=.ro) (hw:∀ b,T b=.ro→T' b=.ro) (h:aH T w r sz es v) :
  ay (fun b=>T' b=.ro) w (.list sz es) v:=by
 rcases h with ⟨rfl,a,rfl⟩|⟨b,c,arr,E,rfl,h2,h3,h4,h5,h6,h7,h8⟩
 ·exact .nil sz a
 ·have hb:=(Array.getElem?_eq_some_iff.1 h3).1
  refine .list sz es b 0 c (fun i j=>arr.getD (i * sz+j) undef) (hr b h2) ⟨_,_,_,h3⟩ h5 h6 h7 (fun i e j x hi hj=>?_) fun i e j x hi hj=>?_
  ·obtain ⟨u,k1,k2,k3⟩:=h8 i e j x hi hj
   rw [cell_of_row w b _ arr E (0,0) h3,Nat.zero_add,k1,Array.getD_eq_getD_getElem?,k1]
   exact ⟨rfl,k2⟩
  ·obtain ⟨u,k1,k2,k3⟩:=h8 i e j x hi hj
   rw [Array.getD_eq_getD_getElem?,k1]
   exact k3.frame fun b hb _=>⟨hw b hb,rfl⟩
def hdr (σ:Nat→Nat) (a:Act) (w:World):Root→Option Value
 |.slot t=>a.tmps[t]?
 |.cell o j=>w.cell? ⟨σ o,j,none⟩
 |.part _ _=>none
def Gp (h:Option Value) (off len sz:Nat) (v:Value):Prop :=
 ∃ a n c a',h=some (.slice a n c)∧v=.slice a' len (c - off)∧(off=0→a'=a)∧(0<len→a'=a.map (·.add (off * sz)))∧∀ b o,a=some ⟨b,o,none⟩→∃ o',a'=some ⟨b,o',none⟩
def NS (h:Option Value) (i j sz:Nat) (v:Value):Prop :=
 ∃ b n c,h=some (.slice (some ⟨b,0,none⟩) n c)∧v=.pointer (some ⟨b,i * sz+j,none⟩)
def gU (nb:Nat) (σ:Nat→Nat) (T:Tags) (w:World):AV→Value→Prop
 |.pv x,v=>ay (fun b=>T b=.ro) w x v
 |.aQ o j,v=>o<nb∧v=.pointer (some ⟨σ o,j,none⟩)
 |_,_=>False
def iP (T:Tags) (w:World) (t i:Nat):AV→Value→Prop
 |.pv x,v=>ay (fun b=>T b=.ro) w x v
 |.row sz es,v=>aH T w (.part t i) sz es v
 |.any,_=>True
 |_,_=>False
def Root.low (nb:Nat):Root→Prop
 |.cell o _=>o<nb
 |_=>True
theorem Root.low_mono {nb nb':Nat} (h:nb≤nb') {r:Root} (hr:r.low nb):r.low nb':=by
 cases r<;>simp only [Root.low] at hr ⊢
 omega
def afN (k:Bool) (arr:Array Value):Value:=if k then .agg arr else .tuple arr
def jF (L:Nat) (σ:Nat→Nat) (T:Tags) (st:St) (a:Act) (w:World) (t:Nat):AV→Value→Prop
 |.pv x,v=>ay (fun b=>T b=.ro) w x v
 |.row sz es,v=>aH T w (.slot t) sz es v
 |.ref r off len,v=>r.low st.boxes.length∧∀ sz es,st.row r=some (sz,es)→Gp (hdr σ a w r) off len sz v
 |.aQ o j,v=>o<st.boxes.length∧v=.pointer (some ⟨σ o,j,none⟩)
 |.ny r i j,v=>r.low st.boxes.length∧∀ sz es,st.row r=some (sz,es)→NS (hdr σ a w r) i j sz v
 |.fn f caps,v=>∃ arr:Array Value,v=.func (.func f) #[] arr∧arr.size=caps.length∧∀ (k:Nat) x u,caps[k]?=some x→arr[k]?=some u→gU st.boxes.length σ T w x u
 |.jY k l,v=>∃ arr:Array Value,v=afN k arr∧arr.size=l.length∧∀ (k:Nat) x u,l[k]?=some x→arr[k]?=some u→iP T w t k x u
 |.DN sz es,v=>ay (fun b=>T b=.ro) w (.list sz es) v∧∃ xa,v=.slice xa es.length es.length
 |.oQ,v=>v=.func (.yield L) #[] #[]
 |.any,_=>True
def DT (T:Tags) (w:World) (o j:Nat):BV→Value→Prop
 |.pv x,u=>ay (fun b=>T b=.ro) w x u
 |.row sz es,u=>aH T w (.cell o j) sz es u
def iK (T:Tags) (w:World) (b o:Nat) (bx:Box):Prop :=
 ∃ arr E,w.heap[b]?=some (.cells arr E (0,0))∧arr.size=bx.cs.length∧T b=(if bx.fz then .ro else .box o)∧(bx.fz=true→∀ (j:Nat) sz es,bx.cs[j]?≠some (.row sz es)) ∧
  ∀ (j:Nat) bv u,bx.cs[j]?=some bv→arr[j]?=some u→u.oneCell'=true∧DT T w o j bv u
structure aI (L:Nat) (σ:Nat→Nat) (T:Tags) (st:St) (a:Act) (w:World):Prop where
 size:a.tmps.size=st.slots.length
 slots:∀ (t:Nat) av v,st.slots[t]?=some av→a.tmps[t]?=some v→jF L σ T st a w t av v
 boxes:∀ (o:Nat) bx,st.boxes[o]?=some bx→iK T w (σ o) o bx
 fresh:∀ b,w.heap.size≤b→T b=.other
structure uG (T T':Tags) (w w':World):Prop where
 size:w.heap.size≤w'.heap.size
 os:w'.os=w.os
 tape:w'.tape=w.tape
 output:w'.output=w.output
 same:∀ b,b<w.heap.size→(T b=.ro∨T b=.other)→w'.heap[b]?=w.heap[b]?
 ro:∀ b,T b=.ro→T' b=.ro
 other:∀ b,b<w.heap.size→T b=.other→T' b=.other
theorem uG.refl (T:Tags) (w:World):uG T T w w:=⟨Nat.le_refl _,rfl,rfl,rfl,fun _ _ _=>rfl,fun _ h=>h,fun _ _ h=>h⟩
theorem uG.trans {T T' T'':Tags} {a b c:World} (h:uG T T' a b) (k:uG T' T'' b c):uG T T'' a c :=
 ⟨Nat.le_trans h.size k.size,k.os.trans h.os,k.tape.trans h.tape,k.output.trans h.output,
  fun i hi ht=>(k.same i (Nat.lt_of_lt_of_le hi h.size) (ht.imp (h.ro i) (h.other i hi))).trans (h.same i hi ht),
  fun i ht=>k.ro i (h.ro i ht),fun i hi ht=>k.other i (Nat.lt_of_lt_of_le hi h.size) (h.other i hi ht)⟩
section
variable {L:Nat} {σ:Nat→Nat} {T T':Tags} {st st':St} {a:Act} {w w':World}
theorem gU.frame {nb:Nat} (hw:∀ b,T b=.ro→b<w.heap.size→T' b=.ro∧w'.heap[b]?=w.heap[b]?) {x:AV} {u:Value} (h:gU nb σ T w x u):gU nb σ T' w' x u:=by
 cases x<;>simp only [gU] at h ⊢<;>first|exact ay.frame hw h|exact h
theorem iP.frame {t i:Nat} {x:AV} {u:Value} (hr:(∃ s l,x=.row s l)→∀ b,T b=.row (.part t i)→b<w.heap.size→T' b=.row (.part t i)∧w'.heap[b]?=w.heap[b]?) (hw:∀ b,T b=.ro→b<w.heap.size→T' b=.ro∧w'.heap[b]?=w.heap[b]?)
  (h:iP T w t i x u):iP T' w' t i x u:=by
 cases x<;>simp only [iP] at h ⊢<;>first|exact ay.frame hw h|exact aH.frame (hr ⟨_,_,rfl⟩) hw h|exact h
theorem DT.frame {o j:Nat} (hr:∀ b,T b=.row (.cell o j)→b<w.heap.size→T' b=.row (.cell o j)∧w'.heap[b]?=w.heap[b]?) (hw:∀ b,T b=.ro→b<w.heap.size→T' b=.ro∧w'.heap[b]?=w.heap[b]?)
  {x:BV} {u:Value} (h:DT T w o j x u):DT T' w' o j x u:=by
 cases x<;>simp only [DT] at h ⊢<;>first|exact ay.frame hw h|exact aH.frame hr hw h
theorem iK.lt {b o:Nat} {bx:Box} (h:iK T w b o bx):b<w.heap.size:=let ⟨_,_,h1,_⟩:=h;(Array.getElem?_eq_some_iff.1 h1).1
theorem iK.frame {b o:Nat} {bx:Box} (hb:T' b=T b∧w'.heap[b]?=w.heap[b]?) (hr:∀ j b,T b=.row (.cell o j)→b<w.heap.size→T' b=.row (.cell o j)∧w'.heap[b]?=w.heap[b]?)
  (hw:∀ b,T b=.ro→b<w.heap.size→T' b=.ro∧w'.heap[b]?=w.heap[b]?) (h:iK T w b o bx):iK T' w' b o bx:=by
 obtain ⟨arr,E,h1,h2,h3,h4,h5⟩:=h
 exact ⟨arr,E,hb.2.trans h1,h2,hb.1.trans h3,h4,fun j bv u hj hu=>⟨(h5 j bv u hj hu).1,(h5 j bv u hj hu).2.frame (hr j) hw⟩⟩
theorem aI.sees (h:aI L σ T st a w) (hs:oU T w w'):aI L σ T st a w':=by
 have hb:∀ b q,T b=q→q≠.other→b<w.heap.size→T b=q∧w'.heap[b]?=w.heap[b]?:=fun b q e hq hl=>⟨e,hs.2 b (by rw [e];exact hq) hl⟩
 have hw:∀ b,T b=.ro→b<w.heap.size→T b=.ro∧w'.heap[b]?=w.heap[b]?:=fun b e hl=>hb b _ e (by simp) hl
 have hr:∀ r b,T b=.row r→b<w.heap.size→T b=.row r∧w'.heap[b]?=w.heap[b]?:=fun r b e hl=>hb b _ e (by simp) hl
 have hbox:∀ o bx,st.boxes[o]?=some bx→w'.heap[σ o]?=w.heap[σ o]?:=fun o bx ho=>by
  have k:=h.boxes o bx ho
  have hl:=k.lt
  obtain ⟨arr,E,h1,h2,h3,h4⟩:=k
  exact hs.2 _ (by rw [h3];split<;>simp) hl
 have hh:∀ r,(st.row r).isSome=true→hdr σ a w' r=hdr σ a w r:=fun r hr=>by
  cases r with
  |slot t=>rfl
  |part t i=>rfl
  |cell o j =>
   simp only [St.row] at hr
   cases ho:st.boxes[o]? with
   |none=>rw [ho] at hr;simp at hr
   |some bx=>exact World.cell?_of_block (w:=w) (a:=⟨σ o,j,none⟩) (hbox o bx ho)
 refine ⟨h.size,fun t av v ht hv=>?_,fun o bx ho=>(h.boxes o bx ho).frame ⟨rfl,hbox o bx ho⟩ (fun j=>hr _) hw,fun b hb=>h.fresh b (Nat.le_trans hs.1 hb)⟩
 have g:=h.slots t av v ht hv
 cases av<;>simp only [jF] at g ⊢
 case pv x=>exact ay.frame hw g
 case row sz es=>exact aH.frame (hr _) hw g
 case ref r off len=>exact ⟨g.1,fun sz es e=>by rw [hh r (by rw [e];rfl)];exact g.2 sz es e⟩
 case ny r i j=>exact ⟨g.1,fun sz es e=>by rw [hh r (by rw [e];rfl)];exact g.2 sz es e⟩
 case aQ o j=>exact g
 case fn f caps =>
  obtain ⟨arr,e,h1,h2⟩:=g
  exact ⟨arr,e,h1,fun k x u hx hu=>(h2 k x u hx hu).frame hw⟩
 case jY l =>
  obtain ⟨arr,e,h1,h2⟩:=g
  exact ⟨arr,e,h1,fun k x u hx hu=>(h2 k x u hx hu).frame (fun _=>hr _) hw⟩
 case DN sz es=>exact ⟨ay.frame hw g.1,g.2⟩
 case oQ=>exact g
end
end Go.Proofs.YtaaokejjmdbfaaaDoor

namespace Go.Proofs.YtaaokejjmdbfaaaDoor
open Go.RowKit
def AV.root?:AV→Option Root
 |.ref r _ _=>some r
 |.ny r _ _=>some r
 |_=>none
section
variable {L:Nat} {σ σ':Nat→Nat} {T T':Tags} {st st':St} {a a':Act} {w w':World}
theorem jF.keep {t:Nat} {av:AV} {v:Value} (h:jF L σ T st a w t av v)
  (hw:∀ b,T b=.ro→b<w.heap.size→T' b=.ro∧w'.heap[b]?=w.heap[b]?)
  (hr:∀ sz es,av=.row sz es→∀ b,T b=.row (.slot t)→b<w.heap.size→T' b=.row (.slot t)∧w'.heap[b]?=w.heap[b]?)
  (hp:∀ {k:Bool} l,av=.jY k l→∀ (i:Nat),(∃ s es,l[i]?=some (.row s es))→∀ b,T b=.row (.part t i)→b<w.heap.size→T' b=.row (.part t i)∧w'.heap[b]?=w.heap[b]?)
  (hd:∀ r,av.root?=some r→r.low st.boxes.length→∀ sz es,st'.row r=some (sz,es)→(∃ es0,st.row r=some (sz,es0))∧hdr σ' a' w' r=hdr σ a w r)
  (hb:st.boxes.length≤st'.boxes.length) (hσ:∀ o,o<st.boxes.length→σ' o=σ o):jF L σ' T' st' a' w' t av v:=by
 cases av<;>simp only [jF] at h ⊢
 case pv x=>exact ay.frame hw h
 case row sz es=>exact aH.frame (hr sz es rfl) hw h
 case ref r off len =>
  refine ⟨Root.low_mono hb h.1,fun sz es e=>?_⟩
  obtain ⟨⟨es0,e0⟩,e1⟩:=hd r rfl (h.1) sz es e
  rw [e1];exact h.2 sz es0 e0
 case ny r i j =>
  refine ⟨Root.low_mono hb h.1,fun sz es e=>?_⟩
  obtain ⟨⟨es0,e0⟩,e1⟩:=hd r rfl (h.1) sz es e
  rw [e1];exact h.2 sz es0 e0
 case aQ o j=>exact ⟨Nat.lt_of_lt_of_le h.1 hb,by rw [hσ o h.1];exact h.2⟩
 case fn f caps =>
  obtain ⟨arr,e,h1,h2⟩:=h
  refine ⟨arr,e,h1,fun k x u hx hu=>?_⟩
  have g:=h2 k x u hx hu
  cases x<;>simp only [gU] at g ⊢
  case pv x=>exact ay.frame hw g
  case aQ o j=>exact ⟨Nat.lt_of_lt_of_le g.1 hb,by rw [hσ o g.1];exact g.2⟩
 case jY k l =>
  obtain ⟨arr,e,h1,h2⟩:=h
  exact ⟨arr,e,h1,fun k x u hx hu=>(h2 k x u hx hu).frame (fun ⟨s,l',e⟩=>hp l rfl k ⟨s,l',by rw [hx,e]⟩) hw⟩
 case DN sz es=>exact ⟨ay.frame hw h.1,h.2⟩
 case oQ=>exact h
theorem gV {tmps:Array Value} {d t:Nat} {x v:Value} (h:(tmps.setIfInBounds d x)[t]?=some v):(t=d∧v=x∧d<tmps.size)∨(t≠d∧tmps[t]?=some v):=by
 rw [Array.getElem?_setIfInBounds] at h
 split at h
 ·rename_i e
  subst e
  split at h
  ·cases h;exact .inl ⟨rfl,rfl,by assumption⟩
  ·cases h
 ·exact .inr ⟨fun e=>by simp_all,h⟩
theorem dI {l:List AV} {d t:Nat} {x v:AV} (h:(l.set d x)[t]?=some v):(t=d∧v=x∧d<l.length)∨(t≠d∧l[t]?=some v):=by
 rw [List.getElem?_set] at h
 split at h
 ·rename_i e
  subst e
  split at h
  ·cases h;exact .inl ⟨rfl,rfl,by assumption⟩
  ·cases h
 ·exact .inr ⟨fun e=>by simp_all,h⟩
theorem gu {d:Nat} {x:AV} {r:Root} (hr:r≠.slot d):(st.put d x).row r=st.row r:=by
 cases r with
 |slot t =>
  have:t≠d:=fun e=>hr (by rw [e])
  simp only [St.row,St.put,List.getElem?_set,if_neg (Ne.symm this)]
 |part t i=>rfl
 |cell o j=>rfl
theorem iG {d:Nat} {x:AV} (hx:∀ sz es,x≠.row sz es):(st.put d x).row (.slot d)=none:=by
 simp only [St.row,St.put,List.getElem?_set,if_true]
 split
 ·rename_i h
  split at h
  ·cases h;exact absurd rfl (hx _ _)
  ·cases h
 ·rfl
theorem lS {d:Nat} {x:Value} {r:Root} (hr:r≠.slot d):hdr σ (a.put (some d) x) w r=hdr σ a w r:=by
 cases r with
 |slot t =>
  have:t≠d:=fun e=>hr (by rw [e])
  simp [hdr,Act.put,Array.getElem?_setIfInBounds,Ne.symm this]
 |part t i=>rfl
 |cell o j=>rfl
theorem aI.put (h:aI L σ T st a w) {d:Nat} {av:AV} {v:Value} (hav:∀ sz es,av≠.row sz es) (hrep:jF L σ T (st.put d av) (a.put (some d) v) w d av v):aI L σ T (st.put d av) (a.put (some d) v) w:=by
 refine ⟨by simp [Act.put,St.put,h.size],fun t x u hx hu=>?_,h.boxes,h.fresh⟩
 rcases dI hx with ⟨rfl,rfl,h1⟩|⟨h1,h2⟩
 ·rcases gV hu with ⟨_,rfl,_⟩|⟨h3,_⟩
  ·exact hrep
  ·exact absurd rfl h3
 ·rcases gV hu with ⟨h3,_⟩|⟨_,h4⟩
  ·exact absurd h3 h1
  ·refine (h.slots t x u h2 h4).keep (fun b e _=>⟨e,rfl⟩) (fun _ _ _ b e _=>⟨e,rfl⟩) (fun _ _ _ _ b e _=>⟨e,rfl⟩) (fun r hr _ sz es e=>?_) (Nat.le_refl _) (fun _ _=>rfl)
   by_cases hrd:r=.slot d
   ·subst hrd;rw [iG hav] at e;cases e
   ·rw [gu hrd] at e
    exact ⟨⟨es,e⟩,lS hrd⟩
theorem aI.vJ (h:aI L σ T st a w) {d:Nat} {x:PV} {v:Value} (hx:ay (fun b=>T b=.ro) w x v):aI L σ T (st.put d (.pv x)) (a.put (some d) v) w :=
 h.put (fun _ _ e=>by cases e) hx
theorem aI.VG (h:aI L σ T st a w) {d:Nat} {v:Value}:aI L σ T (st.put d .any) (a.put (some d) v) w :=
 h.put (fun _ _ e=>by cases e) trivial
theorem aI.forget (h:aI L σ T st a w) (d:Nat):aI L σ T (st.put d .any) a w:=by
 refine ⟨by simp [St.put,h.size],fun t x u hx hu=>?_,h.boxes,h.fresh⟩
 rcases dI hx with ⟨rfl,rfl,h1⟩|⟨h1,h2⟩
 ·trivial
 ·refine (h.slots t x u h2 hu).keep (fun b e _=>⟨e,rfl⟩) (fun _ _ _ b e _=>⟨e,rfl⟩) (fun _ _ _ _ b e _=>⟨e,rfl⟩) (fun r hr _ sz es e=>?_) (Nat.le_refl _) (fun _ _=>rfl)
  by_cases hrd:r=.slot d
  ·subst hrd;rw [iG (fun _ _ e=>by cases e)] at e;cases e
  ·rw [gu hrd] at e
   exact ⟨⟨es,e⟩,rfl⟩
theorem nO {l:List AV} {f:AV→AV} {t:Nat} {v:AV} (h:(l.map f)[t]?=some v):∃ x,l[t]?=some x∧f x=v:=by
 rw [List.getElem?_map] at h
 cases e:l[t]? with
 |none=>rw [e] at h;cases h
 |some x=>rw [e] at h;exact ⟨x,rfl,Option.some.inj h⟩
theorem NT (d:Nat) (x:AV):(x.kill d=.any)∨(x.kill d=x∧x.root?≠some (.slot d)):=by
 unfold AV.kill
 split
 ·exact .inl rfl
 ·rename_i hh
  refine .inr ⟨rfl,fun e=>hh ?_⟩
  cases x<;>simp only [AV.root?] at e<;>cases e<;>simp [AV.roots]
theorem sK (o:Nat) (x:AV):(x.dG o=.any)∨(x.dG o=x∧∀ j,x.root?≠some (.cell o j)):=by
 unfold AV.dG
 split
 ·exact .inl rfl
 ·rename_i hh
  refine .inr ⟨rfl,fun j e=>hh ?_⟩
  cases x<;>simp only [AV.root?] at e<;>cases e<;>simp [AV.uz]
theorem Gq (o j:Nat) (x:AV):(x.iE o j=.any)∨(x.iE o j=x∧x.root?≠some (.cell o j)):=by
 unfold AV.iE
 split
 ·exact .inl rfl
 ·rename_i hh
  refine .inr ⟨rfl,fun e=>hh ?_⟩
  cases x<;>simp only [AV.root?] at e<;>cases e<;>simp [AV.zY]
theorem VH {d:Nat} {sz:Nat} {es:List PV} {x:AV} (h:x.kill d=.row sz es):x=.row sz es:=by
 unfold AV.kill at h;split at h
 ·cases h
 ·exact h
theorem DU {d sz:Nat} {es:List PV} {r:Root} (hr:r≠.slot d) {s:Nat} {l:List PV} (h:(st.putRow d sz es).row r=some (s,l)):st.row r=some (s,l):=by
 cases r with
 |slot t =>
  have:t≠d:=fun e=>hr (by rw [e])
  simp only [St.row,St.putRow,List.getElem?_set,if_neg (Ne.symm this)] at h ⊢
  split at h
  ·rename_i h1
   obtain ⟨x,h2,h3⟩:=nO h1
   rw [h2,VH h3];exact h
  ·cases h
 |part t i=>exact h
 |cell o j=>exact h
theorem aI.putRow (h:aI L σ T st a w) {d sz:Nat} {es:List PV} {v:Value} (hrow:aH T' w (.slot d) sz es v)
  (hro:∀ b,T b=.ro→T' b=.ro) (hbox:∀ b o,T b=.box o→T' b=.box o) (hoth:∀ b,w.heap.size≤b→T' b=.other)
  (hrows:∀ (t:Nat) s l,t≠d→st.slots[t]?=some (.row s l)→∀ b,T b=.row (.slot t)→T' b=.row (.slot t))
  (hparts:∀ {k:Bool} (t i:Nat) l,t≠d→st.slots[t]?=some (.jY k l)→(∃ s es,l[i]?=some (.row s es))→∀ b,T b=.row (.part t i)→T' b=.row (.part t i))
  (hcells:∀ (o j:Nat) b,T b=.row (.cell o j)→T' b=.row (.cell o j)) :
  aI L σ T' (st.putRow d sz es) (a.put (some d) v) w:=by
 refine ⟨by simp [Act.put,St.putRow,h.size],fun t x u hx hu=>?_,fun o bx ho=>?_,hoth⟩
 ·rcases dI hx with ⟨rfl,rfl,h1⟩|⟨h1,h2⟩
  ·rcases gV hu with ⟨_,rfl,_⟩|⟨h3,_⟩
   ·exact hrow
   ·exact absurd rfl h3
  ·rcases gV hu with ⟨h3,_⟩|⟨_,h4⟩
   ·exact absurd h3 h1
   ·obtain ⟨y,hy,rfl⟩:=nO h2
    rcases NT d y with e|⟨e,hne⟩
    ·rw [e];trivial
    ·rw [e]
     refine (h.slots t y u hy h4).keep (fun b e _=>⟨hro b e,rfl⟩) (fun s l e b hb _=>⟨hrows t s l h1 (by rw [hy,e]) b hb,rfl⟩) (fun l e i he b hb _=>⟨hparts t i l h1 (by rw [hy,e]) he b hb,rfl⟩) (fun r hr _ s l e=>?_) (Nat.le_refl _) (fun _ _=>rfl)
     have hrd:r≠.slot d:=fun e=>hne (by rw [hr,e])
     exact ⟨⟨l,DU hrd e⟩,lS hrd⟩
 ·have hb:=h.boxes o bx ho
  have hT:T' (σ o)=T (σ o):=by
   obtain ⟨_,_,_,_,h3,_⟩:=hb
   rw [h3];split
   ·rename_i hf;exact hro _ (by rw [h3,if_pos hf])
   ·rename_i hf;exact hbox _ _ (by rw [h3,if_neg hf])
  exact hb.frame ⟨hT,rfl⟩ (fun j b e _=>⟨hcells o j b e,rfl⟩) (fun b e _=>⟨hro b e,rfl⟩)
def moved (T:Tags) (s d:Root):Tags:=fun b=>if T b=.row s then .row d else if T b=.row d then .other else T b
theorem gI {s d:Root} {b:Nat} (h:T b=.ro):moved T s d b=.ro:=by simp [moved,h]
theorem lT {s d:Root} {b o:Nat} (h:T b=.box o):moved T s d b=.box o:=by simp [moved,h]
theorem jG {s d:Root} {b:Nat} (h:T b=.other):moved T s d b=.other:=by simp [moved,h]
theorem nY {s d:Root} {b:Nat} (h:T b=.row s):moved T s d b=.row d:=by simp [moved,h]
theorem dM {s d r:Root} {b:Nat} (h1:r≠s) (h2:r≠d) (h:T b=.row r):moved T s d b=.row r:=by simp [moved,h,h1,h2]
def oV (T:Tags) (r:Root):Tags:=fun b=>if T b=.row r then .ro else T b
theorem nP {r:Root} {b:Nat} (h:T b=.ro):oV T r b=.ro:=by simp [oV,h]
theorem sN {r:Root} {b o:Nat} (h:T b=.box o):oV T r b=.box o:=by simp [oV,h]
theorem qM {r:Root} {b:Nat} (h:T b=.other):oV T r b=.other:=by simp [oV,h]
theorem wW {r:Root} {b:Nat} (h:T b=.row r):oV T r b=.ro:=by simp [oV,h]
theorem jH {r q:Root} {b:Nat} (h1:q≠r) (h:T b=.row q):oV T r b=.row q:=by simp [oV,h,h1]
structure Still (T T':Tags):Prop where
 ro:∀ b,T b=.ro→T' b=.ro
 other:∀ b,T b=.other→T' b=.other
theorem Still.refl (T:Tags):Still T T:=⟨fun _ h=>h,fun _ h=>h⟩
theorem Still.trans {T T' T'':Tags} (h:Still T T') (k:Still T' T''):Still T T'':=⟨fun b e=>k.ro b (h.ro b e),fun b e=>k.other b (h.other b e)⟩
theorem Still.nC {T T':Tags} (h:Still T T') (w:World):uG T T' w w:=⟨Nat.le_refl _,rfl,rfl,rfl,fun _ _ _=>rfl,h.ro,fun b _ e=>h.other b e⟩
theorem Still.sees {T T':Tags} (h:Still T T') {w w':World} (hs:oU T w w'):oU T' w w':=⟨hs.1,fun b hb hl=>hs.2 b (fun e=>hb (h.other b e)) hl⟩
theorem Still.moved (T:Tags) (s d:Root):Still T (moved T s d):=⟨fun _=>gI,fun _=>jG⟩
theorem Still.oV (T:Tags) (r:Root):Still T (oV T r):=⟨fun _=>nP,fun _=>qM⟩
theorem aI.freeze (h:aI L σ T st a w) (r:Root):∃ T',aI L σ T' (st.freeze r) a w∧Still T T'∧(∀ b q,q≠r→T b=.row q→T' b=.row q)∧(∀ sz es,st.row r=some (sz,es)→∀ b,T b=.row r→T' b=.ro)∧(∀ b o,T b=.box o→T' b=.box o):=by
 unfold St.freeze
 cases hr:st.row r with
 |none=>exact ⟨T,h,Still.refl T,fun _ _ _ e=>e,(fun _ _ e=>by cases e),fun _ _ e=>e⟩
 |some p =>
  obtain ⟨sz,es⟩:=p
  refine ⟨oV T r,?_,Still.oV T r,fun b q hq e=>jH hq e,(fun _ _ _ b e=>wW e),fun b o e=>sN e⟩
  have hw:∀ b,T b=.ro→b<w.heap.size→oV T r b=.ro∧w.heap[b]?=w.heap[b]?:=fun b e _=>⟨nP e,rfl⟩
  cases r with
  |part t i=>simp [St.row] at hr
  |slot d =>
   have hd:st.slots[d]?=some (.row sz es):=by
    simp only [St.row] at hr
    split at hr
    ·rename_i e;cases hr;exact e
    ·cases hr
   refine ⟨by simp [St.put,h.size],fun t x u hx hu=>?_,fun o bx ho=>?_,fun b hb=>qM (h.fresh b hb)⟩
   ·rcases dI hx with ⟨rfl,rfl,h1⟩|⟨h1,h2⟩
    ·exact aH.list (fun b e=>wW e) (fun b e=>nP e) (h.slots t _ u hd hu)
    ·refine (h.slots t x u h2 hu).keep hw (fun s l e b hb _=>⟨jH (by simpa using h1) hb,rfl⟩) (fun l e i _ b hb _=>⟨jH (by simp) hb,rfl⟩) (fun q hq _ s l e=>?_) (Nat.le_refl _) (fun _ _=>rfl)
     by_cases hrd:q=.slot d
     ·subst hrd;rw [iG (fun _ _ e=>by cases e)] at e;cases e
     ·rw [gu hrd] at e
      exact ⟨⟨l,e⟩,rfl⟩
   ·have hb:=h.boxes o bx ho
    have hT:oV T (.slot d) (σ o)=T (σ o):=by
     obtain ⟨_,_,_,_,h3,_⟩:=hb
     rw [h3];split
     ·rename_i hf;exact nP (by rw [h3,if_pos hf])
     ·rename_i hf;exact sN (by rw [h3,if_neg hf])
    exact hb.frame ⟨hT,rfl⟩ (fun j b e _=>⟨jH (by simp) e,rfl⟩) hw
  |cell p q =>
   obtain ⟨bx0,hbx0,hfz,hq⟩:∃ bx,st.boxes[p]?=some bx∧bx.fz=false∧bx.cs[q]?=some (.row sz es):=by
    simp only [St.row] at hr
    split at hr
    ·rename_i bx hb
     split at hr
     ·cases hr
     ·rename_i hf
      split at hr
      ·rename_i e;cases hr;exact ⟨bx,hb,by simpa using hf,e⟩
      ·cases hr
    ·cases hr
   have hst:st.setCell p q (.pv (.list sz es))={ st with boxes:=st.boxes.set p { bx0 with cs:=bx0.cs.set q (.pv (.list sz es)) } }:=by simp [St.setCell,hbx0]
   simp only [hst]
   have hpl:p<st.boxes.length:=(List.getElem?_eq_some_iff.1 hbx0).1
   refine ⟨h.size,fun t x u hx hu=>?_,fun o bx ho=>?_,fun b hb=>qM (h.fresh b hb)⟩
   ·refine (h.slots t x u hx hu).keep hw (fun s l e b hb _=>⟨jH (by simp) hb,rfl⟩) (fun l e i _ b hb _=>⟨jH (by simp) hb,rfl⟩) (fun r' hr' _ s l e=>?_) (by simp) (fun _ _=>rfl)
    refine ⟨?_,rfl⟩
    cases r' with
    |slot t'=>exact ⟨l,e⟩
    |part t' i=>exact ⟨l,e⟩
    |cell o j =>
     simp only [St.row,List.getElem?_set] at e ⊢
     by_cases hop:p=o
     ·subst hop
      simp only [if_true,if_pos hpl,hfz,Bool.false_eq_true,if_false,List.getElem?_set] at e
      simp only [hbx0,hfz,Bool.false_eq_true,if_false]
      by_cases hqj:q=j
      ·subst hqj
       simp only [if_true] at e
       split at e
       ·rename_i hh;split at hh<;>cases hh
       ·cases e
      ·simp only [if_neg hqj] at e;exact ⟨l,e⟩
     ·simp only [if_neg hop] at e;exact ⟨l,e⟩
   ·rw [List.getElem?_set] at ho
    by_cases hop:p=o
    ·subst hop
     simp only [if_true,if_pos hpl,Option.some.injEq] at ho
     subst ho
     obtain ⟨arr,E,h1,h2,h3,h4,h5⟩:=h.boxes p bx0 hbx0
     have k3:oV T (.cell p q) (σ p)=.box p:=by
      simp only [hfz,Bool.false_eq_true,if_false] at h3;exact sN h3
     refine ⟨arr,E,h1,by simpa using h2,by simpa [hfz] using k3,by simp [hfz],?_⟩
     intro j bv u hj hu
     ·have hj:(bx0.cs.set q (.pv (.list sz es)))[j]?=some bv:=hj
      rw [List.getElem?_set] at hj
      by_cases hqj:q=j
      ·subst hqj
       simp only [if_true] at hj
       split at hj
       ·cases hj
        obtain ⟨g1,g2⟩:=h5 q _ u hq hu
        exact ⟨g1,aH.list (fun b e=>wW e) (fun b e=>nP e) g2⟩
       ·cases hj
      ·rw [if_neg hqj] at hj
       obtain ⟨g1,g2⟩:=h5 j bv u hj hu
       exact ⟨g1,g2.frame (fun b e _=>⟨jH (by simpa using Ne.symm hqj) e,rfl⟩) hw⟩
    ·rw [if_neg hop] at ho
     have hb:=h.boxes o bx ho
     have hT:oV T (.cell p q) (σ o)=T (σ o):=by
      obtain ⟨_,_,_,_,h3,_⟩:=hb
      rw [h3];split
      ·rename_i hf;exact nP (by rw [h3,if_pos hf])
      ·rename_i hf;exact sN (by rw [h3,if_neg hf])
     exact hb.frame ⟨hT,rfl⟩ (fun j b e _=>⟨jH (by intro e;cases e;exact hop rfl) e,rfl⟩) hw
end
end Go.Proofs.YtaaokejjmdbfaaaDoor

namespace Go.Proofs.YtaaokejjmdbfaaaDoor
open Go.RowKit
def isFn (f:Nat):Fn→Bool
 |.func g=>f==g
 |_=>false
theorem Qx {f:Nat} {fn:Fn} (h:isFn f fn=true):fn=.func f:=by
 cases fn<;>simp [isFn] at h
 rw [h]
mutual
def isLit:PV→Value→Bool
 |.int k n,.int l m=>k==l&&n==m
 |.bool b,.bool c=>b==c
 |.str s,.string t=>decide (s.data=t.data)
 |.su,.nilFunc=>true
 |.list _ [],.slice x n c=>x.isNone&&n==0&&c==0
 |.kU _,.slice x n c=>x.isNone&&n==0&&c==0
 |.agg cs,.agg arr=>sO cs arr.toList
 |.func f [],.func fn first caps=>isFn f fn&&first.isEmpty&&caps.isEmpty
 |_,_=>false
def sO:List PV→List Value→Bool
 |[],[]=>true
 |c :: cs,v :: vs=>isLit c v&&v.oneCell'&&sO cs vs
 |_,_=>false
end
mutual
theorem Ej {ok:Nat→Prop} {w:World}:∀ {x:PV} {v:Value},isLit x v=true→ay ok w x v
 |.int k n,v,h=>by cases v<;>simp [isLit] at h;obtain ⟨rfl,rfl⟩:=h;exact .int _ _
 |.bool b,v,h=>by cases v<;>simp [isLit] at h;subst h;exact .bool _
 |.str s,v,h=>by
  cases v<;>simp [isLit] at h
  rename_i t
  have:s=t:=by cases s;cases t;simp_all
  subst this;exact .str _
 |.su,v,h=>by cases v<;>simp [isLit] at h;exact .su
 |.void,v,h=>by cases v<;>simp [isLit] at h
 |.dS cs j,v,h=>by cases v<;>simp [isLit] at h
 |.list sz [],v,h=>by
  cases v<;>simp [isLit] at h
  obtain ⟨⟨rfl,rfl⟩,rfl⟩:=h
  exact .nil _ _
 |.kU sz,v,h=>by
  cases v<;>simp [isLit] at h
  obtain ⟨⟨rfl,rfl⟩,rfl⟩:=h
  exact .kU _ _
 |.list sz (_ :: _),v,h=>by cases v<;>simp [isLit] at h
 |.func f (_ :: _),v,h=>by cases v<;>simp [isLit] at h
 |.func f [],v,h=>by
  cases v<;>simp [isLit] at h
  obtain ⟨⟨h1,rfl⟩,rfl⟩:=h
  rw [Qx h1]
  exact .func _ [] #[] rfl (fun j x v hj=>by simp at hj)
 |.agg cs,v,h=>by
  cases v<;>simp [isLit] at h
  rename_i arr
  obtain ⟨h1,h2⟩:=vY (ok:=ok) (w:=w) h
  refine .agg cs arr (by simpa using h1.symm) (fun j v hv=>(h2 j v (by simpa using hv)).1) (fun j x v hx hv=>(h2 j v (by simpa using hv)).2 x hx)
theorem vY {ok:Nat→Prop} {w:World}:∀ {cs:List PV} {vs:List Value},sO cs vs=true→cs.length=vs.length∧∀ (j:Nat) v,vs[j]?=some v→v.oneCell'=true∧∀ x,cs[j]?=some x→ay ok w x v
 |[],[],_=>⟨rfl,fun j v hv=>by simp at hv⟩
 |[],_ :: _,h=>by simp [sO] at h
 |_ :: _,[],h=>by simp [sO] at h
 |c :: cs,v :: vs,h=>by
  simp only [sO,Bool.and_eq_true] at h
  obtain ⟨⟨h1,h2⟩,h3⟩:=h
  obtain ⟨g1,g2⟩:=vY (ok:=ok) (w:=w) h3
  refine ⟨by simp [g1],fun j u hu=>?_⟩
  cases j with
  |zero =>
   simp only [List.getElem?_cons_zero,Option.some.injEq] at hu
   subst hu
   exact ⟨h2,fun x hx=>by simp only [List.getElem?_cons_zero,Option.some.injEq] at hx;subst hx;exact Ej h1⟩
  |succ j =>
   simp only [List.getElem?_cons_succ] at hu ⊢
   exact g2 j u hu
end
def adi (f:Nat):PV→Bool
 |.func g []=>f==g
 |_=>false
theorem aak {f:Nat} {x:PV} (h:adi f x=true):x=.func f []:=by
 unfold adi at h
 split at h
 ·rw [beq_iff_eq.1 h]
 ·cases h
def aY:Operand→bP→Bool
 |.tmp n,.t m=>n==m
 |.const v,.c x=>isLit x v
 |.const v,.nil sz=>isLit (.list sz []) v
 |.func f,.c x=>adi f x
 |_,_=>false
section
variable {L:Nat} {σ σ':Nat→Nat} {T T':Tags} {st st':St} {a a':Act} {w w':World}
theorem aH.nil (T:Tags) (w:World) (r:Root) (sz:Nat) (x:Option Addr):aH T w r sz [] (.slice x 0 0):=.inl ⟨rfl,x,rfl⟩
theorem wX {t:Nat} {v:Value} (h:a.tmps[t]?=some v):a.eval (.tmp t)=v:=by simp [Act.eval,Array.getD_eq_getD_getElem?,h]
theorem aI.get (h:aI L σ T st a w) {y:Operand} {x:bP} (hm:aY y x=true):(∃ t,x=.t t∧(a.tmps[t]?=some (a.eval y)∧jF L σ T st a w t (st.get x) (a.eval y)∨st.get x=.any)) ∨
  (∃ v,x=.c v∧ay (fun b=>T b=.ro) w v (a.eval y))∨(∃ sz,x=.nil sz∧a.eval y=.slice none 0 0):=by
 cases y<;>cases x<;>simp [aY] at hm
 case tmp.t t m =>
  subst hm
  refine .inl ⟨t,rfl,?_⟩
  cases hs:st.slots[t]? with
  |none=>exact .inr (by simp [St.get,List.getD,hs])
  |some av =>
   have ht:t<a.tmps.size:=by rw [h.size];exact (List.getElem?_eq_some_iff.1 hs).1
   have e:a.tmps[t]?=some a.tmps[t]:=Array.getElem?_eq_getElem ht
   rw [wX e]
   refine .inl ⟨e,?_⟩
   have e2:st.get (.t t)=av:=by simp [St.get,List.getD,hs]
   rw [e2]
   exact h.slots t av _ hs e
 case const.c v x=>exact .inr (.inl ⟨x,rfl,Ej hm⟩)
 case const.nil v sz =>
  refine .inr (.inr ⟨sz,rfl,?_⟩)
  show v=_
  cases v<;>simp [isLit] at hm
  obtain ⟨⟨rfl,rfl⟩,rfl⟩:=hm
  rfl
 case func.c f x =>
  rw [aak hm]
  exact .inr (.inl ⟨_,rfl,.func _ [] #[] rfl (fun j x v hj=>by simp at hj)⟩)
theorem aI.pv (h:aI L σ T st a w) {y:Operand} {x:bP} (hm:aY y x=true) {v:PV} (hv:st.dH x=some v):ay (fun b=>T b=.ro) w v (a.eval y):=by
 unfold St.dH at hv
 rcases h.get hm with ⟨t,rfl,(⟨_,g⟩|g)⟩|⟨v',rfl,g⟩|⟨sz,rfl,g⟩
 ·cases e:st.get (.t t)<;>rw [e] at hv g<;>simp at hv
  subst hv;exact g
 ·rw [g] at hv;cases hv
 ·simp [St.get] at hv;subst hv;exact g
 ·simp [St.get] at hv
end
end Go.Proofs.YtaaokejjmdbfaaaDoor

namespace Go.Proofs.YtaaokejjmdbfaaaDoor
open Go.RowKit
def jr (P:Program) (T:TypeId):Option Nat:=(P.info? T).map (·.size)
def oC (P:Program) (T:TypeId):Option (Option Nat) :=
 match P.underlying T with
 |some (.struct _)=>(jr P T).map some
 |some (.array _ _)=>(jr P T).map some
 |some _=>some none
 |none=>none
def lU (P:Program) (T:TypeId):Option Nat :=
 match P.underlying T with
 |some (.slice e)=>some e
 |_=>none
def JK (P:Program) (T:TypeId):Option (Nat × Nat) :=
 match P.underlying T with
 |some (.array n e)=>some (n,e)
 |_=>none
def uH (P:Program) (S f:Nat):Option Field :=
 match P.underlying S with
 |some (.struct fs)=>fs[f]?
 |_=>none
theorem uI {P:Program} {T e:Nat} (h:lU P T=some e):P.underlying T=some (.slice e):=by
 unfold lU at h;split at h
 ·cases h;assumption
 ·cases h
theorem Qy {P:Program} {T n e:Nat} (h:JK P T=some (n,e)):P.underlying T=some (.array n e):=by
 unfold JK at h;split at h
 ·cases h;assumption
 ·cases h
theorem NU {P:Program} {S f:Nat} {fd:Field} (h:uH P S f=some fd):∃ fs,P.underlying S=some (.struct fs)∧fs[f]?=some fd:=by
 unfold uH at h;split at h
 ·exact ⟨_,by assumption,h⟩
 ·cases h
section
variable {P:Program} {w:World}
theorem oD {T n:Nat} (h:jr P T=some n):(sizeOf T).run P w=.ok n w:=by
 obtain ⟨i,hi,rfl⟩:=Option.map_eq_some_iff.1 h
 simp [sizeOf,typeInfo,hi]
theorem nR {T:Nat} (h:oC P T=some none):(isAgg T).run P w=.ok false w:=by
 unfold oC at h
 cases hu:P.underlying T with
 |none=>rw [hu] at h;cases h
 |some d =>
  rw [hu] at h
  unfold isAgg
  simp only [Sem.run_bind,run_underlying hu,Result.andThen_ok]
  cases d<;>simp only [Option.map_eq_some_iff] at h<;>first|rfl|(obtain ⟨_,_,h⟩:=h;cases h)
theorem mD {T n:Nat} (h:oC P T=some (some n)):(isAgg T).run P w=.ok true w∧jr P T=some n:=by
 unfold oC at h
 cases hu:P.underlying T with
 |none=>rw [hu] at h;cases h
 |some d =>
  rw [hu] at h
  unfold isAgg
  simp only [Sem.run_bind,run_underlying hu,Result.andThen_ok]
  cases d<;>simp only [Option.map_eq_some_iff] at h
  all_goals first
   |(obtain ⟨m,hm,e⟩:=h;cases e;exact ⟨rfl,hm⟩)
   |cases h
def Mem (ok:Nat→Prop) (w:World) (b o:Nat) (cs:List PV):Prop:=∀ k x,cs[k]?=some x→∃ u,w.cell? ⟨b,o+k,none⟩=some u∧u.oneCell'=true∧ay ok w x u
theorem oG {ok:Nat→Prop} {b o T:Nat} {n:Option Nat} {cs:List PV} (hm:Mem ok w b o cs) (hc:oC P T=some n) {j:Nat} {v:PV} (hp:part cs j n=some v) :
  ∃ u,(∀ w':World,w'.heap[b]?=w.heap[b]?→(loadVar T ⟨b,o+j,none⟩).run P w'=.ok u w')∧ay ok w v u∧(n=none→u.oneCell'=true):=by
 have hcell:∀ w':World,w'.heap[b]?=w.heap[b]?→∀ k,w'.cell? ⟨b,k,none⟩=w.cell? ⟨b,k,none⟩:=fun w' hw k=>World.cell?_of_block (w:=w) (a:=⟨b,k,none⟩) hw
 cases n with
 |none =>
  obtain ⟨u,h1,h2,h3⟩:=hm j v hp
  refine ⟨u,fun w' hw=>?_,h3,fun _=>h2⟩
  unfold loadVar
  simp only [Sem.run_bind,nR hc,Result.andThen_ok,Bool.false_eq_true,if_false]
  unfold load
  simp only [Sem.run,hcell w' hw,h1]
 |some n =>
  have hs:=(mD (w:=w) hc).2
  unfold part at hp
  simp only at hp
  split at hp
  case isFalse=>cases hp
  rename_i hl
  cases hp
  have hget:∀ k,k<n→∃ x u,cs[j+k]?=some x∧w.cell? ⟨b,o+(j+k),none⟩=some u∧u.oneCell'=true∧ay ok w x u:=fun k hk=>by
   have e:cs[j+k]?=some cs[j+k]:=List.getElem?_eq_getElem (by omega)
   obtain ⟨u,h1,h2,h3⟩:=hm _ _ e
   exact ⟨_,u,e,h1,h2,h3⟩
  let us:List Value:=(List.range n).map fun k=>(w.cell? ⟨b,o+(j+k),none⟩).getD undef
  have hus:∀ k v,us[k]?=some v→k<n∧w.cell? ⟨b,o+(j+k),none⟩=some v:=fun k v hv=>by
   have hk:k<n:=by have:=(List.getElem?_eq_some_iff.1 hv).1;simpa [us] using this
   simp only [us,List.getElem?_map,List.getElem?_range hk,Option.map_some,Option.some.injEq] at hv
   obtain ⟨x,u,_,h1,_⟩:=hget k hk
   rw [h1] at hv ⊢
   exact ⟨hk,by rw [← hv];rfl⟩
  have hlen:us.length=n:=by simp [us]
  refine ⟨.agg us.toArray,fun w' hw=>?_,.agg _ _ (by simp [us];omega) (fun k v hv=>?_) (fun k x v hx hv=>?_),fun e=>by cases e⟩
  ·have hl2:=run_loadCells_list (P:=P) (w:=w') ⟨b,o+j,none⟩ us (fun k v hv=>by
    rw [Addr.add_lit,hcell w' hw,Nat.add_assoc];exact (hus k v hv).2)
   rw [hlen] at hl2
   unfold loadVar
   simp only [Sem.run_bind,(mD (w:=w') hc).1,Result.andThen_ok,if_true,oD hs,hl2]
   rfl
  ·obtain ⟨hk,h1⟩:=hus k v (by simpa using hv)
   obtain ⟨x,u,_,h2,h3,_⟩:=hget k hk
   rw [h1] at h2;cases h2;exact h3
  ·obtain ⟨hk,h1⟩:=hus k v (by simpa using hv)
   obtain ⟨y,u,h0,h2,_,h4⟩:=hget k hk
   rw [h1] at h2;cases h2
   rw [List.getElem?_take,if_pos hk,List.getElem?_drop,h0] at hx
   cases hx;exact h4
end
section
variable {P:Program} {L:Nat} {σ:Nat→Nat} {T T':Tags} {st st' st1:St} {a:Act} {w:World} {o:Oper} {d n:Nat} {x:bP} {y:Operand}
def Looks (P:Program) (L:Nat) (σ:Nat→Nat) (T:Tags) (st':St) (a:Act) (w:World) (o:Oper):Prop :=
 ∃ v T',(∀ w',oU T w w'→(execOp a.eval o).run P w'=.ok (.value v) w')∧aI L σ T' st' (a.put o.dst v) w∧Still T T'
structure Even (T T':Tags):Prop where
 still:Still T T'
 back:∀ b,T' b=.ro→T b=.ro
theorem Even.refl (T:Tags):Even T T:=⟨Still.refl T,fun _ h=>h⟩
theorem Even.moved (T:Tags) (s d:Root):Even T (moved T s d):=⟨Still.moved T s d,fun b h=>by
 unfold Go.Proofs.YtaaokejjmdbfaaaDoor.moved at h
 split at h
 ·cases h
 ·split at h
  ·cases h
  ·exact h⟩
def rU (P:Program) (L:Nat) (σ:Nat→Nat) (T:Tags) (st':St) (a:Act) (w:World) (o:Oper):Prop :=
 ∃ v T',(∀ w',(execOp a.eval o).run P w'=.ok (.value v) w')∧aI L σ T' st' (a.put o.dst v) w∧Even T T'
def Qz (P:Program) (L:Nat) (σ:Nat→Nat) (T:Tags) (st':St) (a:Act) (w:World) (o:Oper):Prop :=
 ∃ v T',(∀ w',(execOp a.eval o).run P w'=.ok (.value v) w')∧aI L σ T' st' (a.put o.dst v) w∧Still T T'
theorem Qz.looks (h:Qz P L σ T st' a w o):Looks P L σ T st' a w o:=by
 obtain ⟨v,T',h1,h2,h3⟩:=h
 exact ⟨v,T',fun w' _=>h1 w',h2,h3⟩
theorem rU.looks (h:rU P L σ T st' a w o):Looks P L σ T st' a w o:=by
 obtain ⟨v,T',h1,h2,h3⟩:=h
 exact ⟨v,T',fun w' _=>h1 w',h2,h3.still⟩
theorem jF.copy {t:Nat} {av:AV} {v:Value} (h:jF L σ T st a w t av v) (h1:∀ sz es,av≠.row sz es) (h2:∀ {k:Bool} l,av≠.jY k l) (u:Value):jF L σ T (st.put d av) (a.put (some d) u) w d av v:=by
 have g:jF L σ T (st.put d av) (a.put (some d) u) w t av v:=h.keep (fun b e _=>⟨e,rfl⟩) (fun _ _ e=>absurd e (h1 _ _)) (fun _ e=>absurd e (h2 _)) (fun r hr _ sz es e=>by
  by_cases hrd:r=.slot d
  ·subst hrd;rw [iG h1] at e;cases e
  ·rw [gu hrd] at e;exact ⟨⟨es,e⟩,lS hrd⟩) (Nat.le_refl _) (fun _ _=>rfl)
 cases av<;>first|exact g|exact absurd rfl (h1 _ _)|exact absurd rfl (h2 _)
theorem aI.turn (h:aI L σ T st a w) {n:Nat} {av:AV} (hav:∀ sz es,av≠.row sz es) (hrep:∀ v,a.tmps[n]?=some v→jF L σ T (st.put n av) a w n av v):aI L σ T (st.put n av) a w:=by
 refine ⟨by simp [St.put,h.size],fun t x u hx hu=>?_,h.boxes,h.fresh⟩
 rcases dI hx with ⟨rfl,rfl,h1⟩|⟨h1,h2⟩
 ·exact hrep u hu
 ·refine (h.slots t x u h2 hu).keep (fun b e _=>⟨e,rfl⟩) (fun _ _ _ b e _=>⟨e,rfl⟩) (fun _ _ _ _ b e _=>⟨e,rfl⟩) (fun r hr _ sz es e=>?_) (Nat.le_refl _) (fun _ _=>rfl)
  by_cases hrd:r=.slot n
  ·subst hrd;rw [iG hav] at e;cases e
  ·rw [gu hrd] at e
   exact ⟨⟨es,e⟩,rfl⟩
theorem fO {t sz:Nat} {es:List PV} (hr:st.row (.slot t)=some (sz,es)):st.slots[t]?=some (.row sz es):=by
 simp only [St.row] at hr
 split at hr
 ·rename_i e;cases hr;exact e
 ·cases hr
theorem dO {p q sz:Nat} {es:List PV} (hr:st.row (.cell p q)=some (sz,es)):∃ bx,st.boxes[p]?=some bx∧bx.fz=false∧bx.cs[q]?=some (.row sz es):=by
 simp only [St.row] at hr
 split at hr
 ·rename_i bx hb
  split at hr
  ·cases hr
  ·rename_i hf
   split at hr
   ·rename_i e;cases hr;exact ⟨bx,hb,by simpa using hf,e⟩
   ·cases hr
 ·cases hr
theorem aI.sQ (h:aI L σ T st a w) {r:Root} {sz:Nat} {es:List PV} (hr:st.row r=some (sz,es)):∃ v,hdr σ a w r=some v∧aH T w r sz es v:=by
 cases r with
 |part t i=>simp [St.row] at hr
 |slot t =>
  have hs:=fO hr
  have ht:t<a.tmps.size:=by rw [h.size];exact (List.getElem?_eq_some_iff.1 hs).1
  exact ⟨a.tmps[t],Array.getElem?_eq_getElem ht,h.slots t _ _ hs (Array.getElem?_eq_getElem ht)⟩
 |cell p q =>
  obtain ⟨bx,h1,h2,h3⟩:=dO hr
  obtain ⟨arr,E,g1,g2,g3,g4,g5⟩:=h.boxes p bx h1
  have hq:q<arr.size:=by rw [g2];exact (List.getElem?_eq_some_iff.1 h3).1
  exact ⟨arr[q],by simp only [hdr];rw [cell_of_row w _ _ arr E (0,0) g1,Array.getElem?_eq_getElem hq],(g5 q _ _ h3 (Array.getElem?_eq_getElem hq)).2⟩
theorem aH.slice {r:Root} {sz:Nat} {es:List PV} {v:Value} (h:aH T w r sz es v):∃ x c,v=.slice x es.length c∧es.length≤c∧c≤maxLen∧(0<es.length→∃ b,x=some ⟨b,0,none⟩∧T b=.row r∧dD w b∧(∀ e∈es,e.cells.length=sz)∧∀ i e,es[i]?=some e→Mem (fun b=>T b=.ro) w b (i * sz) e.cells):=by
 rcases h with ⟨rfl,x,rfl⟩|⟨b,c,arr,E,rfl,h2,h3,h4,h5,h6,h7,h8⟩
 ·exact ⟨x,0,rfl,Nat.le_refl _,Nat.zero_le _,fun h=>by simp at h⟩
 ·refine ⟨_,c,rfl,h5,h6,fun _=>⟨b,rfl,h2,⟨_,_,_,h3⟩,h7,fun i e hi k x hk=>?_⟩⟩
  obtain ⟨u,g1,g2,g3⟩:=h8 i e k x hi hk
  exact ⟨u,by rw [cell_of_row w b _ arr E (0,0) h3,g1],g2,g3⟩
theorem aal {ρ:Operand→Value} (ho:o.op=.move y∨o.op=.assign y) (w:World):(execOp ρ o).run P w=.ok (.value (ρ y)) w:=by
 rcases ho with ho|ho<;>simp [execOp,ho]
theorem aI.transfer (h:aI L σ T st a w) {sz:Nat} {es:List PV} (hn:st.slots[n]?=some (.row sz es)):aI L σ (moved T (.slot n) (.slot d)) ((st.put n .any).putRow d sz es) (a.put (some d) (a.eval (.tmp n))) w:=by
 have ht:n<a.tmps.size:=by rw [h.size];exact (List.getElem?_eq_some_iff.1 hn).1
 have e:a.tmps[n]?=some a.tmps[n]:=Array.getElem?_eq_getElem ht
 have hr:=h.slots n _ _ hn e
 rw [wX e]
 refine (h.forget n).putRow (aH.frame (fun b e _=>⟨nY e,rfl⟩) (fun b e _=>⟨gI e,rfl⟩) hr) (fun b e=>gI e) (fun b o e=>lT e) (fun b hb=>jG (h.fresh b hb)) (fun t s l ht hs b e=>?_) (fun t i l _ _ _ b e=>dM (by simp) (by simp) e) (fun o j b e=>dM (by simp) (by simp) e)
 have htn:t≠n:=fun e=>by
  subst e
  simp only [St.put,List.getElem?_set,if_true] at hs
  split at hs<;>cases hs
 exact dM (by simpa using htn) (by simpa using ht) e
theorem aI.newRow (h:aI L σ T st a w) {sz:Nat} {x:Option Addr}:aI L σ T (st.putRow d sz []) (a.put (some d) (.slice x 0 0)) w :=
 h.putRow (aH.nil _ _ _ _ _) (fun _ e=>e) (fun _ _ e=>e) h.fresh (fun _ _ _ _ _ _ e=>e) (fun _ _ _ _ _ _ _ e=>e) (fun _ _ _ e=>e)
def gy (T:Tags) (s d:Nat):Tags:=fun b=>match T b with
 |.row (.part t i)=>if t=s then .row (.part d i) else if t=d then .other else .row (.part t i)
 |q=>q
theorem aI.RY (h:aI L σ T st a w) {kk:Bool} {l:List AV} (hn:st.slots[n]?=some (.jY kk l)):aI L σ (gy T n d) ((st.put n .any).put d (.jY kk l)) (a.put (some d) (a.eval (.tmp n))) w:=by
 have ht:n<a.tmps.size:=by rw [h.size];exact (List.getElem?_eq_some_iff.1 hn).1
 have e:a.tmps[n]?=some a.tmps[n]:=Array.getElem?_eq_getElem ht
 obtain ⟨arr,e1,e2,e3⟩:=h.slots n _ _ hn e
 rw [wX e]
 have hro:∀ b,T b=.ro→gy T n d b=.ro:=fun b e=>by simp [gy,e]
 have hbox:∀ b o,T b=.box o→gy T n d b=.box o:=fun b o e=>by simp [gy,e]
 have hoth:∀ b,T b=.other→gy T n d b=.other:=fun b e=>by simp [gy,e]
 have VI:∀ b t,T b=.row (.slot t)→gy T n d b=.row (.slot t):=fun b o e=>by simp [gy,e]
 have hcell:∀ b p q,T b=.row (.cell p q)→gy T n d b=.row (.cell p q):=fun b p q e=>by simp [gy,e]
 have hw:∀ b,T b=.ro→b<w.heap.size→gy T n d b=.ro∧w.heap[b]?=w.heap[b]?:=fun b e _=>⟨hro b e,rfl⟩
 refine ⟨by simp [Act.put,St.put,h.size],fun t x u hx hu=>?_,fun o bx ho=>?_,fun b hb=>hoth b (h.fresh b hb)⟩
 ·rcases dI hx with ⟨rfl,rfl,h1⟩|⟨h1,h2⟩
  ·rcases gV hu with ⟨_,rfl,_⟩|⟨h3,_⟩
   ·refine ⟨arr,e1,e2,fun k x u hk hu=>?_⟩
    have g:=e3 k x u hk hu
    cases x<;>simp only [iP] at g ⊢
    ·exact ay.frame hw g
    ·exact aH.frame (fun b e _=>⟨by simp [gy,e],rfl⟩) hw g
   ·exact absurd rfl h3
  ·rcases gV hu with ⟨h3,_⟩|⟨_,h4⟩
   ·exact absurd h3 h1
   ·rcases dI h2 with ⟨rfl,rfl,_⟩|⟨h5,h6⟩
    ·trivial
    ·refine (h.slots t x u h6 h4).keep hw (fun s l e b hb _=>⟨VI b _ hb,rfl⟩) (fun l e i _ b hb _=>⟨by simp [gy,hb,h5,h1],rfl⟩) (fun r hr _ sz es e=>?_) (Nat.le_refl _) (fun _ _=>rfl)
     by_cases hrd:r=.slot d
     ·subst hrd;rw [iG (fun _ _ e=>by cases e)] at e;cases e
     ·rw [gu hrd] at e
      by_cases hrn:r=.slot n
      ·subst hrn;rw [iG (fun _ _ e=>by cases e)] at e;cases e
      ·rw [gu hrn] at e
       exact ⟨⟨es,e⟩,lS hrd⟩
 ·have hb:=h.boxes o bx ho
  have hT:gy T n d (σ o)=T (σ o):=by
   obtain ⟨_,_,_,_,h3,_⟩:=hb
   rw [h3];split
   ·rename_i hf;exact hro _ (by rw [h3,if_pos hf])
   ·rename_i hf;exact hbox _ _ (by rw [h3,if_neg hf])
  exact hb.frame ⟨hT,rfl⟩ (fun j b e _=>⟨hcell b _ _ e,rfl⟩) hw
theorem Still.gy (T:Tags) (n d:Nat):Still T (gy T n d):=⟨fun b e=>by simp [Go.Proofs.YtaaokejjmdbfaaaDoor.gy,e],fun b e=>by simp [Go.Proofs.YtaaokejjmdbfaaaDoor.gy,e]⟩
theorem kP {t:Nat} {av:AV} (h:st.get (.t t)=av) (hne:av≠.any):st.slots[t]?=some av:=by
 simp only [St.get,List.getD] at h
 cases e:st.slots[t]? with
 |none=>rw [e] at h;exact absurd h.symm hne
 |some x=>rw [e] at h;exact congrArg _ h
theorem Even.gy (T:Tags) (s d:Nat):Even T (gy T s d):=⟨Still.gy T s d,fun b h=>by
 unfold Go.Proofs.YtaaokejjmdbfaaaDoor.gy at h
 cases e:T b with
 |row r=>rw [e] at h;cases r<;>simp only [reduceCtorEq] at h<;>(split at h<;>first|cases h|(split at h<;>cases h))
 |_=>simp_all⟩
theorem wY (h:aI L σ T st a w) (hd:o.dst=some d) (ho:o.op=.move y∨o.op=.assign y) (hm:aY y x=true) (qH:Bool) (hp:plain (if qH then .aB d x else .aj d x) st=some st'):rU P L σ T st' a w o:=by
 have hrun:∀ w',(execOp a.eval o).run P w'=.ok (.value (a.eval y)) w':=fun w'=>aal ho w'
 rcases h.get hm with ⟨t,rfl,hg⟩|⟨v,rfl,hv⟩|⟨sz,rfl,hv⟩
 ·have ey:a.eval y=a.eval (.tmp t):=by
   cases y<;>simp [aY] at hm
   rw [hm]
  cases e:st.get (.t t) with
  |row sz es =>
   have hs:=kP e (by simp)
   cases qH with
   |true =>
    have hp':((st.put t .any).putRow d sz es)=st':=by simpa [plain,e] using hp
    subst hp'
    refine ⟨_,moved T (.slot t) (.slot d),hrun,?_,Even.moved _ _ _⟩
    rw [hd,ey];exact h.transfer hs
   |false =>
    have hp':st.put d (.ref (.slot t) 0 es.length)=st':=by simpa [plain,e] using hp
    subst hp'
    refine ⟨_,T,hrun,?_,Even.refl _⟩
    rw [hd]
    refine h.put (fun _ _ e=>by cases e) ⟨trivial,?_⟩
    intro s l hl
    by_cases htd:t=d
    ·subst htd;rw [iG (fun _ _ e=>by cases e)] at hl;cases hl
    ·have hne:(Root.slot t)≠.slot d:=by simpa using htd
     rw [gu hne] at hl
     rw [lS hne]
     obtain ⟨v,h1,h2⟩:=h.sQ hl
     have:=fO hl
     rw [hs] at this;cases this
     obtain ⟨x,c,rfl,_,_,_⟩:=h2.slice
     have h3:a.eval y=.slice x es.length c:=by rw [ey];exact wX h1
     exact ⟨x,_,c,x,h1,by rw [h3];simp,fun _=>rfl,fun _=>by cases x<;>simp [Addr.add],fun b o e=>⟨o,e⟩⟩
  |jY k l =>
   have hs:=kP e (by simp)
   have hp':((st.put t .any).put d (.jY k l))=st':=by cases qH<;>simpa [plain,e] using hp
   subst hp'
   refine ⟨_,Go.Proofs.YtaaokejjmdbfaaaDoor.gy T t d,hrun,?_,Even.gy _ _ _⟩
   rw [hd,ey];exact h.RY hs
  |any =>
   have hp':st.put d .any=st':=by cases qH<;>simpa [plain,e] using hp
   subst hp'
   exact ⟨_,T,hrun,by rw [hd];exact h.VG,Even.refl _⟩
  |_ =>
   have hg':jF L σ T st a w t (st.get (.t t)) (a.eval y):=by
    rcases hg with ⟨_,hg⟩|hg
    ·exact hg
    ·rw [e] at hg;cases hg
   rw [e] at hg'
   have hp':st.put d (st.get (.t t))=st':=by cases qH<;>simpa [plain,e] using hp
   subst hp'
   refine ⟨_,T,hrun,?_,Even.refl _⟩
   rw [hd,e]
   exact h.put (fun _ _ e=>by cases e) (hg'.copy (fun _ _ e=>by cases e) (fun _ e=>by cases e) _)
 ·have hp':st.put d (.pv v)=st':=by cases qH<;>simpa [plain,St.get] using hp
  subst hp'
  exact ⟨_,T,hrun,by rw [hd];exact h.vJ hv,Even.refl _⟩
 ·have hp':st.putRow d sz []=st':=by cases qH<;>simpa [plain,St.get] using hp
  subst hp'
  exact ⟨_,T,hrun,by rw [hd,hv];exact h.newRow,Even.refl _⟩
theorem yB (h:aI L σ T st a w) (hd:o.dst=some d) (ho:o.op=.move y∨o.op=.assign y) (hm:aY y x=true) (qH:Bool) (hp:plain (if qH then .aB d x else .aj d x) st=some st'):Looks P L σ T st' a w o:=(wY h hd ho hm qH hp).looks
end
end Go.Proofs.YtaaokejjmdbfaaaDoor

namespace Go.Proofs.YtaaokejjmdbfaaaDoor
open Go.RowKit
section
variable {P:Program} {L:Nat} {σ:Nat→Nat} {T T':Tags} {st st' st1:St} {a:Act} {w:World} {o:Oper} {d n:Nat} {x x2:bP} {y y2:Operand}
theorem A8 (h:aI L σ T st a w) (hd:o.dst=some d) {v:PV} {u:Value} (hrun:∀ w',oU T w w'→(execOp a.eval o).run P w'=.ok (.value u) w') (hv:ay (fun b=>T b=.ro) w v u):Looks P L σ T (st.put d (.pv v)) a w o :=
 ⟨u,T,hrun,by rw [hd];exact h.vJ hv,Still.refl _⟩
theorem iQ (h:aI L σ T st a w) (hd:o.dst=some d) {v:PV} {u:Value} (hrun:∀ w',(execOp a.eval o).run P w'=.ok (.value u) w') (hv:ay (fun b=>T b=.ro) w v u):rU P L σ T (st.put d (.pv v)) a w o :=
 ⟨u,T,hrun,by rw [hd];exact h.vJ hv,Even.refl _⟩
theorem ay.bV {ok:Nat→Prop} {k:IntKind} {n:Int} {u:Value} (h:ay ok w (.int k n) u):u=.int k n:=by cases h;rfl
theorem ay.mV {ok:Nat→Prop} {b:Bool} {u:Value} (h:ay ok w (.bool b) u):u=.bool b:=by cases h;rfl
theorem ay.QA {ok:Nat→Prop} {s:ByteArray} {u:Value} (h:ay ok w (.str s) u):u=.string s:=by cases h;rfl
theorem ay.qN {ok:Nat→Prop} {cs:List PV} {u:Value} (h:ay ok w (.agg cs) u):∃ arr:Array Value,u=.agg arr∧arr.size=cs.length∧(∀ (j:Nat) (v:Value),arr[j]?=some v→v.oneCell'=true)∧∀ (j:Nat) (x:PV) (v:Value),cs[j]?=some x→arr[j]?=some v→ay ok w x v:=by
 cases h with
 |agg cs arr h1 h2 h3=>exact ⟨arr,rfl,h1,h2,h3⟩
theorem bind_some {α β:Type} {x:Option α} {f:α→Option β} {y:β} (h:(x >>= f)=some y):∃ z,x=some z∧f z=some y:=by
 cases x with
 |none=>cases h
 |some z=>exact ⟨z,rfl,h⟩
theorem Em {c:bP} {yc:Operand} (h:aI L σ T st a w) (hd:o.dst=some d) (ho:o.op=.pick yc y y2) (hmc:aY yc c=true) (hm:aY y x=true) (hm2:aY y2 x2=true) (hp:plain (.pick d c x x2) st=some st'):rU P L σ T st' a w o:=by
 simp only [plain] at hp
 obtain ⟨cv,h1,hp⟩:=bind_some hp
 cases cv<;>simp only [reduceCtorEq] at hp
 rename_i b
 obtain ⟨v,h2,hp⟩:=bind_some hp
 cases hp
 have hb:=(h.pv hmc h1).mV
 refine iQ h hd (u:=if b then a.eval y else a.eval y2) (fun w'=>?_) ?_
 ·simp [execOp,ho,hb,asBool]
 ·cases b
  ·exact h.pv hm2 (by simpa using h2)
  ·exact h.pv hm (by simpa using h2)
theorem NV {c:bP} {yc:Operand} (h:aI L σ T st a w) (hd:o.dst=some d) (ho:o.op=.pick yc y y2) (hmc:aY yc c=true) (hm:aY y x=true) (hm2:aY y2 x2=true) (hp:plain (.pick d c x x2) st=some st'):Looks P L σ T st' a w o:=(Em h hd ho hmc hm hm2 hp).looks
theorem NW {T:TypeId} {b:BinOp} {k l:IntKind} {m n:Int} {v:PV} (hkl:(b=.shl∨b=.shr)∨k=l) (hb:gq b k m n=some v):∃ u,(∀ w,(Go.binOp b T (.int k m) (.int l n)).run P w=.ok u w)∧∀ ok w,ay ok w v u:=by
 have hi:∀ k n,∀ ok w,ay ok w (.int k n) (.int k n):=fun k n ok w=>.int k n
 have hbo:∀ b,∀ ok w,ay ok w (.bool b) (.bool b):=fun b ok w=>.bool b
 cases b<;>simp only [gq] at hb
 case shl =>
  split at hb
  ·cases hb
  ·rename_i hn;cases hb;exact ⟨_,fun w=>by simp [Go.binOp,Op.shift,hn],hi _ _⟩
 case shr =>
  split at hb
  ·cases hb
  ·rename_i hn;cases hb;exact ⟨_,fun w=>by simp [Go.binOp,Op.shift,hn],hi _ _⟩
 all_goals
  have hk:k=l:=hkl.resolve_left (by simp)
  subst hk
 case quo =>
  split at hb
  ·cases hb
  ·rename_i hn;cases hb;exact ⟨_,fun w=>by simp [Go.binOp,Op.intDiv,hn],hi _ _⟩
 case rem =>
  split at hb
  ·cases hb
  ·rename_i hn;cases hb;exact ⟨_,fun w=>by simp [Go.binOp,Op.intDiv,hn],hi _ _⟩
 all_goals
  cases hb
  first
   |exact ⟨_,fun w=>by simp only [Go.binOp,ne_eq,not_true_eq_false,if_false,Op.intArith];rfl,hi _ _⟩
   |exact ⟨_,fun w=>by simp only [Go.binOp,ne_eq,not_true_eq_false,if_false,Op.intBits];rfl,hi _ _⟩
   |exact ⟨_,fun w=>by simp only [Go.binOp,ne_eq,not_true_eq_false,if_false,Op.intCmp];rfl,hbo _⟩
def vZ (P:Program) (T:TypeId):Bool :=
 match P.underlying T with
 |some (.int _)=>jr P T==some 1
 |_=>false
def wZ (P:Program):Nat→List Field→Bool
 |_,[]=>true
 |k,f :: fs=>f.name != "_"&&f.offset==k&&vZ P f.type&&wZ P (k+1) fs
def VJ (P:Program) (T:TypeId):Bool :=
 match P.underlying T with
 |some (.struct fs)=>!P.stoodInHeld T&&!P.eqGuardType P.depth T&&wZ P 0 fs.toList&&jr P T==some fs.size
 |some (.array n e)=>!P.eqGuardType P.depth T&&vZ P e&&jr P T==some n
 |_=>false
theorem uJ {e:TypeId} (he:vZ P e=true):(∃ q,P.underlying e=some (.int q))∧P.cellsOf e=1:=by
 unfold vZ at he
 split at he
 ·rename_i q hq
  exact ⟨⟨q,hq⟩,by have:=beq_iff_eq.1 he;simp only [jr] at this;simp [Program.cellsOf,this]⟩
 ·cases he
theorem JL {e:TypeId} (he:vZ P e=true) (w:World):(isAgg e).run P w=.ok false w:=by
 obtain ⟨⟨q,hq⟩,_⟩:=uJ he
 unfold isAgg;simp only [Sem.run_bind,run_underlying hq,Result.andThen_ok];rfl
theorem uK {e:TypeId} (he:vZ P e=true) {xs:Array Value} {i:Nat} {v:Value} (h:xs[i]?=some v) (w:World):(Go.part e xs i).run P w=.ok v w:=by
 unfold Go.part
 simp only [Sem.run_bind,JL he,Result.andThen_ok,Bool.false_eq_true,if_false,h,Sem.run_pure]
theorem xg {x y:PV} {xs ys:List PV} {r:Bool} (h:iM (x :: xs) (y :: ys)=some r):∃ k a b s,x=.int k a∧y=.int k b∧iM xs ys=some s∧r=(a==b&&s):=by
 cases x<;>cases y<;>simp only [iM,reduceCtorEq] at h
 rename_i k a l b
 split at h
 ·rename_i e
  subst e
  obtain ⟨s,h1,h2⟩:=Option.map_eq_some_iff.1 h
  exact ⟨_,_,_,s,rfl,rfl,h1,h2.symm⟩
 ·cases h
theorem xk {dd:Nat} {ok:Nat→Prop} {X Y:Array Value} (w:World):∀ (fs:List Field) (k:Nat) (xs ys:List PV) (r:Bool),wZ P k fs=true→iM xs ys=some r→xs.length=fs.length →
  (∀ j x,xs[j]?=some x→∃ u,X[k+j]?=some u∧ay ok w x u)→(∀ j x,ys[j]?=some x→∃ u,Y[k+j]?=some u∧ay ok w x u)→∀ w',(Op.eqFields (dd+1) X Y fs).run P w'=.ok r w'
 |[],k,xs,ys,r,_,he,hl,_,_=>by
  intro w'
  cases xs with
  |cons _ _=>simp at hl
  |nil=>cases ys<;>simp [iM] at he;subst he;simp [Op.eqFields]
 |f :: fs,k,xs,ys,r,hf,he,hl,hX,hY=>by
  intro w'
  simp only [wZ,Bool.and_eq_true,bne_iff_ne,ne_eq,beq_iff_eq] at hf
  obtain ⟨⟨⟨hn,ho⟩,hb⟩,hf⟩:=hf
  cases xs with
  |nil=>simp at hl
  |cons x xs =>
   cases ys with
   |nil=>cases x<;>simp [iM] at he
   |cons y ys =>
    obtain ⟨q,a,b,s,rfl,rfl,hs,rfl⟩:=xg he
    obtain ⟨u,h1,h2⟩:=hX 0 _ rfl
    obtain ⟨v,h3,h4⟩:=hY 0 _ rfl
    rw [h2.bV] at h1
    rw [h4.bV] at h3
    obtain ⟨⟨q',hq⟩,_⟩:=uJ hb
    have ih:=xk (dd:=dd) (ok:=ok) (X:=X) (Y:=Y) w fs (k+1) xs ys s hf hs (by simpa using hl) (fun j x hx=>by have:=hX (j+1) x (by simpa using hx);rwa [show k+(j+1)=k+1+j by omega] at this)
     (fun j x hx=>by have:=hY (j+1) x (by simpa using hx);rwa [show k+(j+1)=k+1+j by omega] at this) w'
    rw [Nat.add_zero] at h1 h3
    simp only [Op.eqFields,hn,ne_eq,not_false_eq_true,if_true,Sem.run_bind,ho,uK hb h1,uK hb h3,Result.andThen_ok,run_equalIn_int w' dd f.type q q' a b hq,ih]
    cases hab:a==b
    ·simp
    ·simpa using ih
theorem zk {dd e:Nat} {ok:Nat→Prop} {X Y:Array Value} (he0:vZ P e=true) (w:World):∀ (n k:Nat) (xs ys:List PV) (r:Bool),iM xs ys=some r→xs.length=n →
  (∀ j x,xs[j]?=some x→∃ u,X[k+j]?=some u∧ay ok w x u)→(∀ j x,ys[j]?=some x→∃ u,Y[k+j]?=some u∧ay ok w x u)→∀ w',(Op.eqItems (dd+1) e 1 X Y (List.range' k n)).run P w'=.ok r w'
 |0,k,xs,ys,r,he,hl,_,_=>by
  intro w'
  cases xs with
  |cons _ _=>simp at hl
  |nil=>cases ys<;>simp [iM] at he;subst he;simp [Op.eqItems]
 |n+1,k,xs,ys,r,he,hl,hX,hY=>by
  intro w'
  cases xs with
  |nil=>simp at hl
  |cons x xs =>
   cases ys with
   |nil=>cases x<;>simp [iM] at he
   |cons y ys =>
    obtain ⟨q,a,b,s,rfl,rfl,hs,rfl⟩:=xg he
    obtain ⟨u,h1,h2⟩:=hX 0 _ rfl
    obtain ⟨v,h3,h4⟩:=hY 0 _ rfl
    rw [h2.bV] at h1
    rw [h4.bV] at h3
    obtain ⟨⟨q',hq⟩,_⟩:=uJ he0
    have ih:=zk (dd:=dd) (ok:=ok) (X:=X) (Y:=Y) he0 w n (k+1) xs ys s hs (by simpa using hl) (fun j x hx=>by have:=hX (j+1) x (by simpa using hx);rwa [show k+(j+1)=k+1+j by omega] at this)
     (fun j x hx=>by have:=hY (j+1) x (by simpa using hx);rwa [show k+(j+1)=k+1+j by omega] at this) w'
    rw [Nat.add_zero] at h1 h3
    simp only [List.range'_succ,Op.eqItems,Sem.run_bind,Nat.mul_one,uK he0 h1,uK he0 h3,Result.andThen_ok,run_equalIn_int w' dd e q q' a b hq,ih]
    cases hab:a==b
    ·simp
    ·simpa using ih
theorem RZ {T0:TypeId} (hT:VJ P T0=true) {ok:Nat→Prop} {xs ys:List PV} {r:Bool} {u v:Value} (he:iM xs ys=some r) (hu:ay ok w (.agg xs) u) (hv:ay ok w (.agg ys) v) (hs:jr P T0=some xs.length) (w':World) :
  P.eqGuardType P.depth T0=false∧(Op.equal T0 u v).run P w'=.ok r w':=by
 obtain ⟨X,rfl,hX1,_,hX⟩:=hu.qN
 obtain ⟨Y,rfl,hY1,_,hY⟩:=hv.qN
 have gX:∀ j x,xs[j]?=some x→∃ u,X[0+j]?=some u∧ay ok w x u:=fun j x hx=>by
  have hj:=(List.getElem?_eq_some_iff.1 hx).1
  have e:X[j]?=some X[j]:=Array.getElem?_eq_getElem (by omega)
  exact ⟨_,by rw [Nat.zero_add];exact e,hX j x _ hx e⟩
 have gY:∀ j x,ys[j]?=some x→∃ u,Y[0+j]?=some u∧ay ok w x u:=fun j x hx=>by
  have hj:=(List.getElem?_eq_some_iff.1 hx).1
  have e:Y[j]?=some Y[j]:=Array.getElem?_eq_getElem (by omega)
  exact ⟨_,by rw [Nat.zero_add];exact e,hY j x _ hx e⟩
 unfold VJ at hT
 split at hT
 ·rename_i fs hfs
  simp only [Bool.and_eq_true,Bool.not_eq_true',beq_iff_eq] at hT
  obtain ⟨⟨⟨h1,h2⟩,h3⟩,h4⟩:=hT
  rw [hs] at h4
  have hl:xs.length=fs.toList.length:=by simpa using h4
  refine ⟨h2,?_⟩
  have hfo:P.fieldsOf T0=fs:=by simp [Program.fieldsOf,hfs]
  unfold Op.equal
  rw [show Op.maxDepth=9999+1 from rfl,run_equalIn_struct w' 9999 T0 X Y (by rw [hfo];exact hfs) h1,hfo]
  exact xk (dd:=9998) w fs.toList 0 xs ys r h3 he hl gX gY w'
 ·rename_i n e hne
  simp only [Bool.and_eq_true,Bool.not_eq_true',beq_iff_eq] at hT
  obtain ⟨⟨h2,h3⟩,h4⟩:=hT
  rw [hs] at h4
  refine ⟨h2,?_⟩
  obtain ⟨⟨q,hq⟩,hc⟩:=uJ h3
  have hi:∃ i,P.info? e=some i:=by
   cases hi:P.info? e with
   |none=>simp [Program.cellsOf,hi] at hc
   |some i=>exact ⟨i,rfl⟩
  obtain ⟨i,hi⟩:=hi
  unfold Op.equal
  rw [show Op.maxDepth=9999+1 from rfl,run_equalIn_array w' 9999 X Y hne hi,hc,List.range_eq_range']
  exact zk (dd:=9998) h3 w n 0 xs ys r he (by simpa using h4) gX gY w'
 ·cases hT
theorem En {ρ:Operand→Value} {b:BinOp} {T0 T1:TypeId} {u:Value} (ho:o.op=.binOp b T0 y y2 T1) {w:World} (h1:(eqGuard b T0 y y2 (ρ y) (ρ y2)).run P w=.ok () w) (h2:(Go.binOp b T0 (ρ y) (ρ y2)).run P w=.ok u w) :
  (execOp ρ o).run P w=.ok (.value u) w:=by simp [execOp,ho,h1,h2]
theorem JM {b:BinOp} {T0 T1:TypeId} {neg:Bool} (h:aI L σ T st a w) (hd:o.dst=some d) (ho:o.op=.binOp b T0 y y2 T1) (hb:b=if neg then .neq else .eql) (hm:aY y x=true) (hm2:aY y2 x2=true) (hT:VJ P T0=true) (hn:jr P T0=some n)
  (hp:plain (.Qs d neg n x x2) st=some st')  :rU P L σ T st' a w o:=by
 simp only [plain] at hp
 obtain ⟨v1,h1,hp⟩:=bind_some hp
 cases v1<;>simp only [reduceCtorEq] at hp
 rename_i xs
 obtain ⟨v2,h2,hp⟩:=bind_some hp
 cases v2<;>simp only [reduceCtorEq] at hp
 rename_i ys
 obtain ⟨r,h3,hp⟩:=bind_some hp
 split at hp
 case isFalse=>cases hp
 rename_i hl
 have hp:=Option.some.inj hp
 subst hp
 have r1:=h.pv hm h1
 have r2:=h.pv hm2 h2
 have key:=fun w'=>RZ (P:=P) hT h3 r1 r2 (by rw [hn,hl]) w'
 obtain ⟨X,e1,_⟩:=r1.qN
 obtain ⟨Y,e2,_⟩:=r2.qN
 refine iQ h hd (u:=.bool (if neg then !r else r)) (fun w'=>En ho ?_ ?_) (.bool _)
 ·obtain ⟨k1,k2⟩:=key w'
  rw [e1,e2]
  subst hb
  cases neg<;>simp [eqGuard,k1,program,Sem.run]
 ·obtain ⟨k1,k2⟩:=key w'
  rw [e1,e2] at k2 ⊢
  subst hb
  cases neg<;>simp [Go.binOp,k2]
theorem Si {b:BinOp} {T0 T1:TypeId} {neg:Bool} (h:aI L σ T st a w) (hd:o.dst=some d) (ho:o.op=.binOp b T0 y y2 T1) (hb:b=if neg then .neq else .eql) (hm:aY y x=true) (hm2:aY y2 x2=true) (hT:VJ P T0=true) (hn:jr P T0=some n)
  (hp:plain (.Qs d neg n x x2) st=some st'):Looks P L σ T st' a w o:=(JM h hd ho hb hm hm2 hT hn hp).looks
theorem JO {b:BinOp} {T0 T1:TypeId} (h:aI L σ T st a w) (hd:o.dst=some d) (ho:o.op=.binOp b T0 y y2 T1) (hm:aY y x=true) (hm2:aY y2 x2=true)
  (hp:plain (.bin d b x x2) st=some st'):rU P L σ T st' a w o:=by
 simp only [plain] at hp
 obtain ⟨v1,h1,hp⟩:=bind_some hp
 obtain ⟨v2,h2,hp⟩:=bind_some hp
 obtain ⟨v,h3,hp⟩:=bind_some hp
 have hp:=Option.some.inj hp
 subst hp
 have r1:=h.pv hm h1
 have r2:=h.pv hm2 h2
 cases v1 with
 |int k m =>
  cases v2 with
  |int l q =>
   have e1:=r1.bV
   have e2:=r2.bV
   have hb:gq b k m q=some v∧((b=.shl∨b=.shr)∨k=l):=by
    simp only [y8] at h3
    split at h3
    ·exact ⟨h3,.inl (.inl rfl)⟩
    ·exact ⟨h3,.inl (.inr rfl)⟩
    ·split at h3
     ·exact ⟨h3,.inr (by assumption)⟩
     ·cases h3
   obtain ⟨hb,hkl⟩:=hb
   obtain ⟨u,h7,h8⟩:=NW (P:=P) (T:=T0) hkl hb
   refine iQ h hd (u:=u) (fun w'=>En ho ?_ ?_) (h8 _ _)
   ·rw [e1,e2];unfold eqGuard;cases b<;>rfl
   ·rw [e1,e2];exact h7 w'
  |_=>simp [y8] at h3
 |_=>simp [y8] at h3
theorem Sj {b:BinOp} {T0 T1:TypeId} (h:aI L σ T st a w) (hd:o.dst=some d) (ho:o.op=.binOp b T0 y y2 T1) (hm:aY y x=true) (hm2:aY y2 x2=true)
  (hp:plain (.bin d b x x2) st=some st'):Looks P L σ T st' a w o:=(JO h hd ho hm hm2 hp).looks
end
end Go.Proofs.YtaaokejjmdbfaaaDoor

namespace Go.Proofs.YtaaokejjmdbfaaaDoor
open Go.RowKit
section
variable {P:Program} {L:Nat} {σ:Nat→Nat} {T T':Tags} {st st' st1:St} {a:Act} {w:World} {o:Oper} {d n:Nat} {x x2:bP} {y y2:Operand}
theorem QB {b:UnOp} {T0:TypeId} (h:aI L σ T st a w) (hd:o.dst=some d) (ho:o.op=.unOp b T0 y) (hm:aY y x=true) (hp:plain (.un d b x) st=some st'):rU P L σ T st' a w o:=by
 simp only [plain] at hp
 obtain ⟨v1,h1,hp⟩:=bind_some hp
 obtain ⟨v,h3,hp⟩:=bind_some hp
 have hp:=Option.some.inj hp
 subst hp
 have r1:=h.pv hm h1
 unfold RI at h3
 split at h3
 ·have h3:=Option.some.inj h3
  subst h3
  refine iQ h hd (fun w'=>?_) (.int _ _)
  simp [execOp,ho,r1.bV,Op.unary,Op.intArith]
  try exact ⟨rfl,rfl⟩
 ·have h3:=Option.some.inj h3
  subst h3
  refine iQ h hd (fun w'=>?_) (.bool _)
  simp [execOp,ho,r1.mV,Op.unary]
  try exact ⟨rfl,rfl⟩
 ·simp only [gq] at h3
  have h3:=Option.some.inj h3
  subst h3
  refine iQ h hd (fun w'=>?_) (.int _ _)
  simp only [execOp,ho,r1.bV,Op.unary,Op.intBits,Sem.run_bind,Sem.run_pure,Result.andThen_ok]
 ·cases h3
theorem VK {b:UnOp} {T0:TypeId} (h:aI L σ T st a w) (hd:o.dst=some d) (ho:o.op=.unOp b T0 y) (hm:aY y x=true) (hp:plain (.un d b x) st=some st'):Looks P L σ T st' a w o:=(QB h hd ho hm hp).looks
theorem Eo {k:IntKind} {src dst:TypeId} (h:aI L σ T st a w) (hd:o.dst=some d) (ho:o.op=.convert src dst y) (hm:aY y x=true) (hsrc:∃ q,P.underlying src=some (.int q)) (hdst:P.underlying dst=some (.int k))
  (hp:plain (.conv d k x) st=some st'):rU P L σ T st' a w o:=by
 simp only [plain] at hp
 obtain ⟨v1,h1,hp⟩:=bind_some hp
 cases v1<;>simp only [reduceCtorEq] at hp
 rename_i l m
 have hp:=Option.some.inj hp
 subst hp
 have r1:=(h.pv hm h1).bV
 obtain ⟨q,hq⟩:=hsrc
 refine iQ h hd (fun w'=>?_) (.int _ _)
 simp [execOp,ho,r1,convert,run_underlying hq,run_underlying hdst,Conv.intToInt]
theorem NY {k:IntKind} {src dst:TypeId} (h:aI L σ T st a w) (hd:o.dst=some d) (ho:o.op=.convert src dst y) (hm:aY y x=true) (hsrc:∃ q,P.underlying src=some (.int q)) (hdst:P.underlying dst=some (.int k))
  (hp:plain (.conv d k x) st=some st'):Looks P L σ T st' a w o:=(Eo h hd ho hm hsrc hdst hp).looks
theorem aI.VL (h:aI L σ T st a w) {r:Root} {sz:Nat} {es:List PV} (hr:st.row r=some (sz,es)) {i:Nat} {e:PV} (he:es[i]?=some e) {j:Nat} {v:Value} (hv:NS (hdr σ a w r) i j sz v) :
  ∃ b,v=.pointer (some ⟨b,i * sz+j,none⟩)∧T b=.row r∧dD w b∧Mem (fun b=>T b=.ro) w b (i * sz) e.cells:=by
 obtain ⟨b,n,c,h1,rfl⟩:=hv
 obtain ⟨u,h2,h3⟩:=h.sQ hr
 rw [h2] at h1;cases h1
 obtain ⟨x,c',e1,_,_,h4⟩:=h3.slice
 have hl:0<es.length:=by have:=(List.getElem?_eq_some_iff.1 he).1;omega
 obtain ⟨b',e2,h5,h6,_,h7⟩:=h4 hl
 cases e1
 cases e2
 exact ⟨b,rfl,h5,h6,h7 i e he⟩
theorem DT.aam {T T':Tags} {w:World} {o j:Nat} {x:BV} {u:Value} (h:DT T w o j x u) (hr:∀ b,T b=.row (.cell o j)→T' b=.ro) (hw:∀ b,T b=.ro→T' b=.ro):ay (fun b=>T' b=.ro) w x.val u:=by
 cases x with
 |pv v=>exact ay.frame (fun b e _=>⟨hw b e,rfl⟩) h
 |row sz es=>exact aH.list hr hw h
theorem iK.mem {b o:Nat} {bx:Box} (h:iK T w b o bx) (hr:∀ j b,T b=.row (.cell o j)→T' b=.ro) (hw:∀ b,T b=.ro→T' b=.ro):Mem (fun b=>T' b=.ro) w b 0 (bx.cs.map BV.val):=by
 obtain ⟨arr,E,h1,h2,h3,h4,h5⟩:=h
 intro k x hx
 rw [List.getElem?_map] at hx
 cases e:bx.cs[k]? with
 |none=>rw [e] at hx;cases hx
 |some bv =>
  rw [e] at hx;cases hx
  have hk:k<arr.size:=by rw [h2];exact (List.getElem?_eq_some_iff.1 e).1
  have g:arr[k]?=some arr[k]:=Array.getElem?_eq_getElem hk
  obtain ⟨g1,g2⟩:=h5 k bv _ e g
  exact ⟨arr[k],by rw [cell_of_row w b _ arr E (0,0) h1,Nat.zero_add,g],g1,g2.aam (hr k) hw⟩
def kD (T:Tags) (o:Nat):Tags:=fun b=>match T b with
 |.row (.cell p j)=>if p=o then .ro else .row (.cell p j)
 |q=>q
theorem Still.kD (T:Tags) (o:Nat):Still T (kD T o):=⟨fun b e=>by simp [Go.Proofs.YtaaokejjmdbfaaaDoor.kD,e],fun b e=>by simp [Go.Proofs.YtaaokejjmdbfaaaDoor.kD,e]⟩
theorem uM {o:Nat} {r:Root} {b:Nat} (hr:∀ j,r≠.cell o j) (h:T b=.row r):kD T o b=.row r:=by
 unfold kD;rw [h]
 split
 ·rename_i p j e
  cases e
  rw [if_neg (fun e=>hr j (by rw [e]))]
 ·rfl
theorem yC {o p b:Nat} (h:T b=.box p):kD T o b=.box p:=by simp [kD,h]
theorem Ep {o j b:Nat} (h:T b=.row (.cell o j)):kD T o b=.ro:=by simp [kD,h]
theorem lV {cs:List BV} {j:Nat} {bv:BV} (h:(cs.map BV.frozen)[j]?=some bv):∃ x,cs[j]?=some x∧bv=.pv x.val:=by
 rw [List.getElem?_map] at h
 cases e:cs[j]? with
 |none=>rw [e] at h;cases h
 |some x=>rw [e] at h;cases h;exact ⟨x,rfl,by cases x<;>rfl⟩
theorem aI.o9 (h:aI L σ T st a w) (p:Nat):∃ T',aI L σ T' (st.bf p) a w∧Still T T'∧(∀ b r,(∀ j,r≠.cell p j)→T b=.row r→T' b=.row r)∧((st.boxes[p]?).isSome=true→∀ b j,T b=.row (.cell p j)→T' b=.ro)∧∀ b o,T b=.box o→T' b=.box o:=by
 unfold St.bf
 cases hp:st.boxes[p]? with
 |none=>exact ⟨T,h,Still.refl T,fun _ _ _ e=>e,(fun e=>by cases e),fun _ _ e=>e⟩
 |some bx0 =>
  refine ⟨kD T p,?_,Still.kD T p,fun b r hr e=>uM hr e,fun _ b j e=>Ep e,fun b o e=>yC e⟩
  have hpl:p<st.boxes.length:=(List.getElem?_eq_some_iff.1 hp).1
  have hw:∀ b,T b=.ro→b<w.heap.size→kD T p b=.ro∧w.heap[b]?=w.heap[b]?:=fun b e _=>⟨(Still.kD T p).ro b e,rfl⟩
  refine ⟨h.size,fun t x u hx hu=>?_,fun o bx ho=>?_,fun b hb=>(Still.kD T p).other b (h.fresh b hb)⟩
  ·refine (h.slots t x u hx hu).keep hw (fun s l e b hb _=>⟨uM (by simp) hb,rfl⟩) (fun l e i _ b hb _=>⟨uM (by simp) hb,rfl⟩) (fun r' hr' _ s l e=>?_) (by simp) (fun _ _=>rfl)
   refine ⟨?_,rfl⟩
   cases r' with
   |slot t'=>exact ⟨l,e⟩
   |part t' i=>exact ⟨l,e⟩
   |cell o j =>
    simp only [St.row,List.getElem?_set] at e ⊢
    by_cases hop:p=o
    ·subst hop
     simp only [if_true,if_pos hpl] at e
     split at e
     ·cases e
     ·split at e
      ·rename_i hh
       obtain ⟨x,_,hx⟩:=lV hh
       cases hx
      ·cases e
    ·simp only [if_neg hop] at e;exact ⟨l,e⟩
  ·rw [List.getElem?_set] at ho
   by_cases hop:p=o
   ·subst hop
    simp only [if_true,if_pos hpl,Option.some.injEq] at ho
    subst ho
    obtain ⟨arr,E,h1,h2,h3,h4,h5⟩:=h.boxes p bx0 hp
    have k3:kD T p (σ p)=(if bx0.fz then .ro else .box p):=by
     rw [show kD T p (σ p)=T (σ p) from ?_,h3]
     rw [h3];split
     ·rename_i hf;exact (Still.kD T p).ro _ (by rw [h3,if_pos hf])
     ·rename_i hf;exact yC (by rw [h3,if_neg hf])
    refine ⟨arr,E,h1,by simpa using h2,k3,?_,?_⟩
    ·intro _ j sz es e
     obtain ⟨x,_,hx⟩:=lV e
     cases hx
    ·intro j bv u hj hu
     obtain ⟨x,hx,rfl⟩:=lV hj
     obtain ⟨g1,g2⟩:=h5 j x u hx hu
     exact ⟨g1,g2.aam (fun b e=>Ep e) (fun b e=>(Still.kD T p).ro b e)⟩
   ·rw [if_neg hop] at ho
    have hb:=h.boxes o bx ho
    have hT:kD T p (σ o)=T (σ o):=by
     obtain ⟨_,_,_,_,h3,_⟩:=hb
     rw [h3];split
     ·rename_i hf;exact (Still.kD T p).ro _ (by rw [h3,if_pos hf])
     ·rename_i hf;exact yC (by rw [h3,if_neg hf])
    exact hb.frame ⟨hT,rfl⟩ (fun j b e _=>⟨uM (by intro q e;cases e;exact hop rfl) e,rfl⟩) hw
theorem aI.bf (h:aI L σ T st a w) (p:Nat):∃ T',aI L σ T' (st.bf p) a w∧Still T T'∧(∀ b r,(∀ j,r≠.cell p j)→T b=.row r→T' b=.row r)∧((st.boxes[p]?).isSome=true→∀ b j,T b=.row (.cell p j)→T' b=.ro) :=
 let ⟨T',h1,h2,h3,h4,_⟩:=h.o9 p
 ⟨T',h1,h2,h3,h4⟩
theorem run_load {ρ:Operand→Value} {T0:TypeId} {ad:Addr} {u:Value} (ho:o.op=.load T0 y) (hy:ρ y=.pointer (some ad)) {w':World} (hl:(loadVar T0 ad).run P w'=.ok u w'):(execOp ρ o).run P w'=.ok (.value u) w':=by
 simp [execOp,ho,hy,Instr.loadAt,Instr.sureAddr,hl]
theorem oU.blk {w':World} (hs:oU T w w') {b:Nat} (hb:T b≠.other) (hl:b<w.heap.size):w'.heap[b]?=w.heap[b]?:=hs.2 b hb hl
theorem ay.sS {ok:Nat→Prop} {cs:List PV} {j:Nat} {u:Value} (h:ay ok w (.dS cs j) u):∃ b off,u=.pointer (some ⟨b,off+j,none⟩)∧ok b∧dD w b∧Mem ok w b off cs:=by
 cases h with
 |dS cs j b off cv h1 h2 h3 h4=>exact ⟨b,off,rfl,h1,h2,fun k x hk=>⟨cv k,(h3 k x hk).1,(h3 k x hk).2,h4 k x hk⟩⟩
theorem ay.uN {ok:Nat→Prop} {cs:List PV} {b off:Nat} (j:Nat) (h1:ok b) (h2:dD w b) (hm:Mem ok w b off cs):ay ok w (.dS cs j) (.pointer (some ⟨b,off+j,none⟩)) :=
 .dS cs j b off (fun k=>(w.cell? ⟨b,off+k,none⟩).getD undef) h1 h2 (fun k x hk=>by obtain ⟨u,g1,g2,g3⟩:=hm k x hk;rw [g1];exact ⟨rfl,g2⟩) (fun k x hk=>by obtain ⟨u,g1,g2,g3⟩:=hm k x hk;rw [g1];exact g3)
theorem Mem.mono {ok ok':Nat→Prop} {b off:Nat} {cs:List PV} (h:Mem ok w b off cs) (hk:∀ b,ok b→ok' b):Mem ok' w b off cs:=fun k x hk'=>by
 obtain ⟨u,g1,g2,g3⟩:=h k x hk'
 exact ⟨u,g1,g2,g3.frame fun b hb _=>⟨hk b hb,rfl⟩⟩
theorem NZ {T0:TypeId} {n:Option Nat} (h:aI L σ T st a w) (hd:o.dst=some d) (ho:o.op=.load T0 y) (hm:aY y x=true) (hc:oC P T0=some n) (hp:plain (.load d n x) st=some st'):Looks P L σ T st' a w o:=by
 simp only [plain] at hp
 split at hp
 case h_1 cs j e =>
  obtain ⟨v,h1,hp⟩:=bind_some hp
  have hp:=Option.some.inj hp
  subst hp
  have r:=h.pv hm (show st.dH x=some (.dS cs j) by simp [St.dH,e])
  obtain ⟨b,off,e1,h2,h3,h4⟩:=r.sS
  obtain ⟨u,h5,h6,_⟩:=oG (P:=P) h4 hc h1
  exact A8 h hd (fun w' hw'=>run_load ho e1 (h5 w' (hw'.blk (by rw [h2];simp) h3.lt))) h6
 case h_2 r i j e =>
  obtain ⟨⟨sz,es⟩,h1,hp⟩:=bind_some hp
  obtain ⟨el,h2,hp⟩:=bind_some hp
  obtain ⟨v,h3,hp⟩:=bind_some hp
  have hp:=Option.some.inj hp
  subst hp
  rcases h.get hm with ⟨t,rfl,(⟨_,g⟩|g)⟩|⟨v',rfl,g⟩|⟨s,rfl,g⟩
  ·rw [e] at g
   obtain ⟨b,e1,h4,h5,h6⟩:=h.VL h1 h2 (g.2 sz es h1)
   obtain ⟨u,h7,h8,_⟩:=oG (P:=P) h6 hc h3
   exact A8 h hd (fun w' hw'=>run_load ho e1 (h7 w' (hw'.blk (by rw [h4];simp) h5.lt))) h8
  ·rw [g] at e;cases e
  ·cases e
  ·cases e
 case h_3 p j e =>
  obtain ⟨bx,h1,hp⟩:=bind_some hp
  have hgp:a.eval y=.pointer (some ⟨σ p,j,none⟩):=by
   rcases h.get hm with ⟨t,rfl,(⟨_,g⟩|g)⟩|⟨v',rfl,g⟩|⟨s,rfl,g⟩
   ·rw [e] at g;exact g.2
   ·rw [g] at e;cases e
   ·cases e
   ·cases e
  have hbox:=h.boxes p bx h1
  have hlt:=hbox.lt
  have htag:T (σ p)≠.other:=by
   obtain ⟨_,_,_,_,h3,_⟩:=hbox
   rw [h3];split<;>simp
  cases n with
  |none =>
   simp only at hp
   obtain ⟨arr,E,g1,g2,g3,g4,g5⟩:=hbox
   split at hp
   ·rename_i v hv
    have hp:=Option.some.inj hp
    subst hp
    have hj:j<arr.size:=by rw [g2];exact (List.getElem?_eq_some_iff.1 hv).1
    obtain ⟨k1,k2⟩:=g5 j _ arr[j] hv (Array.getElem?_eq_getElem hj)
    refine A8 h hd (u:=arr[j]) (fun w' hw'=>run_load ho hgp ?_) k2
    have hb:=hw'.blk htag hlt
    unfold loadVar
    simp only [Sem.run_bind,nR hc,Result.andThen_ok,Bool.false_eq_true,if_false]
    unfold load
    simp only [Sem.run,World.cell?_of_block (w:=w) (a:=⟨σ p,j,none⟩) hb,cell_of_row w _ _ arr E (0,0) g1,Array.getElem?_eq_getElem hj]
   ·rename_i sz es hv
    split at hp
    ·cases hp
    ·rename_i hfz
     have hp:=Option.some.inj hp
     subst hp
     have hj:j<arr.size:=by rw [g2];exact (List.getElem?_eq_some_iff.1 hv).1
     obtain ⟨k1,k2⟩:=g5 j _ arr[j] hv (Array.getElem?_eq_getElem hj)
     have hce:w.cell? ⟨σ p,j,none⟩=some arr[j]:=by rw [cell_of_row w _ _ arr E (0,0) g1,Array.getElem?_eq_getElem hj]
     refine ⟨arr[j],T,fun w' hw'=>run_load ho hgp ?_,?_,Still.refl _⟩
     ·have hb:=hw'.blk htag hlt
      unfold loadVar
      simp only [Sem.run_bind,nR hc,Result.andThen_ok,Bool.false_eq_true,if_false]
      unfold load
      simp only [Sem.run,World.cell?_of_block (w:=w) (a:=⟨σ p,j,none⟩) hb,hce]
     ·rw [hd]
      refine h.put (fun _ _ e=>by cases e) ⟨(List.getElem?_eq_some_iff.1 h1).1,?_⟩
      intro s l hl
      have hl2:st.row (.cell p j)=some (s,l):=hl
      have hs:st.row (.cell p j)=some (sz,es):=by simp [St.row,h1,hfz,hv]
      rw [hs] at hl2;cases hl2
      obtain ⟨xa,c,e2,_,_,_⟩:=aH.slice k2
      exact ⟨xa,es.length,c,xa,by show w.cell? _=_;rw [hce,e2],by rw [e2];simp,fun _=>rfl,fun _=>by cases xa<;>simp [Addr.add],fun b o e=>⟨o,e⟩⟩
   ·cases hp
  |some n =>
   obtain ⟨v,h2,hp⟩:=bind_some hp
   have hp:=Option.some.inj hp
   subst hp
   obtain ⟨T1,k1,k2,k3,k4⟩:=h.bf p
   have hmem:=hbox.mem (T':=T1) (fun j b e=>k4 (by rw [h1];rfl) b j e) k2.ro
   obtain ⟨u,h7,h8,_⟩:=oG (P:=P) hmem hc h2
   rw [Nat.zero_add] at h7
   exact ⟨u,T1,fun w' hw'=>run_load ho hgp (h7 w' (hw'.blk htag hlt)),by rw [hd];exact k1.vJ h8,k2⟩
 case h_4=>cases hp
theorem JQ {T0:TypeId} {n:Option Nat} (h:aI L σ T st a w) (hd:o.dst=some d) (ho:o.op=.load T0 y) (hm:aY y x=true) (hc:oC P T0=some n) (hp:plain (.Qu d n x) st=some st') :
  ∃ (b:Nat) (u:Value),(∀ w',w'.heap[b]?=w.heap[b]?→(execOp a.eval o).run P w'=.ok (.value u) w')∧aI L σ T st' (a.put o.dst u) w∧b<w.heap.size∧T b=.ro:=by
 simp only [plain] at hp
 split at hp
 case h_3=>cases hp
 case h_2 cs j e =>
  obtain ⟨v,h1,hp⟩:=Option.map_eq_some_iff.1 hp
  subst hp
  have r:=h.pv hm (show st.dH x=some (.dS cs j) by simp [St.dH,e])
  obtain ⟨b,off,e1,h2,h3,h4⟩:=r.sS
  obtain ⟨u,h5,h6,_⟩:=oG (P:=P) h4 hc h1
  exact ⟨b,u,fun w' hw'=>run_load ho e1 (h5 w' hw'),by rw [hd];exact h.vJ h6,h3.lt,h2⟩
 rename_i p j e
 split at hp
 case h_2=>cases hp
 rename_i bx h1
 split at hp
 case isFalse=>cases hp
 rename_i hfz
 obtain ⟨v,h2,hp⟩:=Option.map_eq_some_iff.1 hp
 subst hp
 have hgp:a.eval y=.pointer (some ⟨σ p,j,none⟩):=by
  rcases h.get hm with ⟨t,rfl,(⟨_,g⟩|g)⟩|⟨v',rfl,g⟩|⟨s,rfl,g⟩
  ·rw [e] at g;exact g.2
  ·rw [g] at e;cases e
  ·cases e
  ·cases e
 have hbox:=h.boxes p bx h1
 have hlt:=hbox.lt
 obtain ⟨arr,E,g1,g2,g3,g4,g5⟩:=hbox
 rw [if_pos hfz] at g3
 have hmem:Mem (fun b=>T b=.ro) w (σ p) 0 (bx.cs.map BV.val):=fun k q hk=>by
  rw [List.getElem?_map] at hk
  cases hb:bx.cs[k]? with
  |none=>rw [hb] at hk;cases hk
  |some bv =>
   rw [hb] at hk;cases hk
   have hj:k<arr.size:=by rw [g2];exact (List.getElem?_eq_some_iff.1 hb).1
   obtain ⟨k1,k2⟩:=g5 k bv arr[k] hb (Array.getElem?_eq_getElem hj)
   cases bv with
   |pv q=>exact ⟨arr[k],by rw [Nat.zero_add,cell_of_row w _ _ arr E (0,0) g1,Array.getElem?_eq_getElem hj],k1,k2⟩
   |row sz es=>exact absurd hb (g4 hfz k sz es)
 obtain ⟨u,h7,h8,_⟩:=oG (P:=P) hmem hc h2
 rw [Nat.zero_add] at h7
 exact ⟨σ p,u,fun w' hw'=>run_load ho hgp (h7 w' hw'),by rw [hd];exact h.vJ h8,hlt,g3⟩
theorem Sm {T0:TypeId} {n:Option Nat} (h:aI L σ T st a w) (hd:o.dst=some d) (ho:o.op=.load T0 y) (hm:aY y x=true) (hc:oC P T0=some n) (hp:plain (.Qu d n x) st=some st'):Looks P L σ T st' a w o:=by
 obtain ⟨b,u,h3,h4,h5,h6⟩:=JQ h hd ho hm hc hp
 exact ⟨u,T,fun w' hw'=>h3 w' (hw'.blk (by rw [h6];simp) h5),h4,Still.refl _⟩
end
end Go.Proofs.YtaaokejjmdbfaaaDoor

namespace Go.Proofs.YtaaokejjmdbfaaaDoor
open Go.RowKit
def gZ (T:Tags) (o:Nat):Tags:=fun b=>match T b with
 |.box p=>if p=o then .ro else .box p
 |.row (.cell p j)=>if p=o then .ro else .row (.cell p j)
 |q=>q
section
variable {P:Program} {L:Nat} {σ σ':Nat→Nat} {T T' T1:Tags} {st st' st1:St} {a:Act} {w w1:World} {o:Oper} {vo:fM} {y:Operand} {x:bP}
 {rec:ak→St→Option (Ex × St)} {env:Env}
theorem iK.Gs {T:Tags} {w:World} {b o:Nat} {bx:Box} (h:iK T w b o bx):dD w b:=let ⟨_,_,h1,_⟩:=h;⟨_,_,_,h1⟩
theorem ig {o b:Nat} (h:T b=.ro):gZ T o b=.ro:=by simp [gZ,h]
theorem sU {o b:Nat} (h:T b=.other):gZ T o b=.other:=by simp [gZ,h]
theorem Es {o p b:Nat} (hp:p≠o) (h:T b=.box p):gZ T o b=.box p:=by simp [gZ,h,hp]
theorem yD {o b:Nat} (h:T b=.box o):gZ T o b=.ro:=by simp [gZ,h]
theorem wo {o j b:Nat} (h:T b=.row (.cell o j)):gZ T o b=.ro:=by simp [gZ,h]
theorem uO {o:Nat} {r:Root} {b:Nat} (hr:∀ j,r≠.cell o j) (h:T b=.row r):gZ T o b=.row r:=by
 unfold gZ;rw [h]
 cases r with
 |slot t=>rfl
 |part t i=>rfl
 |cell p j=>simp only [];rw [if_neg (fun e=>hr j (by rw [e]))]
theorem Still.gZ (T:Tags) (o:Nat):Still T (gZ T o):=⟨fun _=>ig,fun _=>sU⟩
theorem aI.aZ (h:aI L σ T st a w) (p:Nat):aI L σ (if (st.boxes[p]?).isSome then gZ T p else T) (st.aZ p) a w:=by
 unfold St.aZ
 cases hp:st.boxes[p]? with
 |none=>exact h
 |some bx0 =>
  simp only [Option.isSome_some,if_true]
  have hpl:p<st.boxes.length:=(List.getElem?_eq_some_iff.1 hp).1
  have hw:∀ b,T b=.ro→b<w.heap.size→gZ T p b=.ro∧w.heap[b]?=w.heap[b]?:=fun b e _=>⟨ig e,rfl⟩
  refine ⟨h.size,fun t x u hx hu=>?_,fun o bx ho=>?_,fun b hb=>sU (h.fresh b hb)⟩
  ·refine (h.slots t x u hx hu).keep hw (fun s l e b hb _=>⟨uO (by simp) hb,rfl⟩) (fun l e i _ b hb _=>⟨uO (by simp) hb,rfl⟩) (fun r' hr' _ s l e=>?_) (by simp) (fun _ _=>rfl)
   refine ⟨?_,rfl⟩
   cases r' with
   |slot t'=>exact ⟨l,e⟩
   |part t' i=>exact ⟨l,e⟩
   |cell o j =>
    simp only [St.row,List.getElem?_set] at e ⊢
    by_cases hop:p=o
    ·subst hop
     simp only [if_true,if_pos hpl] at e
     cases e
    ·simp only [if_neg hop] at e;exact ⟨l,e⟩
  ·rw [List.getElem?_set] at ho
   by_cases hop:p=o
   ·subst hop
    simp only [if_true,if_pos hpl,Option.some.injEq] at ho
    subst ho
    obtain ⟨arr,E,h1,h2,h3,h4,h5⟩:=h.boxes p bx0 hp
    have k3:gZ T p (σ p)=.ro:=by
     split at h3
     ·exact ig h3
     ·exact yD h3
    refine ⟨arr,E,h1,by simpa using h2,by simpa using k3,?_,?_⟩
    ·intro _ j sz es e
     obtain ⟨x,_,hx⟩:=lV e
     cases hx
    ·intro j bv u hj hu
     obtain ⟨x,hx,rfl⟩:=lV hj
     obtain ⟨g1,g2⟩:=h5 j x u hx hu
     exact ⟨g1,g2.aam (fun b e=>wo e) (fun b e=>ig e)⟩
   ·rw [if_neg hop] at ho
    have hb:=h.boxes o bx ho
    have hT:gZ T p (σ o)=T (σ o):=by
     obtain ⟨_,_,_,_,h3,_⟩:=hb
     rw [h3];split
     ·rename_i hf;exact ig (by rw [h3,if_pos hf])
     ·rename_i hf;exact Es (Ne.symm hop) (by rw [h3,if_neg hf])
    exact hb.frame ⟨hT,rfl⟩ (fun j b e _=>⟨uO (by intro q e;cases e;exact hop rfl) e,rfl⟩) hw
end
end Go.Proofs.YtaaokejjmdbfaaaDoor

namespace Go.Proofs.YtaaokejjmdbfaaaDoor
open Go.RowKit
section
variable {P:Program} {L:Nat} {σ:Nat→Nat} {T T':Tags} {st st' st1:St} {a:Act} {w:World} {o:Oper} {d n:Nat} {x x2:bP} {y y2:Operand}
theorem aI.at (h:aI L σ T st a w) (hm:aY y x=true) {av:AV} (e:st.get x=av) (hne:∀ v,av≠.pv v) (hnr:∀ sz es,av≠.row sz es) (ha:av≠.any):∃ t,x=.t t∧st.slots[t]?=some av∧a.tmps[t]?=some (a.eval y)∧jF L σ T st a w t av (a.eval y):=by
 rcases h.get hm with ⟨t,rfl,(⟨g1,g⟩|g)⟩|⟨v',rfl,g⟩|⟨s,rfl,g⟩
 ·rw [e] at g
  exact ⟨t,rfl,kP e ha,g1,g⟩
 ·rw [g] at e;exact absurd e.symm ha
 ·exact absurd e.symm (hne _)
 ·exact absurd e.symm (hnr _ _)
theorem aI.aQ (h:aI L σ T st a w) (hm:aY y x=true) {p j:Nat} (e:st.get x=.aQ p j):p<st.boxes.length∧a.eval y=.pointer (some ⟨σ p,j,none⟩):=by
 obtain ⟨t,_,_,_,g⟩:=h.at hm e (by simp) (by simp) (by simp)
 exact g
theorem aI.adk (h:aI L σ T st a w) (hm:aY y x=true) {r:Root} {i j:Nat} (e:st.get x=.ny r i j):∀ sz es,st.row r=some (sz,es)→NS (hdr σ a w r) i j sz (a.eval y):=by
 obtain ⟨t,_,_,_,g⟩:=h.at hm e (by simp) (by simp) (by simp)
 exact g.2
theorem aI.VN (h:aI L σ T st a w) (hm:aY y x=true) {r:Root} {i j:Nat} (e:st.get x=.ny r i j):r.low st.boxes.length:=by
 obtain ⟨t,_,_,_,g⟩:=h.at hm e (by simp) (by simp) (by simp)
 exact g.1
theorem aI.adl (h:aI L σ T st a w) (hm:aY y x=true) {r:Root} {i j:Nat} (e:st.get x=.ref r i j):r.low st.boxes.length:=by
 obtain ⟨t,_,_,_,g⟩:=h.at hm e (by simp) (by simp) (by simp)
 exact g.1
theorem aI.N7 (h:aI L σ T st a w) (hm:aY y x=true) {r:Root} {i j:Nat} (e:st.get x=.ref r i j):∀ sz es,st.row r=some (sz,es)→Gp (hdr σ a w r) i j sz (a.eval y):=by
 obtain ⟨t,_,_,_,g⟩:=h.at hm e (by simp) (by simp) (by simp)
 exact g.2
theorem aI.Sr (h:aI L σ T st a w) (hm:aY y (.t n)=true) {sz:Nat} {es:List PV} (e:st.get (.t n)=.row sz es):st.slots[n]?=some (.row sz es)∧a.tmps[n]?=some (a.eval y)∧aH T w (.slot n) sz es (a.eval y):=by
 rcases h.get hm with ⟨t,e1,(⟨g1,g⟩|g)⟩|⟨v',e1,g⟩|⟨s,e1,g⟩
 ·cases e1
  rw [e] at g
  exact ⟨kP e (by simp),g1,g⟩
 ·cases e1
  rw [g] at e;cases e
 ·cases e1
 ·cases e1
theorem jF.aao {av:AV} {v:Value} {r:Root} (hr:av.root?=some r) (h:jF L σ T st a w d av v) (hnr:∀ sz es,av≠.row sz es):jF L σ T (st.put d av) (a.put (some d) v) w d av v:=by
 refine h.keep (fun b e _=>⟨e,rfl⟩) (fun _ _ e=>absurd e (hnr _ _)) (fun _ e=>by rw [e] at hr;cases hr) (fun q hq _ sz es e=>?_) (Nat.le_refl _) (fun _ _=>rfl)
 by_cases hrd:q=.slot d
 ·subst hrd;rw [iG hnr] at e;cases e
 ·rw [gu hrd] at e;exact ⟨⟨es,e⟩,lS hrd⟩
theorem uP (h:aI L σ T st a w) (hd:o.dst=some d) {av:AV} {v:Value} {r:Root} (hr:av.root?=some r) (hrun:∀ w',(execOp a.eval o).run P w'=.ok (.value v) w') (hav:jF L σ T st a w d av v) (hnr:∀ sz es,av≠.row sz es):rU P L σ T (st.put d av) a w o :=
 ⟨v,T,hrun,by rw [hd];exact h.put hnr (hav.aao hr hnr),Even.refl _⟩
theorem Et (h:aI L σ T st a w) (hd:o.dst=some d) {p j:Nat} {v:Value} (hp:p<st.boxes.length) (hv:v=.pointer (some ⟨σ p,j,none⟩)) (hrun:∀ w',(execOp a.eval o).run P w'=.ok (.value v) w'):rU P L σ T (st.put d (.aQ p j)) a w o :=
 ⟨v,T,hrun,by rw [hd];exact h.put (by simp) ⟨hp,hv⟩,Even.refl _⟩
theorem JR {S f:Nat} {fd:Field} {k:Nat} (hf:uH P S f=some fd) (hk:jr P fd.type=some (k+1)) (b off:Nat) (w:World):(Instr.fieldAt S (.pointer (some ⟨b,off,none⟩)) f).run P w=.ok (.pointer (some ⟨b,off+fd.offset,none⟩)) w:=by
 obtain ⟨fs,h1,h2⟩:=NU hf
 simp [Instr.fieldAt,run_underlying h1,h2,Instr.sureAddr,fieldPlace,oD hk,Addr.add_lit]
theorem Eu {S f k:Nat} {fd:Field} (h:aI L σ T st a w) (hd:o.dst=some d) (ho:o.op=.fieldAddr S y f) (hm:aY y x=true) (hf:uH P S f=some fd) (hk:jr P fd.type=some (k+1)) (hp:plain (.aX d x fd.offset) st=some st'):rU P L σ T st' a w o:=by
 have hrun:∀ b off,a.eval y=.pointer (some ⟨b,off,none⟩)→∀ w',(execOp a.eval o).run P w'=.ok (.value (.pointer (some ⟨b,off+fd.offset,none⟩))) w':=fun b off e w'=>by
  simp [execOp,ho,e,JR hf hk]
 simp only [plain] at hp
 split at hp
 case h_1 cs j e =>
  have hp:=Option.some.inj hp
  subst hp
  have r:=h.pv hm (show st.dH x=some (.dS cs j) by simp [St.dH,e])
  obtain ⟨b,off,e1,h2,h3,h4⟩:=r.sS
  exact iQ h hd (hrun b _ e1) (by rw [Nat.add_assoc];exact ay.uN _ h2 h3 h4)
 case h_2 r i j e =>
  have g:=h.adk hm e
  split at hp
  ·rename_i p hr
   have hp:=Option.some.inj hp
   subst hp
   obtain ⟨sz,es⟩:=p
   obtain ⟨b,n,c,h2,h3⟩:=g sz es hr
   refine uP h hd (r:=r) rfl (hrun b _ h3) ⟨h.VN hm (by assumption),fun s l e=>?_⟩ (by simp)
   rw [hr] at e;cases e
   exact ⟨b,n,c,h2,by rw [Nat.add_assoc]⟩
  ·cases hp
 case h_3 p j e =>
  have hp:=Option.some.inj hp
  subst hp
  obtain ⟨g1,g2⟩:=h.aQ hm e
  exact Et h hd g1 rfl (hrun _ _ g2)
 case h_4=>cases hp
theorem JU (h:aI L σ T st a w) (hd:o.dst=some d) (ho:o.op=.nilCheck y) (hm:aY y x=true) (hp:plain (.aX d x 0) st=some st'):rU P L σ T st' a w o:=by
 have hrun:∀ b off,a.eval y=.pointer (some ⟨b,off,none⟩)→∀ w',(execOp a.eval o).run P w'=.ok (.value (.pointer (some ⟨b,off,none⟩))) w':=fun b off e w'=>by
  simp [execOp,ho,e]
 simp only [plain] at hp
 split at hp
 case h_1 cs j e =>
  have hp:=Option.some.inj hp
  subst hp
  have r:=h.pv hm (show st.dH x=some (.dS cs j) by simp [St.dH,e])
  obtain ⟨b,off,e1,h2,h3,h4⟩:=r.sS
  exact iQ h hd (hrun b _ e1) (ay.uN _ h2 h3 h4)
 case h_2 r i j e =>
  have g:=h.adk hm e
  split at hp
  ·rename_i p hr
   have hp:=Option.some.inj hp
   subst hp
   obtain ⟨sz,es⟩:=p
   obtain ⟨b,n,c,h2,h3⟩:=g sz es hr
   refine uP h hd (r:=r) rfl (hrun b _ h3) ⟨h.VN hm (by assumption),fun s l e=>?_⟩ (by simp)
   rw [hr] at e;cases e
   exact ⟨b,n,c,h2,rfl⟩
  ·cases hp
 case h_3 p j e =>
  have hp:=Option.some.inj hp
  subst hp
  obtain ⟨g1,g2⟩:=h.aQ hm e
  exact Et h hd g1 rfl (hrun _ _ g2)
 case h_4=>cases hp
theorem N8 {S f k:Nat} {fd:Field} (h:aI L σ T st a w) (hd:o.dst=some d) (ho:o.op=.fieldAddr S y f) (hm:aY y x=true) (hf:uH P S f=some fd) (hk:jr P fd.type=some (k+1)) (hp:plain (.aX d x fd.offset) st=some st'):Looks P L σ T st' a w o:=(Eu h hd ho hm hf hk hp).looks
theorem Ba {i:PV} {len k:Nat} (h:index i len=some k):∃ q,i=.int q (k:Int)∧k<len:=by
 unfold index at h
 split at h
 ·split at h
  ·rename_i q n hn
   have h:=Option.some.inj h
   subst h
   exact ⟨q,by rw [Int.toNat_of_nonneg hn.1],by omega⟩
  ·cases h
 ·cases h
theorem Bc {T0 e sz k n c:Nat} {q:IntKind} (ht:lU P T0=some e) (hs:jr P e=some sz) (hk:k<n) (b off:Nat) (w:World) :
  (Instr.indexAt T0 (.slice (some ⟨b,off,none⟩) n c) (.int q (k:Int))).run P w=.ok (.pointer (some ⟨b,off+k * sz,none⟩)) w:=by
 simp [Instr.indexAt,asIntOf,run_underlying (uI ht),hk,oD hs,Addr.add_lit]
theorem ay.qy {ok:Nat→Prop} {sz:Nat} {es:List PV} {u:Value} (h:ay ok w (.list sz es) u):∃ x c,u=.slice x es.length c∧es.length≤c∧c≤maxLen∧(0<es.length→∃ b off,x=some ⟨b,off,none⟩∧ok b∧dD w b∧(∀ e∈es,e.cells.length=sz)∧∀ i e,es[i]?=some e→Mem ok w b (off+i * sz) e.cells):=by
 cases h with
 |nil sz x=>exact ⟨x,0,rfl,Nat.le_refl _,Nat.zero_le _,fun h=>by simp at h⟩
 |list sz es b off c cv h1 h2 h3 h4 h6 h7 h8=>exact ⟨_,c,rfl,h3,h4,fun _=>⟨b,off,rfl,h1,h2,h6,fun i e hi k x hk=>⟨cv i k,(h7 i e k x hi hk).1,(h7 i e k x hi hk).2,h8 i e k x hi hk⟩⟩⟩
theorem ay.aap {ok:Nat→Prop} {sz:Nat} {es:List PV} {x:Option Addr} {c:Nat} (h1:es.length≤c) (h2:c≤maxLen) (h0:es=[]→c=0∨∃ b off,x=some ⟨b,off,none⟩∧ok b∧dD w b)
  (h:0<es.length→∃ b off,x=some ⟨b,off,none⟩∧ok b∧dD w b∧(∀ e∈es,e.cells.length=sz)∧∀ i e,es[i]?=some e→Mem ok w b (off+i * sz) e.cells):ay ok w (.list sz es) (.slice x es.length c):=by
 cases es with
 |nil =>
  rcases h0 rfl with rfl|⟨b,off,rfl,g1,g2⟩
  ·exact .nil sz x
  ·exact .list sz [] b off c (fun _ _=>undef) g1 g2 h1 h2 (fun e he=>by cases he) (fun i e j x hi=>by simp at hi) (fun i e j x hi=>by simp at hi)
 |cons e0 es =>
  obtain ⟨b,off,rfl,g1,g2,g3,g4⟩:=h (by simp)
  refine .list sz _ b off c (fun i j=>(w.cell? ⟨b,off+i * sz+j,none⟩).getD undef) g1 g2 h1 h2 g3 (fun i e j x hi hj=>?_) (fun i e j x hi hj=>?_)
  ·obtain ⟨u,k1,k2,k3⟩:=g4 i e hi j x hj
   rw [k1];exact ⟨rfl,k2⟩
  ·obtain ⟨u,k1,k2,k3⟩:=g4 i e hi j x hj
   rw [k1];exact k3
theorem Ew {T0 e sz:Nat} (h:aI L σ T st a w) (hd:o.dst=some d) (ho:o.op=.indexAddr T0 y y2) (hm:aY y x=true) (hm2:aY y2 x2=true) (ht:lU P T0=some e) (hs:jr P e=some sz) (hp:plain (.bC d sz x x2) st=some st')  :rU P L σ T st' a w o:=by
 simp only [plain] at hp
 obtain ⟨iv,h1,hp1⟩:=bind_some hp
 clear hp
 have hp:=hp1
 clear hp1
 have hi:=h.pv hm2 h1
 have hrun:∀ (b off n c k:Nat) (q:IntKind),iv=.int q (k:Int)→k<n→a.eval y=.slice (some ⟨b,off,none⟩) n c→∀ w',(execOp a.eval o).run P w'=.ok (.value (.pointer (some ⟨b,off+k * sz,none⟩))) w':=fun b off n c k q e1 hk e w'=>by
  rw [e1] at hi
  simp [execOp,ho,e,hi.bV,Bc ht hs hk]
 split at hp
 case h_1 s es e =>
  obtain ⟨k,h2,hp⟩:=bind_some hp
  obtain ⟨el,h3,hp⟩:=bind_some hp
  split at hp
  case isFalse=>cases hp
  rename_i hsz
  have hp:=Option.some.inj hp
  subst hp
  subst hsz
  obtain ⟨q,e2,hk⟩:=Ba h2
  have r:=h.pv hm (show st.dH x=some (.list s es) by simp [St.dH,e])
  obtain ⟨xa,c,e1,_,_,h4⟩:=r.qy
  obtain ⟨b,off,rfl,g1,g2,g3,g4⟩:=h4 (by omega)
  exact iQ h hd (hrun b off _ c k q e2 hk e1) (ay.uN (off:=off+k * s) 0 g1 g2 (g4 k el h3))
 case h_2 r off len e =>
  obtain ⟨⟨s,es⟩,h2,hp⟩:=bind_some hp
  simp only at hp
  split at hp
  case isFalse=>cases hp
  rename_i hc
  obtain ⟨k,h3,hp⟩:=bind_some hp
  have hp:=Option.some.inj hp
  subst hp
  obtain ⟨h4,rfl⟩:=hc
  obtain ⟨q,e2,hk⟩:=Ba h3
  obtain ⟨xa,n,c,x',g1,g2,g3,g4,_⟩:=h.N7 hm e s es h2
  obtain ⟨u,g5,g6⟩:=h.sQ h2
  rw [g5] at g1;cases g1
  obtain ⟨xb,c',e3,g7,g8,g9⟩:=g6.slice
  cases e3
  obtain ⟨b,rfl,g10,g11,g12,g13⟩:=g9 (by omega)
  have e4:=g4 (by omega)
  simp only [Option.map_some,Addr.add_lit,Nat.zero_add] at e4
  subst e4
  refine uP h hd (r:=r) rfl (hrun b (off * s) len (c - off) k q e2 hk g2) ⟨h.adl hm (by assumption),fun s' l e=>?_⟩ (by simp)
  rw [h2] at e;cases e
  exact ⟨b,_,c,g5,by rw [Nat.add_mul,Nat.add_zero]⟩
 case h_3 s es e =>
  split at hp
  case h_2=>cases hp
  rename_i n
  obtain ⟨k,h3,hp⟩:=bind_some hp
  split at hp
  case isFalse=>cases hp
  rename_i hsz
  have hp:=Option.some.inj hp
  subst hp
  subst hsz
  obtain ⟨q,e2,hk⟩:=Ba h3
  obtain ⟨g1,g2,g3⟩:=h.Sr hm e
  obtain ⟨xb,c',e3,g7,g8,g9⟩:=g3.slice
  obtain ⟨b,rfl,g10,g11,g12,g13⟩:=g9 (by omega)
  refine uP h hd (r:=.slot n) rfl (hrun b 0 _ c' k q e2 hk e3) ⟨trivial,fun s' l e=>?_⟩ (by simp)
  have:=fO e
  rw [g1] at this;cases this
  exact ⟨b,_,c',by rw [← e3];exact g2,by rw [Nat.add_zero,Nat.zero_add]⟩
 case h_4=>cases hp
theorem N9 {T0 e sz:Nat} (h:aI L σ T st a w) (hd:o.dst=some d) (ho:o.op=.indexAddr T0 y y2) (hm:aY y x=true) (hm2:aY y2 x2=true) (ht:lU P T0=some e) (hs:jr P e=some sz) (hp:plain (.bC d sz x x2) st=some st'):Looks P L σ T st' a w o:=(Ew h hd ho hm hm2 ht hs hp).looks
theorem Sv {T0 e n:Nat} (h:aI L σ T st a w) (hd:o.dst=some d) (ho:o.op=.slice T0 y none none none) (hm:aY y x=true) (ht:JK P T0=some (n,e)) (hs:jr P e=some 1) (hp:plain (.Vk d n x) st=some st'):Looks P L σ T st' a w o:=by
 simp only [plain] at hp
 split at hp
 case h_2=>cases hp
 rename_i p he
 split at hp
 case h_2=>cases hp
 rename_i bx hb
 split at hp
 case isFalse=>cases hp
 rename_i hc
 obtain ⟨hn,hlim,afO⟩:=hc
 have hp:=Option.some.inj hp
 subst hp
 obtain ⟨g1,g2⟩:=h.aQ hm he
 have hF:=h.aZ p
 rw [hb] at hF
 simp only [Option.isSome_some,if_true] at hF
 obtain ⟨arr,E,h1,h2,h3,h4,h5⟩:=h.boxes p bx hb
 have k3:gZ T p (σ p)=.ro:=by
  split at h3
  ·exact ig h3
  ·exact yD h3
 refine ⟨.slice (some ⟨σ p,0,none⟩) n n,gZ T p,fun w' _=>?_,?_,Still.gZ T p⟩
 ·simp [execOp,ho,g2,Instr.sliceAt,run_underlying (Qy ht),Instr.sureAddr,Instr.sliceBounds,oD hs,Addr.add_lit]
 ·rw [hd]
  refine hF.vJ ?_
  have hlen:(bx.cs.map BV.val).length=n:=by simpa using hn
  have key:∀ i q,(bx.cs.map BV.val)[i]?=some q→∃ u,arr[i]?=some u∧u.oneCell'=true∧ay (fun b=>gZ T p b=.ro) w q u:=fun i q hq=>by
   rw [List.getElem?_map] at hq
   cases hbv:bx.cs[i]? with
   |none=>rw [hbv] at hq;cases hq
   |some bv =>
    rw [hbv] at hq;cases hq
    have hj:i<arr.size:=by rw [h2];exact (List.getElem?_eq_some_iff.1 hbv).1
    obtain ⟨k1,k2⟩:=h5 i bv arr[i] hbv (Array.getElem?_eq_getElem hj)
    exact ⟨_,Array.getElem?_eq_getElem hj,k1,k2.aam (fun b e=>wo e) (fun b e=>ig e)⟩
  have one:∀ q,q∈bx.cs.map BV.val→q.cells=[q]:=fun q hq=>by
   have:=List.all_eq_true.1 afO q hq
   cases q<;>first|rfl|(simp [PV.single] at this)
  have hcell:∀ i q,(bx.cs.map BV.val)[i]?=some q→∃ u,w.cell? ⟨σ p,0+i * 1+0,none⟩=some u∧arr.getD i undef=u∧u.oneCell'=true∧ay (fun b=>gZ T p b=.ro) w q u:=fun i q hq=>by
   obtain ⟨u,e1,e2,e3⟩:=key i q hq
   exact ⟨u,by rw [show 0+i * 1+0=i by omega,cell_of_row w _ _ arr E (0,0) h1,e1],by rw [Array.getD_eq_getD_getElem?,e1];rfl,e2,e3⟩
  have g:=ay.list (ok:=fun b=>gZ T p b=.ro) (w:=w) 1 (bx.cs.map BV.val) (σ p) 0 n (fun i _=>arr.getD i undef) k3 ⟨_,_,_,h1⟩ (by omega) (by unfold lim at hlim;unfold maxLen;omega) (fun q hq=>by rw [one q hq];rfl)
   (fun i q j z hi hj=>by
    rw [one q (List.mem_of_getElem? hi)] at hj
    match j,hj with
    |0,hj =>
     obtain ⟨u,e1,e2,e3,_⟩:=hcell i q hi
     rw [e1,e2];exact ⟨rfl,e3⟩
    |j+1,hj=>simp at hj)
   (fun i q j z hi hj=>by
    rw [one q (List.mem_of_getElem? hi)] at hj
    match j,hj with
    |0,hj =>
     cases hj
     obtain ⟨u,e1,e2,e3,e4⟩:=hcell i q hi
     rw [e2];exact e4
    |j+1,hj=>simp at hj)
  rw [hlen] at g
  exact g
end
end Go.Proofs.YtaaokejjmdbfaaaDoor

namespace Go.Proofs.YtaaokejjmdbfaaaDoor
open Go.RowKit
structure Cells (ok:Nat→Prop) (w:World) (cs:List PV) (arr:Array Value):Prop where
 size:arr.size=cs.length
 one:∀ (j:Nat) (v:Value),arr[j]?=some v→v.oneCell'=true
 rep:∀ (j:Nat) (x:PV) (v:Value),cs[j]?=some x→arr[j]?=some v→ay ok w x v
section
variable {P:Program} {L:Nat} {σ:Nat→Nat} {T T':Tags} {st st' st1:St} {a:Act} {w:World} {o:Oper} {d n:Nat} {x x2:bP} {y y2:Operand} {ok:Nat→Prop}
theorem ay.one {v:PV} {u:Value} (h:ay ok w v u) (hv:∀ cs,v≠.agg cs):u.oneCell'=true∧u.cells=#[u]∧v.cells=[v]:=by
 cases h<;>first|exact ⟨rfl,rfl,rfl⟩|exact absurd rfl (hv _)|skip
 rename_i hu
 cases u<;>first|exact ⟨rfl,rfl,rfl⟩|(simp [Value.oneCell'] at hu)
theorem ay.cells {v:PV} {u:Value} (h:ay ok w v u):Cells ok w v.cells u.cells:=by
 by_cases hv:∃ cs,v=.agg cs
 ·obtain ⟨cs,rfl⟩:=hv
  obtain ⟨arr,rfl,h1,h2,h3⟩:=h.qN
  exact ⟨h1,h2,h3⟩
 ·obtain ⟨h1,h2,h3⟩:=h.one (fun cs e=>hv ⟨cs,e⟩)
  rw [h2,h3]
  refine ⟨rfl,fun j v hj=>?_,fun j x v hx hj=>?_⟩
  ·cases j with
   |zero=>simp at hj;subst hj;exact h1
   |succ j=>simp at hj
  ·cases j with
   |zero=>simp at hj hx;subst hj;subst hx;exact h
   |succ j=>simp at hj
theorem Cells.agg {cs:List PV} {arr:Array Value} (h:Cells ok w cs arr):ay ok w (.agg cs) (.agg arr):=.agg cs arr h.size h.one h.rep
theorem Aa {ρ:Operand→Value} {T0:TypeId} {e:Nat} {xa:Option Addr} {m c:Nat} (ho:o.op=.call { callee:=.builtin .len,args:=#[y],argTypes:=#[T0] }) (ht:lU P T0=some e) (hy:ρ y=.slice xa m c) (w':World):(execOp ρ o).run P w'=.ok (.value (.int .i64 m)) w':=by
 simp [execOp,ho,resolve,invoke,builtin,hy,Builtin.len_,run_underlying (uI ht),goInt]
theorem JV {T0:TypeId} {e:Nat} (h:aI L σ T st a w) (hd:o.dst=some d) (ho:o.op=.call { callee:=.builtin .len,args:=#[y],argTypes:=#[T0] }) (hm:aY y x=true) (ht:lU P T0=some e) (hp:plain (.len d x) st=some st')  :rU P L σ T st' a w o:=by
 simp only [plain] at hp
 split at hp
 case h_1 sz es e =>
  have hp:=Option.some.inj hp
  subst hp
  obtain ⟨xa,c,e1,_⟩:=(h.pv hm (show st.dH x=some (.list sz es) by simp [St.dH,e])).qy
  exact iQ h hd (fun w'=>Aa ho ht e1 w') (.int _ _)
 case h_2 sz es e =>
  have hp:=Option.some.inj hp
  subst hp
  cases x with
  |t t =>
   obtain ⟨g1,g2,g3⟩:=h.Sr hm e
   obtain ⟨xa,c,e1,_⟩:=g3.slice
   exact iQ h hd (fun w'=>Aa ho ht e1 w') (.int _ _)
  |c v=>simp [St.get] at e
  |nil s =>
   simp only [St.get,AV.row.injEq] at e
   obtain ⟨rfl,rfl⟩:=e
   have e1:a.eval y=.slice none 0 0:=by
    rcases h.get hm with ⟨t,e1,_⟩|⟨v',e1,g⟩|⟨s,e1,g⟩
    ·cases e1
    ·cases e1
    ·exact g
   exact iQ h hd (fun w'=>Aa ho ht e1 w') (.int _ _)
 case h_3 r off len e =>
  split at hp
  ·rename_i p hr
   have hp:=Option.some.inj hp
   subst hp
   obtain ⟨xa,n,c,x',g1,g2,g3,g4⟩:=h.N7 hm e p.1 p.2 hr
   exact iQ h hd (fun w'=>Aa ho ht g2 w') (.int _ _)
  ·cases hp
 case h_4=>cases hp
theorem Sz {T0:TypeId} {e:Nat} (h:aI L σ T st a w) (hd:o.dst=some d) (ho:o.op=.call { callee:=.builtin .len,args:=#[y],argTypes:=#[T0] }) (hm:aY y x=true) (ht:lU P T0=some e) (hp:plain (.len d x) st=some st'):Looks P L σ T st' a w o:=(JV h hd ho hm ht hp).looks
theorem JW {i:Nat} (h:aI L σ T st a w) (hd:o.dst=some d) (ho:o.op=.extract y i) (hm:aY y x=true) (hp:plain (.ext d x i) st=some st')  :rU P L σ T st' a w o:=by
 cases x with
 |c v=>simp [plain] at hp
 |nil s=>simp [plain] at hp
 |t n =>
  simp only [plain] at hp
  split at hp
  case h_2=>cases hp
  rename_i l e
  have e0:st.get (.t n)=.jY false l:=e
  obtain ⟨t,e1,h1,h2,arr,h3,h4,h5⟩:=h.at hm e0 (by simp) (by simp) (by simp)
  replace h3:_=Value.tuple arr:=h3
  cases e1
  have hx:∀ av,l[i]?=some av→∃ u,arr[i]?=some u∧iP T w n i av u∧∀ w',(execOp a.eval o).run P w'=.ok (.value u) w':=fun av hav=>by
   have hi:i<arr.size:=by rw [h4];exact (List.getElem?_eq_some_iff.1 hav).1
   refine ⟨arr[i],Array.getElem?_eq_getElem hi,h5 i av _ hav (Array.getElem?_eq_getElem hi),fun w'=>?_⟩
   simp [execOp,ho,h3,Instr.extract,hi]
  split at hp
  case h_1 v hv =>
   have hp:=Option.some.inj hp
   subst hp
   obtain ⟨u,_,g2,g3⟩:=hx _ hv
   exact iQ h hd (fun w'=>g3 w') g2
  case h_2 sz es hv =>
   have hp:=Option.some.inj hp
   subst hp
   obtain ⟨u,g1,g2,g3⟩:=hx _ hv
   -- the part leaves the tuple
   have hS:aI L σ T (st.put n (.jY false (l.set i .any))) a w:=h.turn (by simp) (fun v hv=>by
    rw [h2] at hv;cases hv
    refine ⟨arr,h3,by simpa using h4,fun k x u hk hu=>?_⟩
    rw [List.getElem?_set] at hk
    split at hk
    ·split at hk
     ·cases hk;trivial
     ·cases hk
    ·exact h5 k x u hk hu)
   refine ⟨u,moved T (.part n i) (.slot d),fun w'=>g3 w',?_,Even.moved _ _ _⟩
   rw [hd]
   refine hS.putRow (aH.frame (fun b e _=>⟨nY e,rfl⟩) (fun b e _=>⟨gI e,rfl⟩) g2) (fun b e=>gI e) (fun b o e=>lT e) (fun b hb=>jG (h.fresh b hb)) (fun t s l ht hs b e=>dM (by simp) (by simpa using ht) e) (fun t j l' ht hs hj b e=>?_) (fun o j b e=>dM (by simp) (by simp) e)
   by_cases hti:t=n∧j=i
   ·obtain ⟨rfl,rfl⟩:=hti
    obtain ⟨s,es',hj⟩:=hj
    have hs':(st.put t (.jY false (l.set j .any))).slots[t]?=some (.jY false (l.set j .any)):=by
     simp only [St.put,List.getElem?_set,if_true]
     rw [if_pos (List.getElem?_eq_some_iff.1 (kP e0 (by simp))).1]
    rw [hs'] at hs
    cases hs
    rw [List.getElem?_set,if_pos rfl] at hj
    split at hj<;>cases hj
   ·exact dM (by intro e;cases e;exact hti ⟨rfl,rfl⟩) (by simp) e
  case h_3=>cases hp
theorem SA {i:Nat} (h:aI L σ T st a w) (hd:o.dst=some d) (ho:o.op=.extract y i) (hm:aY y x=true) (hp:plain (.ext d x i) st=some st'):Looks P L σ T st' a w o:=(JW h hd ho hm hp).looks
end
end Go.Proofs.YtaaokejjmdbfaaaDoor

namespace Go.Proofs.YtaaokejjmdbfaaaDoor
open Go.RowKit
section
variable {P:Program} {L:Nat} {σ:Nat→Nat} {T T':Tags} {st st' st1:St} {a:Act} {w:World} {o:Oper} {d n:Nat} {x x2:bP} {y y2:Operand} {ok:Nat→Prop}
theorem JX {v:Option PV} {dflt lim k:Nat} (h:bound v dflt lim=some k):(v=none∧k=dflt)∨∃ q,v=some (.int q (k:Int))∧k≤lim:=by
 unfold bound at h
 split at h
 ·exact .inl ⟨rfl,(Option.some.inj h).symm⟩
 ·split at h
  ·rename_i q n hn
   have h:=Option.some.inj h
   subst h
   exact .inr ⟨q,by rw [Int.toNat_of_nonneg hn.1],by omega⟩
  ·cases h
 ·cases h
def adn:Option Operand→Option bP→Bool
 |none,none=>true
 |some y,some x=>aY y x
 |_,_=>false
theorem aI.vG (h:aI L σ T st a w) {y:Option Operand} {x:Option bP} (hm:adn y x=true) {v:Option PV} (hv:st.vG x=some v):(y=none∧v=none)∨∃ y0 x0 v0,y=some y0∧v=some v0∧x=some x0∧ay (fun b=>T b=.ro) w v0 (a.eval y0):=by
 cases y<;>cases x<;>simp only [adn,reduceCtorEq] at hm
 ·simp only [St.vG,Option.some.injEq] at hv;exact .inl ⟨rfl,hv.symm⟩
 ·rename_i y0 x0
  simp only [St.vG] at hv
  obtain ⟨v0,h1,rfl⟩:=Option.map_eq_some_iff.1 hv
  exact .inr ⟨y0,x0,v0,rfl,rfl,rfl,h.pv hm h1⟩
theorem aI.bnd (h:aI L σ T st a w) {y:Option Operand} {x:Option bP} (hm:adn y x=true) {v:Option PV} (hv:st.vG x=some v) {dflt lim k:Nat} (hb:bound v dflt lim=some k):(y.map a.eval=none∧k=dflt)∨∃ q,y.map a.eval=some (.int q (k:Int)):=by
 rcases h.vG hm hv with ⟨rfl,rfl⟩|⟨y0,x0,v0,rfl,rfl,rfl,g⟩
 ·rcases JX hb with ⟨_,rfl⟩|⟨q,e,_⟩
  ·exact .inl ⟨rfl,rfl⟩
  ·cases e
 ·rcases JX hb with ⟨e,_⟩|⟨q,e,_⟩
  ·cases e
  ·cases e
   exact .inr ⟨q,by rw [Option.map_some,g.bV]⟩
end
end Go.Proofs.YtaaokejjmdbfaaaDoor
