/-
  Part 1 of the texts that the statement stands on.
-/
import Derived.WalkKit
import Derived.Lib.Hide
import Derived.BigQuiet
import Derived.Deep.QuietTactic
import Derived.Deep.LoopGhost
import Derived.Deep.Draws
import Derived.ChangeKeysEq
import Derived.Laws.StructEq
import Derived.OrdersHeld
import Derived.Deep.Quiet
import Derived.Tactics
import Derived.Tactics2
import Derived.Maps.AppendAt
import Derived.OrdersIn
import Derived.TacticsIn
import Derived.OwnWalkIn
import Derived.Lib.LazyBuf
import Derived.Laws.Tables
import Derived.Laws.CopyRow
import Derived.Laws.MakeOwn
set_option linter.all false
open Option renaming some → ZD, map_some → Zah, map_eq_some_iff → Zat
open List renaming getElem?_eq_getElem → ZS, getElem?_eq_some_iff → Z6, length_cons → za, getElem?_map → zb, getElem?_set → zp, getElem?_append_right → zP, getElem_mem → zR, length_append → Zaa, mem_of_getElem? → Zab, length_take → Zac, getElem?_append_left → Zad, map_cons → Zaj, getElem?_cons_zero → Zak, replicate → Zal, getElem?_take → Zaq, range → Zar, mem_singleton → Zav, append_assoc → Zay, eq_nil_of_length_eq_zero → Zaz, getElem?_cons_succ → ZaH, filterMap_cons → ZaO, getElem?_drop → ZaP, getElem?_eq_none → ZaV, filterMap_nil → ZaW, mem_of_mem_take → Za2, mem_append → Zbb, foldl_cons → ZbU, map_toArray → Zcd, mem_of_mem_drop → Zce, getElem?_append → Zcf, getElem?_range → Zcj, getD → Zcn, zipIdx_cons → ZcD
open Bool renaming and_eq_true → ZZ, false_eq_true → zg, not_eq_true' → ZaR
open Nat renaming le_refl → ze, le_trans → zr, lt_of_lt_of_le → Zae, mul_le_mul_right → Zam, zero_add → Zan, add_mul → ZaC, zero_le → ZaM, add_zero → Za1, add_assoc → Zbs, min_eq_left → Zbv, eq_zero_or_pos → ZbR, mul_comm → Zcc, min_eq_right → ZcE, div_lt_of_lt_mul → ZcM, mod_lt → ZcN, zero_lt_one → Zdm, div_add_mod → Zdn, sub_le → ZdA, testBit_two_pow → ZdD
open Array renaming getElem?_eq_getElem → zj, getElem?_eq_some_iff → zz, length_toList → ZaA, getD_eq_getD_getElem? → ZaN, getElem?_toList → Zbd, getElem?_setIfInBounds → Zbh
open BitVec renaming ofInt → Zau
open Prod renaming mk → ZaD
open Int renaming toNat_of_nonneg → ZbB
namespace Go.Proofs.YtioijcfcehhmdaaGreatDoor
open Go.RowKit
structure Rep (α:Type) where
 sz:Nat
 rd:(Nat→Prop)→World→List Value→α→Prop
 len:∀ {ok w cs x},rd ok w cs x→cs.length=sz
 mono:∀ {ok ok':Nat→Prop} {w cs x},(∀ b,ok b→ok' b)→rd ok w cs x→rd ok' w cs x
 live:∀ {ok w cs x},rd ok w cs x→rd (fun b=>ok b∧b<w.heap.size) w cs x
 frame:∀ {ok} {w w':World} {cs x},(∀ b,ok b→w'.heap[b]?=w.heap[b]?)→rd ok w cs x→rd ok w' cs x
 one:∀ {ok w cs x},rd ok w cs x→∀ u∈cs,u.oneCell'=true
def pR (n:Int):Prop:=-9223372036854775808≤n∧n≤9223372036854775807
def xE:Rep Int where
 sz:=1
 rd _ _ cs n:=cs=[.int .i64 n]∧pR n
 len h:=by rw [h.1];rfl
 mono _ h:=h
 live h:=h
 frame _ h:=h
 one h:=by rw [h.1];intro u hu;cases Zav.1 hu;rfl
def anW:Rep Bool where
 sz:=1
 rd _ _ cs b:=cs=[.bool b]
 len h:=by rw [h];rfl
 mono _ h:=h
 live h:=h
 frame _ h:=h
 one h:=by rw [h];intro u hu;cases Zav.1 hu;rfl
def u8R:Rep UInt8 where
 sz:=1
 rd _ _ cs b:=cs=[.int .u8 (b.toNat:Int)]
 len h:=by rw [h];rfl
 mono _ h:=h
 live h:=h
 frame _ h:=h
 one h:=by rw [h];intro u hu;cases Zav.1 hu;rfl
def arw:Rep UInt64 where
 sz:=1
 rd _ _ cs b:=cs=[.int .u64 (b.toNat:Int)]
 len h:=by rw [h];rfl
 mono _ h:=h
 live h:=h
 frame _ h:=h
 one h:=by rw [h];intro u hu;cases Zav.1 hu;rfl
abbrev fE:=Vector UInt8 8
def nH (x:fE):List Value:=x.toList.map fun b=>.int .u8 (b.toNat:Int)
theorem wW (x:fE):(nH x).length=8:=by simp [nH]
theorem ND (x:fE):∀ u∈nH x,u.oneCell'=true:=by
 intro u hu;obtain ⟨_,_,rfl⟩:=List.mem_map.1 hu;rfl
def AL:Rep fE where
 sz:=8
 rd _ _ cs x:=cs=nH x
 len h:=by rw [h];exact wW _
 mono _ h:=h
 live h:=h
 frame _ h:=h
 one h:=by rw [h];exact ND _
def QW {α β:Type}(r:Rep α)(s:Rep β):Rep (α×β) where
 sz:=r.sz+s.sz
 rd ok w cs x:=∃ c1 c2,cs=c1++c2∧r.rd ok w c1 x.1∧s.rd ok w c2 x.2
 len h:=by obtain ⟨c1,c2,rfl,h1,h2⟩:=h;simp [r.len h1,s.len h2]
 mono hk h:=by obtain ⟨c1,c2,rfl,h1,h2⟩:=h;exact ⟨c1,c2,rfl,r.mono hk h1,s.mono hk h2⟩
 live h:=by obtain ⟨c1,c2,rfl,h1,h2⟩:=h;exact ⟨c1,c2,rfl,r.live h1,s.live h2⟩
 frame hf h:=by obtain ⟨c1,c2,rfl,h1,h2⟩:=h;exact ⟨c1,c2,rfl,r.frame hf h1,s.frame hf h2⟩
 one h:=by
  obtain ⟨c1,c2,rfl,h1,h2⟩:=h
  intro u hu
  rcases Zbb.1 hu with hu|hu
  ·exact r.one h1 u hu
  ·exact s.one h2 u hu
structure Sl {α:Type}(r:Rep α)(ok:Nat→Prop)(w:World)(a:Option Addr)(n c:Nat)(l:List α):Prop where
 len:l.length=n
 cap:n≤c
 bnd:c≤maxLen
 nil:a=none→c=0
 cells:n=0∨∃ b off,a=some ⟨b,off,none⟩∧ok b∧b<w.heap.size ∧
  ∀ i x,l[i]?=some x→∃ cs,(∀ j,j<r.sz→w.cell? ⟨b,off+i*r.sz+j,none⟩=cs[j]?)∧r.rd ok w cs x
theorem NG {w w':World}{b:Nat}(h:w'.heap[b]?=w.heap[b]?)(hb:b<w.heap.size):b<w'.heap.size:=by
 rcases Nat.lt_or_ge b w'.heap.size with g|g
 ·exact g
 ·rw [Array.getElem?_eq_none g,zj hb] at h;cases h
theorem Sl.mono {α:Type}{r:Rep α}{ok ok':Nat→Prop}{w:World}{a:Option Addr}{n c:Nat}{l:List α}(hk:∀ b,ok b→ok' b)(h:Sl r ok w a n c l):Sl r ok' w a n c l :=
 ⟨h.len,h.cap,h.bnd,h.nil,h.cells.imp id fun ⟨b,off,h1,h2,h3,h4⟩=>⟨b,off,h1,hk _ h2,h3,fun i x hx=>let ⟨cs,h5,h6⟩:=h4 i x hx;⟨cs,h5,r.mono hk h6⟩⟩⟩
theorem Sl.live {α:Type}{r:Rep α}{ok:Nat→Prop}{w:World}{a:Option Addr}{n c:Nat}{l:List α}(h:Sl r ok w a n c l):Sl r (fun b=>ok b∧b<w.heap.size) w a n c l :=
 ⟨h.len,h.cap,h.bnd,h.nil,h.cells.imp id fun ⟨b,off,h1,h2,h3,h4⟩=>⟨b,off,h1,⟨h2,h3⟩,h3,fun i x hx=>let ⟨cs,h5,h6⟩:=h4 i x hx;⟨cs,h5,r.live h6⟩⟩⟩
theorem Sl.frame {α:Type}{r:Rep α}{ok:Nat→Prop}{w w':World}{a:Option Addr}{n c:Nat}{l:List α}(hf:∀ b,ok b→w'.heap[b]?=w.heap[b]?)(h:Sl r ok w a n c l):Sl r ok w' a n c l :=
 ⟨h.len,h.cap,h.bnd,h.nil,h.cells.imp id fun ⟨b,off,h1,h2,h3,h4⟩=>⟨b,off,h1,h2,NG (hf b h2) h3,
  fun i x hx=>let ⟨cs,h5,h6⟩:=h4 i x hx;⟨cs,fun j hj=>(World.cell?_of_block (w:=w) (a:=⟨b,_,none⟩) (hf b h2)).trans (h5 j hj),r.frame hf h6⟩⟩⟩
theorem Sl.below {α:Type}{r:Rep α}{ok:Nat→Prop}{w w':World}{a:Option Addr}{n c:Nat}{l:List α}(hb:Below w.heap.size w w')(h:Sl r ok w a n c l):Sl r ok w' a n c l :=
 (Sl.frame (fun b hb'=>hb.block b hb'.2) h.live).mono fun _ h=>h.1
def Yl {α:Type}(r:Rep α):Rep (List α) where
 sz:=1
 rd ok w cs l:=∃ a n c,cs=[.slice a n c]∧Sl r ok w a n c l
 len h:=by obtain ⟨a,n,c,rfl,_⟩:=h;rfl
 mono hk h:=let ⟨a,n,c,e,h⟩:=h;⟨a,n,c,e,h.mono hk⟩
 live h:=let ⟨a,n,c,e,h⟩:=h;⟨a,n,c,e,h.live⟩
 frame hf h:=let ⟨a,n,c,e,h⟩:=h;⟨a,n,c,e,h.frame hf⟩
 one h:=by obtain ⟨a,n,c,rfl,_⟩:=h;intro u hu;cases Zav.1 hu;rfl
section
variable {ok:Nat→Prop}{w:World}{a:Option Addr}{n c:Nat}
theorem Sl.addr {α:Type}{r:Rep α}{l:List α}(h:Sl r ok w a n c l){k:Nat}(hk:k<n):∃ b off,a=some ⟨b,off,none⟩∧ok b∧b<w.heap.size:=by
 rcases h.cells with h0|⟨b,off,h1,h2,h3,_⟩
 ·omega
 ·exact ⟨b,off,h1,h2,h3⟩
theorem Sl.at {α:Type}{r:Rep α}{b off:Nat}{l:List α}(h:Sl r ok w (some ⟨b,off,none⟩) n c l){k:Nat}{x:α}(hx:l[k]?=some x) :
  ∃ cs,(∀ j,j<r.sz→w.cell? ⟨b,off+k*r.sz+j,none⟩=cs[j]?)∧r.rd ok w cs x:=by
 rcases h.cells with h0|⟨b',off',h1,_,_,h4⟩
 ·have:=(Z6.1 hx).1
  have:=h.len
  omega
 ·cases h1
  exact h4 k x hx
theorem Sl.get {α:Type}{r:Rep α}{l:List α}(h:Sl r ok w a n c l){k:Nat}(hk:k<n):∃ x,l[k]?=some x:=by
 have:=h.len
 exact ⟨l[k],ZS (by omega)⟩
theorem Sl.int {b off:Nat}{l:List Int}(h:Sl xE ok w (some ⟨b,off,none⟩) n c l){k:Nat}{x:Int}(hx:l[k]?=some x) :
  w.cell? ⟨b,off+k,none⟩=some (.int .i64 x)∧pR x:=by
 obtain ⟨cs,h1,rfl,h2⟩:=h.at hx
 refine ⟨?_,h2⟩
 have:=h1 0 Zdm
 simpa [xE] using this
theorem Sl.slice {α:Type}{r:Rep α}{b off:Nat}{l:List (List α)}(h:Sl (Yl r) ok w (some ⟨b,off,none⟩) n c l){k:Nat}{x:List α}(hx:l[k]?=some x) :
  ∃ a' n' c',w.cell? ⟨b,off+k,none⟩=some (.slice a' n' c')∧Sl r ok w a' n' c' x:=by
 obtain ⟨cs,h1,a',n',c',rfl,h2⟩:=h.at hx
 refine ⟨a',n',c',?_,h2⟩
 have:=h1 0 Zdm
 simpa [Yl] using this
theorem Sl.sec {b off:Nat}{l:List fE}(h:Sl AL ok w (some ⟨b,off,none⟩) n c l){k:Nat}{x:fE}(hx:l[k]?=some x) :
  ∀ j,j<8→w.cell? ⟨b,off+k*8+j,none⟩=(nH x)[j]?:=by
 obtain ⟨cs,h1,rfl⟩:=h.at hx
 exact h1
end
theorem EC {P:Program}{w:World}{T:TypeId}{d:TypeDesc}{ad:Addr}{cs:List Value}(hu:P.underlying T=some d)(hd:(match d with|.struct _|.array _ _=>true|_=>false)=true)
  (hi:(P.info? T).map (·.size)=some cs.length) (hc:∀ j,j<cs.length→w.cell? (ad.add j)=cs[j]?):(loadVar T ad).run P w=.ok (.agg cs.toArray) w:=by
 have hl:=run_loadCells_list (P:=P) (w:=w) ad cs (fun j v hv=>by
  have h1:=(Z6.1 hv).1
  rw [hc j h1];exact hv)
 obtain ⟨i,hi,hi2⟩:=Zat.1 hi
 have hag:(isAgg T).run P w=.ok true w:=by
  unfold isAgg
  simp only [Sem.run_bind,run_underlying hu,Result.andThen_ok]
  cases d<;>first|rfl|(simp at hd)
 simp [loadVar,hag,sizeOf,typeInfo,hi,hi2,hl]
theorem GU {P:Program}{C:World→Prop}{K:Act→Prop}{a:Act}{o:Oper}(T:TypeId)(x:Operand)(ho:o.op=.load T x)(ad:Addr)(hx:a.eval x=.pointer (some ad))(v:Value)
  (hrun:∀ w,C w→(loadVar T ad).run P w=.ok v w) (hk:K (a.put o.dst v)):o.quiet P a C K :=
 ⟨v,fun w hw=>by
  unfold Oper.quietAt execOp
  simp only [ho,hx,Instr.loadAt,Instr.sureAddr,Sem.run_bind,Sem.run_pure,Result.andThen_ok,hrun w hw]
  exact ⟨rfl,rfl⟩,hk⟩
structure Later (W:World) where
 w:World
 below:Below W.heap.size W w
instance (W:World):Nonempty (Later W):=⟨⟨W,Below.refl _ _⟩⟩
def rM (W:World):World→Prop:=fun w'=>∃ x:Later W,w'=x.w
theorem rM.of {W w:World}(h:Below W.heap.size W w):rM W w:=⟨⟨w,h⟩,rfl⟩
theorem rM.drew (W:World):rM W W.drew:=.of ((Below.refl _ _).drew)
end Go.Proofs.YtioijcfcehhmdaaGreatDoor
namespace Go.Proofs.YtioijcfcehhmdaaGreatDoor
def pick (ops:Array Oper)(is:List Nat):List Oper:=is.filterMap (ops[·]?)
def AO:Op→Bool
 |.move _|.assign _|.pick _ _ _|.load _ _|.binOp _ _ _ _ _|.unOp _ _ _|.convert _ _ _|.makeFunc _ _ _|.fieldAddr _ _ _|.field _ _ _|.indexAddr _ _ _|.index _ _ _|.slice _ _ _ _ _|.extract _ _|.build _ _|.makeInterface _ _=>true
 |.call ⟨.builtin .len,_,_⟩|.call ⟨.builtin .min,_,_⟩|.call ⟨.builtin .max,_,_⟩=>true
 |_=>false
theorem uo {P:Program}{β:Type}{s:Sem β}{f:β→Value}{w w':World}{n:Next}(h:((do let x ← s;pure (Next.value (f x))):Sem Next).run P w=.ok n w'):∃ x,n=.value x:=by
 rw [Sem.run_bind] at h
 cases hs:s.run P w with
 |ok x w1=>rw [hs] at h;simp at h;exact ⟨f x,h.1.symm⟩
 |halt x w1=>rw [hs] at h;simp [Result.andThen] at h
theorem ED {P:Program}{ρ:Operand→Value}{o:Oper}(hp:AO o.op=true){w w':World}{n:Next}(h:(execOp ρ o).run P w=.ok n w'):∃ x,n=.value x:=by
 unfold execOp at h
 cases ho:o.op<;>rw [ho] at hp h<;>try (simp [AO] at hp;done)
 case move x=>simp at h;exact ⟨_,h.1.symm⟩
 case assign x=>simp at h;exact ⟨_,h.1.symm⟩
 case call c =>
  obtain ⟨callee,args,ats⟩:=c
  cases callee<;>try (simp [AO] at hp;done)
  rename_i b
  cases b<;>try (simp [AO] at hp;done)
  all_goals
   simp only [resolve,Sem.run_bind,Sem.run_pure,Result.andThen_ok,invoke,builtin] at h
   exact uo (f:=fun x=>x) (by simpa [Sem.run_bind] using h)
 case pick c x y=>exact uo (s:=asBool (ρ c)) (f:=fun b=>if b=true then ρ x else ρ y) h
 all_goals exact uo (f:=fun x=>x) h
def dK (ops:Array Oper):List Nat→Array Bool→Option (Array Bool)
 |[],l=>some l
 |i::is,l=>if ((ops[i]?).map fun o=>AO o.op).getD false&&Region.free .any ops l i&&(Region.ready .any ops l).contains i then dK ops is (l.setIfInBounds i true) else none
def QX (ops:Array Oper):List (List Nat×Nat)→List Nat→Array Bool→Bool
 |[],last,l=>match dK ops last l with
  |some l'=>(Region.ready .any ops l').isEmpty
  |none=>false
 |(seg,i)::more,last,l=>match dK ops seg l with
  |some l'=>(Region.ready .any ops l'==[i])&&QX ops more last (l'.setIfInBounds i true)
  |none=>false
def oI:List (List Nat×Nat)→List Nat→Nat
 |[],last=>last.length
 |(seg,_)::more,last=>oI more last+1+seg.length
def ab9 (ops:Array Oper)(acts:List (List Nat×Nat))(last:List Nat):Bool :=
 Region.noSelect ops&&(oI acts last==ops.size)&&QX ops acts last (Array.replicate ops.size false)
def rO (P:Program)(ops:Array Oper)(S:World→Prop)(Q:Act→World→Prop):List (List Nat×Nat)→List Nat→Act→World→Prop
 |[],last,a,w=>wpQuiet P ops S (fun a'=>Q a' w) (pick ops last) a
 |(seg,i)::more,last,a,w=>wpQuiet P ops S (fun a'=>wpList P ops (fun e a'' w''=>e=.normal∧S w''∧rO P ops S Q more last a'' w'') (pick ops [i]) a' w) (pick ops seg) a
section
variable {P:Program}{ops:Array Oper}{S:World→Prop}{Q:Act→World→Prop}
theorem l7 {seg:List Nat}{i:Nat}{more:List (List Nat×Nat)}{last:List Nat}{a:Act}{w:World}
  (h:wpQuiet P ops S (fun a'=>wpList P ops (fun e a'' w''=>e=.normal∧S w''∧rO P ops S Q more last a'' w'') (pick ops [i]) a' w) (pick ops seg) a):rO P ops S Q ((seg,i)::more) last a w:=by
 unfold rO;exact h
theorem sZ {last:List Nat}{a:Act}{w:World}(h:wpQuiet P ops S (fun a'=>Q a' w) (pick ops last) a):rO P ops S Q [] last a w:=by
 unfold rO;exact h
def dS (Q:Act→World→Prop):Exit→Act→World→Prop:=fun e a w=>e=.normal∧Q a w
theorem Dn (hsel:Region.noSelect ops=true){w:World}(hS:S w):∀ (seg:List Nat) (n:Nat) (l l':Array Bool) (a:Act),dK ops seg l=some l' →
  wpQuiet P ops S (fun a'=>wpAnyH P .any ops (dS Q) S n l' a' w) (pick ops seg) a→wpAnyH P .any ops (dS Q) S (n+seg.length) l a w
 |[],n,l,l',a,hq,h=>by
  simp only [dK,ZD.injEq] at hq
  subst hq
  exact h
 |i::is,n,l,l',a,hq,h=>by
  unfold dK at hq
  split at hq
  case isFalse=>cases hq
  rename_i hc
  simp only [ZZ] at hc
  obtain ⟨⟨hp,hf⟩,hr⟩:=hc
  cases ho:ops[i]? with
  |none=>rw [ho] at hp;simp at hp
  |some o =>
   rw [ho] at hp
   simp only [Zah,Option.getD_some] at hp
   simp only [pick,ZaO,ho] at h
   unfold wpQuiet at h
   have key:∃ v,YieldsIf P ops S o v a∧wpQuiet P ops S (fun a'=>wpAnyH P .any ops (dS Q) S n l' a' w) (pick ops is) (a.put o.dst v):=by
    split at h
    ·rename_i hw
     obtain ⟨v,h1,h2⟩:=h
     refine ⟨v,.inl ⟨hw,fun w1 hw1=>?_⟩,h2⟩
     have h3:=h1 w1 hw1
     unfold Oper.quietAt at h3
     cases hrun:(execOp a.eval o).run P w1 with
     |halt x w2=>rw [hrun] at h3;exact h3.elim
     |ok x w2 =>
      obtain ⟨y,rfl⟩:=ED hp hrun
      rw [hrun] at h3
      obtain ⟨e1,e2⟩:=h3
      rw [e1,e2]
    ·rename_i hw
     exact ⟨undef,.inr ⟨by simpa using hw,rfl⟩,h⟩
   obtain ⟨v,hy,hk⟩:=key
   exact wpAnyH_take ho hsel hf hr (fun c a w h=>by cases h.1) hy hS (Dn hsel hS is n _ l' _ hq hk)
theorem aha {o:Oper}{a:Act}{w:World}{K K':Act→World→Prop}{Qa Qb:Exit→Act→World→Prop}(hK:∀ a w,K a w→K' a w)(hQ:∀ e a w,Qa e a w→e=.normal)(h:o.wp P a w K Qa):o.wp P a w K' Qb:=by
 unfold Oper.wp at *
 generalize (execOp a.eval o).run P w=r at *
 cases r with
 |ok n w' =>
  cases n<;>simp only [Oper.upon] at h ⊢
  case value v=>exact hK _ _ h
  case skip=>exact hK _ _ h
  case defer d=>exact hK _ _ h
  case enter f args =>
   exact h.mono fun e w'' he=>by
    cases e with
    |returned v=>exact hK _ _ he
    |panicked c=>cases hQ _ _ _ he
    |outgrown=>obtain ⟨a0,w0,h0⟩:=he;cases hQ _ _ _ h0
  case row r args=>exact h.mono fun v w'' hv=>hK _ _ hv
 |halt x w' =>
  cases x<;>simp only [Oper.upon] at h ⊢
  case panic v=>cases hQ _ _ _ h
theorem vN (hsel:Region.noSelect ops=true):∀ (acts:List (List Nat×Nat)) (last:List Nat) (l:Array Bool) (a:Act) (w:World),QX ops acts last l=true→S w →
  rO P ops S Q acts last a w→wpAnyH P .any ops (dS Q) S (oI acts last) l a w
 |[],last,l,a,w,hB,hS,h=>by
  unfold QX at hB
  split at hB
  case h_2=>cases hB
  rename_i l' hq
  have:=Dn (Q:=Q) (P:=P) hsel hS last 0 l l' a hq (by
   unfold rO at h
   have hd:∀ a',Q a' w→wpAnyH P .any ops (dS Q) S 0 l' a' w:=fun a' hq'=>⟨by simpa using hB,rfl,hq'⟩
   revert h
   generalize pick ops last=os
   induction os generalizing a with
   |nil=>exact hd a
   |cons o os ih =>
    intro h
    unfold wpQuiet at h ⊢
    split at h
    ·rename_i hw;rw [if_pos hw];exact Oper.quiet_mono (fun a' h'=>ih a' h') h
    ·rename_i hw;rw [if_neg hw];exact ih _ h)
  simpa [oI] using this
 |(seg,i)::more,last,l,a,w,hB,hS,h=>by
  unfold QX at hB
  split at hB
  case h_2=>cases hB
  rename_i l' hq
  simp only [ZZ,beq_iff_eq] at hB
  obtain ⟨hr,hB'⟩:=hB
  have:=Dn (Q:=Q) (P:=P) hsel hS seg (oI more last+1) l l' a hq (by
   unfold rO at h
   have hd:∀ a',wpList P ops (fun e a'' w''=>e=.normal∧S w''∧rO P ops S Q more last a'' w'') (pick ops [i]) a' w→wpAnyH P .any ops (dS Q) S (oI more last+1) l' a' w:=fun a' h'=>by
    refine wpAnyH_all hr (by simp) fun j hj=>?_
    obtain rfl:j=i:=by simpa using hj
    unfold wpOp
    cases ho:ops[j]? with
    |none =>
     simp only [pick,ZaO,ho,ZaW] at h'
     obtain ⟨_,hs,ha⟩:=h'
     exact ⟨hs,vN hsel more last _ _ _ hB' hs ha⟩
    |some o =>
     simp only [pick,ZaO,ho,ZaW] at h'
     unfold wpList at h'
     simp only
     split at h'
     ·rename_i hw
      rw [if_pos hw]
      rcases h' with h'|⟨_,a0,w0,h0⟩
      ·exact .inl (aha (fun a1 w1 h1=>⟨h1.2.1,vN hsel more last _ _ _ hB' h1.2.1 h1.2.2⟩) (fun e a1 w1 h1=>h1.1) h')
      ·cases h0.1
     ·rename_i hw
      rw [if_neg hw]
      exact ⟨h'.2.1,vN hsel more last _ _ _ hB' h'.2.1 h'.2.2⟩
   revert h
   generalize pick ops seg=os
   induction os generalizing a with
   |nil=>exact hd a
   |cons o os ih =>
    intro h
    unfold wpQuiet at h ⊢
    split at h
    ·rename_i hw;rw [if_pos hw];exact Oper.quiet_mono (fun a' h'=>ih a' h') h
    ·rename_i hw;rw [if_neg hw];exact ih _ h)
  simpa [oI] using this
theorem nI {id:Nat}{l:List Oper}{a:Act}{w:World}{Q:Exit→Act→World→Prop}(S:World→Prop)(acts:List (List Nat×Nat))(last:List Nat)(hm:P.follows .mixedOrders=true)
  (hB:ab9 l.toArray acts last=true) (hS:S w.drew) (h:rO P l.toArray S (Q .normal) acts last a w.drew):(Code.region id l.toArray true).wp P Q a w:=by
 simp only [ab9,ZZ,beq_iff_eq] at hB
 obtain ⟨⟨hsel,hn⟩,hB⟩:=hB
 refine Code.wp_mono (Q:=dS (Q .normal)) (fun e a w h=>by obtain ⟨rfl,h⟩:=h;exact h) (wp_region_held (S:=S) hm ?_)
 have:=vN hsel acts last _ a _ hB hS h
 rw [hn] at this
 exact this
end
end Go.Proofs.YtioijcfcehhmdaaGreatDoor
namespace Go.Proofs.YtioijcfcehhmdaaGreatDoor
open Go.RowKit
def Chunks {α:Type}(r:Rep α)(ok:Nat→Prop)(w:World):List Value→List α→Prop
 |xs,[]=>xs=[]
 |xs,x::l=>∃ c rest,xs=c++rest∧r.rd ok w c x∧Chunks r ok w rest l
section
variable {α:Type}{r:Rep α}{ok ok':Nat→Prop}{w w':World}
theorem Chunks.mono (hk:∀ b,ok b→ok' b):∀ {l:List α} {xs:List Value},Chunks r ok w xs l→Chunks r ok' w xs l
 |[],_,h=>h
 |_::_,_,⟨c,rest,e,h1,h2⟩=>⟨c,rest,e,r.mono hk h1,h2.mono hk⟩
theorem Chunks.live:∀ {l:List α} {xs:List Value},Chunks r ok w xs l→Chunks r (fun b=>ok b∧b<w.heap.size) w xs l
 |[],_,h=>h
 |_::_,_,⟨c,rest,e,h1,h2⟩=>⟨c,rest,e,r.live h1,h2.live⟩
theorem Chunks.frame (hf:∀ b,ok b→w'.heap[b]?=w.heap[b]?):∀ {l:List α} {xs:List Value},Chunks r ok w xs l→Chunks r ok w' xs l
 |[],_,h=>h
 |_::_,_,⟨c,rest,e,h1,h2⟩=>⟨c,rest,e,r.frame hf h1,h2.frame hf⟩
theorem Chunks.length:∀ {l:List α} {xs:List Value},Chunks r ok w xs l→xs.length=l.length*r.sz
 |[],_,h=>by rw [h];simp
 |x::l,_,⟨c,rest,e,h1,h2⟩=>by rw [e,Zaa,r.len h1,h2.length,za,ZaC];omega
theorem Chunks.one:∀ {l:List α} {xs:List Value},Chunks r ok w xs l→∀ u∈xs,u.oneCell'=true
 |[],_,h=>by rw [h];intro u hu;cases hu
 |_::_,_,⟨c,rest,e,h1,h2⟩=>by
  rw [e];intro u hu
  rcases Zbb.1 hu with hu|hu
  ·exact r.one h1 u hu
  ·exact h2.one u hu
theorem Chunks.append:∀ {l:List α} {xs:List Value},Chunks r ok w xs l→∀ {m:List α} {ys:List Value},Chunks r ok w ys m→Chunks r ok w (xs++ys) (l++m)
 |[],_,h,_,_,hm=>by rw [h];exact hm
 |_::_,_,⟨c,rest,e,h1,h2⟩,_,ys,hm=>⟨c,rest++ys,by rw [e,Zay],h1,h2.append hm⟩
theorem Chunks.single {c:List Value}{x:α}(h:r.rd ok w c x):Chunks r ok w c [x]:=⟨c,[],by simp,h,rfl⟩
theorem Chunks.at:∀ {l:List α} {xs:List Value},Chunks r ok w xs l→∀ {i:Nat} {x:α},l[i]?=some x→∃ c,(∀ j,j<r.sz→xs[i*r.sz+j]?=c[j]?)∧r.rd ok w c x
 |[],_,_,i,x,hx=>by simp at hx
 |y::l,_,⟨c,rest,e,h1,h2⟩,0,x,hx=>by
  simp only [Zak,ZD.injEq] at hx
  subst hx
  exact ⟨c,fun j hj=>by rw [e,Nat.zero_mul,Zan,Zad (by rw [r.len h1];exact hj)],h1⟩
 |y::l,_,⟨c,rest,e,h1,h2⟩,i+1,x,hx=>by
  obtain ⟨d,h3,h4⟩:=h2.at (i:=i) (x:=x) (by simpa using hx)
  refine ⟨d,fun j hj=>?_,h4⟩
  rw [e,zP (by rw [r.len h1,ZaC];omega),r.len h1,← h3 j hj]
  congr 1
  rw [ZaC];omega
theorem Chunks.acd {xs:List Value}:∀ {l:List α} (off:Nat),xs.length=off+l.length*r.sz →
  (∀ i x,l[i]?=some x→∃ c,(∀ j,j<r.sz→xs[off+i*r.sz+j]?=c[j]?)∧r.rd ok w c x)→Chunks r ok w (xs.drop off) l
 |[],off,hl,_=>by simp only [Chunks];rw [List.drop_eq_nil_of_le];simp at hl;omega
 |y::l,off,hl,h=>by
  obtain ⟨c,h1,h2⟩:=h 0 y rfl
  have hc:=r.len h2
  have hlen:xs.length=off+r.sz+l.length*r.sz:=by rw [hl,za,ZaC];omega
  refine ⟨c,xs.drop (off+r.sz),?_,h2,Chunks.acd (off+r.sz) hlen fun i x hx=>?_⟩
  ·rw [← List.drop_drop]
   have:c=(xs.drop off).take r.sz:=by
    apply List.ext_getElem?
    intro j
    rw [Zaq]
    split
    ·rename_i hj
     rw [ZaP,← h1 j hj]
     congr 1;omega
    ·rw [ZaV];omega
   rw [this,List.take_append_drop]
  ·obtain ⟨d,h3,h4⟩:=h (i+1) x (by simpa using hx)
   refine ⟨d,fun j hj=>?_,h4⟩
   rw [← h3 j hj]
   congr 1
   rw [ZaC];omega
end
structure uq (P:Program)(T E sz bytes:Nat)(z:Value):Prop where
 u:P.underlying T=some (.slice E)
 i:(P.info? E).map (fun i=>(i.zero,i.size,i.bytes))=some (some z,sz,bytes)
 zs:z.cells.size=sz
 pos:0<sz
def Own {α:Type}(r:Rep α)(B:Nat)(E:TypeId)(ok:Nat→Prop)(w:World)(v:Value)(l:List α):Prop :=
 ∃ xs,w.ownsRow B E r.sz v l.length xs∧Chunks r (fun b=>ok b∧ZD b≠v.ownBlock) w xs l
def Src {α:Type}(r:Rep α)(ok:Nat→Prop)(w:World)(ao:Option Addr)(m c:Nat)(ys:List α):Prop :=
 ys.length=m∧(ao=none→m=0∧c=0)∧∃ news,(∀ ad,ao=some ad→∀ j u,news[j]?=some u→w.cell? (ad.add j)=some u)∧Chunks r ok w news ys
section
variable {α:Type}{r:Rep α}{B:Nat}{E:TypeId}{ok:Nat→Prop}{w w':World}{v:Value}{l:List α}
theorem Own.nil (r:Rep α)(B:Nat)(E:TypeId)(ok:Nat→Prop)(w:World):Own r B E ok w (.slice none 0 0) []:=⟨[],World.ownsRow_nil _ _ _ _,rfl⟩
theorem Own.kept {row:Option Nat}(h:Own r B E ok w v l)(hg:w.grownBy w' row)(hne:v.ownBlock=none∨v.ownBlock≠row)(hr:∀ b,row=some b→¬ ok b):Own r B E ok w' v l:=by
 obtain ⟨xs,h1,h2⟩:=h
 refine ⟨xs,h1.kept hg hne,(Chunks.frame (fun b hb=>?_) h2.live).mono fun b hb=>hb.1⟩
 exact hg.block b hb.2 fun e=>hr b e.symm hb.1.1
theorem Own.lt (h:Own r B E ok w v l):∀ k,v.ownBlock=some k→B≤k∧k<w.heap.size:=let ⟨_,h1,_⟩:=h;h1.lt
theorem Own.below (h:Own r B E ok w v l)(hb:Below w.heap.size w w'):Own r B E ok w' v l:=by
 obtain ⟨xs,h1,h2⟩:=h
 have hg:w.grownBy w' none:=⟨hb.os,hb.tape,hb.output,hb.size,fun k hk _=>hb.block k hk⟩
 exact ⟨xs,h1.kept hg (by cases v.ownBlock<;>simp),(Chunks.frame (fun b hb'=>hb.block b hb'.2) h2.live).mono fun b hb=>hb.1⟩
theorem Own.mono {ok':Nat→Prop}(hk:∀ b,ok b→ok' b)(h:Own r B E ok w v l):Own r B E ok' w v l :=
 let ⟨xs,h1,h2⟩:=h;⟨xs,h1,h2.mono fun b hb=>⟨hk b hb.1,hb.2⟩⟩
theorem Own.sl (h:Own r B E ok w v l):∃ a n c,v=.slice a n c∧Sl r (fun b=>ok b∨B≤b) w a n c l:=by
 obtain ⟨xs,h1,h2⟩:=h
 have h1':=h1
 obtain ⟨hx,⟨rfl,h0⟩|⟨g,cap,cur,rfl,hb,hg,hn,hc,hs,ht⟩⟩:=h1
 ·refine ⟨none,0,0,rfl,⟨h0,ze _,ZaM _,fun _=>rfl,.inl rfl⟩⟩
 ·refine ⟨_,_,_,rfl,⟨rfl,hn,hc,(fun e=>by cases e),.inr ⟨g,0,rfl,.inr hb,(zz.1 hg).1,fun i x hi=>?_⟩⟩⟩
  obtain ⟨c,h3,h4⟩:=h2.at hi
  refine ⟨c,fun j hj=>?_,r.mono (fun b hb=>.inl hb.1) h4⟩
  rw [← h3 j hj,Zan,h1'.cellAt]
  have:=(Z6.1 hi).1
  calc i*r.sz+j<i*r.sz+r.sz:=by omega
   _=(i+1)*r.sz:=by rw [ZaC];omega
   _≤l.length*r.sz:=Zam _ (by omega)
theorem Src.Ym {ao:Option Addr}{m c:Nat}{ys:List α}(h:Sl r ok w ao m c ys):Src r ok w ao m c ys:=by
 refine ⟨h.len,fun e=>?_,?_⟩
 ·have:=h.nil e;have:=h.cap;omega
 ·rcases h.cells with h0|⟨b,off,rfl,hb,_,h4⟩
  ·have:ys=[]:=Zaz (by rw [h.len,h0])
   subst this
   exact ⟨[],fun ad _ j u hu=>by simp at hu,rfl⟩
  ·-- the cells,as the world holds them
   let news:List Value:=(Zar (m*r.sz)).map fun j=>(w.cell? ⟨b,off+j,none⟩).getD undef
   have hlt:∀ i x,ys[i]?=some x→∀ j,j<r.sz→i*r.sz+j<m*r.sz:=fun i x hi j hj=>by
    have h1:=(Z6.1 hi).1
    have h2:(i+1)*r.sz≤m*r.sz:=Zam _ (by rw [← h.len];omega)
    rw [ZaC] at h2;omega
   have hcell:∀ i x,ys[i]?=some x→∃ cs,(∀ j,j<r.sz→news[i*r.sz+j]?=cs[j]?)∧r.rd ok w cs x:=fun i x hi=>by
    obtain ⟨cs,h5,h6⟩:=h4 i x hi
    refine ⟨cs,fun j hj=>?_,h6⟩
    have hc:=r.len h6
    have e:=h5 j hj
    have hj':j<cs.length:=by omega
    rw [ZS hj'] at e ⊢
    simp only [news,zb,Zcj (hlt i x hi j hj),Zah]
    rw [← Zbs,e];rfl
   refine ⟨news,fun ad had j u hu=>?_,?_⟩
   ·obtain rfl:=ZD.inj had
    have hj:j<m*r.sz:=by
     have:=(Z6.1 hu).1
     simpa [news] using this
    simp only [news,zb,Zcj hj,Zah,ZD.injEq] at hu
    -- the cell is there: it belongs to an element
    have hpos:0<r.sz:=by rcases ZbR r.sz with h0|h0;(rw [h0] at hj;simp at hj);exact h0
    have hi:j / r.sz<ys.length:=by rw [h.len];exact ZcM (by rw [Zcc];exact hj)
    obtain ⟨cs,h5,h6⟩:=h4 (j / r.sz) _ (ZS hi)
    have hm:=ZcN j hpos
    have e:=h5 (j % r.sz) hm
    have e2:off+j / r.sz*r.sz+j % r.sz=off+j:=by rw [Zbs,Zcc,Zdn]
    rw [e2,ZS (by rw [r.len h6];exact hm)] at e
    rw [e] at hu
    rw [Addr.add_lit,e,← hu];rfl
   ·have:=Chunks.acd (r:=r) (ok:=ok) (w:=w) (xs:=news) (l:=ys) 0 (by simp [news,h.len]) (fun i x hi=>by
     obtain ⟨cs,h5,h6⟩:=hcell i x hi
     exact ⟨cs,fun j hj=>by rw [Zan];exact h5 j hj,h6⟩)
    simpa using this
theorem ahb {P:Program}{T ty bytes:Nat}{z:Value}(ht:uq P T E r.sz bytes z)(h:Own r B E ok w v l){ao:Option Addr}{m c:Nat}{ys:List α}
  (hs:Src r (fun b=>ok b∧ZD b≠v.ownBlock) w ao m c ys) (h63:l.length+m≤maxLen) (hby:(l.length+m)*bytes≤140737488355328) (hB:B≤w.heap.size) :
  ∃ v' w',(Builtin.append_ #[T,T] ty #[v,.slice ao m c]).run P w=.ok v' w'∧Own r B E ok w' v' (l++ys)∧w.grownBy w' v.ownBlock∧(v'.ownBlock=v.ownBlock∨v'.ownBlock=some w.heap.size):=by
 obtain ⟨i,hi,hz0,hz1,hz2⟩:=info_parts ht.i
 obtain ⟨xs,h1,h2⟩:=h
 obtain ⟨hm,hnil,news,hnews,hch⟩:=hs
 cases ao with
 |none =>
  obtain ⟨rfl,rfl⟩:=hnil rfl
  have:ys=[]:=Zaz hm
  subst this
  exact ⟨v,w,run_append_owned_none w B T ty E i r.sz ht.u hi v l.length xs h1,by rw [List.append_nil];exact ⟨xs,h1,h2⟩,World.grownBy.refl _ _,.inl rfl⟩
 |some ad =>
  obtain ⟨v',w',hr,h3,h4,_,h6⟩:=run_append_own_at (P:=P) w B T ty E i z r.sz bytes ht.u hi hz0 hz1 hz2 ht.zs ht.pos v l.length xs h1 ad m c news (by rw [hch.length,hm]) (hnews ad rfl) hch.one h63 hby hB
  refine ⟨v',w',hr,⟨xs++news,by rw [Zaa,hm];exact h3,?_⟩,h4,h6⟩
  have hfr:∀ {xs:List Value} {l:List α},Chunks r (fun b=>ok b∧ZD b≠v.ownBlock) w xs l→Chunks r (fun b=>ok b∧ZD b≠v'.ownBlock) w' xs l:=fun hc=>by
   refine (Chunks.frame (fun b hb=>h4.block b hb.2 hb.1.2) hc.live).mono fun b hb=>⟨hb.1.1,?_⟩
   rcases h6 with h6|h6
   ·rw [h6];exact hb.1.2
   ·rw [h6];intro e;have:=ZD.inj e;have:=hb.2;omega
  exact (hfr h2).append (hfr hch)
theorem zM {P:Program}{ops:Array Oper}{rest:List Oper}{o:Oper}{a:Act}{Q:Exit→Act→World→Prop}{T bytes:Nat}{z:Value}(ht:uq P T E r.sz bytes z)(hgd:o.guard=none)(s x:Operand)
  (ho:o.op=.call { callee:=.builtin .append,args:=#[s,x],argTypes:=#[T,T] }) (hs:a.eval s=v) (h:Own r B E ok w v l) {ao:Option Addr} {m c:Nat} {ys:List α} (hx:a.eval x=.slice ao m c)
  (hsrc:Src r (fun b=>ok b∧ZD b≠v.ownBlock) w ao m c ys) (h63:l.length+m≤maxLen) (hby:(l.length+m)*bytes≤140737488355328) (hB:B≤w.heap.size)
  (hk:∀ v' w',Own r B E ok w' v' (l++ys)→w.grownBy w' v.ownBlock→(v'.ownBlock=v.ownBlock∨v'.ownBlock=some w.heap.size)→wpList P ops Q rest (a.put o.dst v') w'):wpList P ops Q (o::rest) a w:=by
 refine wpList_plain hgd fun K hK=>?_
 obtain ⟨v',w',hr,h2,h3,h4⟩:=ahb (P:=P) (ty:=o.type) ht h hsrc h63 hby hB
 unfold Oper.wp execOp
 simp only [ho,resolve,invoke,builtin,Sem.run_bind,Sem.run_pure,Result.andThen_ok,Zcd,Zaj,List.map_nil,hs,hx,hr]
 exact hK _ _ (hk v' w' h2 h3 h4)
end
end Go.Proofs.YtioijcfcehhmdaaGreatDoor
namespace Go.Proofs.YtioijcfcehhmdaaGreatDoor
section
variable {F:Fence}{n:Nat}{P:Program}{ops:Array Oper}{S:World→Prop}{Q:Act→World→Prop}
def kK (ops:Array Oper):Bool:=ops.all fun o=>match o.op with|.defer _=>false|_=>true
theorem AP (h:kK ops=true){j:Nat}{o:Oper}(ho:ops[j]?=some o):∀ c,o.op≠.defer c:=by
 intro c e
 have:=Array.all_eq_true_iff_forall_mem.1 h o (Array.mem_of_getElem? ho)
 simp [e] at this
theorem ace (hF:∀ f,F.fn f)(hnd:kK ops=true)(hsel:Region.noSelect ops=true){i j:Nat}{oi oj:Oper}{v:Value}(hi:ops[i]?=some oi)(hj:ops[j]?=some oj)(hap:oi.apart ops oj=true){K:Act→World→Prop}{a:Act}{w:World}
  (hy:YieldsIf P ops S oi v a) (h:wpOpIn F n P ops (dS Q) j K (a.put oi.dst v) w):wpOpIn F n P ops (dS Q) j (fun a' w'=>YieldsIf P ops S oi v a'∧K (a'.put oi.dst v) w') a w:=by
 obtain ⟨h1,h2,h3⟩:=Oper.apart_spec hap
 have hsi:=fun cs b=>Region.noSelect_spec hsel i oi cs b hi
 have hsj:=fun cs b=>Region.noSelect_spec hsel j oj cs b hj
 have keep:∀ u,YieldsIf P ops S oi v (a.put oj.dst u):=fun u=>hy.of_same (execOp_put oi hsi a oj.dst u h3) (wanted_put oi a oj.dst u h3)
 have hab:∀ (b:Act) f,oj.about P w b.eval=some f→F.fn f:=fun _ f _=>hF f
 unfold wpOpIn at h ⊢
 simp only [hj] at h ⊢
 rw [wanted_put oj a oi.dst v h1] at h
 by_cases hw:Region.wanted oj (yielded ops a.tmps)=true
 ·rw [if_pos hw] at h ⊢
  refine ⟨hab a,?_⟩
  have h':=h.2
  rw [Oper.semAt_eq _ _ _ (AP hnd hj)] at h' ⊢
  rw [execOp_put oj hsj a oi.dst v h1] at h'
  have put:∀ u w',K ((a.put oi.dst v).put oj.dst u) w'→K ((a.put oj.dst u).put oi.dst v) w':=fun u w' hk=>by rw [← Act.put_comm a v u h2];exact hk
  have akJ:∀ {c a w},dS Q (.panic c) a w→False:=fun h=>by cases h.1
  have out:LetsOut (dS Q)→False:=fun ⟨_,_,h⟩=>by cases h.1
  cases hrun:(execOp a.eval oj).run P w with
  |halt x w1 =>
   rw [hrun] at h'
   cases x<;>simp only [Oper.uponIn] at h' ⊢
   exact (akJ h').elim
  |ok x w1 =>
   rw [hrun] at h'
   cases x<;>simp only [Oper.uponIn] at h' ⊢
   case value u=>exact ⟨keep u,put u _ h'⟩
   case skip=>exact ⟨keep _,put _ _ h'⟩
   case defer d =>
    have hd:YieldsIf P ops S oi v { a with defers:=d::a.defers }:=hy.of_same rfl rfl
    refine ⟨hd.of_same (execOp_put oi hsi _ oj.dst undef h3) (wanted_put oi _ oj.dst undef h3),?_⟩
    rw [← Act.put_comm _ v undef h2,← Act.put_defers]
    exact h'
   case enter f args =>
    refine ⟨h'.1,CallsIn.mono h'.2 fun e w2 he=>?_⟩
    cases e with
    |returned u=>exact ⟨keep u,put u _ he⟩
    |panicked c=>exact (akJ he).elim
    |outgrown=>exact (out he).elim
   case row r args=>exact ⟨h'.1,RowsIn.mono h'.2 fun u w2 he=>⟨keep u,put u _ he⟩⟩
   case round l f tmps assign body =>
    refine ⟨h'.1,RoundIn.mono h'.2 fun e w2 he=>?_⟩
    cases e with
    |returned u=>exact ⟨keep u,put u _ he⟩
    |panicked c=>exact (akJ he).elim
    |outgrown=>exact (out he).elim
 ·rw [if_neg hw] at h ⊢
  exact ⟨hab a,keep _,by rw [← Act.put_comm a v undef h2];exact h.2⟩
theorem dU {R R':Act→Prop}(h:∀ a,R a→R' a):∀ (os:List Oper) (a:Act),wpQuiet P ops S R os a→wpQuiet P ops S R' os a
 |[],a,hq=>h a hq
 |o::os,a,hq=>by
  unfold wpQuiet at hq ⊢
  split at hq
  ·rename_i hw;rw [if_pos hw];exact Oper.quiet_mono (fun a' h'=>dU h os a' h') hq
  ·rename_i hw;rw [if_neg hw];exact dU h os _ hq
end
section
variable {F:Fence}{n:Nat}{P:Program}{ops:Array Oper}{S:World→Prop}{Q:Act→World→Prop}{f:Nat}
def Zt (ops:Array Oper):Nat→Nat→Nat
 |0,s=>s
 |k+1,s=>Zt ops k (if s.testBit k then (match ops[k]? with
  |some o=>o.after.toList.foldl (fun s e=>if Region.binds .any e then s ||| 2 ^ e.on else s) s
  |none=>s) else s)
def Dp (ops:Array Oper)(k m i:Nat):Bool:=(Zt ops k (2 ^ m)).testBit i
def Closed (ops:Array Oper)(l:Array Bool):Prop:=∀ m o,l.getD m false=true→ops[m]?=some o→∀ e∈o.after,Region.binds .any e=true→l.getD e.on false=true
theorem Closed.Zt {l:Array Bool}(hc:Closed ops l):∀ (k s:Nat),(∀ i,s.testBit i=true→l.getD i false=true)→∀ i,(Zt ops k s).testBit i=true→l.getD i false=true
 |0,s,h,i,hi=>h i hi
 |k+1,s,h,i,hi=>by
  refine hc.Zt k _ ?_ i hi
  intro j hj
  split at hj
  ·rename_i hk
   split at hj
   ·rename_i o ho
    have key:∀ (es:List Edge) (s:Nat),(∀ e∈es,e∈o.after)→(∀ i,s.testBit i=true→l.getD i false=true)→∀ i,(es.foldl (fun s e=>if Region.binds .any e then s ||| 2 ^ e.on else s) s).testBit i=true→l.getD i false=true:=by
     intro es
     induction es with
     |nil=>exact fun s _ h i hi=>h i hi
     |cons e es ih =>
      intro s2 he h2 i hi
      refine ih _ (fun x hx=>he x (List.mem_cons_of_mem _ hx)) ?_ i hi
      intro i hi
      by_cases hb:Region.binds .any e=true
      ·simp only [hb,if_true] at hi
       rw [Nat.testBit_or,Bool.or_eq_true] at hi
       rcases hi with hi|hi
       ·exact h2 i hi
       ·rw [ZdD,decide_eq_true_eq] at hi
        rw [← hi]
        exact hc k o (h k hk) ho e (he e List.mem_cons_self) hb
      ·simp only [hb] at hi
       exact h2 i hi
    exact key _ _ (fun e he=>Array.mem_toList_iff.1 he) h j hj
   ·exact h j hj
  ·exact h j hj
theorem Closed.dep {l:Array Bool}(hc:Closed ops l)(k m i:Nat)(hm:l.getD m false=true)(h:Dp ops k m i=true):l.getD i false=true:=by
 refine hc.Zt k _ ?_ i h
 intro j hj
 rw [ZdD,decide_eq_true_eq] at hj
 rw [← hj];exact hm
theorem jH (l:Array Bool)(i j:Nat)(hi:i<l.size):(l.setIfInBounds i true).getD j false=if i=j then true else l.getD j false:=by
 by_cases h:i=j
 ·subst h;rw [if_pos rfl];simp [hi]
 ·rw [if_neg h];exact getD_set_ne false h
theorem jg {l:Array Bool}(hs:l.size=ops.size){i:Nat}(h:i∈Region.ready .any ops l):i<l.size:=by
 rw [hs]
 have:=List.mem_filter.1 h
 simpa using this.1
theorem Closed.set {l:Array Bool}(hc:Closed ops l)(hs:l.size=ops.size){i:Nat}(h:i∈Region.ready .any ops l):Closed ops (l.setIfInBounds i true):=by
 intro m o hm ho e he hb
 have hil:=jg hs h
 rw [jH l i _ hil] at hm ⊢
 split
 ·rfl
 ·split at hm
  ·rename_i him
   subst him
   obtain ⟨_,oi,hoi,hall⟩:=mem_ready.1 h
   rw [ho] at hoi;cases hoi
   exact hall e he hb
  ·exact hc m o hm ho e he hb
theorem zN (hF:∀ f,F.fn f){i:Nat}{R:Act→World→Prop}{a:Act}{w:World}{K:Act→World→Prop}(hK:∀ a w,R a w→K a w)
  (h:wpListIn F n P ops (fun e a'' w''=>e=.normal∧R a'' w'') (pick ops [i]) a w):wpOpIn F n P ops (dS Q) i K a w:=by
 unfold wpOpIn
 cases ho:ops[i]? with
 |none =>
  simp only [pick,ZaO,ho,ZaW] at h
  exact hK _ _ h.2
 |some o =>
  simp only [pick,ZaO,ho,ZaW] at h
  unfold wpListIn at h
  simp only
  split at h
  ·rename_i hw
   rw [if_pos hw]
   refine ⟨fun f _=>hF f,?_⟩
   have h2:=h.2
   have go:∀ {a1:Act} {w1:World},wpListIn F n P ops (fun e a'' w''=>e=.normal∧R a'' w'') [] a1 w1→K a1 w1:=fun h1=>hK _ _ h1.2
   generalize (o.semAt F.round a.eval).run P w=r at h2 ⊢
   cases r with
   |halt x w1 =>
    cases x<;>simp only [Oper.uponIn] at h2 ⊢
    cases h2.1
   |ok x w1 =>
    cases x<;>simp only [Oper.uponIn] at h2 ⊢
    case value u=>exact go h2
    case skip=>exact go h2
    case defer d=>exact go h2
    case enter f args =>
     refine ⟨h2.1,CallsIn.mono h2.2 fun e w2 he=>?_⟩
     cases e with
     |returned u=>exact go he
     |panicked c=>cases he.1
     |outgrown=>obtain ⟨_,_,h⟩:=he;cases h.1
    case row r args=>exact ⟨h2.1,RowsIn.mono h2.2 fun u w2 he=>go he⟩
    case round l f tmps assign body =>
     refine ⟨h2.1,RoundIn.mono h2.2 fun e w2 he=>?_⟩
     cases e with
     |returned u=>exact go he
     |panicked c=>cases he.1
     |outgrown=>obtain ⟨_,_,h⟩:=he;cases h.1
  ·rename_i hw
   rw [if_neg hw]
   exact ⟨fun f _=>hF f,hK _ _ h.2.2⟩
end
inductive PV where
 |int (k:IntKind) (n:Int)
 |bool (b:Bool)
 |str (s:ByteArray)
 |list (sz:Nat) (es:List PV)
 |agg (cs:List PV)
 |func (f:Nat) (caps:List PV)
 |uw
 |dM (cs:List PV) (j:Nat)
 |void
 |l9 (sz:Nat)
 deriving Inhabited
def PV.cells:PV→List PV
 |.agg cs=>cs
 |v=>[v]
inductive Root where
 |slot (t:Nat)
 |part (t i:Nat)
 |cell (o j:Nat)
 deriving DecidableEq
inductive BV where
 |pv (v:PV)
 |row (sz:Nat) (es:List PV)
 deriving Inhabited
inductive AV where
 |pv (v:PV)
 |row (sz:Nat) (es:List PV)
 |ref (r:Root) (off len:Nat)
 |aO (o j:Nat)
 |qx (r:Root) (i j:Nat)
 |fn (f:Nat) (caps:List AV)
 |lU (st:Bool) (l:List AV)
 |FX (sz:Nat) (es:List PV)
 |pp (o j:Nat)
 |tq
 |any
 deriving Inhabited
structure Box where
 fz:Bool
 cs:List BV
 deriving Inhabited
structure St where
 slots:List AV
 boxes:List Box
 ys:List (List PV)
 stop:Option (Option Nat)
 deriving Inhabited
inductive bU where
 |t (n:Nat)
 |c (v:PV)
 |nil (sz:Nat)
 deriving Inhabited
inductive iG where
 |ak (d:Nat) (x:bU)
 |aN (d:Nat) (x:bU)
 |pick (d:Nat) (c x y:bU)
 |bin (d:Nat) (o:BinOp) (x y:bU)
 |Vz (d:Nat) (neg:Bool) (n:Nat) (x y:bU)
 |Zu (d:Nat) (neg:Bool) (x y:bU)
 |eqm (d:Nat) (neg:Bool) (ks:List Bool) (x y:bU)
 |Yn (d:Nat) (neg:Bool) (x:bU)
 |cut (d:Nat) (sz:Nat) (x:bU)
 |asl (d:Nat) (n:Nat) (x:bU)
 |asz (d:Nat) (n sz:Nat) (x:bU)
 |Zv (d:Nat) (n:Option Nat) (p:bU)
 |mvz (d:Nat) (x:bU)
 |un (d:Nat) (o:UnOp) (x:bU)
 |conv (d:Nat) (k:IntKind) (x:bU)
 |alloc (d:Nat) (z:List PV)
 |box (d:Nat) (x:bU)
 |load (d:Nat) (n:Option Nat) (p:bU)
 |store (d:Option Nat) (n:Nat) (p x:bU)
 |aP (d:Nat) (p:bU) (off:Nat)
 |dA (d:Nat) (sz:Nat) (x i:bU)
 |zx (d:Nat) (p i:bU) (len sz:Nat)
 |fld (d:Nat) (x:bU) (off:Nat) (n:Option Nat)
 |idx (d:Nat) (x i:bU) (len sz:Nat) (n:Option Nat)
 |Zw (d:Nat) (sz:Nat) (x:bU) (lo hi:Option bU)
 |sl3 (d:Nat) (sz:Nat) (x hi mx:bU)
 |sl4 (d:Nat) (sz:Nat) (x lo hi mx:bU)
 |ext (d:Nat) (x:bU) (i:Nat)
 |build (d:Nat) (z:List PV) (parts:List (Nat×Nat×bU))
 |iH (d:Nat) (sz:Nat) (parts:List bU)
 |make (d:Nat) (z:PV) (n c:bU)
 |len (d:Nat) (x:bU)
 |lens (d:Nat) (x:bU)
 |app (d:Nat) (sz:Nat) (x y:bU)
 |apb (d:Nat) (x y:bU)
 |apf (d:Nat) (sz:Nat) (x y:bU)
 |mkz (d:Nat) (sz:Nat)
 |bxp (d:Nat) (x:bU)
 |ldp (d:Nat) (x:bU)
 |pk (d:Nat) (f:Nat) (x:bU)
 |apg (d:Nat) (sz:Nat) (x y:bU)
 |cpy (d:Nat) (sz:Nat) (x y:bU)
 |mn (d:Nat) (mx:Bool) (x y:bU)
 |call (d:Nat) (f:Nat) (args:List bU)
 |lG (d:Nat) (x:bU) (args:List bU)
 |yield (d:Nat) (x:bU) (args:List bU)
 |VA (d:Nat) (f:Nat) (caps:List bU)
 |Kv (d:Nat) (f:Nat) (x g:bU)
 |stw (n:Nat) (p x:bU)
 |bxw (d:Nat) (x:bU)
 |ldm (d:Nat) (n:Nat) (p:bU)
 |VB (d:Nat) (z:List PV) (parts:List (Nat×Nat×bU)) (off m:Nat)
 |lin (d:Nat) (f:Nat) (x:bU) (args:List bU)
 |linv (d:Nat) (g x:bU) (args:List bU)
 |grd (g:Nat) (want:Bool) (o:iG)
 deriving Inhabited
structure iQ where
 acts:List (List Nat×Nat)
 fin:Option (List Nat×List Nat×Nat×List (List Nat×Nat))
 last:List Nat
 ord:List Nat
 sw:Bool
 deriving Inhabited
inductive ay where
 |skip
 |ops (l:List iG)
 |AQ (fz:List bU) (acts:List (List Nat×Nat)) (fin:Option (List Nat×List Nat×Nat×List (List Nat×Nat))) (last:List Nat) (l:List iG)
 |drs (fz:List bU) (keep:List Nat) (vo:List iG) (alts:List iQ)
 |lend (d:Nat) (ks:List Nat) (l:List iG)
 |seq (a b:ay)
 |cond (c:bU) (a b:ay)
 |block (id:Nat) (a:ay)
 |loop (keep:List Nat) (a:ay)
 |round (keep:List Nat) (nb:Nat) (a:ay)
 |rng (g:bU) (ps:List Nat) (assign body:ay)
 |clean (pre post:List Nat) (a:ay)
 |scp (a:ay)
 |exit (id:Nat)
 |ret
 |Dk (l:List iG) (d f:Nat) (args:List bU)
 deriving Inhabited
inductive sU where
 |tmp (t:Nat)
 |cell (t:Nat) (n:Option Nat)
 |own (t n:Nat)
 deriving Inhabited
structure iq where
 nargs:Nat
 ntmps:Nat
 results:List sU
 body:ay
 deriving Inhabited
structure oJ where
 nargs:Nat
 ntmps:Nat
 results:List sU
 pre:ay
 body:ay
 t:Nat
 e:Nat
 AU:Nat
 zy:Option (Nat×Nat×List (Nat×List PV))
 deriving Inhabited
abbrev nC:=PV×Bool
inductive acf where
 |code (f:iq)
 |ext (g:List PV→Option (List nC))
 |Kv (h:PV→List PV→Option (List PV))
 |nJ (h:List PV→Option (Option (Nat×Int)))
 |dfn (f:oJ)
 deriving Inhabited
abbrev Env:=Nat→Option acf
inductive Ex where
 |normal
 |exit (id:Nat)
 |ret
 |nJ (t:Nat) (n:Int)
 deriving DecidableEq,Inhabited
def lim:Nat:=1073741824
def VD:Nat:=5864062014805
def St.get (st:St):bU→AV
 |.t n=>st.slots.getD n .any
 |.c v=>.pv v
 |.nil sz=>.row sz []
def St.put (st:St)(d:Nat)(v:AV):St:={ st with slots:=st.slots.set d v }
def AV.roots (d:Nat):AV→Bool
 |.ref (.slot t) _ _=>t==d
 |.qx (.slot t) _ _=>t==d
 |_=>false
def AV.kill (d:Nat)(v:AV):AV:=if v.roots d then .any else v
def St.putRow (st:St)(d sz:Nat)(es:List PV):St:={ st with slots:=(st.slots.map (AV.kill d)).set d (.row sz es) }
def AV.yM (o:Nat):AV→Bool
 |.ref (.cell p _) _ _=>p==o
 |.qx (.cell p _) _ _=>p==o
 |_=>false
def AV.dH (o:Nat)(v:AV):AV:=if v.yM o then .any else v
def St.setCell (st:St)(o j:Nat)(v:BV):St :=
 match st.boxes[o]? with
 |some b=>{ st with boxes:=st.boxes.set o { b with cs:=b.cs.set j v } }
 |none=>st
def AV.FY (o j:Nat):AV→Bool
 |.ref (.cell p q) _ _=>p==o&&q==j
 |.qx (.cell p q) _ _=>p==o&&q==j
 |_=>false
def AV.iU (o j:Nat)(v:AV):AV:=if v.FY o j then .any else v
def St.kR (st:St)(o j sz:Nat)(es:List PV):St:={ (st.setCell o j (.row sz es)) with slots:=st.slots.map (AV.iU o j) }
def St.row (st:St):Root→Option (Nat×List PV)
 |.slot t=>match st.slots[t]? with
  |some (.row sz es)=>some (sz,es)
  |_=>none
 |.cell o j=>match st.boxes[o]? with
  |some b=>if b.fz then none else match b.cs[j]? with
   |some (.row sz es)=>some (sz,es)
   |_=>none
  |none=>none
 |.part _ _=>none
def St.setRow (st:St)(r:Root)(sz:Nat)(es:List PV):St :=
 match r with
 |.slot t=>st.put t (.row sz es)
 |.cell o j=>st.setCell o j (.row sz es)
 |.part _ _=>st
def St.takeRow (st:St):Root→St
 |.slot t=>st.put t .any
 |.cell o j=>st.setCell o j (.pv .void)
 |.part _ _=>st
def St.freeze (st:St)(r:Root):St :=
 match st.row r with
 |some (sz,es)=>match r with
  |.slot t=>st.put t (.pv (.list sz es))
  |.cell o j=>st.setCell o j (.pv (.list sz es))
  |.part _ _=>st
 |none=>st
def BV.frozen:BV→BV
 |.row sz es=>.pv (.list sz es)
 |v=>v
def BV.val:BV→PV
 |.row sz es=>.list sz es
 |.pv v=>v
def BV.av:BV→AV
 |.pv v=>.pv v
 |.row sz es=>.row sz es
def St.bH (st:St)(o:Nat):St :=
 match st.boxes[o]? with
 |some b=>{ st with boxes:=st.boxes.set o { b with cs:=b.cs.map BV.frozen } }
 |none=>st
def St.bD (st:St)(o:Nat):St :=
 match st.boxes[o]? with
 |some b=>{ st with boxes:=st.boxes.set o ⟨true,b.cs.map BV.frozen⟩ }
 |none=>st
def St.snap (st:St):AV→Option (PV×Bool)
 |.pv v=>some (v,false)
 |.row sz es=>some (.list sz es,true)
 |.ref r off len=>match st.row r with
  |some (sz,es)=>if off+len≤es.length then some (.list sz ((es.drop off).take len),true) else none
  |none=>none
 |.aO o j=>match st.boxes[o]? with
  |some b=>some (.dM (b.cs.map BV.val) j,!b.fz)
  |none=>none
 |.qx r i j=>match st.row r with
  |some (_,es)=>match es[i]? with
   |some e=>some (.dM e.cells j,true)
   |none=>none
  |none=>none
 |_=>none
def St.kD (st:St):AV→Option (PV×Bool)
 |.fn f caps=>do
  let l ← caps.mapM st.snap
  some (.func f (l.map (·.1)),l.any (·.2))
 |v=>st.snap v
def St.gB (st:St)(v:AV):St :=
 match v with
 |.aO o _=>st.bD o
 |_=>st
def St.consume (st:St):bU→Option (PV×Bool×St)
 |.c v=>some (v,false,st)
 |.nil sz=>some (.list sz [],true,st)
 |.t n=>match st.slots.getD n .any with
  |.pv v=>some (v,false,st)
  |.row sz es=>some (.list sz es,true,st.put n .any)
  |.ref r off len=>match st.row r with
   |some (sz,es)=>if off+len≤es.length then some (.list sz ((es.drop off).take len),false,st.freeze r) else none
   |none=>none
  |.fn f caps =>
   match (caps.foldl St.gB st).kD (.fn f caps) with
   |some (p,false)=>some (p,false,caps.foldl St.gB st)
   |_=>none
  |_=>none
def St.bI (st:St)(x:bU)(v:AV):St :=
 match v with
 |.row _ _=>match x with
  |.t n=>st.freeze (.slot n)
  |_=>st
 |.ref r _ _=>st.freeze r
 |.qx r _ _=>st.freeze r
 |.aO o _=>st.bD o
 |_=>st
def St.dh (st:St)(x:bU):St :=
 match st.get x with
 |.fn _ caps=>caps.foldl (fun s v=>s.bI (.c .void) v) st
 |v=>st.bI x v
def St.jh (st:St)(x:bU):St :=
 match st.get x with
 |.aO o _=>st.bD o
 |_=>st
def PV.single:PV→Bool
 |.agg _=>false
 |_=>true
def zBV:PV→BV
 |.list (k+1) []=>.row (k+1) []
 |v=>.pv v
def sBV:PV→BV
 |.l9 sz=>.row sz []
 |v=>.pv v
def PV.scalar:PV→Bool
 |.int _ _|.bool _|.str _=>true
 |.agg cs=>cs.all fun c=>match c with
  |.int _ _|.bool _|.str _=>true
  |_=>false
 |_=>false
def ji:List PV→List PV→Option Bool
 |[],[]=>some true
 |.int k a::xs,.int l b::ys=>if k=l then (ji xs ys).map fun r=>(a==b)&&r else none
 |_,_=>none
def iw (o:BinOp)(k:IntKind)(a b:Int):Option PV :=
 match o with
 |.add=>some (.int k (k.wrap (a+b)))
 |.sub=>some (.int k (k.wrap (a - b)))
 |.mul=>some (.int k (k.wrap (a*b)))
 |.quo=>if b=0 then none else some (.int k (k.wrap (a.tdiv b)))
 |.rem=>if b=0 then none else some (.int k (a.tmod b))
 |.and=>some (.int k (k.wrap (Zau k.bits a &&& Zau k.bits b).toNat))
 |.or=>some (.int k (k.wrap (Zau k.bits a ||| Zau k.bits b).toNat))
 |.xor=>some (.int k (k.wrap (Zau k.bits a ^^^ Zau k.bits b).toNat))
 |.andNot=>some (.int k (k.wrap (Zau k.bits a &&& ~~~(Zau k.bits b)).toNat))
 |.eql=>some (.bool (a==b))
 |.neq=>some (.bool (a != b))
 |.lss=>some (.bool (a<b))
 |.leq=>some (.bool (a≤b))
 |.gtr=>some (.bool (a > b))
 |.geq=>some (.bool (a ≥ b))
 |.shl=>if b<0 then none else some (.int k (k.wrap (a*2 ^ (min b.toNat k.bits))))
 |.shr=>if b<0 then none else some (.int k (a.fdiv (2 ^ (min b.toNat k.bits))))
def EF (o:BinOp)(x y:PV):Option PV :=
 match x,y with
 |.int k a,.int l b=>match o with
  |.shl=>iw .shl k a b
  |.shr=>iw .shr k a b
  |o=>if k=l then iw o k a b else none
 |_,_=>none
def Zx (o:UnOp)(x:PV):Option PV :=
 match o,x with
 |.neg,.int k n=>some (.int k (k.wrap (0 - n)))
 |.not,.bool b=>some (.bool !b)
 |.xor,.int k n=>iw .xor k (if k.signed then -1 else k.max) n
 |_,_=>none
def part (cs:List PV)(off:Nat):Option Nat→Option PV
 |none=>cs[off]?
 |some n=>if off+n≤cs.length then some (.agg ((cs.drop off).take n)) else none
def splice (cs:List PV)(off:Nat)(new:List PV):Option (List PV) :=
 if off+new.length≤cs.length then some (cs.take off++new++cs.drop (off+new.length)) else none
def index (i:PV)(len:Nat):Option Nat :=
 match i with
 |.int _ n=>if 0≤n∧n<len then some n.toNat else none
 |_=>none
def bound (v:Option PV)(d:Nat)(y:Nat):Option Nat :=
 match v with
 |none=>some d
 |some (.int _ n)=>if 0≤n∧n≤y then some n.toNat else none
 |_=>none
def PV.xG (e:PV)(cs:List PV):Option PV :=
 match e with
 |.agg _=>some (.agg cs)
 |_=>match cs with
  |[.agg _]=>none
  |[c]=>some c
  |_=>none
def St.dG (st:St)(x:bU):Option PV :=
 match st.get x with
 |.pv v=>some v
 |_=>none
def St.zH (st:St):Option bU→Option (Option PV)
 |none=>some none
 |some x=>(st.dG x).map some
def St.elems (st:St)(x:bU):Option (Nat×List PV) :=
 match st.get x with
 |.pv (.list sz es)=>some (sz,es)
 |.row sz es=>some (sz,es)
 |.ref r off len=>match st.row r with
  |some (sz,es)=>if off+len≤es.length then some (sz,(es.drop off).take len) else none
  |none=>none
 |_=>none
def St.place (st:St)(x:bU):Option (Root×Nat×Nat) :=
 match x with
 |.t n=>match st.slots.getD n .any with
  |.ref r off len=>some (r,off,len)
  |.row _ es=>some (.slot n,0,es.length)
  |_=>none
 |_=>none
def St.grab (st:St)(x:bU):Option (Nat×List PV×St) :=
 match x with
 |.nil sz=>some (sz,[],st)
 |.c _=>none
 |.t n=>match st.slots.getD n .any with
  |.row sz es=>some (sz,es,st.put n .any)
  |.ref r 0 len=>match st.row r with
   |some (sz,es)=>if len≤es.length then some (sz,es.take len,st.takeRow r) else none
   |none=>none
  |.pv (.l9 sz)=>some (sz,[],st)
  |_=>none
def Zy:PV→AV
 |.list sz es=>.row sz es
 |v=>.pv v
def St.lay (st:St)(d:Nat)(v:PV)(own:Bool):St :=
 if own then match v with
  |.list sz es=>st.putRow d sz es
  |.agg cs=>st.put d (.lU true (cs.map Zy))
  |v=>st.put d (.pv v)
 else st.put d (.pv v)
def St.layAll (st:St)(d:Nat):List nC→St
 |[(v,own)]=>st.lay d v own
 |l=>st.put d (.lU false (l.map fun r=>match r with
  |(.list sz es,true)=>.row sz es
  |(.agg _,true)=>.any
  |(v,_)=>.pv v))
def iV (cs:List PV)(st:St):List (Nat×Nat×bU)→Option (List PV×St)
 |[]=>some (cs,st)
 |(off,n,x)::l=>do
  let (v,_,st) ← st.consume x
  let cs ← splice cs off v.cells
  if v.cells.length=n then iV cs st l else none
def capOf (st:St)(x:bU):Option AV :=
 match st.get x with
 |.pv v=>some (.pv v)
 |.aO o j=>some (.aO o j)
 |_=>none
def zO (st:St):List bU→Option (List AV)
 |[]=>some []
 |x::l=>do
  let v ← capOf st x
  let vs ← zO st l
  some (v::vs)
def chunks (sz:Nat)(cs:List PV)(n:Nat):List PV:=(Zar n).map fun i=>.agg ((cs.drop (i*sz)).take sz)
def GV:List Bool→List PV→List PV→Option Bool
 |[],[],[]=>some true
 |false::ks,.int k a::xs,.int l b::ys=>if k=l then (GV ks xs ys).map (a==b&&·) else none
 |true::ks,.bool a::xs,.bool b::ys=>(GV ks xs ys).map ((a==b)&&·)
 |_,_,_=>none
def plain (o:iG)(st:St):Option St :=
 match o with
 |.ak d x=>match st.get x with
  |.row sz es=>match x with
   |.t n=>some (st.put d (.ref (.slot n) 0 es.length))
   |_=>some (st.putRow d sz es)
  |.lU k l=>match x with
   |.t n=>some ((st.put n .any).put d (.lU k l))
   |_=>none
  |v=>some (st.put d v)
 |.aN d x=>match st.get x with
  |.row sz es=>match x with
   |.t n=>some ((st.put n .any).putRow d sz es)
   |_=>some (st.putRow d sz es)
  |.lU k l=>match x with
   |.t n=>some ((st.put n .any).put d (.lU k l))
   |_=>none
  |v=>some (st.put d v)
 |.pick d c x y=>do
  let .bool b ← st.dG c|none
  let v ← st.dG (if b then x else y)
  some (st.put d (.pv v))
 |.bin d o x y=>do
  let a ← st.dG x
  let b ← st.dG y
  let v ← EF o a b
  some (st.put d (.pv v))
 |.Vz d neg n x y=>do
  let .agg xs ← st.dG x|none
  let .agg ys ← st.dG y|none
  let r ← ji xs ys
  if xs.length=n then some (st.put d (.pv (.bool (if neg then !r else r)))) else none
 |.eqm d neg ks x y=>do
  let .agg xs ← st.dG x|none
  let .agg ys ← st.dG y|none
  let r ← GV ks xs ys
  some (st.put d (.pv (.bool (if neg then !r else r))))
 |.Zu d neg x y=>do
  let .bool a ← st.dG x|none
  let .bool b ← st.dG y|none
  some (st.put d (.pv (.bool (if neg then !(a==b) else a==b))))
 |.Yn d neg x=>match st.get x with
  |.pv (.list _ (_::_))=>some (st.put d (.pv (.bool neg)))
  |_=>none
 |.cut d sz x=>match st.get x with
  |.pv (.list _ (_::_))=>some (st.putRow d sz [])
  |_=>none
 |.mvz d x=>match x with
  |.t n=>match st.slots.getD n .any with
   |.pv v=>some (st.put d (.pv v))
   |.row sz es=>some ((st.freeze (.slot n)).put d (.pv (.list sz es)))
   |_=>none
  |_=>none
 |.asl d n x=>match st.get x with
  |.aO o 0=>match st.boxes[o]? with
   |some b=>if b.cs.length=n∧n≤lim∧(b.cs.map BV.val).all PV.single=true then some ((st.bD o).put d (.pv (.list 1 (b.cs.map BV.val)))) else none
   |none=>none
  |_=>none
 |.asz d n sz x=>match st.get x with
  |.aO o 0=>match st.boxes[o]? with
   |some b=>if b.cs.length=n*sz∧n≤lim∧(b.cs.map BV.val).all PV.single=true then some ((st.bD o).put d (.pv (.list sz (chunks sz (b.cs.map BV.val) n)))) else none
   |none=>none
  |_=>none
 |.ldm d n p=>match st.get p with
  |.aO o 0=>do
   let b ← st.boxes[o]?
   if b.fz || !(b.cs.length=n) then none
   else some (({ st with boxes:=st.boxes.set o { b with cs:=Zal n (.pv .void) } }:St).put d (.lU true (b.cs.map BV.av)))
  |_=>none
 |.Zv d n p=>match st.get p with
  |.aO o j=>match st.boxes[o]? with
   |some b=>if b.fz then (part (b.cs.map BV.val) j n).map fun v=>st.put d (.pv v) else none
   |none=>none
  |.pv (.dM cs j)=>(part cs j n).map fun v=>st.put d (.pv v)
  |_=>none
 |.un d o x=>do
  let a ← st.dG x
  let v ← Zx o a
  some (st.put d (.pv v))
 |.conv d k x=>do
  let .int _ n ← st.dG x|none
  some (st.put d (.pv (.int k (k.wrap n))))
 |.load d n p=>match st.get p with
  |.pv (.dM cs j)=>do some (st.put d (.pv (← part cs j n)))
  |.qx r i j=>do
   let (_,es) ← st.row r
   let e ← es[i]?
   some (st.put d (.pv (← part e.cells j n)))
  |.aO o j=>do
   let b ← st.boxes[o]?
   match n with
   |none=>match b.cs[j]? with
    |some (.pv v)=>some (st.put d (.pv v))
    |some (.row _ es)=>if b.fz then none else some (st.put d (.ref (.cell o j) 0 es.length))
    |none=>none
   |some n=>do
    let v ← part (b.cs.map BV.val) j (some n)
    some ((st.bH o).put d (.pv v))
  |_=>none
 |.aP d p off=>match st.get p with
  |.pv (.dM cs j)=>some (st.put d (.pv (.dM cs (j+off))))
  |.qx r i j=>match st.row r with
   |some _=>some (st.put d (.qx r i (j+off)))
   |none=>none
  |.aO o j=>some (st.put d (.aO o (j+off)))
  |_=>none
 |.zx d p i len sz=>do
  let k ← index (← st.dG i) len
  match st.get p with
  |.pv (.dM cs j)=>some (st.put d (.pv (.dM cs (j+k*sz))))
  |.qx r i j=>match st.row r with
   |some _=>some (st.put d (.qx r i (j+k*sz)))
   |none=>none
  |.aO o j=>some (st.put d (.aO o (j+k*sz)))
  |_=>none
 |.dA d sz x i=>do
  let iv ← st.dG i
  match st.get x with
  |.pv (.list s es)=>do
   let k ← index iv es.length
   let e ← es[k]?
   if s=sz then some (st.put d (.pv (.dM e.cells 0))) else none
  |.ref r off len=>do
   let (s,es) ← st.row r
   if off+len≤es.length∧s=sz then
    let k ← index iv len
    some (st.put d (.qx r (off+k) 0))
   else none
  |.row s es=>do
   let .t n:=x|none
   let k ← index iv es.length
   if s=sz then some (st.put d (.qx (.slot n) k 0)) else none
  |_=>none
 |.fld d x off n=>do
  let .agg cs ← st.dG x|none
  some (st.put d (.pv (← part cs off n)))
 |.idx d x i len sz n=>do
  let .agg cs ← st.dG x|none
  let k ← index (← st.dG i) len
  some (st.put d (.pv (← part cs (k*sz) n)))
 |.Zw d sz x lo hi=>do
  let l ← st.zH lo
  let h ← st.zH hi
  match st.get x with
  |.pv (.list s es)=>do
   let h ← bound h es.length es.length
   let l ← bound l 0 h
   if s=sz then some (st.put d (.pv (.list sz ((es.drop l).take (h - l))))) else none
  |.row s es=>do
   let .t n:=x|none
   let h ← bound h es.length es.length
   let l ← bound l 0 h
   if s=sz then some (st.put d (.ref (.slot n) l (h - l))) else none
  |.ref r off len=>do
   let (s,es) ← st.row r
   if off+len≤es.length∧s=sz then
    let h ← bound h len len
    let l ← bound l 0 h
    some (st.put d (.ref r (off+l) (h - l)))
   else none
  |_=>none
 |.sl4 d sz x lo hi mx=>do
  let l ← st.dG lo
  let h ← st.dG hi
  let m ← st.dG mx
  match st.get x with
  |.pv (.list s es)=>do
   let k ← bound (some m) es.length es.length
   let k' ← bound (some h) k k
   let i ← bound (some l) 0 k
   if s=sz∧k'=k then some (st.put d (.pv (.list sz ((es.drop i).take (k - i))))) else none
  |_=>none
 |.ldp d x=>match st.get x with
  |.pp o j=>some (st.put d (.aO o j))
  |_=>none
 |.sl3 d sz x hi mx=>do
  let h ← st.dG hi
  let m ← st.dG mx
  match st.get x with
  |.pv (.list s es)=>do
   let k ← bound (some m) es.length es.length
   let k' ← bound (some h) k k
   if s=sz∧k'=k then some (st.put d (.FX sz (es.take k))) else none
  |.ref r 0 len=>do
   let (s,es) ← st.row r
   let k ← bound (some m) len len
   let k' ← bound (some h) k k
   if len≤es.length∧s=sz∧k'=k then some ((st.freeze r).put d (.FX sz (es.take k))) else none
  |_=>none
 |.len d x=>match st.get x with
  |.pv (.list _ es)=>some (st.put d (.pv (.int .i64 es.length)))
  |.row _ es=>some (st.put d (.pv (.int .i64 es.length)))
  |.ref r _ len=>match st.row r with
   |some _=>some (st.put d (.pv (.int .i64 len)))
   |none=>none
  |_=>none
 |.lens d x=>match st.get x with
  |.pv (.str s)=>some (st.put d (.pv (.int .i64 s.size)))
  |_=>none
 |.ext d x i=>match x with
  |.t n=>match st.slots.getD n .any with
   |.lU false l=>match l[i]? with
    |some (.pv v)=>some (st.put d (.pv v))
    |some (.row sz es)=>some ((st.put n (.lU false (l.set i .any))).putRow d sz es)
    |_=>none
   |_=>none
  |_=>none
 |.build d z parts=>do
  let (cs,st) ← iV z st parts
  some (st.put d (.pv (.agg cs)))
 |.VB d z parts off m=>do
  let (cs,st1) ← iV z st parts
  match st1.slots.getD m .any with
  |.row sz es=>if off<cs.length then some ((st1.put m .any).put d (.lU true ((cs.map AV.pv).set off (.row sz es)))) else none
  |_=>none
 |.mn d mx x y=>do
  let .int k m ← st.dG x|none
  let .int l n ← st.dG y|none
  if k=l then some (st.put d (.pv (.int k (if mx then (if m<n then n else m) else (if n<m then n else m))))) else none
 |.VA d f caps=>do
  let l ← zO st caps
  some (st.put d (.fn f l))
 |_=>none
def pU (st:St):sU→Option (nC×St)
 |.tmp t=>match st.grab (.t t) with
  |some (sz,es,st1)=>some ((.list sz es,true),st1)
  |none=>match st.slots.getD t .any with
   |.pv v=>some ((v,false),st)
   |.ref r off len=>match st.row r with
    |some (sz,es)=>if off+len≤es.length then some ((.list sz ((es.drop off).take len),false),st.freeze r) else none
    |none=>none
   |_=>none
 |.cell t n=>match st.slots.getD t .any with
  |.aO o j=>match st.boxes[o]? with
   |some b=>match n with
    |none=>match b.cs[j]? with
     |some (.row sz es)=>if b.fz then none else some ((.list sz es,false),st.freeze (.cell o j))
     |some (.pv v)=>some ((v,false),st)
     |none=>none
    |some n=>(part (b.cs.map BV.val) j (some n)).map fun v=>((v,false),st.bH o)
   |none=>none
  |_=>none
 |.own _ _=>none
def resultList (st:St):List sU→Option (List nC)
 |[]=>some []
 |r::rs=>do
  let (x,st) ← pU st r
  let l ← resultList st rs
  some (x::l)
def kS:List BV→Option (List PV)
 |[]=>some []
 |.row sz es::l=>(kS l).map (PV.list sz es::·)
 |.pv (.list _ _)::_=>none
 |.pv v::l=>(kS l).map (v::·)
def fV (st:St)(rs:List sU):Option (List nC) :=
 match rs with
 |[.tmp t]=>match st.slots.getD t .any with
  |.fn f caps=>(st.kD (.fn f caps)).map fun p=>[(p.1,false)]
  |_=>resultList st rs
 |[.own t n]=>match st.slots.getD t .any with
  |.aO o j=>match st.boxes[o]? with
   |some b=>if b.fz || !(j+n≤b.cs.length) then none else (kS ((b.cs.drop j).take n)).map fun cs=>[(.agg cs,true)]
   |none=>none
  |_=>none
 |_=>resultList st rs
inductive mg where
 |row (sz:Nat) (es:List PV)
 |own (l:List AV)
 |box (cs:List PV)
 deriving Inhabited
def mg.av:mg→AV
 |.row sz es=>.row sz es
 |.own l=>.lU true l
 |.box _=>.aO 0 0
def mg.boxes:mg→List Box
 |.box cs=>[⟨false,cs.map .pv⟩]
 |_=>[]
def vO (st:St)(x:bU):Option (mg×Option Nat×St) :=
 match st.get x with
 |.lU true l=>match x with
  |.t n=>some (.own l,none,st.put n .any)
  |_=>none
 |.aO o 0=>match st.boxes[o]? with
  |some b=>if b.fz then none else some (.box (b.cs.map BV.val),some o,st.bH o)
  |none=>none
 |_=>(st.grab x).map fun q=>(.row q.1 q.2.1,none,q.2.2)
def pq (st:St)(bo:Option Nat)(out:Option (List PV)):Option St :=
 match bo,out with
 |none,none=>some st
 |some o,some cs=>match st.boxes[o]? with
  |some b=>some { st with boxes:=st.boxes.set o { b with cs:=cs.map .pv } }
  |none=>none
 |_,_=>none
def kT (x:mg)(st:St)(rs:List sU):Option (List nC×Option (List PV)) :=
 match x with
 |.box _=>match (st.bH 0).boxes[0]? with
  |some b=>if b.fz then none else (resultList (st.bH 0) rs).map fun l=>(l,some (b.cs.map BV.val))
  |none=>none
 |_=>(fV st rs).map fun l=>(l,none)
def swapAt (m o:Nat):Nat:=if o=m then m+1 else if o=m+1 then m else o
def Root.ren (p:Nat→Nat):Root→Root
 |.cell o j=>.cell (p o) j
 |r=>r
def acg (p:Nat→Nat):AV→AV
 |.aO o j=>.aO (p o) j
 |v=>v
def AV.ren (p:Nat→Nat):AV→AV
 |.ref r off len=>.ref (r.ren p) off len
 |.aO o j=>.aO (p o) j
 |.pp o j=>.pp (p o) j
 |.qx r i j=>.qx (r.ren p) i j
 |.fn f caps=>.fn f (caps.map (acg p))
 |v=>v
def St.swap2 (st:St)(nb:Nat):Option St :=
 if nb+2≤st.boxes.length then some { st with slots:=st.slots.map (AV.ren (swapAt (st.boxes.length - 2))),boxes:=st.boxes.take (st.boxes.length - 2)++(st.boxes.drop (st.boxes.length - 1)++(st.boxes.drop (st.boxes.length - 2)).take 1) } else none
def uT (a b:ByteArray):Bool:=a.data.toList==b.data.toList
mutual
def PV.same:PV→PV→Bool
 |.int k n,.int l m=>k==l&&n==m
 |.bool a,.bool b=>a==b
 |.str a,.str b=>uT a b
 |.list s es,.list t fs=>s==t&&PV.jQ es fs
 |.agg cs,.agg ds=>PV.jQ cs ds
 |.func f cs,.func g ds=>f==g&&PV.jQ cs ds
 |.uw,.uw=>true
 |.dM cs j,.dM ds k=>j==k&&PV.jQ cs ds
 |.void,.void=>true
 |.l9 s,.l9 t=>s==t
 |_,_=>false
def PV.jQ:List PV→List PV→Bool
 |[],[]=>true
 |x::xs,y::ys=>PV.same x y&&PV.jQ xs ys
 |_,_=>false
end
mutual
def AV.same:AV→AV→Bool
 |.pv x,.pv y=>PV.same x y
 |.row s es,.row t fs=>s==t&&PV.jQ es fs
 |.ref r a b,.ref q c d=>decide (r=q)&&(a==c&&b==d)
 |.aO o j,.aO q k=>o==q&&j==k
 |.qx r i j,.qx q k l=>decide (r=q)&&(i==k&&j==l)
 |.fn f cs,.fn g ds=>f==g&&AV.jQ cs ds
 |.lU k xs,.lU m ys=>k==m&&AV.jQ xs ys
 |.FX s es,.FX t fs=>s==t&&PV.jQ es fs
 |.pp o j,.pp q k=>o==q&&j==k
 |.tq,.tq=>true
 |.any,.any=>true
 |_,_=>false
def AV.jQ:List AV→List AV→Bool
 |[],[]=>true
 |x::xs,y::ys=>AV.same x y&&AV.jQ xs ys
 |_,_=>false
end
def BV.same:BV→BV→Bool
 |.pv x,.pv y=>PV.same x y
 |.row s es,.row t fs=>s==t&&PV.jQ es fs
 |_,_=>false
def nK {α:Type}(f:α→α→Bool):List α→List α→Bool
 |[],[]=>true
 |x::xs,y::ys=>f x y&&nK f xs ys
 |_,_=>false
def Box.same (a b:Box):Bool:=a.fz==b.fz&&nK BV.same a.cs b.cs
def St.same (a b:St):Bool:=AV.jQ a.slots b.slots&&(nK Box.same a.boxes b.boxes&&(nK PV.jQ a.ys b.ys&&decide (a.stop=b.stop)))
def agree (s:St):List (Option St)→Option St
 |[]=>some s
 |o::l=>o.bind fun s'=>if s'.same s then agree s l else none
def bW (vo:List iG)(is:List Nat):List iG:=is.map fun i=>vo.getD i default
section
def AV.flat:AV→AV
 |.pv v=>if v.scalar then .pv v else .any
 |.row sz es=>if es.all PV.scalar then .row sz es else .any
 |.aO o j=>.aO o j
 |_=>.any
def BV.flat:BV→Bool
 |.pv v=>v.scalar
 |.row _ es=>es.all PV.scalar
def akN (d:Nat)(ks:List Nat)(sz:Nat)(es:List PV)(st:St)(t:Nat)(new:AV):AV :=
 if t=d then .row sz es
 else if ks.contains t then (match st.slots[t]? with
  |some (.pv v)=>.pv v
  |_=>new.flat) else new.flat
def St.xH (st:St)(d:Nat)(ks:List Nat)(sz:Nat)(es:List PV)(st2:St):Option St :=
 if st2.boxes.all (fun b=>!b.fz&&b.cs.all BV.flat) then some { st2 with slots:=st2.slots.mapIdx (akN d ks sz es st) } else none
def varOf (st:St)(s:Nat):Option Nat:=match st.slots[s]? with
 |some (.aO o 0)=>some o
 |_=>none
def jy:AV→Option Nat
 |.aO o 0=>some o
 |_=>none
def fH (st:St)(d g:Nat):Option (List Nat):=match st.slots[d]? with
 |some (.fn g' caps)=>if g'=g then caps.mapM jy else none
 |_=>none
def PV.gG:PV→Bool
 |.int _ _|.bool _=>true
 |.list _ []=>true
 |.l9 _=>true
 |_=>false
def St.setVar (st:St)(o:Nat)(vals:List PV):Option St:=match st.boxes[o]? with
 |some b=>if b.fz || !(b.cs.length=vals.length) || !(vals.all PV.gG) then none else some { st with boxes:=st.boxes.set o { b with cs:=vals.map .pv } }
 |none=>none
def St.eP (st:St)(o:Nat):Option Int:=match st.boxes[o]? with
 |some ⟨false,[.pv (.int .i64 m)]⟩=>some m
 |_=>none
def St.bV:List Nat→List (List PV)→St→Option St
 |[],[],st=>some st
 |o::os,z::zs,st=>(st.setVar o z).bind fun st=>St.bV os zs st
 |_,_,_=>none
def oJ.begun (fn:oJ)(st:St):Option St:=match fn.zy with
 |some (d,g,zs)=>plain (.VA d g (.t fn.e::zs.map fun z=>.t z.1)) st
 |none=>some st
def dY (fn:oJ)(oe:Nat)(e:Ex)(st:St):Option St:=match e with
 |.exit _=>none
 |.nJ t n=>if t=fn.t then (st.eP oe).bind fun _=>st.setVar oe [.int .i64 n] else none
 |_=>some st
def dR (fn:oJ)(st0:St)(oe:Nat)(st:St):Option St:=match fn.zy with
 |none=>some st
 |some (d,g,zs)=>(fH st0 d g).bind fun os=>if os.head?=some oe∧os.Nodup∧os.length=zs.length+1 then (st.eP oe).bind fun m=>if m=0 then some st else St.bV os.tail (zs.map (·.2)) st else none
def fJ (fn:oJ)(st0:St)(e:Ex)(st:St):Option (List nC) :=
 (varOf st0 fn.e).bind fun oe=>(dY fn oe e st).bind fun st2=>(dR fn st0 oe st2).bind fun st3=>fV st3 fn.results
variable (rec:ay→St→Option (Ex×St))(env:Env)
def jk (f:Nat)(args:List PV):Option (List nC) :=
 match env f with
 |some (.ext g)=>g args
 |some (.code fn) =>
  if args.length=fn.nargs then do
   let (e,st) ← rec fn.body ⟨args.map .pv++Zal (fn.ntmps - args.length) .any,[],[],none⟩
   match e with
   |.exit _=>none
   |.nJ _ _=>none
   |_=>fV st fn.results
  else none
 |some (.Kv _)=>none
 |some (.nJ h)=>(h args).bind fun r=>match r with
  |none=>some []
  |some _=>none
 |some (.dfn fn)=>if args.length=fn.nargs then
   (rec fn.pre ⟨args.map .pv++Zal (fn.ntmps - args.length) .any,[],[],none⟩).bind fun r0=>if r0.1=.normal then
    (fn.begun r0.2).bind fun st0=>(rec fn.body st0).bind fun r1=>fJ fn st0 r1.1 r1.2 else none
  else none
 |none=>none
def Fg (f:Nat)(args:List PV):Option (Option (Nat×Int)) :=
 match env f with
 |some (.nJ h)=>h args
 |some (.code fn)=>if args.length=fn.nargs∧fn.results.isEmpty=true then
   (rec fn.body ⟨args.map .pv++Zal (fn.ntmps - args.length) .any,[],[],none⟩).bind fun r=>match r.1 with
    |.exit _=>none
    |.nJ t n=>some (some (t,n))
    |_=>some none
  else none
 |_=>none
def kM (f:Nat)(caps:List PV)(stop:Option Nat):Option (List (List PV)) :=
 match env f with
 |some (.code fn) =>
  if caps.length+1=fn.nargs∧fn.results.isEmpty=true then do
   let (e,st) ← rec fn.body ⟨.tq::(caps.map .pv++Zal (fn.ntmps - (caps.length+1)) .any),[],[],some stop⟩
   match e with
   |.exit _=>none
   |.nJ _ _=>none
   |_=>some st.ys
  else none
 |_=>none
def kE (d f:Nat)(args:List bU)(caps:List AV)(st:St):Option St:=do
 let l ← args.mapM fun x=>st.kD (st.get x)
 let k ← caps.mapM st.snap
 let rs ← jk rec env f (l.map (·.1)++k.map (·.1))
 let st1:=if (l.any (·.2) || k.any (·.2))&&!(rs.all (·.1.scalar)) then caps.foldl (fun s v=>s.bI (.c .void) v) (args.foldl St.dh st) else st
 some (st1.layAll d rs)
def tu (f:Nat)(x:mg)(args:List PV):Option (List nC×Option (List PV)) :=
 match env f with
 |some (.code fn) =>
  if args.length+1=fn.nargs then do
   let (e,st) ← rec fn.body ⟨x.av::(args.map .pv++Zal (fn.ntmps - (args.length+1)) .any),x.boxes,[],none⟩
   match e with
   |.exit _=>none
   |.nJ _ _=>none
   |_=>kT x st fn.results
  else none
 |_=>none
def rP (d f:Nat)(x:bU)(args:List bU)(caps:List AV)(st:St):Option St :=
 (args.mapM fun x=>st.kD (st.get x)).bind fun l=>(caps.mapM st.snap).bind fun k=>(if l.any (·.2) || k.any (·.2) then none else vO st x).bind fun q =>
  (tu rec env f q.1 (l.map (·.1)++k.map (·.1))).bind fun r=>(pq q.2.2 q.2.1 r.2).bind fun st2=>some (st2.layAll d r.1)
def jC (d f:Nat)(x:bU)(args:List bU)(caps:List AV)(st:St):Option St:=rP rec env d f x args caps (args.foldl St.dh st)
def fC (st:St):List bU→Option (List PV×St)
 |[]=>some ([],st)
 |x::l=>do
  let (v,_,st) ← st.consume x
  let (vs,st) ← fC st l
  some (v::vs,st)
def tC:List AV→Option (List BV)
 |[]=>some []
 |.pv v::l=>if v.single then (tC l).map (BV.pv v::·) else none
 |.row sz es::l=>(tC l).map (BV.row sz es::·)
 |_=>none
def BV.peek:BV→PV
 |.pv v=>v
 |.row _ _=>.void
def an2 (v:PV)(cs:List BV):Bool:=match v with
 |.list 1 (.int k _::es)=>(es.all fun e=>match e with
  |.int _ _=>true
  |_=>false)&&cs.all fun c=>match c with
  |.row _ _=>true
  |.pv (.int k' _)=>k' != k
  |.pv (.list _ _)|.pv (.bool _)=>true
  |_=>false
 |_=>false
def act (o:iG)(st:St):Option St :=
 match o with
 |.alloc d z=>some (({ st with boxes:=st.boxes++[(⟨false,z.map zBV⟩:Box)] }:St).put d (.aO st.boxes.length 0))
 |.box d x=>do
  let (v,own,st) ← st.consume x
  let cs:=match v,own with
   |.list sz es,true=>[BV.row sz es]
   |.l9 sz,_=>[BV.row sz []]
   |v,_=>v.cells.map .pv
  some (({ st with boxes:=st.boxes++[(⟨false,cs⟩:Box)] }:St).put d (.aO st.boxes.length 0))
 |.store _ n p x=>do
  let (v,own,st) ← st.consume x
  match st.get p with
  |.aO o j=>do
   let b ← st.boxes[o]?
   if b.fz || !(v.cells.length=n) || !(j+n≤b.cs.length) then none
   else match v,own with
    |.list sz es,true=>some (st.kR o j sz es)
    |v,_=>some { st with boxes:=st.boxes.set o { b with cs:=b.cs.take j++v.cells.map .pv++b.cs.drop (j+n) } }
  |.qx r i j=>do
   let (sz,es) ← st.row r
   let e ← es[i]?
   if v.cells.length=n then
    let cs ← splice e.cells j v.cells
    let e' ← e.xG cs
    some (st.setRow r sz (es.set i e'))
   else none
  |_=>none
 |.iH d sz parts=>do
  let (vs,st) ← fC st parts
  if vs.all fun v=>v.cells.length==sz then some (st.putRow d sz vs) else none
 |.make d z n c=>do
  let .int _ n ← st.dG n|none
  let .int _ c ← st.dG c|none
  if 0≤n∧n≤c∧c≤lim then some (st.putRow d z.cells.length (Zal n.toNat z)) else none
 |.app d sz x y=>do
  let (sy,ys) ← st.elems y
  let (sx,es,st) ← st.grab x
  if sx=sz∧sy=sz∧es.length+ys.length≤lim then some (st.putRow d sz (es++ys)) else none
 |.apb d x y=>do
  let (sy,ys) ← st.elems y
  let (sx,es,st) ← st.grab x
  if sx=1∧sy=1∧es.length+ys.length≤VD then some (st.putRow d 1 (es++ys)) else none
 |.apf d sz x y=>do
  let (sy,ys) ← st.elems y
  match st.get x with
  |.FX s es=>if s=sz∧sy=sz∧es.length+ys.length≤lim then some ((st.putRow d sz []).put d (.pv (.list sz (es++ys)))) else none
  |_=>none
 |.mkz d sz=>some (st.put d (.FX sz []))
 |.bxp d x=>match st.get x with
  |.aO o j=>some (st.put d (.pp o j))
  |_=>none
 |.pk d f x=>match st.get x with
  |.aO o 0=>do
   let b ← st.boxes[o]?
   let rs ← jk rec env f [.dM (b.cs.map BV.peek) 0]
   match rs with
   |[(v,false)]=>if an2 v b.cs then some (st.put d (.pv v)) else none
   |_=>none
  |_=>none
 |.apg d sz x y=>do
  let (sy,ys) ← st.elems y
  match st.get x with
  |.FX s es=>if s=sz∧sy=sz∧es.length=0∧ys.length≤lim then some (st.putRow d sz ys) else none
  |_=>none
 |.cpy d sz x y=>do
  let (sy,ys) ← st.elems y
  let (r,off,len) ← st.place x
  let (sx,es) ← st.row r
  if sx=sz∧sy=sz∧off+len≤es.length then
   let n:=min ys.length len
   some ((st.setRow r sz (es.take off++ys.take n++es.drop (off+n))).put d (.pv (.int .i64 n)))
  else none
 |.stw n p x=>match x with
  |.t m=>match st.slots.getD m .any with
   |.lU true l=>match (st.put m .any).get p with
    |.aO o j=>do
     let b ← st.boxes[o]?
     let cs ← tC l
     if b.fz || !(l.length=n) || !(j+n≤b.cs.length) then none
     else some { (st.put m .any) with slots:=(st.put m .any).slots.map (AV.dH o),boxes:=st.boxes.set o { b with cs:=b.cs.take j++cs++b.cs.drop (j+n) } }
    |_=>none
   |.pv (.agg zs)=>match st.get p with
    |.aO o j=>do
     let b ← st.boxes[o]?
     if b.fz || !(zs.length=n) || !(j+n≤b.cs.length) then none
     else some { st with slots:=st.slots.map (AV.dH o),boxes:=st.boxes.set o { b with cs:=b.cs.take j++zs.map sBV++b.cs.drop (j+n) } }
    |_=>none
   |_=>none
  |_=>none
 |.bxw d x=>match x with
  |.t m=>match st.slots.getD m .any with
   |.lU true l=>do
    let cs ← tC l
    some (({ (st.put m .any) with boxes:=st.boxes++[(⟨false,cs⟩:Box)] }:St).put d (.aO st.boxes.length 0))
   |_=>none
  |_=>none
 |.Kv d f x g=>match env f with
  |some (.Kv h)=>do
   let (r,off,len) ← st.place x
   let (sz,es) ← st.row r
   let c ← st.dG g
   let es' ← h c es
   if off=0∧len=es.length∧es'.length=es.length then some ((st.setRow r sz es').put d .any) else none
  |_=>none
 |.call d f args=>kE rec env d f args [] st
 |.lin d f x args=>jC rec env d f x args [] st
 |.linv d g x args=>match st.get g with
  |.pv (.func f caps)=>jC rec env d f x args (caps.map .pv) st
  |.fn f caps=>jC rec env d f x args caps st
  |_=>none
 |.lG d x args=>match st.get x with
  |.pv (.func f caps)=>kE rec env d f args (caps.map .pv) st
  |.fn f caps=>kE rec env d f args caps st
  |_=>none
 |.yield d x args=>match st.get x with
  |.tq=>do
   let stop ← st.stop
   let (vs,st) ← fC st args
   match stop with
   |none=>some (({ st with ys:=st.ys++[vs] }:St).put d (.pv (.bool true)))
   |some k=>if st.ys.length<k then some (({ st with ys:=st.ys++[vs] }:St).put d (.pv (.bool (!(st.ys.length+1==k))))) else none
  |_=>none
 |_=>none
def nM:iG→Bool
 |.alloc ..|.box ..|.store ..|.iH ..|.make ..|.app ..|.apb ..|.apf ..|.mkz ..|.bxp ..|.pk ..|.apg ..|.cpy ..|.call ..|.lG ..|.yield ..|.Kv ..|.stw ..|.bxw ..|.lin ..|.linv ..=>true
 |_=>false
def bZ:iG→Option Nat
 |.ak d _|.aN d _|.pick d _ _ _|.bin d _ _ _|.Vz d _ _ _ _|.Zu d _ _ _|.eqm d _ _ _ _|.Yn d _ _|.cut d _ _|.asl d _ _|.asz d _ _ _|.Zv d _ _|.ldm d _ _|.bxw d _|.mvz d _|.un d _ _|.conv d _ _|.alloc d _|.box d _|.load d _ _|.aP d _ _|.dA d _ _ _|.zx d _ _ _ _|.fld d _ _ _|.idx d _ _ _ _ _|.Zw d _ _ _ _|.sl3 d _ _ _ _|.sl4 d _ _ _ _ _
 |.ext d _ _|.build d _ _|.iH d _ _|.make d _ _ _|.len d _|.lens d _|.app d _ _ _|.apb d _ _|.apf d _ _ _|.mkz d _|.bxp d _|.ldp d _|.pk d _ _|.apg d _ _ _|.cpy d _ _ _|.mn d _ _ _|.call d _ _|.lG d _ _|.yield d _ _|.VA d _ _|.Kv d _ _ _|.lin d _ _ _|.linv d _ _ _=>some d
 |.store d _ _ _=>d
 |.stw _ _ _=>none
 |.VB d _ _ _ _=>some d
 |.grd _ _ _=>none
def op1 (o:iG)(st:St):Option St:=if nM o then act rec env o st else plain o st
def op (o:iG)(st:St):Option St :=
 match o with
 |.grd g want o=>match st.slots.getD g .any with
  |.pv (.bool b)=>if b=want then op1 rec env o st else match bZ o with
   |some d=>some (st.put d (.lU false []))
   |none=>some st
  |.lU _ l=>if l.isEmpty then (match bZ o with
   |some d=>some (st.put d (.lU false []))
   |none=>some st) else none
  |_=>none
 |o=>op1 rec env o st
def ops:List iG→St→Option St
 |[],st=>some st
 |o::l,st=>(op rec env o st).bind (ops l)
def AV.low (nb:Nat):AV→Bool
 |.pv _|.row _ _|.FX _ _|.tq|.any=>true
 |.pp o _=>o<nb
 |.aO o _=>o<nb
 |.ref (.cell o _) _ _|.qx (.cell o _) _ _=>o<nb
 |.ref ..|.qx ..=>true
 |.fn _ caps=>caps.all fun c=>match c with
  |.pv _=>true
  |.aO o _=>o<nb
  |_=>false
 |.lU _ _=>false
def St.head (st:St)(keep:List Nat)(nb:Nat):Option St :=
 let sl:=st.slots.zipIdx.map fun (v,i)=>if keep.contains i then v else .any
 if sl.all (AV.low nb)&&nb≤st.boxes.length then some { st with slots:=sl,boxes:=st.boxes.take nb } else none
def gI (slots:List AV):List Nat→List PV→Option (List AV)
 |[],[]=>some slots
 |p::ps,v::vs=>gI (slots.set p (.pv v)) ps vs
 |_,_=>none
def AV.froze:AV→AV
 |.row sz es=>.pv (.list sz es)
 |.lU _ _|.FX _ _|.ref _ _ _|.qx _ _ _=>.any
 |v=>v
def rounds (slots:List AV)(ps:List Nat)(assign body:ay)(nb:Nat):Nat→List (List PV)→St→Option (Option (Ex×Nat)×St)
 |_,[],st=>some (none,st)
 |k,x::xs,st=>do
  let sl ← gI slots ps x
  let (e,st) ← rec assign { st with slots:=sl }
  match e with
  |.normal=>do
   let (e,st) ← rec body st
   match e with
   |.normal=>if nb≤st.boxes.length then rounds slots ps assign body nb (k+1) xs { st with boxes:=st.boxes.take nb } else none
   |.nJ _ _=>none
   |e=>some (some (e,k+1),st)
  |_=>none
def ranged (g:bU)(ps:List Nat)(assign body:ay)(st:St):Option (Ex×St):=do
 let .func f caps ← st.dG g|none
 let slots:=st.slots.map AV.froze
 let st:={ st with slots:=slots }
 let xs ← kM rec env f caps none
 let (r,st1) ← rounds rec slots ps assign body st.boxes.length 0 xs st
 match r with
 |none=>some (.normal,{ st1 with slots:=slots })
 |some (_,k)=>do
  let ys ← kM rec env f caps (some k)
  let (r,st1) ← rounds rec slots ps assign body st.boxes.length 0 ys st
  match r with
  |some (e,m)=>if m=k∧ys.length=k then some (e,{ st1 with slots:=slots }) else none
  |none=>none
def nN (keep:List Nat)(nb:Nat)(sw:Bool)(s:St):Option St:=(s.head keep s.boxes.length).bind fun s=>if sw then s.swap2 nb else some s
def nO (keep:List Nat)(vo:List iG)(st:St)(x:iQ):Option St:=(ops rec env (bW vo x.ord) st).bind (nN keep st.boxes.length x.sw)
def lV (keep:List Nat)(vo:List iG)(st:St):List iQ→Option St
 |[]=>none
 |x::xs=>(nO rec env keep vo st x).bind fun s=>agree s (xs.map (nO rec env keep vo st))
def step (c:ay)(st:St):Option (Ex×St) :=
 match c with
 |.skip=>some (.normal,st)
 |.ops l=>(ops rec env l st).map fun st=>(.normal,st)
 |.AQ fz _ _ _ l=>(ops rec env l (fz.foldl St.jh st)).map fun st=>(.normal,st)
 |.drs fz keep vo alts=>(lV rec env keep vo (fz.foldl St.jh st) alts).map fun st=>(.normal,st)
 |.lend d ks l=>match st.slots[d]? with
  |some (.row sz es)=>if st.stop.isNone then ((ops rec env l (st.freeze (.slot d))).bind (st.xH d ks sz es)).map fun st=>(.normal,st) else none
  |_=>none
 |.seq a b=>do
  let (e,st) ← rec a st
  match e with
  |.normal=>rec b st
  |e=>some (e,st)
 |.cond c a b=>do
  let .bool t ← st.dG c|none
  if t then rec a st else rec b st
 |.block id a=>do
  let (e,st) ← rec a st
  some (if e=.exit id then .normal else e,st)
 |.loop keep a=>rec (.round keep st.boxes.length a) st
 |.round keep nb a=>do
  let (e,st) ← rec a (← st.head keep nb)
  match e with
  |.normal=>rec (.round keep nb a) st
  |e=>some (e,st)
 |.rng g ps assign body=>ranged rec env g ps assign body st
 |.scp a=>rec a st
 |.clean pre post a=>do
  let st1 ← st.head pre st.boxes.length
  let (e,st2) ← rec a st1
  let st3 ← st2.head post st.boxes.length
  some (e,st3)
 |.exit id=>some (.exit id,st)
 |.ret=>some (.ret,st)
 |.Dk l d f args=>(ops rec env l st).bind fun st1=>(args.mapM st1.dG).bind fun vs=>(Fg rec env f vs).bind fun r=>match r with
  |some (t,n)=>some (.nJ t n,st1)
  |none=>(act rec env (.call d f args) st1).map fun st2=>(.normal,st2)
end
def vm (env:Env):Nat→ay→St→Option (Ex×St)
 |0,_,_=>none
 |n+1,c,st=>step (vm env n) env c st
def NH (env:Env)(n f:Nat)(args:List PV):Option (List nC):=jk (vm env n) env f args
end Go.Proofs.YtioijcfcehhmdaaGreatDoor
namespace Go.Proofs.YtioijcfcehhmdaaGreatDoor
open Go.RowKit
inductive qG where
 |ro
 |box (o:Nat)
 |row (r:Root)
 |other
 deriving DecidableEq
abbrev Tags:=Nat→qG
def dD (w:World)(b:Nat):Prop:=∃ arr E q,w.heap[b]?=some (.cells arr E q)
theorem dD.lt {w:World}{b:Nat}(h:dD w b):b<w.heap.size:=let ⟨_,_,_,h⟩:=h;(zz.1 h).1
theorem dD.same {w w':World}{b:Nat}(h:dD w b)(hw:w'.heap[b]?=w.heap[b]?):dD w' b:=let ⟨_,_,_,h⟩:=h;⟨_,_,_,hw.trans h⟩
inductive aA (ok:Nat→Prop)(w:World):PV→Value→Prop
 |int (k:IntKind) (n:Int):aA ok w (.int k n) (.int k n)
 |bool (b:Bool):aA ok w (.bool b) (.bool b)
 |str (s:ByteArray):aA ok w (.str s) (.string s)
 |uw:aA ok w .uw .nilFunc
 |void (v:Value):v.oneCell'=true→aA ok w .void v
 |nil (sz:Nat) (a:Option Addr):aA ok w (.list sz []) (.slice a 0 0)
 |l9 (sz:Nat) (a:Option Addr):aA ok w (.l9 sz) (.slice a 0 0)
 |list (sz:Nat) (es:List PV) (b off c:Nat) (cv:Nat→Nat→Value):ok b→dD w b→es.length≤c→c≤maxLen→(∀ e∈es,e.cells.length=sz) →
   (∀ i e j x,es[i]?=some e→e.cells[j]?=some x→w.cell? ⟨b,off+i*sz+j,none⟩=some (cv i j)∧(cv i j).oneCell'=true) →
   (∀ i e j x,es[i]?=some e→e.cells[j]?=some x→aA ok w x (cv i j))→aA ok w (.list sz es) (.slice (some ⟨b,off,none⟩) es.length c)
 |agg (cs:List PV) (arr:Array Value):arr.size=cs.length→(∀ (j:Nat) (v:Value),arr[j]?=some v→v.oneCell'=true)→(∀ (j:Nat) (x:PV) (v:Value),cs[j]?=some x→arr[j]?=some v→aA ok w x v)→aA ok w (.agg cs) (.agg arr)
 |func (f:Nat) (caps:List PV) (arr:Array Value):arr.size=caps.length→(∀ (j:Nat) (x:PV) (v:Value),caps[j]?=some x→arr[j]?=some v→aA ok w x v)→aA ok w (.func f caps) (.func (.func f) #[] arr)
 |dM (cs:List PV) (j b off:Nat) (cv:Nat→Value):ok b→dD w b→(∀ k x,cs[k]?=some x→w.cell? ⟨b,off+k,none⟩=some (cv k)∧(cv k).oneCell'=true) →
   (∀ k x,cs[k]?=some x→aA ok w x (cv k))→aA ok w (.dM cs j) (.pointer (some ⟨b,off+j,none⟩))
theorem aA.frame {ok ok':Nat→Prop}{w w':World}(hf:∀ b,ok b→b<w.heap.size→ok' b∧w'.heap[b]?=w.heap[b]?){x:PV}{v:Value}(h:aA ok w x v):aA ok' w' x v:=by
 induction h with
 |int k n=>exact .int k n
 |bool b=>exact .bool b
 |str s=>exact .str s
 |uw=>exact .uw
 |void v h=>exact .void v h
 |nil sz a=>exact .nil sz a
 |l9 sz a=>exact .l9 sz a
 |list sz es b off c cv h1 h2 h3 h4 h6 h7 h8 ih =>
  obtain ⟨g1,g2⟩:=hf b h1 h2.lt
  exact .list sz es b off c cv g1 (h2.same g2) h3 h4 h6 (fun i e j x hi hj=>by
   obtain ⟨k1,k2⟩:=h7 i e j x hi hj
   exact ⟨(World.cell?_of_block (w:=w) (a:=⟨b,_,none⟩) g2).trans k1,k2⟩) ih
 |agg cs arr h1 h2 h3 ih=>exact .agg cs arr h1 h2 ih
 |func f caps arr h1 h2 ih=>exact .func f caps arr h1 ih
 |dM cs j b off cv h1 h2 h3 h4 ih =>
  obtain ⟨g1,g2⟩:=hf b h1 h2.lt
  exact .dM cs j b off cv g1 (h2.same g2) (fun k x hk=>by
   obtain ⟨k1,k2⟩:=h3 k x hk
   exact ⟨(World.cell?_of_block (w:=w) (a:=⟨b,_,none⟩) g2).trans k1,k2⟩) ih
def aW (T:Tags)(w:World)(r:Root)(sz:Nat)(es:List PV)(v:Value):Prop :=
 (es=[]∧∃ a,v=.slice a 0 0) ∨
 ∃ b c arr E,v=.slice (some ⟨b,0,none⟩) es.length c∧T b=.row r∧w.heap[b]?=some (.cells arr E (0,0))∧arr.size=c*sz∧es.length≤c∧c≤maxLen∧(∀ e∈es,e.cells.length=sz) ∧
  ∀ i e j x,es[i]?=some e→e.cells[j]?=some x→∃ u,arr[i*sz+j]?=some u∧u.oneCell'=true∧aA (fun b=>T b=.ro) w x u
def rQ (T:Tags)(w w':World):Prop:=w.heap.size≤w'.heap.size∧∀ b,T b≠.other→b<w.heap.size→w'.heap[b]?=w.heap[b]?
theorem rQ.refl (T:Tags)(w:World):rQ T w w:=⟨ze _,fun _ _ _=>rfl⟩
theorem aA.sees {T T':Tags}{w w':World}(hw:∀ b,T b=.ro→b<w.heap.size→T' b=.ro∧w'.heap[b]?=w.heap[b]?){x:PV}{v:Value}(h:aA (fun b=>T b=.ro) w x v):aA (fun b=>T' b=.ro) w' x v :=
 h.frame hw
theorem aW.frame {T T':Tags}{w w':World}{r r':Root}{sz:Nat}{es:List PV}{v:Value}(hr:∀ b,T b=.row r→b<w.heap.size→T' b=.row r'∧w'.heap[b]?=w.heap[b]?)
  (hw:∀ b,T b=.ro→b<w.heap.size→T' b=.ro∧w'.heap[b]?=w.heap[b]?) (h:aW T w r sz es v):aW T' w' r' sz es v:=by
 rcases h with h|⟨b,c,arr,E,h1,h2,h3,h4,h5,h6,h7,h8⟩
 ·exact .inl h
 ·have hb:=(zz.1 h3).1
  obtain ⟨g1,g2⟩:=hr b h2 hb
  refine .inr ⟨b,c,arr,E,h1,g1,g2.trans h3,h4,h5,h6,h7,fun i e j x hi hj=>?_⟩
  obtain ⟨u,k1,k2,k3⟩:=h8 i e j x hi hj
  exact ⟨u,k1,k2,k3.frame hw⟩
theorem aW.list {T T':Tags}{w:World}{r:Root}{sz:Nat}{es:List PV}{v:Value}(hr:∀ b,T b=.row r→T' b=.ro)(hw:∀ b,T b=.ro→T' b=.ro)(h:aW T w r sz es v) :
  aA (fun b=>T' b=.ro) w (.list sz es) v:=by
 rcases h with ⟨rfl,a,rfl⟩|⟨b,c,arr,E,rfl,h2,h3,h4,h5,h6,h7,h8⟩
 ·exact .nil sz a
 ·have hb:=(zz.1 h3).1
  refine .list sz es b 0 c (fun i j=>arr.getD (i*sz+j) undef) (hr b h2) ⟨_,_,_,h3⟩ h5 h6 h7 (fun i e j x hi hj=>?_) fun i e j x hi hj=>?_
  ·obtain ⟨u,k1,k2,k3⟩:=h8 i e j x hi hj
   rw [cell_of_row w b _ arr E (0,0) h3,Zan,k1,ZaN,k1]
   exact ⟨rfl,k2⟩
  ·obtain ⟨u,k1,k2,k3⟩:=h8 i e j x hi hj
   rw [ZaN,k1]
   exact k3.frame fun b hb _=>⟨hw b hb,rfl⟩
def hdr (σ:Nat→Nat)(a:Act)(w:World):Root→Option Value
 |.slot t=>a.tmps[t]?
 |.cell o j=>w.cell? ⟨σ o,j,none⟩
 |.part _ _=>none
def NI (h:Option Value)(off len sz:Nat)(v:Value):Prop :=
 ∃ a n c a',h=some (.slice a n c)∧v=.slice a' len (c - off)∧(off=0→a'=a)∧(0<len→a'=a.map (·.add (off*sz)))∧∀ b o,a=some ⟨b,o,none⟩→∃ o',a'=some ⟨b,o',none⟩
def VE (h:Option Value)(i j sz:Nat)(v:Value):Prop :=
 ∃ b n c,h=some (.slice (some ⟨b,0,none⟩) n c)∧v=.pointer (some ⟨b,i*sz+j,none⟩)
def iO (nb:Nat)(σ:Nat→Nat)(T:Tags)(w:World):AV→Value→Prop
 |.pv x,v=>aA (fun b=>T b=.ro) w x v
 |.aO o j,v=>o<nb∧v=.pointer (some ⟨σ o,j,none⟩)
 |_,_=>False
def jD (T:Tags)(w:World)(t i:Nat):AV→Value→Prop
 |.pv x,v=>aA (fun b=>T b=.ro) w x v
 |.row sz es,v=>aW T w (.part t i) sz es v
 |.any,_=>True
 |_,_=>False
def Root.low (nb:Nat):Root→Prop
 |.cell o _=>o<nb
 |_=>True
theorem Root.low_mono {nb nb':Nat}(h:nb≤nb'){r:Root}(hr:r.low nb):r.low nb':=by
 cases r<;>simp only [Root.low] at hr ⊢
 omega
def an3 (k:Bool)(arr:Array Value):Value:=if k then .agg arr else .tuple arr
def lq (L:Nat)(σ:Nat→Nat)(T:Tags)(st:St)(a:Act)(w:World)(t:Nat):AV→Value→Prop
 |.pv x,v=>aA (fun b=>T b=.ro) w x v
 |.row sz es,v=>aW T w (.slot t) sz es v
 |.ref r off len,v=>r.low st.boxes.length∧∀ sz es,st.row r=some (sz,es)→NI (hdr σ a w r) off len sz v
 |.aO o j,v=>o<st.boxes.length∧v=.pointer (some ⟨σ o,j,none⟩)
 |.qx r i j,v=>r.low st.boxes.length∧∀ sz es,st.row r=some (sz,es)→VE (hdr σ a w r) i j sz v
 |.fn f caps,v=>∃ arr:Array Value,v=.func (.func f) #[] arr∧arr.size=caps.length∧∀ (k:Nat) x u,caps[k]?=some x→arr[k]?=some u→iO st.boxes.length σ T w x u
 |.lU k l,v=>∃ arr:Array Value,v=an3 k arr∧arr.size=l.length∧∀ (k:Nat) x u,l[k]?=some x→arr[k]?=some u→jD T w t k x u
 |.FX sz es,v=>aA (fun b=>T b=.ro) w (.list sz es) v∧∃ xa,v=.slice xa es.length es.length
 |.pp o j,v=>o<st.boxes.length∧∃ b E,v=.pointer (some ⟨b,0,none⟩)∧T b=.ro∧w.heap[b]?=some (.cells #[.pointer (some ⟨σ o,j,none⟩)] E (0,0))
 |.tq,v=>v=.func (.yield L) #[] #[]
 |.any,_=>True
def GX (T:Tags)(w:World)(o j:Nat):BV→Value→Prop
 |.pv x,u=>aA (fun b=>T b=.ro) w x u
 |.row sz es,u=>aW T w (.cell o j) sz es u
def eU (T:Tags)(w:World)(b o:Nat)(bx:Box):Prop :=
 ∃ arr E,w.heap[b]?=some (.cells arr E (0,0))∧arr.size=bx.cs.length∧T b=(if bx.fz then .ro else .box o)∧(bx.fz=true→∀ (j:Nat) sz es,bx.cs[j]?≠some (.row sz es)) ∧
  ∀ (j:Nat) bv u,bx.cs[j]?=some bv→arr[j]?=some u→u.oneCell'=true∧GX T w o j bv u
structure aV (L:Nat)(σ:Nat→Nat)(T:Tags)(st:St)(a:Act)(w:World):Prop where
 size:a.tmps.size=st.slots.length
 slots:∀ (t:Nat) av v,st.slots[t]?=some av→a.tmps[t]?=some v→lq L σ T st a w t av v
 boxes:∀ (o:Nat) bx,st.boxes[o]?=some bx→eU T w (σ o) o bx
 fresh:∀ b,w.heap.size≤b→T b=.other
structure zQ (T T':Tags)(w w':World):Prop where
 size:w.heap.size≤w'.heap.size
 os:w'.os=w.os
 tape:w'.tape=w.tape
 output:w'.output=w.output
 same:∀ b,b<w.heap.size→(T b=.ro∨T b=.other)→w'.heap[b]?=w.heap[b]?
 ro:∀ b,T b=.ro→T' b=.ro
 other:∀ b,b<w.heap.size→T b=.other→T' b=.other
theorem zQ.refl (T:Tags)(w:World):zQ T T w w:=⟨ze _,rfl,rfl,rfl,fun _ _ _=>rfl,fun _ h=>h,fun _ _ h=>h⟩
theorem zQ.trans {T T' T'':Tags}{a b c:World}(h:zQ T T' a b)(k:zQ T' T'' b c):zQ T T'' a c :=
 ⟨zr h.size k.size,k.os.trans h.os,k.tape.trans h.tape,k.output.trans h.output,
  fun i hi ht=>(k.same i (Zae hi h.size) (ht.imp (h.ro i) (h.other i hi))).trans (h.same i hi ht),
  fun i ht=>k.ro i (h.ro i ht),fun i hi ht=>k.other i (Zae hi h.size) (h.other i hi ht)⟩
section
variable {L:Nat}{σ:Nat→Nat}{T T':Tags}{st st':St}{a:Act}{w w':World}
theorem iO.frame {nb:Nat}(hw:∀ b,T b=.ro→b<w.heap.size→T' b=.ro∧w'.heap[b]?=w.heap[b]?){x:AV}{u:Value}(h:iO nb σ T w x u):iO nb σ T' w' x u:=by
 cases x<;>simp only [iO] at h ⊢<;>first|exact aA.frame hw h|exact h
theorem jD.frame {t i:Nat}{x:AV}{u:Value}(hr:(∃ s l,x=.row s l)→∀ b,T b=.row (.part t i)→b<w.heap.size→T' b=.row (.part t i)∧w'.heap[b]?=w.heap[b]?)(hw:∀ b,T b=.ro→b<w.heap.size→T' b=.ro∧w'.heap[b]?=w.heap[b]?)
  (h:jD T w t i x u):jD T' w' t i x u:=by
 cases x<;>simp only [jD] at h ⊢<;>first|exact aA.frame hw h|exact aW.frame (hr ⟨_,_,rfl⟩) hw h|exact h
theorem GX.frame {o j:Nat}(hr:∀ b,T b=.row (.cell o j)→b<w.heap.size→T' b=.row (.cell o j)∧w'.heap[b]?=w.heap[b]?)(hw:∀ b,T b=.ro→b<w.heap.size→T' b=.ro∧w'.heap[b]?=w.heap[b]?)
  {x:BV} {u:Value} (h:GX T w o j x u):GX T' w' o j x u:=by
 cases x<;>simp only [GX] at h ⊢<;>first|exact aA.frame hw h|exact aW.frame hr hw h
theorem eU.lt {b o:Nat}{bx:Box}(h:eU T w b o bx):b<w.heap.size:=let ⟨_,_,h1,_⟩:=h;(zz.1 h1).1
theorem eU.frame {b o:Nat}{bx:Box}(hb:T' b=T b∧w'.heap[b]?=w.heap[b]?)(hr:∀ j b,T b=.row (.cell o j)→b<w.heap.size→T' b=.row (.cell o j)∧w'.heap[b]?=w.heap[b]?)
  (hw:∀ b,T b=.ro→b<w.heap.size→T' b=.ro∧w'.heap[b]?=w.heap[b]?) (h:eU T w b o bx):eU T' w' b o bx:=by
 obtain ⟨arr,E,h1,h2,h3,h4,h5⟩:=h
 exact ⟨arr,E,hb.2.trans h1,h2,hb.1.trans h3,h4,fun j bv u hj hu=>⟨(h5 j bv u hj hu).1,(h5 j bv u hj hu).2.frame (hr j) hw⟩⟩
theorem aV.sees (h:aV L σ T st a w)(hs:rQ T w w'):aV L σ T st a w':=by
 have hb:∀ b q,T b=q→q≠.other→b<w.heap.size→T b=q∧w'.heap[b]?=w.heap[b]?:=fun b q e hq hl=>⟨e,hs.2 b (by rw [e];exact hq) hl⟩
 have hw:∀ b,T b=.ro→b<w.heap.size→T b=.ro∧w'.heap[b]?=w.heap[b]?:=fun b e hl=>hb b _ e (by simp) hl
 have hr:∀ r b,T b=.row r→b<w.heap.size→T b=.row r∧w'.heap[b]?=w.heap[b]?:=fun r b e hl=>hb b _ e (by simp) hl
 have hbox:∀ o bx,st.boxes[o]?=some bx→w'.heap[σ o]?=w.heap[σ o]?:=fun o bx ho=>by
  have k:=h.boxes o bx ho
  have hl:=k.lt
  obtain ⟨arr,E,h1,h2,h3,h4⟩:=k
  exact hs.2 _ (by rw [h3];split<;>simp) hl
 have hh:∀ r,(st.row r).isSome=true→hdr σ a w' r=hdr σ a w r:=fun r hr=>by
  cases r with
  |slot t=>rfl
  |part t i=>rfl
  |cell o j =>
   simp only [St.row] at hr
   cases ho:st.boxes[o]? with
   |none=>rw [ho] at hr;simp at hr
   |some bx=>exact World.cell?_of_block (w:=w) (a:=⟨σ o,j,none⟩) (hbox o bx ho)
 refine ⟨h.size,fun t av v ht hv=>?_,fun o bx ho=>(h.boxes o bx ho).frame ⟨rfl,hbox o bx ho⟩ (fun j=>hr _) hw,fun b hb=>h.fresh b (zr hs.1 hb)⟩
 have g:=h.slots t av v ht hv
 cases av<;>simp only [lq] at g ⊢
 case pv x=>exact aA.frame hw g
 case row sz es=>exact aW.frame (hr _) hw g
 case ref r off len=>exact ⟨g.1,fun sz es e=>by rw [hh r (by rw [e];rfl)];exact g.2 sz es e⟩
 case qx r i j=>exact ⟨g.1,fun sz es e=>by rw [hh r (by rw [e];rfl)];exact g.2 sz es e⟩
 case aO o j=>exact g
 case fn f caps =>
  obtain ⟨arr,e,h1,h2⟩:=g
  exact ⟨arr,e,h1,fun k x u hx hu=>(h2 k x u hx hu).frame hw⟩
 case lU l =>
  obtain ⟨arr,e,h1,h2⟩:=g
  exact ⟨arr,e,h1,fun k x u hx hu=>(h2 k x u hx hu).frame (fun _=>hr _) hw⟩
 case FX sz es=>exact ⟨aA.frame hw g.1,g.2⟩
 case pp o j =>
  obtain ⟨g0,b,E,e1,e2,e3⟩:=g
  have:=hw b e2 (zz.1 e3).1
  exact ⟨g0,b,E,e1,this.1,this.2.trans e3⟩
 case tq=>exact g
end
def AV.root?:AV→Option Root
 |.ref r _ _=>some r
 |.qx r _ _=>some r
 |_=>none
section
variable {L:Nat}{σ σ':Nat→Nat}{T T':Tags}{st st':St}{a a':Act}{w w':World}
theorem lq.keep {t:Nat}{av:AV}{v:Value}(h:lq L σ T st a w t av v)
  (hw:∀ b,T b=.ro→b<w.heap.size→T' b=.ro∧w'.heap[b]?=w.heap[b]?)
  (hr:∀ sz es,av=.row sz es→∀ b,T b=.row (.slot t)→b<w.heap.size→T' b=.row (.slot t)∧w'.heap[b]?=w.heap[b]?)
  (hp:∀ {k:Bool} l,av=.lU k l→∀ (i:Nat),(∃ s es,l[i]?=some (.row s es))→∀ b,T b=.row (.part t i)→b<w.heap.size→T' b=.row (.part t i)∧w'.heap[b]?=w.heap[b]?)
  (hd:∀ r,av.root?=some r→r.low st.boxes.length→∀ sz es,st'.row r=some (sz,es)→(∃ es0,st.row r=some (sz,es0))∧hdr σ' a' w' r=hdr σ a w r)
  (hb:st.boxes.length≤st'.boxes.length) (hσ:∀ o,o<st.boxes.length→σ' o=σ o):lq L σ' T' st' a' w' t av v:=by
 cases av<;>simp only [lq] at h ⊢
 case pv x=>exact aA.frame hw h
 case row sz es=>exact aW.frame (hr sz es rfl) hw h
 case ref r off len =>
  refine ⟨Root.low_mono hb h.1,fun sz es e=>?_⟩
  obtain ⟨⟨es0,e0⟩,e1⟩:=hd r rfl (h.1) sz es e
  rw [e1];exact h.2 sz es0 e0
 case qx r i j =>
  refine ⟨Root.low_mono hb h.1,fun sz es e=>?_⟩
  obtain ⟨⟨es0,e0⟩,e1⟩:=hd r rfl (h.1) sz es e
  rw [e1];exact h.2 sz es0 e0
 case aO o j=>exact ⟨Zae h.1 hb,by rw [hσ o h.1];exact h.2⟩
 case fn f caps =>
  obtain ⟨arr,e,h1,h2⟩:=h
  refine ⟨arr,e,h1,fun k x u hx hu=>?_⟩
  have g:=h2 k x u hx hu
  cases x<;>simp only [iO] at g ⊢
  case pv x=>exact aA.frame hw g
  case aO o j=>exact ⟨Zae g.1 hb,by rw [hσ o g.1];exact g.2⟩
 case lU k l =>
  obtain ⟨arr,e,h1,h2⟩:=h
  exact ⟨arr,e,h1,fun k x u hx hu=>(h2 k x u hx hu).frame (fun ⟨s,l',e⟩=>hp l rfl k ⟨s,l',by rw [hx,e]⟩) hw⟩
 case FX sz es=>exact ⟨aA.frame hw h.1,h.2⟩
 case pp o j =>
  obtain ⟨g0,b,E,e1,e2,e3⟩:=h
  have:=hw b e2 (zz.1 e3).1
  exact ⟨Zae g0 hb,b,E,e1,this.1,by rw [hσ o g0];exact this.2.trans e3⟩
 case tq=>exact h
theorem iR {tmps:Array Value}{d t:Nat}{x v:Value}(h:(tmps.setIfInBounds d x)[t]?=some v):(t=d∧v=x∧d<tmps.size)∨(t≠d∧tmps[t]?=some v):=by
 rw [Zbh] at h
 split at h
 ·rename_i e
  subst e
  split at h
  ·cases h;exact .inl ⟨rfl,rfl,by assumption⟩
  ·cases h
 ·exact .inr ⟨fun e=>by simp_all,h⟩
theorem dO {l:List AV}{d t:Nat}{x v:AV}(h:(l.set d x)[t]?=some v):(t=d∧v=x∧d<l.length)∨(t≠d∧l[t]?=some v):=by
 rw [zp] at h
 split at h
 ·rename_i e
  subst e
  split at h
  ·cases h;exact .inl ⟨rfl,rfl,by assumption⟩
  ·cases h
 ·exact .inr ⟨fun e=>by simp_all,h⟩
theorem iy {d:Nat}{x:AV}{r:Root}(hr:r≠.slot d):(st.put d x).row r=st.row r:=by
 cases r with
 |slot t =>
  have:t≠d:=fun e=>hr (by rw [e])
  simp only [St.row,St.put,zp,if_neg (Ne.symm this)]
 |part t i=>rfl
 |cell o j=>rfl
theorem jl {d:Nat}{x:AV}(hx:∀ sz es,x≠.row sz es):(st.put d x).row (.slot d)=none:=by
 simp only [St.row,St.put,zp,if_true]
 split
 ·rename_i h
  split at h
  ·cases h;exact absurd rfl (hx _ _)
  ·cases h
 ·rfl
theorem oK {d:Nat}{x:Value}{r:Root}(hr:r≠.slot d):hdr σ (a.put (some d) x) w r=hdr σ a w r:=by
 cases r with
 |slot t =>
  have:t≠d:=fun e=>hr (by rw [e])
  simp [hdr,Act.put,Zbh,Ne.symm this]
 |part t i=>rfl
 |cell o j=>rfl
theorem aV.put (h:aV L σ T st a w){d:Nat}{av:AV}{v:Value}(hav:∀ sz es,av≠.row sz es)(hrep:lq L σ T (st.put d av) (a.put (some d) v) w d av v):aV L σ T (st.put d av) (a.put (some d) v) w:=by
 refine ⟨by simp [Act.put,St.put,h.size],fun t x u hx hu=>?_,h.boxes,h.fresh⟩
 rcases dO hx with ⟨rfl,rfl,h1⟩|⟨h1,h2⟩
 ·rcases iR hu with ⟨_,rfl,_⟩|⟨h3,_⟩
  ·exact hrep
  ·exact absurd rfl h3
 ·rcases iR hu with ⟨h3,_⟩|⟨_,h4⟩
  ·exact absurd h3 h1
  ·refine (h.slots t x u h2 h4).keep (fun b e _=>⟨e,rfl⟩) (fun _ _ _ b e _=>⟨e,rfl⟩) (fun _ _ _ _ b e _=>⟨e,rfl⟩) (fun r hr _ sz es e=>?_) (ze _) (fun _ _=>rfl)
   by_cases hrd:r=.slot d
   ·subst hrd;rw [jl hav] at e;cases e
   ·rw [iy hrd] at e
    exact ⟨⟨es,e⟩,oK hrd⟩
theorem aV.AX (h:aV L σ T st a w){d:Nat}{x:PV}{v:Value}(hx:aA (fun b=>T b=.ro) w x v):aV L σ T (st.put d (.pv x)) (a.put (some d) v) w :=
 h.put (fun _ _ e=>by cases e) hx
theorem aV.ach (h:aV L σ T st a w){d:Nat}{v:Value}:aV L σ T (st.put d .any) (a.put (some d) v) w :=
 h.put (fun _ _ e=>by cases e) trivial
theorem aV.forget (h:aV L σ T st a w)(d:Nat):aV L σ T (st.put d .any) a w:=by
 refine ⟨by simp [St.put,h.size],fun t x u hx hu=>?_,h.boxes,h.fresh⟩
 rcases dO hx with ⟨rfl,rfl,h1⟩|⟨h1,h2⟩
 ·trivial
 ·refine (h.slots t x u h2 hu).keep (fun b e _=>⟨e,rfl⟩) (fun _ _ _ b e _=>⟨e,rfl⟩) (fun _ _ _ _ b e _=>⟨e,rfl⟩) (fun r hr _ sz es e=>?_) (ze _) (fun _ _=>rfl)
  by_cases hrd:r=.slot d
  ·subst hrd;rw [jl (fun _ _ e=>by cases e)] at e;cases e
  ·rw [iy hrd] at e
   exact ⟨⟨es,e⟩,rfl⟩
theorem qL {l:List AV}{f:AV→AV}{t:Nat}{v:AV}(h:(l.map f)[t]?=some v):∃ x,l[t]?=some x∧f x=v:=by
 rw [zb] at h
 cases e:l[t]? with
 |none=>rw [e] at h;cases h
 |some x=>rw [e] at h;exact ⟨x,rfl,ZD.inj h⟩
theorem VF (d:Nat)(x:AV):(x.kill d=.any)∨(x.kill d=x∧x.root?≠some (.slot d)):=by
 unfold AV.kill
 split
 ·exact .inl rfl
 ·rename_i hh
  refine .inr ⟨rfl,fun e=>hh ?_⟩
  cases x<;>simp only [AV.root?] at e<;>cases e<;>simp [AV.roots]
theorem xI (o:Nat)(x:AV):(x.dH o=.any)∨(x.dH o=x∧∀ j,x.root?≠some (.cell o j)):=by
 unfold AV.dH
 split
 ·exact .inl rfl
 ·rename_i hh
  refine .inr ⟨rfl,fun j e=>hh ?_⟩
  cases x<;>simp only [AV.root?] at e<;>cases e<;>simp [AV.yM]
theorem NJ (o j:Nat)(x:AV):(x.iU o j=.any)∨(x.iU o j=x∧x.root?≠some (.cell o j)):=by
 unfold AV.iU
 split
 ·exact .inl rfl
 ·rename_i hh
  refine .inr ⟨rfl,fun e=>hh ?_⟩
  cases x<;>simp only [AV.root?] at e<;>cases e<;>simp [AV.FY]
theorem aci {d:Nat}{sz:Nat}{es:List PV}{x:AV}(h:x.kill d=.row sz es):x=.row sz es:=by
 unfold AV.kill at h;split at h
 ·cases h
 ·exact h
theorem Kw {d sz:Nat}{es:List PV}{r:Root}(hr:r≠.slot d){s:Nat}{l:List PV}(h:(st.putRow d sz es).row r=some (s,l)):st.row r=some (s,l):=by
 cases r with
 |slot t =>
  have:t≠d:=fun e=>hr (by rw [e])
  simp only [St.row,St.putRow,zp,if_neg (Ne.symm this)] at h ⊢
  split at h
  ·rename_i h1
   obtain ⟨x,h2,h3⟩:=qL h1
   rw [h2,aci h3];exact h
  ·cases h
 |part t i=>exact h
 |cell o j=>exact h
theorem aV.putRow (h:aV L σ T st a w){d sz:Nat}{es:List PV}{v:Value}(hrow:aW T' w (.slot d) sz es v)
  (hro:∀ b,T b=.ro→T' b=.ro) (hbox:∀ b o,T b=.box o→T' b=.box o) (hoth:∀ b,w.heap.size≤b→T' b=.other)
  (hrows:∀ (t:Nat) s l,t≠d→st.slots[t]?=some (.row s l)→∀ b,T b=.row (.slot t)→T' b=.row (.slot t))
  (hparts:∀ {k:Bool} (t i:Nat) l,t≠d→st.slots[t]?=some (.lU k l)→(∃ s es,l[i]?=some (.row s es))→∀ b,T b=.row (.part t i)→T' b=.row (.part t i))
  (hcells:∀ (o j:Nat) b,T b=.row (.cell o j)→T' b=.row (.cell o j)) :
  aV L σ T' (st.putRow d sz es) (a.put (some d) v) w:=by
 refine ⟨by simp [Act.put,St.putRow,h.size],fun t x u hx hu=>?_,fun o bx ho=>?_,hoth⟩
 ·rcases dO hx with ⟨rfl,rfl,h1⟩|⟨h1,h2⟩
  ·rcases iR hu with ⟨_,rfl,_⟩|⟨h3,_⟩
   ·exact hrow
   ·exact absurd rfl h3
  ·rcases iR hu with ⟨h3,_⟩|⟨_,h4⟩
   ·exact absurd h3 h1
   ·obtain ⟨y,hy,rfl⟩:=qL h2
    rcases VF d y with e|⟨e,hne⟩
    ·rw [e];trivial
    ·rw [e]
     refine (h.slots t y u hy h4).keep (fun b e _=>⟨hro b e,rfl⟩) (fun s l e b hb _=>⟨hrows t s l h1 (by rw [hy,e]) b hb,rfl⟩) (fun l e i he b hb _=>⟨hparts t i l h1 (by rw [hy,e]) he b hb,rfl⟩) (fun r hr _ s l e=>?_) (ze _) (fun _ _=>rfl)
     have hrd:r≠.slot d:=fun e=>hne (by rw [hr,e])
     exact ⟨⟨l,Kw hrd e⟩,oK hrd⟩
 ·have hb:=h.boxes o bx ho
  have hT:T' (σ o)=T (σ o):=by
   obtain ⟨_,_,_,_,h3,_⟩:=hb
   rw [h3];split
   ·rename_i hf;exact hro _ (by rw [h3,if_pos hf])
   ·rename_i hf;exact hbox _ _ (by rw [h3,if_neg hf])
  exact hb.frame ⟨hT,rfl⟩ (fun j b e _=>⟨hcells o j b e,rfl⟩) (fun b e _=>⟨hro b e,rfl⟩)
def moved (T:Tags)(s d:Root):Tags:=fun b=>if T b=.row s then .row d else if T b=.row d then .other else T b
theorem iI {s d:Root}{b:Nat}(h:T b=.ro):moved T s d b=.ro:=by simp [moved,h]
theorem oL {s d:Root}{b o:Nat}(h:T b=.box o):moved T s d b=.box o:=by simp [moved,h]
theorem kU {s d:Root}{b:Nat}(h:T b=.other):moved T s d b=.other:=by simp [moved,h]
theorem rD {s d:Root}{b:Nat}(h:T b=.row s):moved T s d b=.row d:=by simp [moved,h]
theorem dQ {s d r:Root}{b:Nat}(h1:r≠s)(h2:r≠d)(h:T b=.row r):moved T s d b=.row r:=by simp [moved,h,h1,h2]
def sV (T:Tags)(r:Root):Tags:=fun b=>if T b=.row r then .ro else T b
theorem qM {r:Root}{b:Nat}(h:T b=.ro):sV T r b=.ro:=by simp [sV,h]
theorem xJ {r:Root}{b o:Nat}(h:T b=.box o):sV T r b=.box o:=by simp [sV,h]
theorem vP {r:Root}{b:Nat}(h:T b=.other):sV T r b=.other:=by simp [sV,h]
theorem AY {r:Root}{b:Nat}(h:T b=.row r):sV T r b=.ro:=by simp [sV,h]
theorem kV {r q:Root}{b:Nat}(h1:q≠r)(h:T b=.row q):sV T r b=.row q:=by simp [sV,h,h1]
structure Still (T T':Tags):Prop where
 ro:∀ b,T b=.ro→T' b=.ro
 other:∀ b,T b=.other→T' b=.other
theorem Still.refl (T:Tags):Still T T:=⟨fun _ h=>h,fun _ h=>h⟩
theorem Still.trans {T T' T'':Tags}(h:Still T T')(k:Still T' T''):Still T T'':=⟨fun b e=>k.ro b (h.ro b e),fun b e=>k.other b (h.other b e)⟩
theorem Still.pV {T T':Tags}(h:Still T T')(w:World):zQ T T' w w:=⟨ze _,rfl,rfl,rfl,fun _ _ _=>rfl,h.ro,fun b _ e=>h.other b e⟩
theorem Still.sees {T T':Tags}(h:Still T T'){w w':World}(hs:rQ T w w'):rQ T' w w':=⟨hs.1,fun b hb hl=>hs.2 b (fun e=>hb (h.other b e)) hl⟩
theorem Still.moved (T:Tags)(s d:Root):Still T (moved T s d):=⟨fun _=>iI,fun _=>kU⟩
theorem Still.sV (T:Tags)(r:Root):Still T (sV T r):=⟨fun _=>qM,fun _=>vP⟩
theorem aV.freeze (h:aV L σ T st a w)(r:Root):∃ T',aV L σ T' (st.freeze r) a w∧Still T T'∧(∀ b q,q≠r→T b=.row q→T' b=.row q)∧(∀ sz es,st.row r=some (sz,es)→∀ b,T b=.row r→T' b=.ro)∧(∀ b o,T b=.box o→T' b=.box o):=by
 unfold St.freeze
 cases hr:st.row r with
 |none=>exact ⟨T,h,Still.refl T,fun _ _ _ e=>e,(fun _ _ e=>by cases e),fun _ _ e=>e⟩
 |some p =>
  obtain ⟨sz,es⟩:=p
  refine ⟨sV T r,?_,Still.sV T r,fun b q hq e=>kV hq e,(fun _ _ _ b e=>AY e),fun b o e=>xJ e⟩
  have hw:∀ b,T b=.ro→b<w.heap.size→sV T r b=.ro∧w.heap[b]?=w.heap[b]?:=fun b e _=>⟨qM e,rfl⟩
  cases r with
  |part t i=>simp [St.row] at hr
  |slot d =>
   have hd:st.slots[d]?=some (.row sz es):=by
    simp only [St.row] at hr
    split at hr
    ·rename_i e;cases hr;exact e
    ·cases hr
   refine ⟨by simp [St.put,h.size],fun t x u hx hu=>?_,fun o bx ho=>?_,fun b hb=>vP (h.fresh b hb)⟩
   ·rcases dO hx with ⟨rfl,rfl,h1⟩|⟨h1,h2⟩
    ·exact aW.list (fun b e=>AY e) (fun b e=>qM e) (h.slots t _ u hd hu)
    ·refine (h.slots t x u h2 hu).keep hw (fun s l e b hb _=>⟨kV (by simpa using h1) hb,rfl⟩) (fun l e i _ b hb _=>⟨kV (by simp) hb,rfl⟩) (fun q hq _ s l e=>?_) (ze _) (fun _ _=>rfl)
     by_cases hrd:q=.slot d
     ·subst hrd;rw [jl (fun _ _ e=>by cases e)] at e;cases e
     ·rw [iy hrd] at e
      exact ⟨⟨l,e⟩,rfl⟩
   ·have hb:=h.boxes o bx ho
    have hT:sV T (.slot d) (σ o)=T (σ o):=by
     obtain ⟨_,_,_,_,h3,_⟩:=hb
     rw [h3];split
     ·rename_i hf;exact qM (by rw [h3,if_pos hf])
     ·rename_i hf;exact xJ (by rw [h3,if_neg hf])
    exact hb.frame ⟨hT,rfl⟩ (fun j b e _=>⟨kV (by simp) e,rfl⟩) hw
  |cell p q =>
   obtain ⟨bx0,hbx0,hfz,hq⟩:∃ bx,st.boxes[p]?=some bx∧bx.fz=false∧bx.cs[q]?=some (.row sz es):=by
    simp only [St.row] at hr
    split at hr
    ·rename_i bx hb
     split at hr
     ·cases hr
     ·rename_i hf
      split at hr
      ·rename_i e;cases hr;exact ⟨bx,hb,by simpa using hf,e⟩
      ·cases hr
    ·cases hr
   have hst:st.setCell p q (.pv (.list sz es))={ st with boxes:=st.boxes.set p { bx0 with cs:=bx0.cs.set q (.pv (.list sz es)) } }:=by simp [St.setCell,hbx0]
   simp only [hst]
   have hpl:p<st.boxes.length:=(Z6.1 hbx0).1
   refine ⟨h.size,fun t x u hx hu=>?_,fun o bx ho=>?_,fun b hb=>vP (h.fresh b hb)⟩
   ·refine (h.slots t x u hx hu).keep hw (fun s l e b hb _=>⟨kV (by simp) hb,rfl⟩) (fun l e i _ b hb _=>⟨kV (by simp) hb,rfl⟩) (fun r' hr' _ s l e=>?_) (by simp) (fun _ _=>rfl)
    refine ⟨?_,rfl⟩
    cases r' with
    |slot t'=>exact ⟨l,e⟩
    |part t' i=>exact ⟨l,e⟩
    |cell o j =>
     simp only [St.row,zp] at e ⊢
     by_cases hop:p=o
     ·subst hop
      simp only [if_true,if_pos hpl,hfz,zg,if_false,zp] at e
      simp only [hbx0,hfz,zg,if_false]
      by_cases hqj:q=j
      ·subst hqj
       simp only [if_true] at e
       split at e
       ·rename_i hh;split at hh<;>cases hh
       ·cases e
      ·simp only [if_neg hqj] at e;exact ⟨l,e⟩
     ·simp only [if_neg hop] at e;exact ⟨l,e⟩
   ·rw [zp] at ho
    by_cases hop:p=o
    ·subst hop
     simp only [if_true,if_pos hpl,ZD.injEq] at ho
     subst ho
     obtain ⟨arr,E,h1,h2,h3,h4,h5⟩:=h.boxes p bx0 hbx0
     have k3:sV T (.cell p q) (σ p)=.box p:=by
      simp only [hfz,zg,if_false] at h3;exact xJ h3
     refine ⟨arr,E,h1,by simpa using h2,by simpa [hfz] using k3,by simp [hfz],?_⟩
     intro j bv u hj hu
     ·have hj:(bx0.cs.set q (.pv (.list sz es)))[j]?=some bv:=hj
      rw [zp] at hj
      by_cases hqj:q=j
      ·subst hqj
       simp only [if_true] at hj
       split at hj
       ·cases hj
        obtain ⟨g1,g2⟩:=h5 q _ u hq hu
        exact ⟨g1,aW.list (fun b e=>AY e) (fun b e=>qM e) g2⟩
       ·cases hj
      ·rw [if_neg hqj] at hj
       obtain ⟨g1,g2⟩:=h5 j bv u hj hu
       exact ⟨g1,g2.frame (fun b e _=>⟨kV (by simpa using Ne.symm hqj) e,rfl⟩) hw⟩
    ·rw [if_neg hop] at ho
     have hb:=h.boxes o bx ho
     have hT:sV T (.cell p q) (σ o)=T (σ o):=by
      obtain ⟨_,_,_,_,h3,_⟩:=hb
      rw [h3];split
      ·rename_i hf;exact qM (by rw [h3,if_pos hf])
      ·rename_i hf;exact xJ (by rw [h3,if_neg hf])
     exact hb.frame ⟨hT,rfl⟩ (fun j b e _=>⟨kV (by intro e;cases e;exact hop rfl) e,rfl⟩) hw
end
def isFn (f:Nat):Fn→Bool
 |.func g=>f==g
 |_=>false
theorem Yo {f:Nat}{fn:Fn}(h:isFn f fn=true):fn=.func f:=by
 cases fn<;>simp [isFn] at h
 rw [h]
mutual
def isLit:PV→Value→Bool
 |.int k n,.int l m=>k==l&&n==m
 |.bool b,.bool c=>b==c
 |.str s,.string t=>decide (s.data=t.data)
 |.uw,.nilFunc=>true
 |.list _ [],.slice x n c=>x.isNone&&n==0&&c==0
 |.l9 _,.slice x n c=>x.isNone&&n==0&&c==0
 |.agg cs,.agg arr=>xK cs arr.toList
 |.func f [],.func fn first caps=>isFn f fn&&first.isEmpty&&caps.isEmpty
 |_,_=>false
def xK:List PV→List Value→Bool
 |[],[]=>true
 |c::cs,v::vs=>isLit c v&&v.oneCell'&&xK cs vs
 |_,_=>false
end
mutual
theorem Lh {ok:Nat→Prop}{w:World}:∀ {x:PV} {v:Value},isLit x v=true→aA ok w x v
 |.int k n,v,h=>by cases v<;>simp [isLit] at h;obtain ⟨rfl,rfl⟩:=h;exact .int _ _
 |.bool b,v,h=>by cases v<;>simp [isLit] at h;subst h;exact .bool _
 |.str s,v,h=>by
  cases v<;>simp [isLit] at h
  rename_i t
  have:s=t:=by cases s;cases t;simp_all
  subst this;exact .str _
 |.uw,v,h=>by cases v<;>simp [isLit] at h;exact .uw
 |.void,v,h=>by cases v<;>simp [isLit] at h
 |.dM cs j,v,h=>by cases v<;>simp [isLit] at h
 |.list sz [],v,h=>by
  cases v<;>simp [isLit] at h
  obtain ⟨⟨rfl,rfl⟩,rfl⟩:=h
  exact .nil _ _
 |.l9 sz,v,h=>by
  cases v<;>simp [isLit] at h
  obtain ⟨⟨rfl,rfl⟩,rfl⟩:=h
  exact .l9 _ _
 |.list sz (_::_),v,h=>by cases v<;>simp [isLit] at h
 |.func f (_::_),v,h=>by cases v<;>simp [isLit] at h
 |.func f [],v,h=>by
  cases v<;>simp [isLit] at h
  obtain ⟨⟨h1,rfl⟩,rfl⟩:=h
  rw [Yo h1]
  exact .func _ [] #[] rfl (fun j x v hj=>by simp at hj)
 |.agg cs,v,h=>by
  cases v<;>simp [isLit] at h
  rename_i arr
  obtain ⟨h1,h2⟩:=zS (ok:=ok) (w:=w) h
  refine .agg cs arr (by simpa using h1.symm) (fun j v hv=>(h2 j v (by simpa using hv)).1) (fun j x v hx hv=>(h2 j v (by simpa using hv)).2 x hx)
theorem zS {ok:Nat→Prop}{w:World}:∀ {cs:List PV} {vs:List Value},xK cs vs=true→cs.length=vs.length∧∀ (j:Nat) v,vs[j]?=some v→v.oneCell'=true∧∀ x,cs[j]?=some x→aA ok w x v
 |[],[],_=>⟨rfl,fun j v hv=>by simp at hv⟩
 |[],_::_,h=>by simp [xK] at h
 |_::_,[],h=>by simp [xK] at h
 |c::cs,v::vs,h=>by
  simp only [xK,ZZ] at h
  obtain ⟨⟨h1,h2⟩,h3⟩:=h
  obtain ⟨g1,g2⟩:=zS (ok:=ok) (w:=w) h3
  refine ⟨by simp [g1],fun j u hu=>?_⟩
  cases j with
  |zero =>
   simp only [Zak,ZD.injEq] at hu
   subst hu
   exact ⟨h2,fun x hx=>by simp only [Zak,ZD.injEq] at hx;subst hx;exact Lh h1⟩
  |succ j =>
   simp only [ZaH] at hu ⊢
   exact g2 j u hu
end
def akO (f:Nat):PV→Bool
 |.func g []=>f==g
 |_=>false
theorem ahd {f:Nat}{x:PV}(h:akO f x=true):x=.func f []:=by
 unfold akO at h
 split at h
 ·rw [beq_iff_eq.1 h]
 ·cases h
def bf:Operand→bU→Bool
 |.tmp n,.t m=>n==m
 |.const v,.c x=>isLit x v
 |.const v,.nil sz=>isLit (.list sz []) v
 |.func f,.c x=>akO f x
 |_,_=>false
section
variable {L:Nat}{σ σ':Nat→Nat}{T T':Tags}{st st':St}{a a':Act}{w w':World}
theorem aW.nil (T:Tags)(w:World)(r:Root)(sz:Nat)(x:Option Addr):aW T w r sz [] (.slice x 0 0):=.inl ⟨rfl,x,rfl⟩
theorem AZ {t:Nat}{v:Value}(h:a.tmps[t]?=some v):a.eval (.tmp t)=v:=by simp [Act.eval,ZaN,h]
theorem aV.get (h:aV L σ T st a w){y:Operand}{x:bU}(hm:bf y x=true):(∃ t,x=.t t∧(a.tmps[t]?=some (a.eval y)∧lq L σ T st a w t (st.get x) (a.eval y)∨st.get x=.any)) ∨
  (∃ v,x=.c v∧aA (fun b=>T b=.ro) w v (a.eval y))∨(∃ sz,x=.nil sz∧a.eval y=.slice none 0 0):=by
 cases y<;>cases x<;>simp [bf] at hm
 case tmp.t t m =>
  subst hm
  refine .inl ⟨t,rfl,?_⟩
  cases hs:st.slots[t]? with
  |none=>exact .inr (by simp [St.get,Zcn,hs])
  |some av =>
   have ht:t<a.tmps.size:=by rw [h.size];exact (Z6.1 hs).1
   have e:a.tmps[t]?=some a.tmps[t]:=zj ht
   rw [AZ e]
   refine .inl ⟨e,?_⟩
   have e2:st.get (.t t)=av:=by simp [St.get,Zcn,hs]
   rw [e2]
   exact h.slots t av _ hs e
 case const.c v x=>exact .inr (.inl ⟨x,rfl,Lh hm⟩)
 case const.nil v sz =>
  refine .inr (.inr ⟨sz,rfl,?_⟩)
  show v=_
  cases v<;>simp [isLit] at hm
  obtain ⟨⟨rfl,rfl⟩,rfl⟩:=hm
  rfl
 case func.c f x =>
  rw [ahd hm]
  exact .inr (.inl ⟨_,rfl,.func _ [] #[] rfl (fun j x v hj=>by simp at hj)⟩)
theorem aV.pv (h:aV L σ T st a w){y:Operand}{x:bU}(hm:bf y x=true){v:PV}(hv:st.dG x=some v):aA (fun b=>T b=.ro) w v (a.eval y):=by
 unfold St.dG at hv
 rcases h.get hm with ⟨t,rfl,(⟨_,g⟩|g)⟩|⟨v',rfl,g⟩|⟨sz,rfl,g⟩
 ·cases e:st.get (.t t)<;>rw [e] at hv g<;>simp at hv
  subst hv;exact g
 ·rw [g] at hv;cases hv
 ·simp [St.get] at hv;subst hv;exact g
 ·simp [St.get] at hv
end
def iZ (P:Program)(T:TypeId):Option Nat:=(P.info? T).map (·.size)
def rU (P:Program)(T:TypeId):Option (Option Nat) :=
 match P.underlying T with
 |some (.struct _)=>(iZ P T).map some
 |some (.array _ _)=>(iZ P T).map some
 |some _=>some none
 |none=>none
def iW (P:Program)(T:TypeId):Option Nat :=
 match P.underlying T with
 |some (.slice e)=>some e
 |_=>none
def Ky (P:Program)(T:TypeId):Option (Nat×Nat) :=
 match P.underlying T with
 |some (.array n e)=>some (n,e)
 |_=>none
def yN (P:Program)(S f:Nat):Option Field :=
 match P.underlying S with
 |some (.struct fs)=>fs[f]?
 |_=>none
theorem oM {P:Program}{T e:Nat}(h:iW P T=some e):P.underlying T=some (.slice e):=by
 unfold iW at h;split at h
 ·cases h;assumption
 ·cases h
theorem Yp {P:Program}{T n e:Nat}(h:Ky P T=some (n,e)):P.underlying T=some (.array n e):=by
 unfold Ky at h;split at h
 ·cases h;assumption
 ·cases h
theorem VG {P:Program}{S f:Nat}{fd:Field}(h:yN P S f=some fd):∃ fs,P.underlying S=some (.struct fs)∧fs[f]?=some fd:=by
 unfold yN at h;split at h
 ·exact ⟨_,by assumption,h⟩
 ·cases h
section
variable {P:Program}{w:World}
theorem pW {T n:Nat}(h:iZ P T=some n):(sizeOf T).run P w=.ok n w:=by
 obtain ⟨i,hi,rfl⟩:=Zat.1 h
 simp [sizeOf,typeInfo,hi]
theorem qN {T:Nat}(h:rU P T=some none):(isAgg T).run P w=.ok false w:=by
 unfold rU at h
 cases hu:P.underlying T with
 |none=>rw [hu] at h;cases h
 |some d =>
  rw [hu] at h
  unfold isAgg
  simp only [Sem.run_bind,run_underlying hu,Result.andThen_ok]
  cases d<;>simp only [Zat] at h<;>first|rfl|(obtain ⟨_,_,h⟩:=h;cases h)
theorem pz {T n:Nat}(h:rU P T=some (some n)):(isAgg T).run P w=.ok true w∧iZ P T=some n:=by
 unfold rU at h
 cases hu:P.underlying T with
 |none=>rw [hu] at h;cases h
 |some d =>
  rw [hu] at h
  unfold isAgg
  simp only [Sem.run_bind,run_underlying hu,Result.andThen_ok]
  cases d<;>simp only [Zat] at h
  all_goals first
   |(obtain ⟨m,hm,e⟩:=h;cases e;exact ⟨rfl,hm⟩)
   |cases h
def Mem (ok:Nat→Prop)(w:World)(b o:Nat)(cs:List PV):Prop:=∀ k x,cs[k]?=some x→∃ u,w.cell? ⟨b,o+k,none⟩=some u∧u.oneCell'=true∧aA ok w x u
theorem uU {ok:Nat→Prop}{b o T:Nat}{n:Option Nat}{cs:List PV}(hm:Mem ok w b o cs)(hc:rU P T=some n){j:Nat}{v:PV}(hp:part cs j n=some v) :
  ∃ u,(∀ w':World,w'.heap[b]?=w.heap[b]?→(loadVar T ⟨b,o+j,none⟩).run P w'=.ok u w')∧aA ok w v u∧(n=none→u.oneCell'=true):=by
 have hcell:∀ w':World,w'.heap[b]?=w.heap[b]?→∀ k,w'.cell? ⟨b,k,none⟩=w.cell? ⟨b,k,none⟩:=fun w' hw k=>World.cell?_of_block (w:=w) (a:=⟨b,k,none⟩) hw
 cases n with
 |none =>
  obtain ⟨u,h1,h2,h3⟩:=hm j v hp
  refine ⟨u,fun w' hw=>?_,h3,fun _=>h2⟩
  unfold loadVar
  simp only [Sem.run_bind,qN hc,Result.andThen_ok,zg,if_false]
  unfold load
  simp only [Sem.run,hcell w' hw,h1]
 |some n =>
  have hs:=(pz (w:=w) hc).2
  unfold part at hp
  simp only at hp
  split at hp
  case isFalse=>cases hp
  rename_i hl
  cases hp
  have hget:∀ k,k<n→∃ x u,cs[j+k]?=some x∧w.cell? ⟨b,o+(j+k),none⟩=some u∧u.oneCell'=true∧aA ok w x u:=fun k hk=>by
   have e:cs[j+k]?=some cs[j+k]:=ZS (by omega)
   obtain ⟨u,h1,h2,h3⟩:=hm _ _ e
   exact ⟨_,u,e,h1,h2,h3⟩
  let us:List Value:=(Zar n).map fun k=>(w.cell? ⟨b,o+(j+k),none⟩).getD undef
  have hus:∀ k v,us[k]?=some v→k<n∧w.cell? ⟨b,o+(j+k),none⟩=some v:=fun k v hv=>by
   have hk:k<n:=by have:=(Z6.1 hv).1;simpa [us] using this
   simp only [us,zb,Zcj hk,Zah,ZD.injEq] at hv
   obtain ⟨x,u,_,h1,_⟩:=hget k hk
   rw [h1] at hv ⊢
   exact ⟨hk,by rw [← hv];rfl⟩
  have hlen:us.length=n:=by simp [us]
  refine ⟨.agg us.toArray,fun w' hw=>?_,.agg _ _ (by simp [us];omega) (fun k v hv=>?_) (fun k x v hx hv=>?_),fun e=>by cases e⟩
  ·have hl2:=run_loadCells_list (P:=P) (w:=w') ⟨b,o+j,none⟩ us (fun k v hv=>by
    rw [Addr.add_lit,hcell w' hw,Zbs];exact (hus k v hv).2)
   rw [hlen] at hl2
   unfold loadVar
   simp only [Sem.run_bind,(pz (w:=w') hc).1,Result.andThen_ok,if_true,pW hs,hl2]
   rfl
  ·obtain ⟨hk,h1⟩:=hus k v (by simpa using hv)
   obtain ⟨x,u,_,h2,h3,_⟩:=hget k hk
   rw [h1] at h2;cases h2;exact h3
  ·obtain ⟨hk,h1⟩:=hus k v (by simpa using hv)
   obtain ⟨y,u,h0,h2,_,h4⟩:=hget k hk
   rw [h1] at h2;cases h2
   rw [Zaq,if_pos hk,ZaP,h0] at hx
   cases hx;exact h4
end
section
variable {P:Program}{L:Nat}{σ:Nat→Nat}{T T':Tags}{st st' st1:St}{a:Act}{w:World}{o:Oper}{d n:Nat}{x:bU}{y:Operand}
def Looks (P:Program)(L:Nat)(σ:Nat→Nat)(T:Tags)(st':St)(a:Act)(w:World)(o:Oper):Prop :=
 ∃ v T',(∀ w',rQ T w w'→(execOp a.eval o).run P w'=.ok (.value v) w')∧aV L σ T' st' (a.put o.dst v) w∧Still T T'
structure Even (T T':Tags):Prop where
 still:Still T T'
 back:∀ b,T' b=.ro→T b=.ro
theorem Even.refl (T:Tags):Even T T:=⟨Still.refl T,fun _ h=>h⟩
theorem Even.moved (T:Tags)(s d:Root):Even T (moved T s d):=⟨Still.moved T s d,fun b h=>by
 unfold Go.Proofs.YtioijcfcehhmdaaGreatDoor.moved at h
 split at h
 ·cases h
 ·split at h
  ·cases h
  ·exact h⟩
def sW (P:Program)(L:Nat)(σ:Nat→Nat)(T:Tags)(st':St)(a:Act)(w:World)(o:Oper):Prop :=
 ∃ v T',(∀ w',(execOp a.eval o).run P w'=.ok (.value v) w')∧aV L σ T' st' (a.put o.dst v) w∧Even T T'
def Yq (P:Program)(L:Nat)(σ:Nat→Nat)(T:Tags)(st':St)(a:Act)(w:World)(o:Oper):Prop :=
 ∃ v T',(∀ w',(execOp a.eval o).run P w'=.ok (.value v) w')∧aV L σ T' st' (a.put o.dst v) w∧Still T T'
theorem Yq.looks (h:Yq P L σ T st' a w o):Looks P L σ T st' a w o:=by
 obtain ⟨v,T',h1,h2,h3⟩:=h
 exact ⟨v,T',fun w' _=>h1 w',h2,h3⟩
theorem sW.looks (h:sW P L σ T st' a w o):Looks P L σ T st' a w o:=by
 obtain ⟨v,T',h1,h2,h3⟩:=h
 exact ⟨v,T',fun w' _=>h1 w',h2,h3.still⟩
theorem lq.copy {t:Nat}{av:AV}{v:Value}(h:lq L σ T st a w t av v)(h1:∀ sz es,av≠.row sz es)(h2:∀ {k:Bool} l,av≠.lU k l)(u:Value):lq L σ T (st.put d av) (a.put (some d) u) w d av v:=by
 have g:lq L σ T (st.put d av) (a.put (some d) u) w t av v:=h.keep (fun b e _=>⟨e,rfl⟩) (fun _ _ e=>absurd e (h1 _ _)) (fun _ e=>absurd e (h2 _)) (fun r hr _ sz es e=>by
  by_cases hrd:r=.slot d
  ·subst hrd;rw [jl h1] at e;cases e
  ·rw [iy hrd] at e;exact ⟨⟨es,e⟩,oK hrd⟩) (ze _) (fun _ _=>rfl)
 cases av<;>first|exact g|exact absurd rfl (h1 _ _)|exact absurd rfl (h2 _)
theorem aV.turn (h:aV L σ T st a w){n:Nat}{av:AV}(hav:∀ sz es,av≠.row sz es)(hrep:∀ v,a.tmps[n]?=some v→lq L σ T (st.put n av) a w n av v):aV L σ T (st.put n av) a w:=by
 refine ⟨by simp [St.put,h.size],fun t x u hx hu=>?_,h.boxes,h.fresh⟩
 rcases dO hx with ⟨rfl,rfl,h1⟩|⟨h1,h2⟩
 ·exact hrep u hu
 ·refine (h.slots t x u h2 hu).keep (fun b e _=>⟨e,rfl⟩) (fun _ _ _ b e _=>⟨e,rfl⟩) (fun _ _ _ _ b e _=>⟨e,rfl⟩) (fun r hr _ sz es e=>?_) (ze _) (fun _ _=>rfl)
  by_cases hrd:r=.slot n
  ·subst hrd;rw [jl hav] at e;cases e
  ·rw [iy hrd] at e
   exact ⟨⟨es,e⟩,rfl⟩
theorem fZ {t sz:Nat}{es:List PV}(hr:st.row (.slot t)=some (sz,es)):st.slots[t]?=some (.row sz es):=by
 simp only [St.row] at hr
 split at hr
 ·rename_i e;cases hr;exact e
 ·cases hr
theorem dZ {p q sz:Nat}{es:List PV}(hr:st.row (.cell p q)=some (sz,es)):∃ bx,st.boxes[p]?=some bx∧bx.fz=false∧bx.cs[q]?=some (.row sz es):=by
 simp only [St.row] at hr
 split at hr
 ·rename_i bx hb
  split at hr
  ·cases hr
  ·rename_i hf
   split at hr
   ·rename_i e;cases hr;exact ⟨bx,hb,by simpa using hf,e⟩
   ·cases hr
 ·cases hr
theorem aV.vS (h:aV L σ T st a w){r:Root}{sz:Nat}{es:List PV}(hr:st.row r=some (sz,es)):∃ v,hdr σ a w r=some v∧aW T w r sz es v:=by
 cases r with
 |part t i=>simp [St.row] at hr
 |slot t =>
  have hs:=fZ hr
  have ht:t<a.tmps.size:=by rw [h.size];exact (Z6.1 hs).1
  exact ⟨a.tmps[t],zj ht,h.slots t _ _ hs (zj ht)⟩
 |cell p q =>
  obtain ⟨bx,h1,h2,h3⟩:=dZ hr
  obtain ⟨arr,E,g1,g2,g3,g4,g5⟩:=h.boxes p bx h1
  have hq:q<arr.size:=by rw [g2];exact (Z6.1 h3).1
  exact ⟨arr[q],by simp only [hdr];rw [cell_of_row w _ _ arr E (0,0) g1,zj hq],(g5 q _ _ h3 (zj hq)).2⟩
theorem aW.slice {r:Root}{sz:Nat}{es:List PV}{v:Value}(h:aW T w r sz es v):∃ x c,v=.slice x es.length c∧es.length≤c∧c≤maxLen∧(0<es.length→∃ b,x=some ⟨b,0,none⟩∧T b=.row r∧dD w b∧(∀ e∈es,e.cells.length=sz)∧∀ i e,es[i]?=some e→Mem (fun b=>T b=.ro) w b (i*sz) e.cells):=by
 rcases h with ⟨rfl,x,rfl⟩|⟨b,c,arr,E,rfl,h2,h3,h4,h5,h6,h7,h8⟩
 ·exact ⟨x,0,rfl,ze _,ZaM _,fun h=>by simp at h⟩
 ·refine ⟨_,c,rfl,h5,h6,fun _=>⟨b,rfl,h2,⟨_,_,_,h3⟩,h7,fun i e hi k x hk=>?_⟩⟩
  obtain ⟨u,g1,g2,g3⟩:=h8 i e k x hi hk
  exact ⟨u,by rw [cell_of_row w b _ arr E (0,0) h3,g1],g2,g3⟩
theorem ahe {ρ:Operand→Value}(ho:o.op=.move y∨o.op=.assign y)(w:World):(execOp ρ o).run P w=.ok (.value (ρ y)) w:=by
 rcases ho with ho|ho<;>simp [execOp,ho]
theorem aV.transfer (h:aV L σ T st a w){sz:Nat}{es:List PV}(hn:st.slots[n]?=some (.row sz es)):aV L σ (moved T (.slot n) (.slot d)) ((st.put n .any).putRow d sz es) (a.put (some d) (a.eval (.tmp n))) w:=by
 have ht:n<a.tmps.size:=by rw [h.size];exact (Z6.1 hn).1
 have e:a.tmps[n]?=some a.tmps[n]:=zj ht
 have hr:=h.slots n _ _ hn e
 rw [AZ e]
 refine (h.forget n).putRow (aW.frame (fun b e _=>⟨rD e,rfl⟩) (fun b e _=>⟨iI e,rfl⟩) hr) (fun b e=>iI e) (fun b o e=>oL e) (fun b hb=>kU (h.fresh b hb)) (fun t s l ht hs b e=>?_) (fun t i l _ _ _ b e=>dQ (by simp) (by simp) e) (fun o j b e=>dQ (by simp) (by simp) e)
 have htn:t≠n:=fun e=>by
  subst e
  simp only [St.put,zp,if_true] at hs
  split at hs<;>cases hs
 exact dQ (by simpa using htn) (by simpa using ht) e
theorem aV.newRow (h:aV L σ T st a w){sz:Nat}{x:Option Addr}:aV L σ T (st.putRow d sz []) (a.put (some d) (.slice x 0 0)) w :=
 h.putRow (aW.nil _ _ _ _ _) (fun _ e=>e) (fun _ _ e=>e) h.fresh (fun _ _ _ _ _ _ e=>e) (fun _ _ _ _ _ _ _ e=>e) (fun _ _ _ e=>e)
def iC (T:Tags)(s d:Nat):Tags:=fun b=>match T b with
 |.row (.part t i)=>if t=s then .row (.part d i) else if t=d then .other else .row (.part t i)
 |q=>q
theorem aV.Zz (h:aV L σ T st a w){kk:Bool}{l:List AV}(hn:st.slots[n]?=some (.lU kk l)):aV L σ (iC T n d) ((st.put n .any).put d (.lU kk l)) (a.put (some d) (a.eval (.tmp n))) w:=by
 have ht:n<a.tmps.size:=by rw [h.size];exact (Z6.1 hn).1
 have e:a.tmps[n]?=some a.tmps[n]:=zj ht
 obtain ⟨arr,e1,e2,e3⟩:=h.slots n _ _ hn e
 rw [AZ e]
 have hro:∀ b,T b=.ro→iC T n d b=.ro:=fun b e=>by simp [iC,e]
 have hbox:∀ b o,T b=.box o→iC T n d b=.box o:=fun b o e=>by simp [iC,e]
 have hoth:∀ b,T b=.other→iC T n d b=.other:=fun b e=>by simp [iC,e]
 have acj:∀ b t,T b=.row (.slot t)→iC T n d b=.row (.slot t):=fun b o e=>by simp [iC,e]
 have hcell:∀ b p q,T b=.row (.cell p q)→iC T n d b=.row (.cell p q):=fun b p q e=>by simp [iC,e]
 have hw:∀ b,T b=.ro→b<w.heap.size→iC T n d b=.ro∧w.heap[b]?=w.heap[b]?:=fun b e _=>⟨hro b e,rfl⟩
 refine ⟨by simp [Act.put,St.put,h.size],fun t x u hx hu=>?_,fun o bx ho=>?_,fun b hb=>hoth b (h.fresh b hb)⟩
 ·rcases dO hx with ⟨rfl,rfl,h1⟩|⟨h1,h2⟩
  ·rcases iR hu with ⟨_,rfl,_⟩|⟨h3,_⟩
   ·refine ⟨arr,e1,e2,fun k x u hk hu=>?_⟩
    have g:=e3 k x u hk hu
    cases x<;>simp only [jD] at g ⊢
    ·exact aA.frame hw g
    ·exact aW.frame (fun b e _=>⟨by simp [iC,e],rfl⟩) hw g
   ·exact absurd rfl h3
  ·rcases iR hu with ⟨h3,_⟩|⟨_,h4⟩
   ·exact absurd h3 h1
   ·rcases dO h2 with ⟨rfl,rfl,_⟩|⟨h5,h6⟩
    ·trivial
    ·refine (h.slots t x u h6 h4).keep hw (fun s l e b hb _=>⟨acj b _ hb,rfl⟩) (fun l e i _ b hb _=>⟨by simp [iC,hb,h5,h1],rfl⟩) (fun r hr _ sz es e=>?_) (ze _) (fun _ _=>rfl)
     by_cases hrd:r=.slot d
     ·subst hrd;rw [jl (fun _ _ e=>by cases e)] at e;cases e
     ·rw [iy hrd] at e
      by_cases hrn:r=.slot n
      ·subst hrn;rw [jl (fun _ _ e=>by cases e)] at e;cases e
      ·rw [iy hrn] at e
       exact ⟨⟨es,e⟩,oK hrd⟩
 ·have hb:=h.boxes o bx ho
  have hT:iC T n d (σ o)=T (σ o):=by
   obtain ⟨_,_,_,_,h3,_⟩:=hb
   rw [h3];split
   ·rename_i hf;exact hro _ (by rw [h3,if_pos hf])
   ·rename_i hf;exact hbox _ _ (by rw [h3,if_neg hf])
  exact hb.frame ⟨hT,rfl⟩ (fun j b e _=>⟨hcell b _ _ e,rfl⟩) hw
theorem Still.iC (T:Tags)(n d:Nat):Still T (iC T n d):=⟨fun b e=>by simp [Go.Proofs.YtioijcfcehhmdaaGreatDoor.iC,e],fun b e=>by simp [Go.Proofs.YtioijcfcehhmdaaGreatDoor.iC,e]⟩
theorem mV {t:Nat}{av:AV}(h:st.get (.t t)=av)(hne:av≠.any):st.slots[t]?=some av:=by
 simp only [St.get,Zcn] at h
 cases e:st.slots[t]? with
 |none=>rw [e] at h;exact absurd h.symm hne
 |some x=>rw [e] at h;exact congrArg _ h
theorem Even.iC (T:Tags)(s d:Nat):Even T (iC T s d):=⟨Still.iC T s d,fun b h=>by
 unfold Go.Proofs.YtioijcfcehhmdaaGreatDoor.iC at h
 cases e:T b with
 |row r=>rw [e] at h;cases r<;>simp only [reduceCtorEq] at h<;>(split at h<;>first|cases h|(split at h<;>cases h))
 |_=>simp_all⟩
theorem A8 (h:aV L σ T st a w)(hd:o.dst=some d)(ho:o.op=.move y∨o.op=.assign y)(hm:bf y x=true)(vM:Bool)(hp:plain (if vM then .aN d x else .ak d x) st=some st'):sW P L σ T st' a w o:=by
 have hrun:∀ w',(execOp a.eval o).run P w'=.ok (.value (a.eval y)) w':=fun w'=>ahe ho w'
 rcases h.get hm with ⟨t,rfl,hg⟩|⟨v,rfl,hv⟩|⟨sz,rfl,hv⟩
 ·have ey:a.eval y=a.eval (.tmp t):=by
   cases y<;>simp [bf] at hm
   rw [hm]
  cases e:st.get (.t t) with
  |row sz es =>
   have hs:=mV e (by simp)
   cases vM with
   |true =>
    have hp':((st.put t .any).putRow d sz es)=st':=by simpa [plain,e] using hp
    subst hp'
    refine ⟨_,moved T (.slot t) (.slot d),hrun,?_,Even.moved _ _ _⟩
    rw [hd,ey];exact h.transfer hs
   |false =>
    have hp':st.put d (.ref (.slot t) 0 es.length)=st':=by simpa [plain,e] using hp
    subst hp'
    refine ⟨_,T,hrun,?_,Even.refl _⟩
    rw [hd]
    refine h.put (fun _ _ e=>by cases e) ⟨trivial,?_⟩
    intro s l hl
    by_cases htd:t=d
    ·subst htd;rw [jl (fun _ _ e=>by cases e)] at hl;cases hl
    ·have hne:(Root.slot t)≠.slot d:=by simpa using htd
     rw [iy hne] at hl
     rw [oK hne]
     obtain ⟨v,h1,h2⟩:=h.vS hl
     have:=fZ hl
     rw [hs] at this;cases this
     obtain ⟨x,c,rfl,_,_,_⟩:=h2.slice
     have h3:a.eval y=.slice x es.length c:=by rw [ey];exact AZ h1
     exact ⟨x,_,c,x,h1,by rw [h3];simp,fun _=>rfl,fun _=>by cases x<;>simp [Addr.add],fun b o e=>⟨o,e⟩⟩
  |lU k l =>
   have hs:=mV e (by simp)
   have hp':((st.put t .any).put d (.lU k l))=st':=by cases vM<;>simpa [plain,e] using hp
   subst hp'
   refine ⟨_,Go.Proofs.YtioijcfcehhmdaaGreatDoor.iC T t d,hrun,?_,Even.iC _ _ _⟩
   rw [hd,ey];exact h.Zz hs
  |any =>
   have hp':st.put d .any=st':=by cases vM<;>simpa [plain,e] using hp
   subst hp'
   exact ⟨_,T,hrun,by rw [hd];exact h.ach,Even.refl _⟩
  |_ =>
   have hg':lq L σ T st a w t (st.get (.t t)) (a.eval y):=by
    rcases hg with ⟨_,hg⟩|hg
    ·exact hg
    ·rw [e] at hg;cases hg
   rw [e] at hg'
   have hp':st.put d (st.get (.t t))=st':=by cases vM<;>simpa [plain,e] using hp
   subst hp'
   refine ⟨_,T,hrun,?_,Even.refl _⟩
   rw [hd,e]
   exact h.put (fun _ _ e=>by cases e) (hg'.copy (fun _ _ e=>by cases e) (fun _ e=>by cases e) _)
 ·have hp':st.put d (.pv v)=st':=by cases vM<;>simpa [plain,St.get] using hp
  subst hp'
  exact ⟨_,T,hrun,by rw [hd];exact h.AX hv,Even.refl _⟩
 ·have hp':st.putRow d sz []=st':=by cases vM<;>simpa [plain,St.get] using hp
  subst hp'
  exact ⟨_,T,hrun,by rw [hd,hv];exact h.newRow,Even.refl _⟩
theorem Dq (h:aV L σ T st a w)(hd:o.dst=some d)(ho:o.op=.move y∨o.op=.assign y)(hm:bf y x=true)(vM:Bool)(hp:plain (if vM then .aN d x else .ak d x) st=some st'):Looks P L σ T st' a w o:=(A8 h hd ho hm vM hp).looks
end
section
variable {P:Program}{L:Nat}{σ:Nat→Nat}{T T':Tags}{st st' st1:St}{a:Act}{w:World}{o:Oper}{d n:Nat}{x x2:bU}{y y2:Operand}
theorem GY (h:aV L σ T st a w)(hd:o.dst=some d){v:PV}{u:Value}(hrun:∀ w',rQ T w w'→(execOp a.eval o).run P w'=.ok (.value u) w')(hv:aA (fun b=>T b=.ro) w v u):Looks P L σ T (st.put d (.pv v)) a w o :=
 ⟨u,T,hrun,by rw [hd];exact h.AX hv,Still.refl _⟩
theorem gW (h:aV L σ T st a w)(hd:o.dst=some d){v:PV}{u:Value}(hrun:∀ w',(execOp a.eval o).run P w'=.ok (.value u) w')(hv:aA (fun b=>T b=.ro) w v u):sW P L σ T (st.put d (.pv v)) a w o :=
 ⟨u,T,hrun,by rw [hd];exact h.AX hv,Even.refl _⟩
theorem aA.bP {ok:Nat→Prop}{k:IntKind}{n:Int}{u:Value}(h:aA ok w (.int k n) u):u=.int k n:=by cases h;rfl
theorem aA.iJ {ok:Nat→Prop}{b:Bool}{u:Value}(h:aA ok w (.bool b) u):u=.bool b:=by cases h;rfl
theorem aA.Yr {ok:Nat→Prop}{s:ByteArray}{u:Value}(h:aA ok w (.str s) u):u=.string s:=by cases h;rfl
theorem aA.lW {ok:Nat→Prop}{cs:List PV}{u:Value}(h:aA ok w (.agg cs) u):∃ arr:Array Value,u=.agg arr∧arr.size=cs.length∧(∀ (j:Nat) (v:Value),arr[j]?=some v→v.oneCell'=true)∧∀ (j:Nat) (x:PV) (v:Value),cs[j]?=some x→arr[j]?=some v→aA ok w x v:=by
 cases h with
 |agg cs arr h1 h2 h3=>exact ⟨arr,rfl,h1,h2,h3⟩
theorem bind_some {α β:Type}{x:Option α}{f:α→Option β}{y:β}(h:(x >>= f)=some y):∃ z,x=some z∧f z=some y:=by
 cases x with
 |none=>cases h
 |some z=>exact ⟨z,rfl,h⟩
theorem Lj {c:bU}{yc:Operand}(h:aV L σ T st a w)(hd:o.dst=some d)(ho:o.op=.pick yc y y2)(hmc:bf yc c=true)(hm:bf y x=true)(hm2:bf y2 x2=true)(hp:plain (.pick d c x x2) st=some st'):sW P L σ T st' a w o:=by
 simp only [plain] at hp
 obtain ⟨cv,h1,hp⟩:=bind_some hp
 cases cv<;>simp only [reduceCtorEq] at hp
 rename_i b
 obtain ⟨v,h2,hp⟩:=bind_some hp
 cases hp
 have hb:=(h.pv hmc h1).iJ
 refine gW h hd (u:=if b then a.eval y else a.eval y2) (fun w'=>?_) ?_
 ·simp [execOp,ho,hb,asBool]
 ·cases b
  ·exact h.pv hm2 (by simpa using h2)
  ·exact h.pv hm (by simpa using h2)
theorem VH {c:bU}{yc:Operand}(h:aV L σ T st a w)(hd:o.dst=some d)(ho:o.op=.pick yc y y2)(hmc:bf yc c=true)(hm:bf y x=true)(hm2:bf y2 x2=true)(hp:plain (.pick d c x x2) st=some st'):Looks P L σ T st' a w o:=(Lj h hd ho hmc hm hm2 hp).looks
theorem VI {T:TypeId}{b:BinOp}{k l:IntKind}{m n:Int}{v:PV}(hkl:(b=.shl∨b=.shr)∨k=l)(hb:iw b k m n=some v):∃ u,(∀ w,(Go.binOp b T (.int k m) (.int l n)).run P w=.ok u w)∧∀ ok w,aA ok w v u:=by
 have hi:∀ k n,∀ ok w,aA ok w (.int k n) (.int k n):=fun k n ok w=>.int k n
 have hbo:∀ b,∀ ok w,aA ok w (.bool b) (.bool b):=fun b ok w=>.bool b
 cases b<;>simp only [iw] at hb
 case shl =>
  split at hb
  ·cases hb
  ·rename_i hn;cases hb;exact ⟨_,fun w=>by simp [Go.binOp,Op.shift,hn],hi _ _⟩
 case shr =>
  split at hb
  ·cases hb
  ·rename_i hn;cases hb;exact ⟨_,fun w=>by simp [Go.binOp,Op.shift,hn],hi _ _⟩
 all_goals
  have hk:k=l:=hkl.resolve_left (by simp)
  subst hk
 case quo =>
  split at hb
  ·cases hb
  ·rename_i hn;cases hb;exact ⟨_,fun w=>by simp [Go.binOp,Op.intDiv,hn],hi _ _⟩
 case rem =>
  split at hb
  ·cases hb
  ·rename_i hn;cases hb;exact ⟨_,fun w=>by simp [Go.binOp,Op.intDiv,hn],hi _ _⟩
 all_goals
  cases hb
  first
   |exact ⟨_,fun w=>by simp only [Go.binOp,ne_eq,not_true_eq_false,if_false,Op.intArith];rfl,hi _ _⟩
   |exact ⟨_,fun w=>by simp only [Go.binOp,ne_eq,not_true_eq_false,if_false,Op.intBits];rfl,hi _ _⟩
   |exact ⟨_,fun w=>by simp only [Go.binOp,ne_eq,not_true_eq_false,if_false,Op.intCmp];rfl,hbo _⟩
def zU (P:Program)(T:TypeId):Bool :=
 match P.underlying T with
 |some (.int _)=>iZ P T==some 1
 |_=>false
def Ba (P:Program):Nat→List Field→Bool
 |_,[]=>true
 |k,f :: fs=>f.name != "_"&&f.offset==k&&zU P f.type&&Ba P (k+1) fs
def acn (P:Program)(T:TypeId):Bool :=
 match P.underlying T with
 |some (.struct fs)=>!P.stoodInHeld T&&!P.eqGuardType P.depth T&&Ba P 0 fs.toList&&iZ P T==some fs.size
 |some (.array n e)=>!P.eqGuardType P.depth T&&zU P e&&iZ P T==some n
 |_=>false
theorem yO {e:TypeId}(he:zU P e=true):(∃ q,P.underlying e=some (.int q))∧P.cellsOf e=1:=by
 unfold zU at he
 split at he
 ·rename_i q hq
  exact ⟨⟨q,hq⟩,by have:=beq_iff_eq.1 he;simp only [iZ] at this;simp [Program.cellsOf,this]⟩
 ·cases he
theorem QY {e:TypeId}(he:zU P e=true)(w:World):(isAgg e).run P w=.ok false w:=by
 obtain ⟨⟨q,hq⟩,_⟩:=yO he
 unfold isAgg;simp only [Sem.run_bind,run_underlying hq,Result.andThen_ok];rfl
theorem yP {e:TypeId}(he:zU P e=true){xs:Array Value}{i:Nat}{v:Value}(h:xs[i]?=some v)(w:World):(Go.part e xs i).run P w=.ok v w:=by
 unfold Go.part
 simp only [Sem.run_bind,QY he,Result.andThen_ok,zg,if_false,h,Sem.run_pure]
theorem Bc {x y:PV}{xs ys:List PV}{r:Bool}(h:ji (x::xs) (y::ys)=some r):∃ k a b s,x=.int k a∧y=.int k b∧ji xs ys=some s∧r=(a==b&&s):=by
 cases x<;>cases y<;>simp only [ji,reduceCtorEq] at h
 rename_i k a l b
 split at h
 ·rename_i e
  subst e
  obtain ⟨s,h1,h2⟩:=Zat.1 h
  exact ⟨_,_,_,s,rfl,rfl,h1,h2.symm⟩
 ·cases h
theorem Bd {dd:Nat}{ok:Nat→Prop}{X Y:Array Value}(w:World):∀ (fs:List Field) (k:Nat) (xs ys:List PV) (r:Bool),Ba P k fs=true→ji xs ys=some r→xs.length=fs.length →
  (∀ j x,xs[j]?=some x→∃ u,X[k+j]?=some u∧aA ok w x u)→(∀ j x,ys[j]?=some x→∃ u,Y[k+j]?=some u∧aA ok w x u)→∀ w',(Op.eqFields (dd+1) X Y fs).run P w'=.ok r w'
 |[],k,xs,ys,r,_,he,hl,_,_=>by
  intro w'
  cases xs with
  |cons _ _=>simp at hl
  |nil=>cases ys<;>simp [ji] at he;subst he;simp [Op.eqFields]
 |f::fs,k,xs,ys,r,hf,he,hl,hX,hY=>by
  intro w'
  simp only [Ba,ZZ,bne_iff_ne,ne_eq,beq_iff_eq] at hf
  obtain ⟨⟨⟨hn,ho⟩,hb⟩,hf⟩:=hf
  cases xs with
  |nil=>simp at hl
  |cons x xs =>
   cases ys with
   |nil=>cases x<;>simp [ji] at he
   |cons y ys =>
    obtain ⟨q,a,b,s,rfl,rfl,hs,rfl⟩:=Bc he
    obtain ⟨u,h1,h2⟩:=hX 0 _ rfl
    obtain ⟨v,h3,h4⟩:=hY 0 _ rfl
    rw [h2.bP] at h1
    rw [h4.bP] at h3
    obtain ⟨⟨q',hq⟩,_⟩:=yO hb
    have ih:=Bd (dd:=dd) (ok:=ok) (X:=X) (Y:=Y) w fs (k+1) xs ys s hf hs (by simpa using hl) (fun j x hx=>by have:=hX (j+1) x (by simpa using hx);rwa [show k+(j+1)=k+1+j by omega] at this)
     (fun j x hx=>by have:=hY (j+1) x (by simpa using hx);rwa [show k+(j+1)=k+1+j by omega] at this) w'
    rw [Za1] at h1 h3
    simp only [Op.eqFields,hn,ne_eq,not_false_eq_true,if_true,Sem.run_bind,ho,yP hb h1,yP hb h3,Result.andThen_ok,run_equalIn_int w' dd f.type q q' a b hq,ih]
    cases hab:a==b
    ·simp
    ·simpa using ih
theorem EG {dd e:Nat}{ok:Nat→Prop}{X Y:Array Value}(he0:zU P e=true)(w:World):∀ (n k:Nat) (xs ys:List PV) (r:Bool),ji xs ys=some r→xs.length=n →
  (∀ j x,xs[j]?=some x→∃ u,X[k+j]?=some u∧aA ok w x u)→(∀ j x,ys[j]?=some x→∃ u,Y[k+j]?=some u∧aA ok w x u)→∀ w',(Op.eqItems (dd+1) e 1 X Y (List.range' k n)).run P w'=.ok r w'
 |0,k,xs,ys,r,he,hl,_,_=>by
  intro w'
  cases xs with
  |cons _ _=>simp at hl
  |nil=>cases ys<;>simp [ji] at he;subst he;simp [Op.eqItems]
 |n+1,k,xs,ys,r,he,hl,hX,hY=>by
  intro w'
  cases xs with
  |nil=>simp at hl
  |cons x xs =>
   cases ys with
   |nil=>cases x<;>simp [ji] at he
   |cons y ys =>
    obtain ⟨q,a,b,s,rfl,rfl,hs,rfl⟩:=Bc he
    obtain ⟨u,h1,h2⟩:=hX 0 _ rfl
    obtain ⟨v,h3,h4⟩:=hY 0 _ rfl
    rw [h2.bP] at h1
    rw [h4.bP] at h3
    obtain ⟨⟨q',hq⟩,_⟩:=yO he0
    have ih:=EG (dd:=dd) (ok:=ok) (X:=X) (Y:=Y) he0 w n (k+1) xs ys s hs (by simpa using hl) (fun j x hx=>by have:=hX (j+1) x (by simpa using hx);rwa [show k+(j+1)=k+1+j by omega] at this)
     (fun j x hx=>by have:=hY (j+1) x (by simpa using hx);rwa [show k+(j+1)=k+1+j by omega] at this) w'
    rw [Za1] at h1 h3
    simp only [List.range'_succ,Op.eqItems,Sem.run_bind,Nat.mul_one,yP he0 h1,yP he0 h3,Result.andThen_ok,run_equalIn_int w' dd e q q' a b hq,ih]
    cases hab:a==b
    ·simp
    ·simpa using ih
theorem ZA {T0:TypeId}(hT:acn P T0=true){ok:Nat→Prop}{xs ys:List PV}{r:Bool}{u v:Value}(he:ji xs ys=some r)(hu:aA ok w (.agg xs) u)(hv:aA ok w (.agg ys) v)(hs:iZ P T0=some xs.length)(w':World) :
  P.eqGuardType P.depth T0=false∧(Op.equal T0 u v).run P w'=.ok r w':=by
 obtain ⟨X,rfl,hX1,_,hX⟩:=hu.lW
 obtain ⟨Y,rfl,hY1,_,hY⟩:=hv.lW
 have gX:∀ j x,xs[j]?=some x→∃ u,X[0+j]?=some u∧aA ok w x u:=fun j x hx=>by
  have hj:=(Z6.1 hx).1
  have e:X[j]?=some X[j]:=zj (by omega)
  exact ⟨_,by rw [Zan];exact e,hX j x _ hx e⟩
 have gY:∀ j x,ys[j]?=some x→∃ u,Y[0+j]?=some u∧aA ok w x u:=fun j x hx=>by
  have hj:=(Z6.1 hx).1
  have e:Y[j]?=some Y[j]:=zj (by omega)
  exact ⟨_,by rw [Zan];exact e,hY j x _ hx e⟩
 unfold acn at hT
 split at hT
 ·rename_i fs hfs
  simp only [ZZ,ZaR,beq_iff_eq] at hT
  obtain ⟨⟨⟨h1,h2⟩,h3⟩,h4⟩:=hT
  rw [hs] at h4
  have hl:xs.length=fs.toList.length:=by simpa using h4
  refine ⟨h2,?_⟩
  have hfo:P.fieldsOf T0=fs:=by simp [Program.fieldsOf,hfs]
  unfold Op.equal
  rw [show Op.maxDepth=9999+1 from rfl,run_equalIn_struct w' 9999 T0 X Y (by rw [hfo];exact hfs) h1,hfo]
  exact Bd (dd:=9998) w fs.toList 0 xs ys r h3 he hl gX gY w'
 ·rename_i n e hne
  simp only [ZZ,ZaR,beq_iff_eq] at hT
  obtain ⟨⟨h2,h3⟩,h4⟩:=hT
  rw [hs] at h4
  refine ⟨h2,?_⟩
  obtain ⟨⟨q,hq⟩,hc⟩:=yO h3
  have hi:∃ i,P.info? e=some i:=by
   cases hi:P.info? e with
   |none=>simp [Program.cellsOf,hi] at hc
   |some i=>exact ⟨i,rfl⟩
  obtain ⟨i,hi⟩:=hi
  unfold Op.equal
  rw [show Op.maxDepth=9999+1 from rfl,run_equalIn_array w' 9999 X Y hne hi,hc,List.range_eq_range']
  exact EG (dd:=9998) h3 w n 0 xs ys r he (by simpa using h4) gX gY w'
 ·cases hT
theorem yQ {ρ:Operand→Value}{b:BinOp}{T0 T1:TypeId}{u:Value}(ho:o.op=.binOp b T0 y y2 T1){w:World}(h1:(eqGuard b T0 y y2 (ρ y) (ρ y2)).run P w=.ok () w)(h2:(Go.binOp b T0 (ρ y) (ρ y2)).run P w=.ok u w) :
  (execOp ρ o).run P w=.ok (.value u) w:=by simp [execOp,ho,h1,h2]
theorem QZ {b:BinOp}{T0 T1:TypeId}{neg:Bool}(h:aV L σ T st a w)(hd:o.dst=some d)(ho:o.op=.binOp b T0 y y2 T1)(hb:b=if neg then .neq else .eql)(hm:bf y x=true)(hm2:bf y2 x2=true)(hT:acn P T0=true)(hn:iZ P T0=some n)
  (hp:plain (.Vz d neg n x x2) st=some st')  :sW P L σ T st' a w o:=by
 simp only [plain] at hp
 obtain ⟨v1,h1,hp⟩:=bind_some hp
 cases v1<;>simp only [reduceCtorEq] at hp
 rename_i xs
 obtain ⟨v2,h2,hp⟩:=bind_some hp
 cases v2<;>simp only [reduceCtorEq] at hp
 rename_i ys
 obtain ⟨r,h3,hp⟩:=bind_some hp
 split at hp
 case isFalse=>cases hp
 rename_i hl
 have hp:=ZD.inj hp
 subst hp
 have r1:=h.pv hm h1
 have r2:=h.pv hm2 h2
 have key:=fun w'=>ZA (P:=P) hT h3 r1 r2 (by rw [hn,hl]) w'
 obtain ⟨X,e1,_⟩:=r1.lW
 obtain ⟨Y,e2,_⟩:=r2.lW
 refine gW h hd (u:=.bool (if neg then !r else r)) (fun w'=>yQ ho ?_ ?_) (.bool _)
 ·obtain ⟨k1,k2⟩:=key w'
  rw [e1,e2]
  subst hb
  cases neg<;>simp [eqGuard,k1,program,Sem.run]
 ·obtain ⟨k1,k2⟩:=key w'
  rw [e1,e2] at k2 ⊢
  subst hb
  cases neg<;>simp [Go.binOp,k2]
theorem ZB {b:BinOp}{T0 T1:TypeId}{neg:Bool}(h:aV L σ T st a w)(hd:o.dst=some d)(ho:o.op=.binOp b T0 y y2 T1)(hb:b=if neg then .neq else .eql)(hm:bf y x=true)(hm2:bf y2 x2=true)(hT:acn P T0=true)(hn:iZ P T0=some n)
  (hp:plain (.Vz d neg n x x2) st=some st'):Looks P L σ T st' a w o:=(QZ h hd ho hb hm hm2 hT hn hp).looks
theorem Q5 {b:BinOp}{T0 T1:TypeId}{neg:Bool}(h:aV L σ T st a w)(hd:o.dst=some d)(ho:o.op=.binOp b T0 y y2 T1)(hb:b=if neg then .neq else .eql)(hm:bf y x=true)(hm2:bf y2 x2=true)(hT:P.underlying T0=some .bool)
  (hp:plain (.Zu d neg x x2) st=some st')  :sW P L σ T st' a w o:=by
 simp only [plain] at hp
 obtain ⟨v1,h1,hp⟩:=bind_some hp
 cases v1<;>simp only [reduceCtorEq] at hp
 rename_i p
 obtain ⟨v2,h2,hp⟩:=bind_some hp
 cases v2<;>simp only [reduceCtorEq] at hp
 rename_i q
 have hp:=ZD.inj hp
 subst hp
 have e1:=(h.pv hm h1).iJ
 have e2:=(h.pv hm2 h2).iJ
 refine gW h hd (u:=.bool (if neg then !(p==q) else p==q)) (fun w'=>yQ ho ?_ ?_) (.bool _)
 ·rw [e1,e2]
  subst hb
  cases neg<;>simp [eqGuard]
 ·have k2:=run_equal_bool (P:=P) w' T0 p q hT
  rw [e1,e2]
  subst hb
  cases neg<;>simp [Go.binOp,k2]
theorem ZC {b:BinOp}{T0 T1:TypeId}{neg:Bool}(h:aV L σ T st a w)(hd:o.dst=some d)(ho:o.op=.binOp b T0 y y2 T1)(hb:b=if neg then .neq else .eql)(hm:bf y x=true)(hm2:bf y2 x2=true)(hT:P.underlying T0=some .bool)
  (hp:plain (.Zu d neg x x2) st=some st'):Looks P L σ T st' a w o:=(Q5 h hd ho hb hm hm2 hT hp).looks
theorem Q7 {b:BinOp}{T0 T1:TypeId}(h:aV L σ T st a w)(hd:o.dst=some d)(ho:o.op=.binOp b T0 y y2 T1)(hm:bf y x=true)(hm2:bf y2 x2=true)
  (hp:plain (.bin d b x x2) st=some st'):sW P L σ T st' a w o:=by
 simp only [plain] at hp
 obtain ⟨v1,h1,hp⟩:=bind_some hp
 obtain ⟨v2,h2,hp⟩:=bind_some hp
 obtain ⟨v,h3,hp⟩:=bind_some hp
 have hp:=ZD.inj hp
 subst hp
 have r1:=h.pv hm h1
 have r2:=h.pv hm2 h2
 cases v1 with
 |int k m =>
  cases v2 with
  |int l q =>
   have e1:=r1.bP
   have e2:=r2.bP
   have hb:iw b k m q=some v∧((b=.shl∨b=.shr)∨k=l):=by
    simp only [EF] at h3
    split at h3
    ·exact ⟨h3,.inl (.inl rfl)⟩
    ·exact ⟨h3,.inl (.inr rfl)⟩
    ·split at h3
     ·exact ⟨h3,.inr (by assumption)⟩
     ·cases h3
   obtain ⟨hb,hkl⟩:=hb
   obtain ⟨u,h7,h8⟩:=VI (P:=P) (T:=T0) hkl hb
   refine gW h hd (u:=u) (fun w'=>yQ ho ?_ ?_) (h8 _ _)
   ·rw [e1,e2];unfold eqGuard;cases b<;>rfl
   ·rw [e1,e2];exact h7 w'
  |_=>simp [EF] at h3
 |_=>simp [EF] at h3
theorem ZE {b:BinOp}{T0 T1:TypeId}(h:aV L σ T st a w)(hd:o.dst=some d)(ho:o.op=.binOp b T0 y y2 T1)(hm:bf y x=true)(hm2:bf y2 x2=true)
  (hp:plain (.bin d b x x2) st=some st'):Looks P L σ T st' a w o:=(Q7 h hd ho hm hm2 hp).looks
end
section
variable {P:Program}{L:Nat}{σ:Nat→Nat}{T T':Tags}{st st' st1:St}{a:Act}{w:World}{o:Oper}{d n:Nat}{x x2:bU}{y y2:Operand}
theorem Yt {b:UnOp}{T0:TypeId}(h:aV L σ T st a w)(hd:o.dst=some d)(ho:o.op=.unOp b T0 y)(hm:bf y x=true)(hp:plain (.un d b x) st=some st'):sW P L σ T st' a w o:=by
 simp only [plain] at hp
 obtain ⟨v1,h1,hp⟩:=bind_some hp
 obtain ⟨v,h3,hp⟩:=bind_some hp
 have hp:=ZD.inj hp
 subst hp
 have r1:=h.pv hm h1
 unfold Zx at h3
 split at h3
 ·have h3:=ZD.inj h3
  subst h3
  refine gW h hd (fun w'=>?_) (.int _ _)
  simp [execOp,ho,r1.bP,Op.unary,Op.intArith]
  try exact ⟨rfl,rfl⟩
 ·have h3:=ZD.inj h3
  subst h3
  refine gW h hd (fun w'=>?_) (.bool _)
  simp [execOp,ho,r1.iJ,Op.unary]
  try exact ⟨rfl,rfl⟩
 ·simp only [iw] at h3
  have h3:=ZD.inj h3
  subst h3
  refine gW h hd (fun w'=>?_) (.int _ _)
  simp only [execOp,ho,r1.bP,Op.unary,Op.intBits,Sem.run_bind,Sem.run_pure,Result.andThen_ok]
 ·cases h3
theorem aco {b:UnOp}{T0:TypeId}(h:aV L σ T st a w)(hd:o.dst=some d)(ho:o.op=.unOp b T0 y)(hm:bf y x=true)(hp:plain (.un d b x) st=some st'):Looks P L σ T st' a w o:=(Yt h hd ho hm hp).looks
theorem Ll {k:IntKind}{src dst:TypeId}(h:aV L σ T st a w)(hd:o.dst=some d)(ho:o.op=.convert src dst y)(hm:bf y x=true)(hsrc:∃ q,P.underlying src=some (.int q))(hdst:P.underlying dst=some (.int k))
  (hp:plain (.conv d k x) st=some st'):sW P L σ T st' a w o:=by
 simp only [plain] at hp
 obtain ⟨v1,h1,hp⟩:=bind_some hp
 cases v1<;>simp only [reduceCtorEq] at hp
 rename_i l m
 have hp:=ZD.inj hp
 subst hp
 have r1:=(h.pv hm h1).bP
 obtain ⟨q,hq⟩:=hsrc
 refine gW h hd (fun w'=>?_) (.int _ _)
 simp [execOp,ho,r1,convert,run_underlying hq,run_underlying hdst,Conv.intToInt]
theorem VJ {k:IntKind}{src dst:TypeId}(h:aV L σ T st a w)(hd:o.dst=some d)(ho:o.op=.convert src dst y)(hm:bf y x=true)(hsrc:∃ q,P.underlying src=some (.int q))(hdst:P.underlying dst=some (.int k))
  (hp:plain (.conv d k x) st=some st'):Looks P L σ T st' a w o:=(Ll h hd ho hm hsrc hdst hp).looks
theorem aV.acp (h:aV L σ T st a w){r:Root}{sz:Nat}{es:List PV}(hr:st.row r=some (sz,es)){i:Nat}{e:PV}(he:es[i]?=some e){j:Nat}{v:Value}(hv:VE (hdr σ a w r) i j sz v) :
  ∃ b,v=.pointer (some ⟨b,i*sz+j,none⟩)∧T b=.row r∧dD w b∧Mem (fun b=>T b=.ro) w b (i*sz) e.cells:=by
 obtain ⟨b,n,c,h1,rfl⟩:=hv
 obtain ⟨u,h2,h3⟩:=h.vS hr
 rw [h2] at h1;cases h1
 obtain ⟨x,c',e1,_,_,h4⟩:=h3.slice
 have hl:0<es.length:=by have:=(Z6.1 he).1;omega
 obtain ⟨b',e2,h5,h6,_,h7⟩:=h4 hl
 cases e1
 cases e2
 exact ⟨b,rfl,h5,h6,h7 i e he⟩
theorem GX.akP {T T':Tags}{w:World}{o j:Nat}{x:BV}{u:Value}(h:GX T w o j x u)(hr:∀ b,T b=.row (.cell o j)→T' b=.ro)(hw:∀ b,T b=.ro→T' b=.ro):aA (fun b=>T' b=.ro) w x.val u:=by
 cases x with
 |pv v=>exact aA.frame (fun b e _=>⟨hw b e,rfl⟩) h
 |row sz es=>exact aW.list hr hw h
theorem eU.mem {b o:Nat}{bx:Box}(h:eU T w b o bx)(hr:∀ j b,T b=.row (.cell o j)→T' b=.ro)(hw:∀ b,T b=.ro→T' b=.ro):Mem (fun b=>T' b=.ro) w b 0 (bx.cs.map BV.val):=by
 obtain ⟨arr,E,h1,h2,h3,h4,h5⟩:=h
 intro k x hx
 rw [zb] at hx
 cases e:bx.cs[k]? with
 |none=>rw [e] at hx;cases hx
 |some bv =>
  rw [e] at hx;cases hx
  have hk:k<arr.size:=by rw [h2];exact (Z6.1 e).1
  have g:arr[k]?=some arr[k]:=zj hk
  obtain ⟨g1,g2⟩:=h5 k bv _ e g
  exact ⟨arr[k],by rw [cell_of_row w b _ arr E (0,0) h1,Zan,g],g1,g2.akP (hr k) hw⟩
def lH (T:Tags)(o:Nat):Tags:=fun b=>match T b with
 |.row (.cell p j)=>if p=o then .ro else .row (.cell p j)
 |q=>q
theorem Still.lH (T:Tags)(o:Nat):Still T (lH T o):=⟨fun b e=>by simp [Go.Proofs.YtioijcfcehhmdaaGreatDoor.lH,e],fun b e=>by simp [Go.Proofs.YtioijcfcehhmdaaGreatDoor.lH,e]⟩
theorem yR {o:Nat}{r:Root}{b:Nat}(hr:∀ j,r≠.cell o j)(h:T b=.row r):lH T o b=.row r:=by
 unfold lH;rw [h]
 split
 ·rename_i p j e
  cases e
  rw [if_neg (fun e=>hr j (by rw [e]))]
 ·rfl
theorem Dt {o p b:Nat}(h:T b=.box p):lH T o b=.box p:=by simp [lH,h]
theorem Lm {o j b:Nat}(h:T b=.row (.cell o j)):lH T o b=.ro:=by simp [lH,h]
theorem oN {cs:List BV}{j:Nat}{bv:BV}(h:(cs.map BV.frozen)[j]?=some bv):∃ x,cs[j]?=some x∧bv=.pv x.val:=by
 rw [zb] at h
 cases e:cs[j]? with
 |none=>rw [e] at h;cases h
 |some x=>rw [e] at h;cases h;exact ⟨x,rfl,by cases x<;>rfl⟩
theorem aV.tH (h:aV L σ T st a w)(p:Nat):∃ T',aV L σ T' (st.bH p) a w∧Still T T'∧(∀ b r,(∀ j,r≠.cell p j)→T b=.row r→T' b=.row r)∧((st.boxes[p]?).isSome=true→∀ b j,T b=.row (.cell p j)→T' b=.ro)∧∀ b o,T b=.box o→T' b=.box o:=by
 unfold St.bH
 cases hp:st.boxes[p]? with
 |none=>exact ⟨T,h,Still.refl T,fun _ _ _ e=>e,(fun e=>by cases e),fun _ _ e=>e⟩
 |some bx0 =>
  refine ⟨lH T p,?_,Still.lH T p,fun b r hr e=>yR hr e,fun _ b j e=>Lm e,fun b o e=>Dt e⟩
  have hpl:p<st.boxes.length:=(Z6.1 hp).1
  have hw:∀ b,T b=.ro→b<w.heap.size→lH T p b=.ro∧w.heap[b]?=w.heap[b]?:=fun b e _=>⟨(Still.lH T p).ro b e,rfl⟩
  refine ⟨h.size,fun t x u hx hu=>?_,fun o bx ho=>?_,fun b hb=>(Still.lH T p).other b (h.fresh b hb)⟩
  ·refine (h.slots t x u hx hu).keep hw (fun s l e b hb _=>⟨yR (by simp) hb,rfl⟩) (fun l e i _ b hb _=>⟨yR (by simp) hb,rfl⟩) (fun r' hr' _ s l e=>?_) (by simp) (fun _ _=>rfl)
   refine ⟨?_,rfl⟩
   cases r' with
   |slot t'=>exact ⟨l,e⟩
   |part t' i=>exact ⟨l,e⟩
   |cell o j =>
    simp only [St.row,zp] at e ⊢
    by_cases hop:p=o
    ·subst hop
     simp only [if_true,if_pos hpl] at e
     split at e
     ·cases e
     ·split at e
      ·rename_i hh
       obtain ⟨x,_,hx⟩:=oN hh
       cases hx
      ·cases e
    ·simp only [if_neg hop] at e;exact ⟨l,e⟩
  ·rw [zp] at ho
   by_cases hop:p=o
   ·subst hop
    simp only [if_true,if_pos hpl,ZD.injEq] at ho
    subst ho
    obtain ⟨arr,E,h1,h2,h3,h4,h5⟩:=h.boxes p bx0 hp
    have k3:lH T p (σ p)=(if bx0.fz then .ro else .box p):=by
     rw [show lH T p (σ p)=T (σ p) from ?_,h3]
     rw [h3];split
     ·rename_i hf;exact (Still.lH T p).ro _ (by rw [h3,if_pos hf])
     ·rename_i hf;exact Dt (by rw [h3,if_neg hf])
    refine ⟨arr,E,h1,by simpa using h2,k3,?_,?_⟩
    ·intro _ j sz es e
     obtain ⟨x,_,hx⟩:=oN e
     cases hx
    ·intro j bv u hj hu
     obtain ⟨x,hx,rfl⟩:=oN hj
     obtain ⟨g1,g2⟩:=h5 j x u hx hu
     exact ⟨g1,g2.akP (fun b e=>Lm e) (fun b e=>(Still.lH T p).ro b e)⟩
   ·rw [if_neg hop] at ho
    have hb:=h.boxes o bx ho
    have hT:lH T p (σ o)=T (σ o):=by
     obtain ⟨_,_,_,_,h3,_⟩:=hb
     rw [h3];split
     ·rename_i hf;exact (Still.lH T p).ro _ (by rw [h3,if_pos hf])
     ·rename_i hf;exact Dt (by rw [h3,if_neg hf])
    exact hb.frame ⟨hT,rfl⟩ (fun j b e _=>⟨yR (by intro q e;cases e;exact hop rfl) e,rfl⟩) hw
theorem aV.bH (h:aV L σ T st a w)(p:Nat):∃ T',aV L σ T' (st.bH p) a w∧Still T T'∧(∀ b r,(∀ j,r≠.cell p j)→T b=.row r→T' b=.row r)∧((st.boxes[p]?).isSome=true→∀ b j,T b=.row (.cell p j)→T' b=.ro) :=
 let ⟨T',h1,h2,h3,h4,_⟩:=h.tH p
 ⟨T',h1,h2,h3,h4⟩
theorem run_load {ρ:Operand→Value}{T0:TypeId}{ad:Addr}{u:Value}(ho:o.op=.load T0 y)(hy:ρ y=.pointer (some ad)){w':World}(hl:(loadVar T0 ad).run P w'=.ok u w'):(execOp ρ o).run P w'=.ok (.value u) w':=by
 simp [execOp,ho,hy,Instr.loadAt,Instr.sureAddr,hl]
theorem rQ.blk {w':World}(hs:rQ T w w'){b:Nat}(hb:T b≠.other)(hl:b<w.heap.size):w'.heap[b]?=w.heap[b]?:=hs.2 b hb hl
theorem aA.uV {ok:Nat→Prop}{cs:List PV}{j:Nat}{u:Value}(h:aA ok w (.dM cs j) u):∃ b off,u=.pointer (some ⟨b,off+j,none⟩)∧ok b∧dD w b∧Mem ok w b off cs:=by
 cases h with
 |dM cs j b off cv h1 h2 h3 h4=>exact ⟨b,off,rfl,h1,h2,fun k x hk=>⟨cv k,(h3 k x hk).1,(h3 k x hk).2,h4 k x hk⟩⟩
theorem aA.vT {ok:Nat→Prop}{cs:List PV}{b off:Nat}(j:Nat)(h1:ok b)(h2:dD w b)(hm:Mem ok w b off cs):aA ok w (.dM cs j) (.pointer (some ⟨b,off+j,none⟩)) :=
 .dM cs j b off (fun k=>(w.cell? ⟨b,off+k,none⟩).getD undef) h1 h2 (fun k x hk=>by obtain ⟨u,g1,g2,g3⟩:=hm k x hk;rw [g1];exact ⟨rfl,g2⟩) (fun k x hk=>by obtain ⟨u,g1,g2,g3⟩:=hm k x hk;rw [g1];exact g3)
theorem Mem.mono {ok ok':Nat→Prop}{b off:Nat}{cs:List PV}(h:Mem ok w b off cs)(hk:∀ b,ok b→ok' b):Mem ok' w b off cs:=fun k x hk'=>by
 obtain ⟨u,g1,g2,g3⟩:=h k x hk'
 exact ⟨u,g1,g2,g3.frame fun b hb _=>⟨hk b hb,rfl⟩⟩
theorem VK {T0:TypeId}{n:Option Nat}(h:aV L σ T st a w)(hd:o.dst=some d)(ho:o.op=.load T0 y)(hm:bf y x=true)(hc:rU P T0=some n)(hp:plain (.load d n x) st=some st'):Looks P L σ T st' a w o:=by
 simp only [plain] at hp
 split at hp
 case h_1 cs j e =>
  obtain ⟨v,h1,hp⟩:=bind_some hp
  have hp:=ZD.inj hp
  subst hp
  have r:=h.pv hm (show st.dG x=some (.dM cs j) by simp [St.dG,e])
  obtain ⟨b,off,e1,h2,h3,h4⟩:=r.uV
  obtain ⟨u,h5,h6,_⟩:=uU (P:=P) h4 hc h1
  exact GY h hd (fun w' hw'=>run_load ho e1 (h5 w' (hw'.blk (by rw [h2];simp) h3.lt))) h6
 case h_2 r i j e =>
  obtain ⟨⟨sz,es⟩,h1,hp⟩:=bind_some hp
  obtain ⟨el,h2,hp⟩:=bind_some hp
  obtain ⟨v,h3,hp⟩:=bind_some hp
  have hp:=ZD.inj hp
  subst hp
  rcases h.get hm with ⟨t,rfl,(⟨_,g⟩|g)⟩|⟨v',rfl,g⟩|⟨s,rfl,g⟩
  ·rw [e] at g
   obtain ⟨b,e1,h4,h5,h6⟩:=h.acp h1 h2 (g.2 sz es h1)
   obtain ⟨u,h7,h8,_⟩:=uU (P:=P) h6 hc h3
   exact GY h hd (fun w' hw'=>run_load ho e1 (h7 w' (hw'.blk (by rw [h4];simp) h5.lt))) h8
  ·rw [g] at e;cases e
  ·cases e
  ·cases e
 case h_3 p j e =>
  obtain ⟨bx,h1,hp⟩:=bind_some hp
  have hgp:a.eval y=.pointer (some ⟨σ p,j,none⟩):=by
   rcases h.get hm with ⟨t,rfl,(⟨_,g⟩|g)⟩|⟨v',rfl,g⟩|⟨s,rfl,g⟩
   ·rw [e] at g;exact g.2
   ·rw [g] at e;cases e
   ·cases e
   ·cases e
  have hbox:=h.boxes p bx h1
  have hlt:=hbox.lt
  have htag:T (σ p)≠.other:=by
   obtain ⟨_,_,_,_,h3,_⟩:=hbox
   rw [h3];split<;>simp
  cases n with
  |none =>
   simp only at hp
   obtain ⟨arr,E,g1,g2,g3,g4,g5⟩:=hbox
   split at hp
   ·rename_i v hv
    have hp:=ZD.inj hp
    subst hp
    have hj:j<arr.size:=by rw [g2];exact (Z6.1 hv).1
    obtain ⟨k1,k2⟩:=g5 j _ arr[j] hv (zj hj)
    refine GY h hd (u:=arr[j]) (fun w' hw'=>run_load ho hgp ?_) k2
    have hb:=hw'.blk htag hlt
    unfold loadVar
    simp only [Sem.run_bind,qN hc,Result.andThen_ok,zg,if_false]
    unfold load
    simp only [Sem.run,World.cell?_of_block (w:=w) (a:=⟨σ p,j,none⟩) hb,cell_of_row w _ _ arr E (0,0) g1,zj hj]
   ·rename_i sz es hv
    split at hp
    ·cases hp
    ·rename_i hfz
     have hp:=ZD.inj hp
     subst hp
     have hj:j<arr.size:=by rw [g2];exact (Z6.1 hv).1
     obtain ⟨k1,k2⟩:=g5 j _ arr[j] hv (zj hj)
     have hce:w.cell? ⟨σ p,j,none⟩=some arr[j]:=by rw [cell_of_row w _ _ arr E (0,0) g1,zj hj]
     refine ⟨arr[j],T,fun w' hw'=>run_load ho hgp ?_,?_,Still.refl _⟩
     ·have hb:=hw'.blk htag hlt
      unfold loadVar
      simp only [Sem.run_bind,qN hc,Result.andThen_ok,zg,if_false]
      unfold load
      simp only [Sem.run,World.cell?_of_block (w:=w) (a:=⟨σ p,j,none⟩) hb,hce]
     ·rw [hd]
      refine h.put (fun _ _ e=>by cases e) ⟨(Z6.1 h1).1,?_⟩
      intro s l hl
      have hl2:st.row (.cell p j)=some (s,l):=hl
      have hs:st.row (.cell p j)=some (sz,es):=by simp [St.row,h1,hfz,hv]
      rw [hs] at hl2;cases hl2
      obtain ⟨xa,c,e2,_,_,_⟩:=aW.slice k2
      exact ⟨xa,es.length,c,xa,by show w.cell? _=_;rw [hce,e2],by rw [e2];simp,fun _=>rfl,fun _=>by cases xa<;>simp [Addr.add],fun b o e=>⟨o,e⟩⟩
   ·cases hp
  |some n =>
   obtain ⟨v,h2,hp⟩:=bind_some hp
   have hp:=ZD.inj hp
   subst hp
   obtain ⟨T1,k1,k2,k3,k4⟩:=h.bH p
   have hmem:=hbox.mem (T':=T1) (fun j b e=>k4 (by rw [h1];rfl) b j e) k2.ro
   obtain ⟨u,h7,h8,_⟩:=uU (P:=P) hmem hc h2
   rw [Zan] at h7
   exact ⟨u,T1,fun w' hw'=>run_load ho hgp (h7 w' (hw'.blk htag hlt)),by rw [hd];exact k1.AX h8,k2⟩
 case h_4=>cases hp
theorem Q8 {T0:TypeId}{n:Option Nat}(h:aV L σ T st a w)(hd:o.dst=some d)(ho:o.op=.load T0 y)(hm:bf y x=true)(hc:rU P T0=some n)(hp:plain (.Zv d n x) st=some st') :
  ∃ (b:Nat) (u:Value),(∀ w',w'.heap[b]?=w.heap[b]?→(execOp a.eval o).run P w'=.ok (.value u) w')∧aV L σ T st' (a.put o.dst u) w∧b<w.heap.size∧T b=.ro:=by
 simp only [plain] at hp
 split at hp
 case h_3=>cases hp
 case h_2 cs j e =>
  obtain ⟨v,h1,hp⟩:=Zat.1 hp
  subst hp
  have r:=h.pv hm (show st.dG x=some (.dM cs j) by simp [St.dG,e])
  obtain ⟨b,off,e1,h2,h3,h4⟩:=r.uV
  obtain ⟨u,h5,h6,_⟩:=uU (P:=P) h4 hc h1
  exact ⟨b,u,fun w' hw'=>run_load ho e1 (h5 w' hw'),by rw [hd];exact h.AX h6,h3.lt,h2⟩
 rename_i p j e
 split at hp
 case h_2=>cases hp
 rename_i bx h1
 split at hp
 case isFalse=>cases hp
 rename_i hfz
 obtain ⟨v,h2,hp⟩:=Zat.1 hp
 subst hp
 have hgp:a.eval y=.pointer (some ⟨σ p,j,none⟩):=by
  rcases h.get hm with ⟨t,rfl,(⟨_,g⟩|g)⟩|⟨v',rfl,g⟩|⟨s,rfl,g⟩
  ·rw [e] at g;exact g.2
  ·rw [g] at e;cases e
  ·cases e
  ·cases e
 have hbox:=h.boxes p bx h1
 have hlt:=hbox.lt
 obtain ⟨arr,E,g1,g2,g3,g4,g5⟩:=hbox
 rw [if_pos hfz] at g3
 have hmem:Mem (fun b=>T b=.ro) w (σ p) 0 (bx.cs.map BV.val):=fun k q hk=>by
  rw [zb] at hk
  cases hb:bx.cs[k]? with
  |none=>rw [hb] at hk;cases hk
  |some bv =>
   rw [hb] at hk;cases hk
   have hj:k<arr.size:=by rw [g2];exact (Z6.1 hb).1
   obtain ⟨k1,k2⟩:=g5 k bv arr[k] hb (zj hj)
   cases bv with
   |pv q=>exact ⟨arr[k],by rw [Zan,cell_of_row w _ _ arr E (0,0) g1,zj hj],k1,k2⟩
   |row sz es=>exact absurd hb (g4 hfz k sz es)
 obtain ⟨u,h7,h8,_⟩:=uU (P:=P) hmem hc h2
 rw [Zan] at h7
 exact ⟨σ p,u,fun w' hw'=>run_load ho hgp (h7 w' hw'),by rw [hd];exact h.AX h8,hlt,g3⟩
theorem ZF {T0:TypeId}{n:Option Nat}(h:aV L σ T st a w)(hd:o.dst=some d)(ho:o.op=.load T0 y)(hm:bf y x=true)(hc:rU P T0=some n)(hp:plain (.Zv d n x) st=some st'):Looks P L σ T st' a w o:=by
 obtain ⟨b,u,h3,h4,h5,h6⟩:=Q8 h hd ho hm hc hp
 exact ⟨u,T,fun w' hw'=>h3 w' (hw'.blk (by rw [h6];simp) h5),h4,Still.refl _⟩
end
def jW (T:Tags)(o:Nat):Tags:=fun b=>match T b with
 |.box p=>if p=o then .ro else .box p
 |.row (.cell p j)=>if p=o then .ro else .row (.cell p j)
 |q=>q
section
variable {P:Program}{L:Nat}{σ σ':Nat→Nat}{T T' T1:Tags}{st st' st1:St}{a:Act}{w w1:World}{o:Oper}{vo:iG}{y:Operand}{x:bU}
 {rec:ay→St→Option (Ex×St)} {env:Env}
theorem eU.yS {T:Tags}{w:World}{b o:Nat}{bx:Box}(h:eU T w b o bx):dD w b:=let ⟨_,_,h1,_⟩:=h;⟨_,_,_,h1⟩
theorem jI {o b:Nat}(h:T b=.ro):jW T o b=.ro:=by simp [jW,h]
theorem xM {o b:Nat}(h:T b=.other):jW T o b=.other:=by simp [jW,h]
theorem Lp {o p b:Nat}(hp:p≠o)(h:T b=.box p):jW T o b=.box p:=by simp [jW,h,hp]
theorem Lr {o b:Nat}(h:T b=.box o):jW T o b=.ro:=by simp [jW,h]
theorem GZ {o j b:Nat}(h:T b=.row (.cell o j)):jW T o b=.ro:=by simp [jW,h]
theorem yT {o:Nat}{r:Root}{b:Nat}(hr:∀ j,r≠.cell o j)(h:T b=.row r):jW T o b=.row r:=by
 unfold jW;rw [h]
 cases r with
 |slot t=>rfl
 |part t i=>rfl
 |cell p j=>simp only [];rw [if_neg (fun e=>hr j (by rw [e]))]
theorem Still.jW (T:Tags)(o:Nat):Still T (jW T o):=⟨fun _=>jI,fun _=>xM⟩
theorem aV.bD (h:aV L σ T st a w)(p:Nat):aV L σ (if (st.boxes[p]?).isSome then jW T p else T) (st.bD p) a w:=by
 unfold St.bD
 cases hp:st.boxes[p]? with
 |none=>exact h
 |some bx0 =>
  simp only [Option.isSome_some,if_true]
  have hpl:p<st.boxes.length:=(Z6.1 hp).1
  have hw:∀ b,T b=.ro→b<w.heap.size→jW T p b=.ro∧w.heap[b]?=w.heap[b]?:=fun b e _=>⟨jI e,rfl⟩
  refine ⟨h.size,fun t x u hx hu=>?_,fun o bx ho=>?_,fun b hb=>xM (h.fresh b hb)⟩
  ·refine (h.slots t x u hx hu).keep hw (fun s l e b hb _=>⟨yT (by simp) hb,rfl⟩) (fun l e i _ b hb _=>⟨yT (by simp) hb,rfl⟩) (fun r' hr' _ s l e=>?_) (by simp) (fun _ _=>rfl)
   refine ⟨?_,rfl⟩
   cases r' with
   |slot t'=>exact ⟨l,e⟩
   |part t' i=>exact ⟨l,e⟩
   |cell o j =>
    simp only [St.row,zp] at e ⊢
    by_cases hop:p=o
    ·subst hop
     simp only [if_true,if_pos hpl] at e
     cases e
    ·simp only [if_neg hop] at e;exact ⟨l,e⟩
  ·rw [zp] at ho
   by_cases hop:p=o
   ·subst hop
    simp only [if_true,if_pos hpl,ZD.injEq] at ho
    subst ho
    obtain ⟨arr,E,h1,h2,h3,h4,h5⟩:=h.boxes p bx0 hp
    have k3:jW T p (σ p)=.ro:=by
     split at h3
     ·exact jI h3
     ·exact Lr h3
    refine ⟨arr,E,h1,by simpa using h2,by simpa using k3,?_,?_⟩
    ·intro _ j sz es e
     obtain ⟨x,_,hx⟩:=oN e
     cases hx
    ·intro j bv u hj hu
     obtain ⟨x,hx,rfl⟩:=oN hj
     obtain ⟨g1,g2⟩:=h5 j x u hx hu
     exact ⟨g1,g2.akP (fun b e=>GZ e) (fun b e=>jI e)⟩
   ·rw [if_neg hop] at ho
    have hb:=h.boxes o bx ho
    have hT:jW T p (σ o)=T (σ o):=by
     obtain ⟨_,_,_,_,h3,_⟩:=hb
     rw [h3];split
     ·rename_i hf;exact jI (by rw [h3,if_pos hf])
     ·rename_i hf;exact Lp (Ne.symm hop) (by rw [h3,if_neg hf])
    exact hb.frame ⟨hT,rfl⟩ (fun j b e _=>⟨yT (by intro q e;cases e;exact hop rfl) e,rfl⟩) hw
end
section
variable {P:Program}{L:Nat}{σ:Nat→Nat}{T T':Tags}{st st' st1:St}{a:Act}{w:World}{o:Oper}{d n:Nat}{x x2:bU}{y y2:Operand}
theorem aV.at (h:aV L σ T st a w)(hm:bf y x=true){av:AV}(e:st.get x=av)(hne:∀ v,av≠.pv v)(hnr:∀ sz es,av≠.row sz es)(ha:av≠.any):∃ t,x=.t t∧st.slots[t]?=some av∧a.tmps[t]?=some (a.eval y)∧lq L σ T st a w t av (a.eval y):=by
 rcases h.get hm with ⟨t,rfl,(⟨g1,g⟩|g)⟩|⟨v',rfl,g⟩|⟨s,rfl,g⟩
 ·rw [e] at g
  exact ⟨t,rfl,mV e ha,g1,g⟩
 ·rw [g] at e;exact absurd e.symm ha
 ·exact absurd e.symm (hne _)
 ·exact absurd e.symm (hnr _ _)
theorem aV.aO (h:aV L σ T st a w)(hm:bf y x=true){p j:Nat}(e:st.get x=.aO p j):p<st.boxes.length∧a.eval y=.pointer (some ⟨σ p,j,none⟩):=by
 obtain ⟨t,_,_,_,g⟩:=h.at hm e (by simp) (by simp) (by simp)
 exact g
theorem aV.ahg (h:aV L σ T st a w)(hm:bf y x=true){r:Root}{i j:Nat}(e:st.get x=.qx r i j):∀ sz es,st.row r=some (sz,es)→VE (hdr σ a w r) i j sz (a.eval y):=by
 obtain ⟨t,_,_,_,g⟩:=h.at hm e (by simp) (by simp) (by simp)
 exact g.2
theorem aV.VL (h:aV L σ T st a w)(hm:bf y x=true){r:Root}{i j:Nat}(e:st.get x=.qx r i j):r.low st.boxes.length:=by
 obtain ⟨t,_,_,_,g⟩:=h.at hm e (by simp) (by simp) (by simp)
 exact g.1
theorem aV.acr (h:aV L σ T st a w)(hm:bf y x=true){r:Root}{i j:Nat}(e:st.get x=.ref r i j):r.low st.boxes.length:=by
 obtain ⟨t,_,_,_,g⟩:=h.at hm e (by simp) (by simp) (by simp)
 exact g.1
theorem aV.Q9 (h:aV L σ T st a w)(hm:bf y x=true){r:Root}{i j:Nat}(e:st.get x=.ref r i j):∀ sz es,st.row r=some (sz,es)→NI (hdr σ a w r) i j sz (a.eval y):=by
 obtain ⟨t,_,_,_,g⟩:=h.at hm e (by simp) (by simp) (by simp)
 exact g.2
theorem aV.VN (h:aV L σ T st a w)(hm:bf y (.t n)=true){sz:Nat}{es:List PV}(e:st.get (.t n)=.row sz es):st.slots[n]?=some (.row sz es)∧a.tmps[n]?=some (a.eval y)∧aW T w (.slot n) sz es (a.eval y):=by
 rcases h.get hm with ⟨t,e1,(⟨g1,g⟩|g)⟩|⟨v',e1,g⟩|⟨s,e1,g⟩
 ·cases e1
  rw [e] at g
  exact ⟨mV e (by simp),g1,g⟩
 ·cases e1
  rw [g] at e;cases e
 ·cases e1
 ·cases e1
theorem lq.ahh {av:AV}{v:Value}{r:Root}(hr:av.root?=some r)(h:lq L σ T st a w d av v)(hnr:∀ sz es,av≠.row sz es):lq L σ T (st.put d av) (a.put (some d) v) w d av v:=by
 refine h.keep (fun b e _=>⟨e,rfl⟩) (fun _ _ e=>absurd e (hnr _ _)) (fun _ e=>by rw [e] at hr;cases hr) (fun q hq _ sz es e=>?_) (ze _) (fun _ _=>rfl)
 by_cases hrd:q=.slot d
 ·subst hrd;rw [jl hnr] at e;cases e
 ·rw [iy hrd] at e;exact ⟨⟨es,e⟩,oK hrd⟩
theorem oO (h:aV L σ T st a w)(hd:o.dst=some d){av:AV}{v:Value}{r:Root}(hr:av.root?=some r)(hrun:∀ w',(execOp a.eval o).run P w'=.ok (.value v) w')(hav:lq L σ T st a w d av v)(hnr:∀ sz es,av≠.row sz es):sW P L σ T (st.put d av) a w o :=
 ⟨v,T,hrun,by rw [hd];exact h.put hnr (hav.ahh hr hnr),Even.refl _⟩
theorem Du (h:aV L σ T st a w)(hd:o.dst=some d){p j:Nat}{v:Value}(hp:p<st.boxes.length)(hv:v=.pointer (some ⟨σ p,j,none⟩))(hrun:∀ w',(execOp a.eval o).run P w'=.ok (.value v) w'):sW P L σ T (st.put d (.aO p j)) a w o :=
 ⟨v,T,hrun,by rw [hd];exact h.put (by simp) ⟨hp,hv⟩,Even.refl _⟩
theorem Rf {S f:Nat}{fd:Field}{k:Nat}(hf:yN P S f=some fd)(hk:iZ P fd.type=some (k+1))(b off:Nat)(w:World):(Instr.fieldAt S (.pointer (some ⟨b,off,none⟩)) f).run P w=.ok (.pointer (some ⟨b,off+fd.offset,none⟩)) w:=by
 obtain ⟨fs,h1,h2⟩:=VG hf
 simp [Instr.fieldAt,run_underlying h1,h2,Instr.sureAddr,fieldPlace,pW hk,Addr.add_lit]
theorem Ls {S f k:Nat}{fd:Field}(h:aV L σ T st a w)(hd:o.dst=some d)(ho:o.op=.fieldAddr S y f)(hm:bf y x=true)(hf:yN P S f=some fd)(hk:iZ P fd.type=some (k+1))(hp:plain (.aP d x fd.offset) st=some st'):sW P L σ T st' a w o:=by
 have hrun:∀ b off,a.eval y=.pointer (some ⟨b,off,none⟩)→∀ w',(execOp a.eval o).run P w'=.ok (.value (.pointer (some ⟨b,off+fd.offset,none⟩))) w':=fun b off e w'=>by
  simp [execOp,ho,e,Rf hf hk]
 simp only [plain] at hp
 split at hp
 case h_1 cs j e =>
  have hp:=ZD.inj hp
  subst hp
  have r:=h.pv hm (show st.dG x=some (.dM cs j) by simp [St.dG,e])
  obtain ⟨b,off,e1,h2,h3,h4⟩:=r.uV
  exact gW h hd (hrun b _ e1) (by rw [Zbs];exact aA.vT _ h2 h3 h4)
 case h_2 r i j e =>
  have g:=h.ahg hm e
  split at hp
  ·rename_i p hr
   have hp:=ZD.inj hp
   subst hp
   obtain ⟨sz,es⟩:=p
   obtain ⟨b,n,c,h2,h3⟩:=g sz es hr
   refine oO h hd (r:=r) rfl (hrun b _ h3) ⟨h.VL hm (by assumption),fun s l e=>?_⟩ (by simp)
   rw [hr] at e;cases e
   exact ⟨b,n,c,h2,by rw [Zbs]⟩
  ·cases hp
 case h_3 p j e =>
  have hp:=ZD.inj hp
  subst hp
  obtain ⟨g1,g2⟩:=h.aO hm e
  exact Du h hd g1 rfl (hrun _ _ g2)
 case h_4=>cases hp
theorem Rh (h:aV L σ T st a w)(hd:o.dst=some d)(ho:o.op=.nilCheck y)(hm:bf y x=true)(hp:plain (.aP d x 0) st=some st'):sW P L σ T st' a w o:=by
 have hrun:∀ b off,a.eval y=.pointer (some ⟨b,off,none⟩)→∀ w',(execOp a.eval o).run P w'=.ok (.value (.pointer (some ⟨b,off,none⟩))) w':=fun b off e w'=>by
  simp [execOp,ho,e]
 simp only [plain] at hp
 split at hp
 case h_1 cs j e =>
  have hp:=ZD.inj hp
  subst hp
  have r:=h.pv hm (show st.dG x=some (.dM cs j) by simp [St.dG,e])
  obtain ⟨b,off,e1,h2,h3,h4⟩:=r.uV
  exact gW h hd (hrun b _ e1) (aA.vT _ h2 h3 h4)
 case h_2 r i j e =>
  have g:=h.ahg hm e
  split at hp
  ·rename_i p hr
   have hp:=ZD.inj hp
   subst hp
   obtain ⟨sz,es⟩:=p
   obtain ⟨b,n,c,h2,h3⟩:=g sz es hr
   refine oO h hd (r:=r) rfl (hrun b _ h3) ⟨h.VL hm (by assumption),fun s l e=>?_⟩ (by simp)
   rw [hr] at e;cases e
   exact ⟨b,n,c,h2,rfl⟩
  ·cases hp
 case h_3 p j e =>
  have hp:=ZD.inj hp
  subst hp
  obtain ⟨g1,g2⟩:=h.aO hm e
  exact Du h hd g1 rfl (hrun _ _ g2)
 case h_4=>cases hp
theorem VO {S f k:Nat}{fd:Field}(h:aV L σ T st a w)(hd:o.dst=some d)(ho:o.op=.fieldAddr S y f)(hm:bf y x=true)(hf:yN P S f=some fd)(hk:iZ P fd.type=some (k+1))(hp:plain (.aP d x fd.offset) st=some st'):Looks P L σ T st' a w o:=(Ls h hd ho hm hf hk hp).looks
theorem Bf {i:PV}{len k:Nat}(h:index i len=some k):∃ q,i=.int q (k:Int)∧k<len:=by
 unfold index at h
 split at h
 ·split at h
  ·rename_i q n hn
   have h:=ZD.inj h
   subst h
   exact ⟨q,by rw [ZbB hn.1],by omega⟩
  ·cases h
 ·cases h
theorem Fh {T0 e len sz k:Nat}{q:IntKind}(ht:Ky P T0=some (len,e))(hs:iZ P e=some sz)(hk:k<len)(b off:Nat)(w:World) :
  (Instr.indexAt T0 (.pointer (some ⟨b,off,none⟩)) (.int q (k:Int))).run P w=.ok (.pointer (some ⟨b,off+k*sz,none⟩)) w:=by
 simp [Instr.indexAt,asIntOf,run_underlying (Yp ht),Instr.sureAddr,hk,pW hs,Addr.add_lit]
theorem G6 {T0 e sz k n c:Nat}{q:IntKind}(ht:iW P T0=some e)(hs:iZ P e=some sz)(hk:k<n)(b off:Nat)(w:World) :
  (Instr.indexAt T0 (.slice (some ⟨b,off,none⟩) n c) (.int q (k:Int))).run P w=.ok (.pointer (some ⟨b,off+k*sz,none⟩)) w:=by
 simp [Instr.indexAt,asIntOf,run_underlying (oM ht),hk,pW hs,Addr.add_lit]
theorem Lu {T0 e len sz:Nat}(h:aV L σ T st a w)(hd:o.dst=some d)(ho:o.op=.indexAddr T0 y y2)(hm:bf y x=true)(hm2:bf y2 x2=true)(ht:Ky P T0=some (len,e))(hs:iZ P e=some sz)(hp:plain (.zx d x x2 len sz) st=some st'):sW P L σ T st' a w o:=by
 simp only [plain] at hp
 obtain ⟨iv,h1,hp1⟩:=bind_some hp
 clear hp
 obtain ⟨k,h2,hp⟩:=bind_some hp1
 clear hp1
 obtain ⟨q,rfl,hk⟩:=Bf h2
 have hi:=(h.pv hm2 h1).bP
 have hrun:∀ b off,a.eval y=.pointer (some ⟨b,off,none⟩)→∀ w',(execOp a.eval o).run P w'=.ok (.value (.pointer (some ⟨b,off+k*sz,none⟩))) w':=fun b off e w'=>by
  simp [execOp,ho,e,hi,Fh ht hs hk]
 split at hp
 case h_1 cs j e =>
  have hp:=ZD.inj hp
  subst hp
  have r:=h.pv hm (show st.dG x=some (.dM cs j) by simp [St.dG,e])
  obtain ⟨b,off,e1,h2,h3,h4⟩:=r.uV
  exact gW h hd (hrun b _ e1) (by rw [Zbs];exact aA.vT _ h2 h3 h4)
 case h_2 r i j e =>
  have g:=h.ahg hm e
  split at hp
  ·rename_i p hr
   have hp:=ZD.inj hp
   subst hp
   obtain ⟨sz,es⟩:=p
   obtain ⟨b,n,c,h2,h3⟩:=g sz es hr
   refine oO h hd (r:=r) rfl (hrun b _ h3) ⟨h.VL hm (by assumption),fun s l e=>?_⟩ (by simp)
   rw [hr] at e;cases e
   exact ⟨b,n,c,h2,by rw [Zbs]⟩
  ·cases hp
 case h_3 p j e =>
  have hp:=ZD.inj hp
  subst hp
  obtain ⟨g1,g2⟩:=h.aO hm e
  exact Du h hd g1 rfl (hrun _ _ g2)
 case h_4=>cases hp
theorem VP {T0 e len sz:Nat}(h:aV L σ T st a w)(hd:o.dst=some d)(ho:o.op=.indexAddr T0 y y2)(hm:bf y x=true)(hm2:bf y2 x2=true)(ht:Ky P T0=some (len,e))(hs:iZ P e=some sz)(hp:plain (.zx d x x2 len sz) st=some st'):Looks P L σ T st' a w o:=(Lu h hd ho hm hm2 ht hs hp).looks
theorem aA.gq {ok:Nat→Prop}{sz:Nat}{es:List PV}{u:Value}(h:aA ok w (.list sz es) u):∃ x c,u=.slice x es.length c∧es.length≤c∧c≤maxLen∧(0<es.length→∃ b off,x=some ⟨b,off,none⟩∧ok b∧dD w b∧(∀ e∈es,e.cells.length=sz)∧∀ i e,es[i]?=some e→Mem ok w b (off+i*sz) e.cells):=by
 cases h with
 |nil sz x=>exact ⟨x,0,rfl,ze _,ZaM _,fun h=>by simp at h⟩
 |list sz es b off c cv h1 h2 h3 h4 h6 h7 h8=>exact ⟨_,c,rfl,h3,h4,fun _=>⟨b,off,rfl,h1,h2,h6,fun i e hi k x hk=>⟨cv i k,(h7 i e k x hi hk).1,(h7 i e k x hi hk).2,h8 i e k x hi hk⟩⟩⟩
theorem aA.Yu {ok:Nat→Prop}{sz:Nat}{es:List PV}{x:Option Addr}{c:Nat}(h1:es.length≤c)(h2:c≤maxLen)(h0:es=[]→c=0∨∃ b off,x=some ⟨b,off,none⟩∧ok b∧dD w b)
  (h:0<es.length→∃ b off,x=some ⟨b,off,none⟩∧ok b∧dD w b∧(∀ e∈es,e.cells.length=sz)∧∀ i e,es[i]?=some e→Mem ok w b (off+i*sz) e.cells):aA ok w (.list sz es) (.slice x es.length c):=by
 cases es with
 |nil =>
  rcases h0 rfl with rfl|⟨b,off,rfl,g1,g2⟩
  ·exact .nil sz x
  ·exact .list sz [] b off c (fun _ _=>undef) g1 g2 h1 h2 (fun e he=>by cases he) (fun i e j x hi=>by simp at hi) (fun i e j x hi=>by simp at hi)
 |cons e0 es =>
  obtain ⟨b,off,rfl,g1,g2,g3,g4⟩:=h (by simp)
  refine .list sz _ b off c (fun i j=>(w.cell? ⟨b,off+i*sz+j,none⟩).getD undef) g1 g2 h1 h2 g3 (fun i e j x hi hj=>?_) (fun i e j x hi hj=>?_)
  ·obtain ⟨u,k1,k2,k3⟩:=g4 i e hi j x hj
   rw [k1];exact ⟨rfl,k2⟩
  ·obtain ⟨u,k1,k2,k3⟩:=g4 i e hi j x hj
   rw [k1];exact k3
theorem aA.ZG {ok:Nat→Prop}{sz:Nat}{es:List PV}{x:Option Addr}{m c:Nat}{u:Value}(h:aA ok w (.list sz es) u)(e:u=.slice x m c):c=0∨∃ b off,x=some ⟨b,off,none⟩∧ok b∧dD w b:=by
 cases h with
 |nil sz x=>cases e;exact .inl rfl
 |list sz es b off c cv h1 h2 h3 h4 h6 h7 h8=>cases e;exact .inr ⟨b,off,rfl,h1,h2⟩
theorem LC {T0 e sz:Nat}(h:aV L σ T st a w)(hd:o.dst=some d)(ho:o.op=.indexAddr T0 y y2)(hm:bf y x=true)(hm2:bf y2 x2=true)(ht:iW P T0=some e)(hs:iZ P e=some sz)(hp:plain (.dA d sz x x2) st=some st')  :sW P L σ T st' a w o:=by
 simp only [plain] at hp
 obtain ⟨iv,h1,hp1⟩:=bind_some hp
 clear hp
 have hp:=hp1
 clear hp1
 have hi:=h.pv hm2 h1
 have hrun:∀ (b off n c k:Nat) (q:IntKind),iv=.int q (k:Int)→k<n→a.eval y=.slice (some ⟨b,off,none⟩) n c→∀ w',(execOp a.eval o).run P w'=.ok (.value (.pointer (some ⟨b,off+k*sz,none⟩))) w':=fun b off n c k q e1 hk e w'=>by
  rw [e1] at hi
  simp [execOp,ho,e,hi.bP,G6 ht hs hk]
 split at hp
 case h_1 s es e =>
  obtain ⟨k,h2,hp⟩:=bind_some hp
  obtain ⟨el,h3,hp⟩:=bind_some hp
  split at hp
  case isFalse=>cases hp
  rename_i hsz
  have hp:=ZD.inj hp
  subst hp
  subst hsz
  obtain ⟨q,e2,hk⟩:=Bf h2
  have r:=h.pv hm (show st.dG x=some (.list s es) by simp [St.dG,e])
  obtain ⟨xa,c,e1,_,_,h4⟩:=r.gq
  obtain ⟨b,off,rfl,g1,g2,g3,g4⟩:=h4 (by omega)
  exact gW h hd (hrun b off _ c k q e2 hk e1) (aA.vT (off:=off+k*s) 0 g1 g2 (g4 k el h3))
 case h_2 r off len e =>
  obtain ⟨⟨s,es⟩,h2,hp⟩:=bind_some hp
  simp only at hp
  split at hp
  case isFalse=>cases hp
  rename_i hc
  obtain ⟨k,h3,hp⟩:=bind_some hp
  have hp:=ZD.inj hp
  subst hp
  obtain ⟨h4,rfl⟩:=hc
  obtain ⟨q,e2,hk⟩:=Bf h3
  obtain ⟨xa,n,c,x',g1,g2,g3,g4,_⟩:=h.Q9 hm e s es h2
  obtain ⟨u,g5,g6⟩:=h.vS h2
  rw [g5] at g1;cases g1
  obtain ⟨xb,c',e3,g7,g8,g9⟩:=g6.slice
  cases e3
  obtain ⟨b,rfl,g10,g11,g12,g13⟩:=g9 (by omega)
  have e4:=g4 (by omega)
  simp only [Zah,Addr.add_lit,Zan] at e4
  subst e4
  refine oO h hd (r:=r) rfl (hrun b (off*s) len (c - off) k q e2 hk g2) ⟨h.acr hm (by assumption),fun s' l e=>?_⟩ (by simp)
  rw [h2] at e;cases e
  exact ⟨b,_,c,g5,by rw [ZaC,Za1]⟩
 case h_3 s es e =>
  split at hp
  case h_2=>cases hp
  rename_i n
  obtain ⟨k,h3,hp⟩:=bind_some hp
  split at hp
  case isFalse=>cases hp
  rename_i hsz
  have hp:=ZD.inj hp
  subst hp
  subst hsz
  obtain ⟨q,e2,hk⟩:=Bf h3
  obtain ⟨g1,g2,g3⟩:=h.VN hm e
  obtain ⟨xb,c',e3,g7,g8,g9⟩:=g3.slice
  obtain ⟨b,rfl,g10,g11,g12,g13⟩:=g9 (by omega)
  refine oO h hd (r:=.slot n) rfl (hrun b 0 _ c' k q e2 hk e3) ⟨trivial,fun s' l e=>?_⟩ (by simp)
  have:=fZ e
  rw [g1] at this;cases this
  exact ⟨b,_,c',by rw [← e3];exact g2,by rw [Za1,Zan]⟩
 case h_4=>cases hp
theorem VQ {T0 e sz:Nat}(h:aV L σ T st a w)(hd:o.dst=some d)(ho:o.op=.indexAddr T0 y y2)(hm:bf y x=true)(hm2:bf y2 x2=true)(ht:iW P T0=some e)(hs:iZ P e=some sz)(hp:plain (.dA d sz x x2) st=some st'):Looks P L σ T st' a w o:=(LC h hd ho hm hm2 ht hs hp).looks
end
structure Cells (ok:Nat→Prop)(w:World)(cs:List PV)(arr:Array Value):Prop where
 size:arr.size=cs.length
 one:∀ (j:Nat) (v:Value),arr[j]?=some v→v.oneCell'=true
 rep:∀ (j:Nat) (x:PV) (v:Value),cs[j]?=some x→arr[j]?=some v→aA ok w x v
section
variable {P:Program}{L:Nat}{σ:Nat→Nat}{T T':Tags}{st st' st1:St}{a:Act}{w:World}{o:Oper}{d n:Nat}{x x2:bU}{y y2:Operand}{ok:Nat→Prop}
theorem aA.one {v:PV}{u:Value}(h:aA ok w v u)(hv:∀ cs,v≠.agg cs):u.oneCell'=true∧u.cells=#[u]∧v.cells=[v]:=by
 cases h<;>first|exact ⟨rfl,rfl,rfl⟩|exact absurd rfl (hv _)|skip
 rename_i hu
 cases u<;>first|exact ⟨rfl,rfl,rfl⟩|(simp [Value.oneCell'] at hu)
theorem aA.cells {v:PV}{u:Value}(h:aA ok w v u):Cells ok w v.cells u.cells:=by
 by_cases hv:∃ cs,v=.agg cs
 ·obtain ⟨cs,rfl⟩:=hv
  obtain ⟨arr,rfl,h1,h2,h3⟩:=h.lW
  exact ⟨h1,h2,h3⟩
 ·obtain ⟨h1,h2,h3⟩:=h.one (fun cs e=>hv ⟨cs,e⟩)
  rw [h2,h3]
  refine ⟨rfl,fun j v hj=>?_,fun j x v hx hj=>?_⟩
  ·cases j with
   |zero=>simp at hj;subst hj;exact h1
   |succ j=>simp at hj
  ·cases j with
   |zero=>simp at hj hx;subst hj;subst hx;exact h
   |succ j=>simp at hj
theorem Cells.agg {cs:List PV}{arr:Array Value}(h:Cells ok w cs arr):aA ok w (.agg cs) (.agg arr):=.agg cs arr h.size h.one h.rep
theorem FZ {ρ:Operand→Value}{T0:TypeId}{e:Nat}{xa:Option Addr}{m c:Nat}(ho:o.op=.call { callee:=.builtin .len,args:=#[y],argTypes:=#[T0] })(ht:iW P T0=some e)(hy:ρ y=.slice xa m c)(w':World):(execOp ρ o).run P w'=.ok (.value (.int .i64 m)) w':=by
 simp [execOp,ho,resolve,invoke,builtin,hy,Builtin.len_,run_underlying (oM ht),goInt]
theorem Ri {T0:TypeId}{e:Nat}(h:aV L σ T st a w)(hd:o.dst=some d)(ho:o.op=.call { callee:=.builtin .len,args:=#[y],argTypes:=#[T0] })(hm:bf y x=true)(ht:iW P T0=some e)(hp:plain (.len d x) st=some st')  :sW P L σ T st' a w o:=by
 simp only [plain] at hp
 split at hp
 case h_1 sz es e =>
  have hp:=ZD.inj hp
  subst hp
  obtain ⟨xa,c,e1,_⟩:=(h.pv hm (show st.dG x=some (.list sz es) by simp [St.dG,e])).gq
  exact gW h hd (fun w'=>FZ ho ht e1 w') (.int _ _)
 case h_2 sz es e =>
  have hp:=ZD.inj hp
  subst hp
  cases x with
  |t t =>
   obtain ⟨g1,g2,g3⟩:=h.VN hm e
   obtain ⟨xa,c,e1,_⟩:=g3.slice
   exact gW h hd (fun w'=>FZ ho ht e1 w') (.int _ _)
  |c v=>simp [St.get] at e
  |nil s =>
   simp only [St.get,AV.row.injEq] at e
   obtain ⟨rfl,rfl⟩:=e
   have e1:a.eval y=.slice none 0 0:=by
    rcases h.get hm with ⟨t,e1,_⟩|⟨v',e1,g⟩|⟨s,e1,g⟩
    ·cases e1
    ·cases e1
    ·exact g
   exact gW h hd (fun w'=>FZ ho ht e1 w') (.int _ _)
 case h_3 r off len e =>
  split at hp
  ·rename_i p hr
   have hp:=ZD.inj hp
   subst hp
   obtain ⟨xa,n,c,x',g1,g2,g3,g4⟩:=h.Q9 hm e p.1 p.2 hr
   exact gW h hd (fun w'=>FZ ho ht g2 w') (.int _ _)
  ·cases hp
 case h_4=>cases hp
theorem ZH {T0:TypeId}{e:Nat}(h:aV L σ T st a w)(hd:o.dst=some d)(ho:o.op=.call { callee:=.builtin .len,args:=#[y],argTypes:=#[T0] })(hm:bf y x=true)(ht:iW P T0=some e)(hp:plain (.len d x) st=some st'):Looks P L σ T st' a w o:=(Ri h hd ho hm ht hp).looks
theorem aA.VR {ok:Nat→Prop}{sz:Nat}{e:PV}{es:List PV}{u:Value}(h:aA ok w (.list sz (e::es)) u):∃ ad n c,u=.slice (some ad) n c∧n≤c:=by
 obtain ⟨l,hl⟩:∃ l,l=e::es:=⟨_,rfl⟩
 rw [← hl] at h
 cases h with
 |nil=>cases hl
 |list _ _ b off c cv h1 h2 h3 h4 h6 h7 h8=>exact ⟨_,_,_,rfl,h3⟩
theorem Rj {b:BinOp}{T0 T1:TypeId}{e:Nat}{neg:Bool}(h:aV L σ T st a w)(hd:o.dst=some d)(ho:o.op=.binOp b T0 y (.const (.slice none 0 0)) T1)(hb:b=if neg then .neq else .eql)(hm:bf y x=true)(ht:iW P T0=some e)(hp:plain (.Yn d neg x) st=some st')  :sW P L σ T st' a w o:=by
 simp only [plain] at hp
 split at hp
 case h_2=>cases hp
 rename_i sz p es hx
 have hp:=ZD.inj hp
 subst hp
 obtain ⟨ad,n,c,e1,_⟩:=(h.pv hm (show st.dG x=some (.list sz (p::es)) by simp [St.dG,hx])).VR
 have hc:a.eval (.const (.slice none 0 0))=.slice none 0 0:=rfl
 refine gW h hd (fun w'=>yQ ho ?_ ?_) (.bool _)
 ·rw [e1,hc]
  subst hb
  cases neg<;>simp [eqGuard]
 ·rw [e1,hc]
  subst hb
  cases neg
  ·exact Go.run_eql_slice_nil w' T0 e (some ad) n c (oM ht)
  ·exact Go.run_neq_slice_nil w' T0 e (some ad) n c (oM ht)
theorem ZI {b:BinOp}{T0 T1:TypeId}{e:Nat}{neg:Bool}(h:aV L σ T st a w)(hd:o.dst=some d)(ho:o.op=.binOp b T0 y (.const (.slice none 0 0)) T1)(hb:b=if neg then .neq else .eql)(hm:bf y x=true)(ht:iW P T0=some e)(hp:plain (.Yn d neg x) st=some st'):Looks P L σ T st' a w o:=(Rj h hd ho hb hm ht hp).looks
theorem Rk {i:Nat}(h:aV L σ T st a w)(hd:o.dst=some d)(ho:o.op=.extract y i)(hm:bf y x=true)(hp:plain (.ext d x i) st=some st')  :sW P L σ T st' a w o:=by
 cases x with
 |c v=>simp [plain] at hp
 |nil s=>simp [plain] at hp
 |t n =>
  simp only [plain] at hp
  split at hp
  case h_2=>cases hp
  rename_i l e
  have e0:st.get (.t n)=.lU false l:=e
  obtain ⟨t,e1,h1,h2,arr,h3,h4,h5⟩:=h.at hm e0 (by simp) (by simp) (by simp)
  replace h3:_=Value.tuple arr:=h3
  cases e1
  have hx:∀ av,l[i]?=some av→∃ u,arr[i]?=some u∧jD T w n i av u∧∀ w',(execOp a.eval o).run P w'=.ok (.value u) w':=fun av hav=>by
   have hi:i<arr.size:=by rw [h4];exact (Z6.1 hav).1
   refine ⟨arr[i],zj hi,h5 i av _ hav (zj hi),fun w'=>?_⟩
   simp [execOp,ho,h3,Instr.extract,hi]
  split at hp
  case h_1 v hv =>
   have hp:=ZD.inj hp
   subst hp
   obtain ⟨u,_,g2,g3⟩:=hx _ hv
   exact gW h hd (fun w'=>g3 w') g2
  case h_2 sz es hv =>
   have hp:=ZD.inj hp
   subst hp
   obtain ⟨u,g1,g2,g3⟩:=hx _ hv
   -- the part leaves the tuple
   have hS:aV L σ T (st.put n (.lU false (l.set i .any))) a w:=h.turn (by simp) (fun v hv=>by
    rw [h2] at hv;cases hv
    refine ⟨arr,h3,by simpa using h4,fun k x u hk hu=>?_⟩
    rw [zp] at hk
    split at hk
    ·split at hk
     ·cases hk;trivial
     ·cases hk
    ·exact h5 k x u hk hu)
   refine ⟨u,moved T (.part n i) (.slot d),fun w'=>g3 w',?_,Even.moved _ _ _⟩
   rw [hd]
   refine hS.putRow (aW.frame (fun b e _=>⟨rD e,rfl⟩) (fun b e _=>⟨iI e,rfl⟩) g2) (fun b e=>iI e) (fun b o e=>oL e) (fun b hb=>kU (h.fresh b hb)) (fun t s l ht hs b e=>dQ (by simp) (by simpa using ht) e) (fun t j l' ht hs hj b e=>?_) (fun o j b e=>dQ (by simp) (by simp) e)
   by_cases hti:t=n∧j=i
   ·obtain ⟨rfl,rfl⟩:=hti
    obtain ⟨s,es',hj⟩:=hj
    have hs':(st.put t (.lU false (l.set j .any))).slots[t]?=some (.lU false (l.set j .any)):=by
     simp only [St.put,zp,if_true]
     rw [if_pos (Z6.1 (mV e0 (by simp))).1]
    rw [hs'] at hs
    cases hs
    rw [zp,if_pos rfl] at hj
    split at hj<;>cases hj
   ·exact dQ (by intro e;cases e;exact hti ⟨rfl,rfl⟩) (by simp) e
  case h_3=>cases hp
theorem ZJ {i:Nat}(h:aV L σ T st a w)(hd:o.dst=some d)(ho:o.op=.extract y i)(hm:bf y x=true)(hp:plain (.ext d x i) st=some st'):Looks P L σ T st' a w o:=(Rk h hd ho hm hp).looks
end
section
variable {P:Program}{L:Nat}{σ:Nat→Nat}{T T':Tags}{st st' st1:St}{a:Act}{w:World}{o:Oper}{d n:Nat}{x x2:bU}{y y2:Operand}{ok:Nat→Prop}
theorem Bg {v:Option PV}{dflt lim k:Nat}(h:bound v dflt lim=some k):(v=none∧k=dflt)∨∃ q,v=some (.int q (k:Int))∧k≤lim:=by
 unfold bound at h
 split at h
 ·exact .inl ⟨rfl,(ZD.inj h).symm⟩
 ·split at h
  ·rename_i q n hn
   have h:=ZD.inj h
   subst h
   exact .inr ⟨q,by rw [ZbB hn.1],by omega⟩
  ·cases h
 ·cases h
def NK:Option Operand→Option bU→Bool
 |none,none=>true
 |some y,some x=>bf y x
 |_,_=>false
theorem aV.zH (h:aV L σ T st a w){y:Option Operand}{x:Option bU}(hm:NK y x=true){v:Option PV}(hv:st.zH x=some v):(y=none∧v=none)∨∃ y0 x0 v0,y=some y0∧v=some v0∧x=some x0∧aA (fun b=>T b=.ro) w v0 (a.eval y0):=by
 cases y<;>cases x<;>simp only [NK,reduceCtorEq] at hm
 ·simp only [St.zH,ZD.injEq] at hv;exact .inl ⟨rfl,hv.symm⟩
 ·rename_i y0 x0
  simp only [St.zH] at hv
  obtain ⟨v0,h1,rfl⟩:=Zat.1 hv
  exact .inr ⟨y0,x0,v0,rfl,rfl,rfl,h.pv hm h1⟩
theorem run_sliceBound {q:IntKind}{k lim:Nat}(code:BoundsCode)(h:k≤lim)(w:World):(Instr.sliceBound (.int q (k:Int)) lim code).run P w=.ok k w:=by
 have:(k:Int)≤(lim:Int):=by omega
 simp [Instr.sliceBound,asIntOf,h]
theorem Rl {T0 e sz n c l k:Nat}{xa:Option Addr}{lo hi:Option Value}(ht:iW P T0=some e)(hs:iZ P e=some sz)(hnc:n≤c)(hkn:k≤n)(hlk:l≤k)(hlo:(lo=none∧l=0)∨∃ q,lo=some (.int q (l:Int)))(hhi:(hi=none∧k=n)∨∃ q,hi=some (.int q (k:Int)))(w:World) :
  (Instr.sliceAt T0 (.slice xa n c) lo hi none).run P w=.ok (.slice (if c=l then xa else xa.map (·.add (l*sz))) (k - l) (c - l)) w:=by
 have h1:(Instr.sliceBounds true n c lo hi none).run P w=.ok (l,k,c) w:=by
  unfold Instr.sliceBounds
  rcases hhi with ⟨rfl,rfl⟩|⟨q,rfl⟩<;>rcases hlo with ⟨rfl,rfl⟩|⟨q',rfl⟩
  ·simp
  ·simp [run_sliceBound _ hlk]
  ·simp [run_sliceBound _ (show k≤c by omega)]
  ·simp [run_sliceBound _ (show k≤c by omega),run_sliceBound _ hlk]
 simp [Instr.sliceAt,run_underlying (oM ht),Instr.slice,h1,pW hs]
theorem yU {lo hi:Option PV}{n l k:Nat}(h1:bound hi n n=some k)(h2:bound lo 0 k=some l):k≤n∧l≤k:=by
 rcases Bg h1 with ⟨_,rfl⟩|⟨q,_,h3⟩<;>rcases Bg h2 with ⟨_,rfl⟩|⟨q',_,h4⟩<;>omega
theorem aV.bnd (h:aV L σ T st a w){y:Option Operand}{x:Option bU}(hm:NK y x=true){v:Option PV}(hv:st.zH x=some v){dflt lim k:Nat}(hb:bound v dflt lim=some k):(y.map a.eval=none∧k=dflt)∨∃ q,y.map a.eval=some (.int q (k:Int)):=by
 rcases h.zH hm hv with ⟨rfl,rfl⟩|⟨y0,x0,v0,rfl,rfl,rfl,g⟩
 ·rcases Bg hb with ⟨_,rfl⟩|⟨q,e,_⟩
  ·exact .inl ⟨rfl,rfl⟩
  ·cases e
 ·rcases Bg hb with ⟨e,_⟩|⟨q,e,_⟩
  ·cases e
  ·cases e
   exact .inr ⟨q,by rw [Zah,g.bP]⟩
theorem Rn {T0 e sz:Nat}{lo hi:Option Operand}{lo' hi':Option bU}(h:aV L σ T st a w)(hd:o.dst=some d)(ho:o.op=.slice T0 y lo hi none)(hm:bf y x=true)(hml:NK lo lo'=true)(hmh:NK hi hi'=true)(ht:iW P T0=some e)(hs:iZ P e=some sz)
  (hp:plain (.Zw d sz x lo' hi') st=some st')  :sW P L σ T st' a w o:=by
 simp only [plain] at hp
 obtain ⟨lv,h1,hp1⟩:=bind_some hp
 clear hp
 obtain ⟨hv,h2,hp⟩:=bind_some hp1
 clear hp1
 have hrun:∀ {xa n c k l},a.eval y=.slice xa n c→n≤c→bound hv n n=some k→bound lv 0 k=some l→∀ w',(execOp a.eval o).run P w'=.ok (.value (.slice (if c=l then xa else xa.map (·.add (l*sz))) (k - l) (c - l))) w':=fun {xa n c k l} e1 hnc hk hl w'=>by
  obtain ⟨g1,g2⟩:=yU hk hl
  have:=Rl (P:=P) (xa:=xa) ht hs hnc g1 g2 (h.bnd hml h1 hl) (h.bnd hmh h2 hk) w'
  simp [execOp,ho,e1,this]
 split at hp
 case h_1 s es e =>
  obtain ⟨k,h3,hp⟩:=bind_some hp
  obtain ⟨l,h4,hp⟩:=bind_some hp
  split at hp
  case isFalse=>cases hp
  rename_i hsz
  have hp:=ZD.inj hp
  subst hp
  subst hsz
  obtain ⟨g1,g2⟩:=yU h3 h4
  have r:=h.pv hm (show st.dG x=some (.list s es) by simp [St.dG,e])
  obtain ⟨xa,c,e1,k1,k2,k3⟩:=r.gq
  refine gW h hd (hrun e1 k1 h3 h4) ?_
  have hlen:((es.drop l).take (k - l)).length=k - l:=by simp;omega
  suffices g:aA (fun b=>T b=.ro) w (.list s ((es.drop l).take (k - l))) (.slice (if c=l then xa else xa.map (·.add (l*s))) ((es.drop l).take (k - l)).length (c - l)) by
   rw [hlen] at g;exact g
  refine aA.Yu (by rw [hlen];omega) (zr (ZdA _ _) k2) (fun e0=>?_) (fun hpos=>?_)
  ·by_cases hcl:c=l
   ·exact .inl (by omega)
   ·rw [if_neg hcl]
    rcases r.ZG e1 with rfl|⟨b,off,hx,m1,m2⟩
    ·omega
    ·exact .inr ⟨b,off+l*s,by rw [hx];simp [Addr.add_lit],m1,m2⟩
  ·rw [hlen] at hpos
   obtain ⟨b,off,hx,m1,m2,m3,m4⟩:=k3 (by omega)
   refine ⟨b,off+l*s,by rw [if_neg (by omega),hx];simp [Addr.add_lit],m1,m2,fun el he=>m3 el (Zce (Za2 he)),fun i el hi=>?_⟩
   rw [Zaq] at hi
   split at hi
   ·rw [ZaP] at hi
    have:=m4 _ _ hi
    rwa [show off+l*s+i*s=off+(l+i)*s by rw [ZaC];omega]
   ·cases hi
 case h_2 s es e =>
  split at hp
  case h_2=>cases hp
  rename_i n
  obtain ⟨k,h3,hp⟩:=bind_some hp
  obtain ⟨l,h4,hp⟩:=bind_some hp
  split at hp
  case isFalse=>cases hp
  rename_i hsz
  have hp:=ZD.inj hp
  subst hp
  subst hsz
  obtain ⟨g1,g2⟩:=yU h3 h4
  obtain ⟨q1,q2,q3⟩:=h.VN hm e
  obtain ⟨xa,c,e1,k1,k2,k3⟩:=q3.slice
  refine oO h hd (r:=.slot n) rfl (hrun e1 k1 h3 h4) ⟨trivial,fun s' l' e=>?_⟩ (by simp)
  have:=fZ e
  rw [q1] at this;cases this
  refine ⟨xa,_,c,_,by rw [← e1];exact q2,rfl,fun e0=>?_,fun hpos=>?_,fun b o e=>?_⟩
  ·subst e0
   split
   ·rfl
   ·cases xa<;>simp [Addr.add]
  ·rw [if_neg (by omega)]
  ·subst e
   split
   ·exact ⟨o,rfl⟩
   ·exact ⟨_,by simp [Addr.add_lit];rfl⟩
 case h_3 r off len e =>
  obtain ⟨⟨s,es⟩,h5,hp5⟩:=bind_some hp
  clear hp
  simp only at hp5
  split at hp5
  case isFalse=>cases hp5
  rename_i hc
  obtain ⟨h6,rfl⟩:=hc
  obtain ⟨k,h3,hp6⟩:=bind_some hp5
  obtain ⟨l,h4,hp⟩:=bind_some hp6
  have hp:=ZD.inj hp
  subst hp
  obtain ⟨g1,g2⟩:=yU h3 h4
  obtain ⟨xa,n,c,x',m1,m2,m3,m4,m0⟩:=h.Q9 hm e s es h5
  obtain ⟨u,m5,m6⟩:=h.vS h5
  rw [m5] at m1;cases m1
  obtain ⟨xb,c',e3,m7,m8,m9⟩:=m6.slice
  cases e3
  refine oO h hd (r:=r) rfl (hrun m2 (by omega) h3 h4) ⟨h.acr hm (by assumption),fun s' l' e=>?_⟩ (by simp)
  rw [h5] at e;cases e
  refine ⟨xa,_,c,_,m5,by rw [Nat.sub_sub],fun e0=>?_,fun hpos=>?_,fun b o e=>?_⟩
  ·obtain ⟨rfl,rfl⟩:off=0∧l=0:=by omega
   rw [m3 rfl]
   split
   ·rfl
   ·cases xa<;>simp [Addr.add]
  ·rw [if_neg (by omega),m4 (by omega)]
   cases xa with
   |none=>rfl
   |some ad =>
    obtain ⟨b,hb,_⟩:=m9 (by omega)
    cases hb
    simp [Addr.add_lit,ZaC]
  ·obtain ⟨o',e'⟩:=m0 b o e
   rw [e']
   split
   ·exact ⟨o',rfl⟩
   ·exact ⟨_,by simp [Addr.add_lit];rfl⟩
 case h_4=>cases hp
theorem ZK {T0 e sz:Nat}{lo hi:Option Operand}{lo' hi':Option bU}(h:aV L σ T st a w)(hd:o.dst=some d)(ho:o.op=.slice T0 y lo hi none)(hm:bf y x=true)(hml:NK lo lo'=true)(hmh:NK hi hi'=true)(ht:iW P T0=some e)(hs:iZ P e=some sz)
  (hp:plain (.Zw d sz x lo' hi') st=some st'):Looks P L σ T st' a w o:=(Rn h hd ho hm hml hmh ht hs hp).looks
end
theorem mapM_some {α β:Type}{f:α→Option β}:∀ {l:List α} {m:List β},l.mapM f=some m→m.length=l.length∧∀ (i:Nat) x,l[i]?=some x→∃ y,f x=some y∧m[i]?=some y
 |[],m,h=>by simp at h;subst h;exact ⟨rfl,fun i x hx=>by simp at hx⟩
 |x::l,m,h=>by
  rw [List.mapM_cons] at h
  obtain ⟨y,h1,h2⟩:=bind_some h
  obtain ⟨ys,h3,h4⟩:=bind_some h2
  cases h4
  obtain ⟨g1,g2⟩:=mapM_some h3
  refine ⟨by simp [g1],fun i z hz=>?_⟩
  cases i with
  |zero=>simp at hz;subst hz;exact ⟨y,h1,rfl⟩
  |succ i=>exact g2 i z (by simpa using hz)
section
variable {P:Program}{L:Nat}{σ:Nat→Nat}{T T':Tags}{st st' st1:St}{a:Act}{w:World}{o:Oper}{d n:Nat}{x x2:bU}{y y2:Operand}{ok:Nat→Prop}
theorem aV.NM (h:aV L σ T st a w){r:Root}{sz off len:Nat}{es:List PV}{v:Value}(hr:st.row r=some (sz,es))(hv:NI (hdr σ a w r) off len sz v)(hl:off+len≤es.length)(h1:∀ b,T b=.row r→T' b=.ro)(h2:∀ b,T b=.ro→T' b=.ro) :
  aA (fun b=>T' b=.ro) w (.list sz ((es.drop off).take len)) v:=by
 obtain ⟨xa,n,c,x',m1,m2,m3,m4,m0⟩:=hv
 obtain ⟨u,m5,m6⟩:=h.vS hr
 rw [m5] at m1;cases m1
 obtain ⟨xb,c',e3,m7,m8,m9⟩:=m6.slice
 cases e3
 have hlen:((es.drop off).take len).length=len:=by simp;omega
 suffices g:aA (fun b=>T' b=.ro) w (.list sz ((es.drop off).take len)) (.slice x' ((es.drop off).take len).length (c - off)) by
  rw [hlen] at g;rw [m2];exact g
 by_cases hpos:0<len
 ·obtain ⟨b,hb,k1,k2,k3,k4⟩:=m9 (by omega)
  have hx':x'=some ⟨b,off*sz,none⟩:=by rw [m4 hpos,hb];simp [Addr.add_lit]
  refine aA.Yu (by rw [hlen];omega) (zr (ZdA _ _) m8) (fun _=>.inr ⟨b,_,hx',h1 b k1,k2⟩) (fun _=>⟨b,off*sz,hx',h1 b k1,k2,fun el he=>k3 el (Zce (Za2 he)),fun i el hi=>?_⟩)
  rw [Zaq] at hi
  split at hi
  ·rw [ZaP] at hi
   have:=(k4 _ _ hi).mono (fun b e=>h2 b e)
   rwa [show off*sz+i*sz=(off+i)*sz by rw [ZaC]]
  ·cases hi
 ·obtain rfl:len=0:=by omega
  have hnil:(es.drop off).take 0=[]:=by simp
  rw [hnil]
  by_cases hc:c=0
  ·subst hc
   rw [Nat.zero_sub]
   exact .nil _ _
  ·-- there is room,so it lies somewhere
   have hroom:∃ b,xa=some ⟨b,0,none⟩∧T b=.row r∧dD w b:=by
    rcases m6 with ⟨_,a0,e⟩|⟨b,c0,arr,E,e,g2,g3,_⟩
    ·exact absurd (by injection e) hc
    ·injection e with e1 e2 e3
     exact ⟨b,e1,g2,⟨_,_,_,g3⟩⟩
   obtain ⟨b,hb,k1,k2⟩:=hroom
   obtain ⟨o',e'⟩:=m0 b 0 hb
   rw [e']
   exact .list sz [] b o' (c - off) (fun _ _=>undef) (h1 b k1) k2 (ZaM _) (zr (ZdA _ _) m8) (fun e he=>by cases he) (fun i e j x hi=>by simp at hi) (fun i e j x hi=>by simp at hi)
def Free (st:St)(n:Nat):Prop:=∀ s l,st.slots[n]?≠some (.row s l)
theorem aV.acs (h:aV L σ T st a w)(hn:Free st n):aV L σ (sV T (.slot n)) st a w:=by
 have hw:∀ b,T b=.ro→b<w.heap.size→sV T (.slot n) b=.ro∧w.heap[b]?=w.heap[b]?:=fun b e _=>⟨qM e,rfl⟩
 refine ⟨h.size,fun t x u hx hu=>?_,fun o bx ho=>?_,fun b hb=>vP (h.fresh b hb)⟩
 ·refine (h.slots t x u hx hu).keep hw (fun s l e b hb _=>⟨kV (fun e2=>?_) hb,rfl⟩) (fun l e i _ b hb _=>⟨kV (by simp) hb,rfl⟩) (fun q hq _ s l e=>⟨⟨l,e⟩,rfl⟩) (ze _) (fun _ _=>rfl)
  cases e2
  exact hn s l (by rw [hx,e])
 ·have hb:=h.boxes o bx ho
  have hT:sV T (.slot n) (σ o)=T (σ o):=by
   obtain ⟨_,_,_,_,h3,_⟩:=hb
   rw [h3];split
   ·rename_i hf;exact qM (by rw [h3,if_pos hf])
   ·rename_i hf;exact xJ (by rw [h3,if_neg hf])
  exact hb.frame ⟨hT,rfl⟩ (fun j b e _=>⟨kV (by simp) e,rfl⟩) hw
theorem vU (st:St)(r:Root):(st.freeze r).boxes.length=st.boxes.length:=by
 unfold St.freeze
 split
 ·cases r<;>simp only [St.put]
  unfold St.setCell;split<;>simp
 ·rfl
theorem eU.arA {b p:Nat}{bx:Box}(h:eU T w b p bx)(hf:bx.fz=true):Mem (fun b=>T b=.ro) w b 0 (bx.cs.map BV.val)∧T b=.ro:=by
 obtain ⟨arr,E,h1,h2,h3,h4,h5⟩:=h
 rw [if_pos hf] at h3
 refine ⟨fun k x hx=>?_,h3⟩
 rw [zb] at hx
 cases e:bx.cs[k]? with
 |none=>rw [e] at hx;cases hx
 |some bv =>
  rw [e] at hx;cases hx
  have hk:k<arr.size:=by rw [h2];exact (Z6.1 e).1
  have g:arr[k]?=some arr[k]:=zj hk
  obtain ⟨g1,g2⟩:=h5 k bv _ e g
  refine ⟨arr[k],by rw [cell_of_row w b _ arr E (0,0) h1,Zan,g],g1,?_⟩
  cases bv with
  |pv v=>exact g2
  |row sz es=>exact absurd e (h4 hf k sz es)
theorem aV.Ro (h:aV L σ T st a w){t:Nat}{v:AV}{u:Value}(hv:lq L σ T st a w t v u){p:PV}(hs:st.snap v=some (p,false)):aA (fun b=>T b=.ro) w p u:=by
 unfold St.snap at hs
 split at hs
 ·cases hs;exact hv
 ·cases hs
 ·split at hs
  ·split at hs<;>cases hs
  ·cases hs
 ·rename_i o j
  split at hs
  ·rename_i bx hb
   have hs:=ZD.inj hs
   simp only [ZaD.injEq,Bool.not_eq_false'] at hs
   obtain ⟨rfl,hf⟩:=hs
   obtain ⟨_,rfl⟩:=hv
   obtain ⟨g1,g2⟩:=(h.boxes o bx hb).arA hf
   have:=aA.vT (off:=0) j g2 (h.boxes o bx hb).yS g1
   rwa [Zan] at this
  ·cases hs
 ·split at hs
  ·split at hs<;>cases hs
  ·cases hs
 ·cases hs
theorem iO.ZL {nb:Nat}(hnb:nb=st.boxes.length){v:AV}{u:Value}(h:iO nb σ T w v u)(t:Nat):lq L σ T st a w t v u:=by
 subst hnb
 cases v<;>simp only [iO] at h
 ·exact h
 ·exact h
theorem aV.rV:∀ (caps:List AV) {T:Tags} {st:St},aV L σ T st a w→∃ T',aV L σ T' (caps.foldl St.gB st) a w∧Still T T'∧(caps.foldl St.gB st).boxes.length=st.boxes.length∧(caps.foldl St.gB st).slots=st.slots
 |[],T,st,h=>⟨T,h,Still.refl T,rfl,rfl⟩
 |v::caps,T,st,h=>by
  have h1:∃ T',aV L σ T' (st.gB v) a w∧Still T T'∧(st.gB v).boxes.length=st.boxes.length∧(st.gB v).slots=st.slots:=by
   unfold St.gB
   split
   ·rename_i o j
    refine ⟨_,h.bD o,?_,?_,?_⟩
    ·split
     ·exact Still.jW _ _
     ·exact Still.refl T
    ·unfold St.bD;split<;>simp
    ·unfold St.bD;split<;>rfl
   ·exact ⟨T,h,Still.refl T,rfl,rfl⟩
  obtain ⟨T1,k1,k2,k3,k4⟩:=h1
  obtain ⟨T2,q1,q2,q3,q4⟩:=aV.rV caps k1
  exact ⟨T2,q1,k2.trans q2,q3.trans k3,q4.trans k4⟩
theorem aV.ahi (h:aV L σ T st a w){f t:Nat}{caps:List AV}{u:Value}(hv:lq L σ T st a w t (.fn f caps) u){p:PV}(hs:st.kD (.fn f caps)=some (p,false)):aA (fun b=>T b=.ro) w p u:=by
 simp only [St.kD] at hs
 obtain ⟨l,h1,h2⟩:=bind_some hs
 have h2:=ZD.inj h2
 simp only [ZaD.injEq] at h2
 obtain ⟨rfl,hfl⟩:=h2
 obtain ⟨m1,m2⟩:=mapM_some h1
 obtain ⟨arr,e1,e2,e3⟩:=hv
 rw [e1]
 refine .func f _ arr (by simp [m1,e2]) (fun j p u hp hu=>?_)
 rw [zb] at hp
 cases hl:l[j]? with
 |none=>rw [hl] at hp;cases hp
 |some q =>
  rw [hl] at hp;cases hp
  have hj:j<caps.length:=by rw [← m1];exact (Z6.1 hl).1
  have hcj:caps[j]?=some caps[j]:=ZS hj
  obtain ⟨q',g1,g2⟩:=m2 j caps[j] hcj
  rw [hl] at g2;cases g2
  have hq:q.2=false:=by
   have:=List.any_eq_false.1 hfl q (Zab hl)
   simpa using this
  obtain ⟨q1,q2⟩:=q
  simp only at hq;subst hq
  exact h.Ro ((e3 j caps[j] u hcj hu).ZL rfl 0) g1
theorem aV.consume (h:aV L σ T st a w)(hm:bf y x=true){v:PV}{own:Bool}(hc:st.consume x=some (v,own,st1)):∃ T',aV L σ T' st1 a w∧Still T T'∧st1.boxes.length=st.boxes.length ∧
  (own=false→aA (fun b=>T' b=.ro) w v (a.eval y))∧(own=true→∃ sz es n,v=.list sz es∧Free st1 n∧aW T' w (.slot n) sz es (a.eval y)):=by
 cases x with
 |c v' =>
  simp only [St.consume,ZD.injEq,ZaD.injEq] at hc
  obtain ⟨rfl,rfl,rfl⟩:=hc
  exact ⟨T,h,Still.refl T,rfl,fun _=>h.pv hm rfl,fun e=>by cases e⟩
 |nil sz =>
  simp only [St.consume,ZD.injEq,ZaD.injEq] at hc
  obtain ⟨rfl,rfl,rfl⟩:=hc
  have hfree:Free st st.slots.length:=by
   intro s l e
   rw [ZaV (ze _)] at e;cases e
  refine ⟨T,h,Still.refl T,rfl,(fun e=>by cases e),fun _=>⟨sz,[],st.slots.length,rfl,hfree,?_⟩⟩
  rcases h.get hm with ⟨t,e,_⟩|⟨v',e,_⟩|⟨s,_,g⟩
  ·cases e
  ·cases e
  ·rw [g];exact aW.nil _ _ _ _ _
 |t n =>
  simp only [St.consume] at hc
  split at hc
  case h_1 v' e =>
   simp only [ZD.injEq,ZaD.injEq] at hc
   obtain ⟨rfl,rfl,rfl⟩:=hc
   have e2:st.dG (.t n)=some v':=by unfold St.dG;rw [show st.get (.t n)=.pv v' from e]
   exact ⟨T,h,Still.refl T,rfl,fun _=>h.pv hm e2,fun e=>by cases e⟩
  case h_2 sz es e =>
   simp only [ZD.injEq,ZaD.injEq] at hc
   obtain ⟨rfl,rfl,rfl⟩:=hc
   obtain ⟨g1,g2,g3⟩:=h.VN hm e
   refine ⟨T,h.forget n,Still.refl T,rfl,(fun e=>by cases e),fun _=>⟨sz,es,n,rfl,fun s l e=>?_,g3⟩⟩
   simp only [St.put,zp,if_true] at e
   split at e<;>cases e
  case h_3 r off len e =>
   split at hc
   case h_2=>cases hc
   rename_i sz es hr
   split at hc
   case isFalse=>cases hc
   rename_i hl
   simp only [ZD.injEq,ZaD.injEq] at hc
   obtain ⟨rfl,rfl,rfl⟩:=hc
   obtain ⟨T1,k1,k2,k3,k4,_⟩:=h.freeze r
   exact ⟨T1,k1,k2,vU _ _,fun _=>h.NM hr (h.Q9 hm e sz es hr) hl (k4 sz es hr) k2.ro,fun e=>by cases e⟩
  case h_4 f caps e =>
   split at hc
   case h_2=>cases hc
   rename_i p hp
   simp only [ZD.injEq,ZaD.injEq] at hc
   obtain ⟨rfl,rfl,rfl⟩:=hc
   obtain ⟨T1,k1,k2,k3,k4⟩:=h.rV caps
   refine ⟨T1,k1,k2,k3,fun _=>?_,fun e=>by cases e⟩
   have e2:(caps.foldl St.gB st).get (.t n)=.fn f caps:=by
    show (caps.foldl St.gB st).slots.getD n .any=_
    rw [k4];exact e
   rcases k1.get hm with ⟨t,e3,(⟨_,g⟩|g)⟩|⟨v',e3,g⟩|⟨s,e3,g⟩
   ·rw [e2] at g;exact k1.ahi g hp
   ·rw [e2] at g;cases g
   ·cases e3
   ·cases e3
  case h_5=>cases hc
theorem aV.G7 (h:aV L σ T st a w)(hm:bf y x=true){v:PV}{own:Bool}(hc:st.consume x=some (v,own,st1)):∃ T',aV L σ T' st1 a w∧Still T T'∧st1.boxes.length=st.boxes.length∧aA (fun b=>T' b=.ro) w v (a.eval y):=by
 obtain ⟨T1,h1,h2,h3,h4,h5⟩:=h.consume hm hc
 cases own with
 |false=>exact ⟨T1,h1,h2,h3,h4 rfl⟩
 |true =>
  obtain ⟨sz,es,n,rfl,h6,h7⟩:=h5 rfl
  exact ⟨_,h1.acs h6,h2.trans (Still.sV _ _),h3,aW.list (fun b e=>AY e) (fun b e=>qM e) h7⟩
theorem Yv {T0 T1:TypeId}{mx:Bool}(h:aV L σ T st a w)(hd:o.dst=some d)(ho:o.op=.call { callee:=.builtin (if mx then .max else .min),args:=#[y,y2],argTypes:=#[T0,T1] })(hm:bf y x=true)(hm2:bf y2 x2=true)(hp:plain (.mn d mx x x2) st=some st'):sW P L σ T st' a w o:=by
 simp only [plain] at hp
 obtain ⟨v1,h1,hp⟩:=bind_some hp
 cases v1<;>simp only [reduceCtorEq] at hp
 rename_i k m
 obtain ⟨v2,h2,hp⟩:=bind_some hp
 cases v2<;>simp only [reduceCtorEq] at hp
 rename_i l q
 split at hp
 case isFalse=>cases hp
 rename_i hkl
 have hp:=ZD.inj hp
 subst hp
 subst hkl
 have e1:=(h.pv hm h1).bP
 have e2:=(h.pv hm2 h2).bP
 refine gW h hd (fun w'=>?_) (.int _ _)
 cases mx<;>simp [execOp,ho,resolve,invoke,builtin,e1,e2,Builtin.max_,Builtin.min_,Builtin.max2,Builtin.min2]
theorem acu {T0 T1:TypeId}{mx:Bool}(h:aV L σ T st a w)(hd:o.dst=some d)(ho:o.op=.call { callee:=.builtin (if mx then .max else .min),args:=#[y,y2],argTypes:=#[T0,T1] })(hm:bf y x=true)(hm2:bf y2 x2=true)(hp:plain (.mn d mx x x2) st=some st'):Looks P L σ T st' a w o:=(Yv h hd ho hm hm2 hp).looks
def oP:List Operand→List bU→Bool
 |[],[]=>true
 |y::ys,x::xs=>bf y x&&oP ys xs
 |_,_=>false
theorem aV.caps (h:aV L σ T st a w):∀ {ys:List Operand} {xs:List bU} {l:List AV},oP ys xs=true→zO st xs=some l→l.length=ys.length∧∀ (k:Nat) x u,l[k]?=some x→(ys.map a.eval)[k]?=some u→iO st.boxes.length σ T w x u
 |[],[],l,_,hc=>by simp only [zO,ZD.injEq] at hc;subst hc;exact ⟨rfl,fun k x u hx=>by simp at hx⟩
 |[],_::_,_,hm,_=>by simp [oP] at hm
 |_::_,[],_,hm,_=>by simp [oP] at hm
 |y::ys,x::xs,l,hm,hc=>by
  simp only [oP,ZZ] at hm
  simp only [zO] at hc
  obtain ⟨v,h1,hc⟩:=bind_some hc
  obtain ⟨vs,h2,hc⟩:=bind_some hc
  have hc:=ZD.inj hc
  subst hc
  obtain ⟨g1,g2⟩:=aV.caps h hm.2 h2
  refine ⟨by simp [g1],fun k x' u hx hu=>?_⟩
  cases k with
  |succ k=>exact g2 k x' u (by simpa using hx) (by simpa using hu)
  |zero =>
   simp only [Zak,ZD.injEq,Zaj] at hx hu
   subst hx;subst hu
   unfold capOf at h1
   split at h1
   ·rename_i v' e
    have h1:=ZD.inj h1
    subst h1
    exact h.pv hm.1 (by unfold St.dG;rw [e])
   ·rename_i p j e
    have h1:=ZD.inj h1
    subst h1
    exact h.aO hm.1 e
   ·cases h1
theorem ZM {f:Nat}{ys:List Operand}{xs:List bU}(h:aV L σ T st a w)(hd:o.dst=some d)(ho:o.op=.makeFunc (.func f) #[] ys.toArray)(hm:oP ys xs=true)(hp:plain (.VA d f xs) st=some st'):Looks P L σ T st' a w o:=by
 simp only [plain] at hp
 obtain ⟨l,h1,hp⟩:=bind_some hp
 have hp:=ZD.inj hp
 subst hp
 obtain ⟨g1,g2⟩:=h.caps hm h1
 refine ⟨.func (.func f) #[] (ys.map a.eval).toArray,T,fun w' _=>?_,?_,Still.refl _⟩
 ·simp [execOp,ho,Instr.makeFunc]
 ·rw [hd]
  exact h.put (by simp) ⟨_,rfl,by simp [g1],fun k x u hx hu=>g2 k x u hx (by simpa using hu)⟩
theorem foldl_set (arr:Array Value)(off:Nat):∀ (vs:List Value) (k:Nat) (cs:Array Value),off+k+vs.length≤cs.size→∀ i,((vs.zipIdx k).foldl (fun cs (p:Value×Nat)=>cs.setIfInBounds (off+p.2) p.1) cs)[i]?=if off+k≤i∧i<off+k+vs.length then vs[i - (off+k)]? else cs[i]?
 |[],k,cs,_,i=>by simp;intro h1 h2;omega
 |v::vs,k,cs,hl,i=>by
  simp only [ZcD,ZbU]
  rw [foldl_set arr off vs (k+1) _ (by simp at hl ⊢;omega) i]
  simp only [za] at hl ⊢
  by_cases h1:off+(k+1)≤i∧i<off+(k+1)+vs.length
  ·rw [if_pos h1,if_pos (by omega),show i - (off+k)=(i - (off+(k+1)))+1 by omega,ZaH]
  ·rw [if_neg h1,Zbh]
   by_cases h2:off+k=i
   ·subst h2
    rw [if_pos rfl,if_pos (by omega),if_pos (by omega),Nat.sub_self,Zak]
   ·rw [if_neg h2,if_neg (by omega)]
theorem vV (off:Nat):∀ (vs:List Value) (k:Nat) (cs:Array Value),((vs.zipIdx k).foldl (fun cs (p:Value×Nat)=>cs.setIfInBounds (off+p.2) p.1) cs).size=cs.size
 |[],k,cs=>rfl
 |v::vs,k,cs=>by simp only [ZcD,ZbU];rw [vV off vs];simp
theorem Cells.frame {w:World}{ok ok':Nat→Prop}{cs:List PV}{arr:Array Value}(hk:∀ b,ok b→ok' b)(h:Cells ok w cs arr):Cells ok' w cs arr:=⟨h.size,h.one,fun j x v hx hv=>(h.rep j x v hx hv).frame fun b hb _=>⟨hk b hb,rfl⟩⟩
theorem Cells.splice {cs vs cs':List PV}{arr ZN:Array Value}{off:Nat}(h:Cells ok w cs arr)(hv:Cells ok w vs ZN)(hs:splice cs off vs=some cs') :
  off+ZN.size≤arr.size∧Cells ok w cs' ((ZN.zipIdx).foldl (fun cs (p:Value×Nat)=>cs.setIfInBounds (off+p.2) p.1) arr):=by
 unfold Go.Proofs.YtioijcfcehhmdaaGreatDoor.splice at hs
 split at hs
 case isFalse=>cases hs
 rename_i hl
 have hs:=ZD.inj hs
 subst hs
 have h1:=h.size
 have h2:=hv.size
 have e:(ZN.zipIdx).foldl (fun cs (p:Value×Nat)=>cs.setIfInBounds (off+p.2) p.1) arr=(ZN.toList.zipIdx 0).foldl (fun cs (p:Value×Nat)=>cs.setIfInBounds (off+p.2) p.1) arr:=by
  rw [← Array.foldl_toList,Array.toList_zipIdx]
 rw [e]
 have hget:=foldl_set arr off ZN.toList 0 arr (by simp;omega)
 have hlist:∀ i,(cs.take off++vs++cs.drop (off+vs.length))[i]?=if off≤i∧i<off+vs.length then vs[i - off]? else cs[i]?:=fun i=>by
  rw [Zay,Zcf]
  simp only [Zac,show min off cs.length=off by omega]
  split
  ·rename_i hi;rw [if_neg (by omega),Zaq,if_pos hi]
  ·rename_i hi
   rw [Zcf]
   split
   ·rename_i hj;rw [if_pos (by omega)]
   ·rename_i hj;rw [if_neg (by omega),ZaP];congr 1;omega
 refine ⟨by omega,⟨?_,fun j v hj=>?_,fun j x v hx hj=>?_⟩⟩
 ·rw [vV];simp;omega
 ·rw [hget] at hj
  split at hj
  ·exact hv.one _ _ (by simpa using hj)
  ·exact h.one _ _ hj
 ·rw [hget] at hj
  rw [hlist] at hx
  simp only [Za1,ZaA,h2] at hj
  split at hj
  ·rename_i hi
   rw [if_pos hi] at hx
   exact hv.rep _ _ _ hx (by simpa using hj)
  ·rename_i hi
   rw [if_neg hi] at hx
   exact h.rep _ _ _ hx hj
def placeOf (P:Program)(T:TypeId)(i:Nat):Option (Nat×Nat) :=
 match P.underlying T with
 |some (.array _ e)=>(iZ P e).map fun s=>(i*s,s)
 |some (.struct fs)=>(fs.toList.mapM fun f=>(P.info? f.type).map fun i=>(f.offset,i.size)).bind fun l=>l[i]?
 |_=>none
def xO (P:Program)(T:TypeId):List (Nat×Operand)→List (Nat×Nat×bU)→Bool
 |[],[]=>true
 |(i,y)::l,(off,n,x)::m=>placeOf P T i==some (off,n)&&bf y x&&xO P T l m
 |_,_=>false
def uy (P:Program)(T:TypeId)(z:List PV):Bool :=
 match P.info? T with
 |some i=>match i.zero with
  |some v=>xK z v.cells.toList
  |none=>false
 |none=>false
theorem qO {z:List PV}{arr:Array Value}(h:xK z arr.toList=true)(ok:Nat→Prop)(w:World):Cells ok w z arr:=by
 obtain ⟨h1,h2⟩:=zS (ok:=ok) (w:=w) h
 exact ⟨by simpa using h1.symm,fun j v hv=>(h2 j v (by simpa using hv)).1,fun j x v hx hv=>(h2 j v (by simpa using hv)).2 x hx⟩
theorem aV.build (place:Nat→Option (Nat×Nat)):∀ {l:List (Nat×Operand)} {m:List (Nat×Nat×bU)} {T:Tags} {st st1:St} {cs cs':List PV} {arr:Array Value},aV L σ T st a w→(∀ (k:Nat) p q,l[k]?=some p→m[k]?=some q→place p.1=some (q.1,q.2.1)∧bf p.2 q.2.2=true)→l.length=m.length →
  Cells (fun b=>T b=.ro) w cs arr→iV cs st m=some (cs',st1)→∃ T' arr',aV L σ T' st1 a w∧Still T T'∧Instr.fill place arr (l.map fun p=>(p.1,a.eval p.2))=some arr'∧Cells (fun b=>T' b=.ro) w cs' arr'
 |[],[],T,st,st1,cs,cs',arr,h,_,_,hc,hb=>by
  simp only [iV,ZD.injEq,ZaD.injEq] at hb
  obtain ⟨rfl,rfl⟩:=hb
  exact ⟨T,arr,h,Still.refl T,rfl,hc⟩
 |[],_::_,_,_,_,_,_,_,_,_,hl,_,_=>by simp at hl
 |_::_,[],_,_,_,_,_,_,_,_,hl,_,_=>by simp at hl
 |(i,y)::l,(off,n,x)::m,T,st,st1,cs,cs',arr,h,hm,hl,hc,hb=>by
  simp only [iV] at hb
  obtain ⟨⟨v,own,st2⟩,h1,hb⟩:=bind_some hb
  obtain ⟨cs2,h2,hb⟩:=bind_some hb
  simp only at hb h2
  split at hb
  case isFalse=>cases hb
  rename_i hn
  obtain ⟨hp,hy⟩:=hm 0 _ _ rfl rfl
  obtain ⟨T1,k1,k2,k3,k4⟩:=h.G7 hy h1
  have hcv:=k4.cells
  obtain ⟨g1,g2⟩:=(hc.frame k2.ro).splice hcv h2
  obtain ⟨T2,arr',q1,q2,q3,q4⟩:=aV.build place k1 (fun k p q hp hq=>hm (k+1) p q hp hq) (by simpa using hl) g2 hb
  refine ⟨T2,arr',q1,k2.trans q2,?_,q4⟩
  simp only [Zaj,Instr.fill,hp]
  have hsz:(a.eval y).cells.size=n:=by rw [hcv.size,hn]
  rw [hsz] at g1
  rw [if_neg (by simp [hsz];omega)]
  exact q3
theorem G8 {T0:TypeId}{l:List (Nat×Operand)}{m:List (Nat×Nat×bU)}{z:List PV}(h:aV L σ T st a w)(hd:o.dst=some d)(ho:o.op=.build T0 l.toArray)(hm:xO P T0 l m=true)(hz:uy P T0 z=true)(hu:(∃ n e,Ky P T0=some (n,e)∧(iZ P e).isSome=true)∨∃ fs pl,P.underlying T0=some (.struct fs)∧(fs.toList.mapM fun f=>(P.info? f.type).map fun i=>(f.offset,i.size))=some pl)
  (hp:plain (.build d z m) st=some st'):Yq P L σ T st' a w o:=by
 simp only [plain] at hp
 obtain ⟨⟨cs,st1⟩,h1,hp⟩:=bind_some hp
 have hp:=ZD.inj hp
 subst hp
 unfold uy at hz
 split at hz
 case h_2=>cases hz
 rename_i it hit
 split at hz
 case h_2=>cases hz
 rename_i zv hzv
 have hparts:∀ {l:List (Nat×Operand)} {m:List (Nat×Nat×bU)},xO P T0 l m=true→l.length=m.length∧∀ (k:Nat) p q,l[k]?=some p→m[k]?=some q→placeOf P T0 p.1=some (q.1,q.2.1)∧bf p.2 q.2.2=true:=by
  intro l
  induction l with
  |nil=>intro m hm;cases m<;>simp [xO] at hm ⊢
  |cons p l ih =>
   intro m hm
   cases m with
   |nil=>simp [xO] at hm
   |cons q m =>
    simp only [xO,ZZ,beq_iff_eq] at hm
    obtain ⟨⟨hm1,hm2⟩,hm3⟩:=hm
    obtain ⟨i1,i2⟩:=ih hm3
    refine ⟨by simp [i1],fun k p' q' hp hq=>?_⟩
    cases k with
    |zero=>simp at hp hq;subst hp;subst hq;exact ⟨hm1,hm2⟩
    |succ k=>exact i2 k p' q' (by simpa using hp) (by simpa using hq)
 obtain ⟨hl,hpl⟩:=hparts hm
 obtain ⟨T1,arr,k1,k2,k3,k4⟩:=aV.build (placeOf P T0) h hpl hl (qO hz _ _) h1
 have akS:P.built T0 (l.map fun p=>(p.1,a.eval p.2))=some arr:=by
  unfold Program.built
  rcases hu with ⟨n,e,he,hs⟩|⟨fs,pl,hfs,an4⟩
  ·have hue:=Yp he
   cases hie:P.info? e with
   |none=>simp [iZ,hie] at hs
   |some ie =>
    simp only [hit,hue,hzv,hie]
    rw [← k3]
    congr 1
    funext i
    simp [placeOf,hue,iZ,hie]
  ·simp only [hit,hfs,hzv,an4]
   rw [← k3]
   congr 1
   funext i
   simp [placeOf,hfs,an4]
 refine ⟨.agg arr,T1,fun w'=>?_,by rw [hd];exact k1.AX k4.agg,k2⟩
 have hb:=run_build (P:=P) w' T0 (l.map fun p=>(p.1,a.eval p.2)).toArray arr (by simpa using akS)
 simp only [execOp,ho,Zcd]
 simp [hb]
theorem Rq {T0:TypeId}{l:List (Nat×Operand)}{m:List (Nat×Nat×bU)}{z:List PV}(h:aV L σ T st a w)(hd:o.dst=some d)(ho:o.op=.build T0 l.toArray)(hm:xO P T0 l m=true)(hz:uy P T0 z=true)(hu:(∃ n e,Ky P T0=some (n,e)∧(iZ P e).isSome=true)∨∃ fs pl,P.underlying T0=some (.struct fs)∧(fs.toList.mapM fun f=>(P.info? f.type).map fun i=>(f.offset,i.size))=some pl)
  (hp:plain (.build d z m) st=some st'):Looks P L σ T st' a w o:=(G8 h hd ho hm hz hu hp).looks
end
section
variable {P:Program}{L:Nat}{σ σ':Nat→Nat}{T T':Tags}{st st' st1:St}{a:Act}{w w1:World}{o:Oper}{d n:Nat}{x x2:bU}{y y2:Operand}{ok:Nat→Prop}
def Whole (w w':World):Prop:=w.heap.size≤w'.heap.size∧∀ b,b<w.heap.size→w'.heap[b]?=w.heap[b]?
theorem Whole.refl (w:World):Whole w w:=⟨ze _,fun _ _=>rfl⟩
theorem Whole.sees {T:Tags}{w w':World}(h:Whole w w'):rQ T w w':=⟨h.1,fun b _ hl=>h.2 b hl⟩
theorem kW (w:World)(ob:Obj):Whole w (w.alloc ob):=⟨by simp,fun b hl=>Below.heap_alloc _ _ _ hl⟩
def Does (P:Program)(L:Nat)(σ:Nat→Nat)(T:Tags)(nb:Nat)(st':St)(a:Act)(w:World)(o:Oper)(vW:Bool):Prop :=
 ∃ nx v w1 σ' T',(execOp a.eval o).run P w=.ok nx w1∧(nx=.value v∨nx=.skip∧v=undef)∧aV L σ' T' st' (a.put o.dst v) w1∧zQ T T' w w1∧(∀ k,k<nb→σ' k=σ k)∧(vW=true→Whole w w1)
def upd (T:Tags)(b:Nat)(q:qG):Tags:=fun x=>if x=b then q else T x
theorem upd_ne {b c:Nat}{q:qG}(h:c≠b):upd T b q c=T c:=by simp [upd,h]
theorem NP {b:Nat}{q:qG}:upd T b q b=q:=by simp [upd]
theorem G9 (T:Tags)(w:World)(ob:Obj):rQ T w (w.alloc ob):=⟨by simp,fun b _ hl=>Below.heap_alloc _ _ _ hl⟩
theorem mW (hT:T w.heap.size=.other)(ob:Obj)(q:qG):zQ T (upd T w.heap.size q) w (w.alloc ob) :=
 ⟨by simp,rfl,rfl,rfl,fun b hl _=>Below.heap_alloc _ _ _ hl,fun b e=>by rw [upd_ne (fun e2=>by rw [e2,hT] at e;cases e)];exact e,fun b hl e=>by rw [upd_ne (by omega)];exact e⟩
theorem rQ.trans {w2:World}(h:rQ T w w1)(k:rQ T w1 w2):rQ T w w2:=⟨zr h.1 k.1,fun b hb hl=>(k.2 b hb (Zae hl h.1)).trans (h.2 b hb hl)⟩
theorem aV.Rt (h:aV L σ T st a w){sz c E:Nat}{es:List PV}{arr:Array Value}(h1:arr.size=c*sz)(h2:es.length≤c)(h3:c≤maxLen)(h4:∀ e∈es,e.cells.length=sz)
  (h5:∀ i e j x,es[i]?=some e→e.cells[j]?=some x→∃ u,arr[i*sz+j]?=some u∧u.oneCell'=true∧aA (fun b=>T b=.ro) w x u) :
  aV L σ (upd T w.heap.size (.row (.slot d))) (st.putRow d sz es) (a.put (some d) (.slice (some ⟨w.heap.size,0,none⟩) es.length c)) (w.alloc (.cells arr E)):=by
 have hT:=h.fresh w.heap.size (ze _)
 have hS:=h.sees (G9 T w (.cells arr E))
 have hne:∀ c p,p≠.other→T c=p→upd T w.heap.size (.row (.slot d)) c=p:=fun c p hp e=>by rw [upd_ne (fun e2=>by subst e2;rw [hT] at e;exact hp e.symm)];exact e
 refine hS.putRow (.inr ⟨w.heap.size,c,arr,E,rfl,NP,heap_alloc_new w _,h1,h2,h3,h4,fun i e j x hi hj=>?_⟩) (fun b e=>hne b _ (by simp) e) (fun b o e=>hne b _ (by simp) e) (fun b hb=>?_) (fun t s l _ _ b e=>hne b _ (by simp) e) (fun t i l _ _ _ b e=>hne b _ (by simp) e) (fun o j b e=>hne b _ (by simp) e)
 ·obtain ⟨u,k1,k2,k3⟩:=h5 i e j x hi hj
  exact ⟨u,k1,k2,k3.frame fun b e hl=>⟨hne b _ (by simp) e,Below.heap_alloc _ _ _ hl⟩⟩
 ·rw [World.size_alloc] at hb
  rw [upd_ne (by omega)];exact h.fresh b (by omega)
theorem aV.retag (h:aV L σ T st a w)(hn:Free st n){p j:Nat}(hp:st.boxes.length≤p):aV L σ (moved T (.slot n) (.cell p j)) st a w:=by
 have hw:∀ b,T b=.ro→b<w.heap.size→moved T (.slot n) (.cell p j) b=.ro∧w.heap[b]?=w.heap[b]?:=fun b e _=>⟨iI e,rfl⟩
 refine ⟨h.size,fun t x u hx hu=>?_,fun q bx ho=>?_,fun b hb=>kU (h.fresh b hb)⟩
 ·refine (h.slots t x u hx hu).keep hw (fun s l e b hb _=>⟨dQ (fun e2=>?_) (by simp) hb,rfl⟩) (fun l e i _ b hb _=>⟨dQ (by simp) (by simp) hb,rfl⟩) (fun q hq _ s l e=>⟨⟨l,e⟩,rfl⟩) (ze _) (fun _ _=>rfl)
  cases e2
  exact hn s l (by rw [hx,e])
 ·have hq:q<st.boxes.length:=(Z6.1 ho).1
  have hb:=h.boxes q bx ho
  have hT:moved T (.slot n) (.cell p j) (σ q)=T (σ q):=by
   obtain ⟨_,_,_,_,h3,_⟩:=hb
   rw [h3];split
   ·rename_i hf;exact iI (by rw [h3,if_pos hf])
   ·rename_i hf;exact oL (by rw [h3,if_neg hf])
  exact hb.frame ⟨hT,rfl⟩ (fun k b e _=>⟨dQ (by simp) (by intro e2;cases e2;omega) e,rfl⟩) hw
theorem aV.He (h:aV L σ T st a w){cs:List BV}{arr:Array Value}{E:Nat}(h1:arr.size=cs.length)(h2:∀ (j:Nat) bv u,cs[j]?=some bv→arr[j]?=some u→u.oneCell'=true∧GX T w st.boxes.length j bv u) :
  aV L (fun k=>if k=st.boxes.length then w.heap.size else σ k) (upd T w.heap.size (.box st.boxes.length)) (({ st with boxes:=st.boxes++[(⟨false,cs⟩:Box)] }:St).put d (.aO st.boxes.length 0)) (a.put (some d) (.pointer (some ⟨w.heap.size,0,none⟩))) (w.alloc (.cells arr E)):=by
 have hT:=h.fresh w.heap.size (ze _)
 have hS:=h.sees (G9 T w (.cells arr E))
 have hne:∀ c p,p≠.other→T c=p→upd T w.heap.size (.box st.boxes.length) c=p:=fun c p hp e=>by rw [upd_ne (fun e2=>by subst e2;rw [hT] at e;exact hp e.symm)];exact e
 have hw:∀ c,T c=.ro→c<w.heap.size→upd T w.heap.size (.box st.boxes.length) c=.ro∧(w.alloc (.cells arr E)).heap[c]?=w.heap[c]?:=fun c e hl=>⟨hne c _ (by simp) e,Below.heap_alloc _ _ _ hl⟩
 have hσ:∀ k,k<st.boxes.length→(if k=st.boxes.length then w.heap.size else σ k)=σ k:=fun k hk=>if_neg (by omega)
 have hbb:∀ k bx,st.boxes[k]?=some bx→(st.boxes++[(⟨false,cs⟩:Box)])[k]?=some bx:=fun k bx e=>by
  rw [Zad (Z6.1 e).1];exact e
 -- first the variable
 have hA:aV L (fun k=>if k=st.boxes.length then w.heap.size else σ k) (upd T w.heap.size (.box st.boxes.length)) ({ st with boxes:=st.boxes++[(⟨false,cs⟩:Box)] }:St) a (w.alloc (.cells arr E)):=by
  refine ⟨h.size,fun t av v ht hv=>?_,fun p bx ho=>?_,fun c hc=>?_⟩
  ·refine (h.slots t av v ht hv).keep hw (fun _ _ _ c e hl=>⟨hne c _ (by simp) e,Below.heap_alloc _ _ _ hl⟩) (fun _ _ _ _ c e hl=>⟨hne c _ (by simp) e,Below.heap_alloc _ _ _ hl⟩) (fun r hr hlow s l e=>?_) (by simp) hσ
   cases r with
   |slot t'=>exact ⟨⟨l,e⟩,rfl⟩
   |part t' i=>exact ⟨⟨l,e⟩,rfl⟩
   |cell p q =>
    by_cases hp:p<st.boxes.length
    ·have e2:st.row (.cell p q)=some (s,l):=by
      simp only [St.row] at e ⊢
      rw [Zad hp] at e
      exact e
     refine ⟨⟨l,e2⟩,?_⟩
     obtain ⟨bx,hb,_⟩:=dZ e2
     have hl:=(h.boxes p bx hb).lt
     show (w.alloc (.cells arr E)).cell? ⟨if p=st.boxes.length then w.heap.size else σ p,q,none⟩=w.cell? ⟨σ p,q,none⟩
     rw [hσ p hp]
     exact World.cell?_of_block (w:=w) (a:=⟨σ p,q,none⟩) (Below.heap_alloc _ _ _ hl)
    ·exact absurd hlow hp
  ·by_cases hp:p<st.boxes.length
   ·rw [Zad hp] at ho
    have hb:=h.boxes p bx ho
    have hlt:=hb.lt
    show eU _ _ (if p=st.boxes.length then w.heap.size else σ p) p bx
    rw [hσ p hp]
    refine hb.frame ⟨upd_ne (by omega),Below.heap_alloc _ _ _ hlt⟩ (fun j c e hl=>⟨hne c _ (by simp) e,Below.heap_alloc _ _ _ hl⟩) hw
   ·have hpe:p=st.boxes.length:=by
     have:=(Z6.1 ho).1
     simp at this;omega
    subst hpe
    rw [zP (ze _),Nat.sub_self] at ho
    have ho:=ZD.inj ho
    subst ho
    show eU _ _ (if st.boxes.length=st.boxes.length then w.heap.size else σ st.boxes.length) _ _
    rw [if_pos rfl]
    refine ⟨arr,E,heap_alloc_new w _,h1,by simp [NP],(fun e=>by cases e),fun j bv u hj hu=>?_⟩
    obtain ⟨g1,g2⟩:=h2 j bv u hj hu
    exact ⟨g1,g2.frame (fun c e hl=>⟨hne c _ (by simp) e,Below.heap_alloc _ _ _ hl⟩) hw⟩
  ·rw [World.size_alloc] at hc
   rw [upd_ne (by omega)];exact h.fresh c (by omega)
 refine hA.put (by simp) ⟨?_,?_⟩
 ·show st.boxes.length<(st.boxes++[(⟨false,cs⟩:Box)]).length
  simp
 ·show Value.pointer _=Value.pointer (some ⟨if st.boxes.length=st.boxes.length then w.heap.size else σ st.boxes.length,0,none⟩)
  rw [if_pos rfl]
theorem VT {T0:TypeId}{z:List PV}(h:aV L σ T st a w)(hd:o.dst=some d)(ho:o.op=.alloc T0)(hz:uy P T0 z=true){rec env}(hp:act rec env (.alloc d z) st=some st'):Does P L σ T st.boxes.length st' a w o true:=by
 simp only [act,ZD.injEq] at hp
 subst hp
 unfold uy at hz
 split at hz
 case h_2=>cases hz
 rename_i it hit
 split at hz
 case h_2=>cases hz
 rename_i zv hzv
 have hc:=qO hz (fun b=>T b=.ro) w
 refine ⟨_,.pointer (some ⟨w.heap.size,0,none⟩),w.alloc (.cells zv.cells T0),fun k=>if k=st.boxes.length then w.heap.size else σ k,_,?_,.inl rfl,?_,mW (h.fresh _ (ze _)) _ (.box st.boxes.length),fun k hk=>if_neg (by omega),fun _=>kW _ _⟩
 ·simp [execOp,ho,Instr.alloc,zeroValue,typeInfo,hit,hzv,newVar,newRow,newObj,Sem.run]
  try rfl
 ·rw [hd]
  refine h.He (by simpa using hc.size) (fun j bv u hj hu=>?_)
  rw [zb] at hj
  cases e:z[j]? with
  |none=>rw [e] at hj;cases hj
  |some x =>
   rw [e] at hj;cases hj
   refine ⟨hc.one j u hu,?_⟩
   unfold zBV
   split
   ·have hc':=qO hz (fun _=>False) w
    have g:=hc'.rep j _ u e hu
    cases g with
    |nil sz a=>exact .inl ⟨rfl,a,rfl⟩
    |list _ _ _ _ _ _ h1=>exact h1.elim
   ·exact hc.rep j _ u e hu
theorem acv {T0:TypeId}(h:aV L σ T st a w)(hd:o.dst=some d)(ho:o.op=.box T0 y)(hm:bf y x=true){rec env}(hp:act rec env (.box d x) st=some st'):Does P L σ T st.boxes.length st' a w o true:=by
 simp only [act] at hp
 obtain ⟨⟨v,own,st1⟩,h1,hp1⟩:=bind_some hp
 clear hp
 obtain ⟨T1,k1,k2,k3,k4,k5⟩:=h.consume hm h1
 have hp:=ZD.inj hp1
 clear hp1
 have hrun:(execOp a.eval o).run P w=.ok (.value (.pointer (some ⟨w.heap.size,0,none⟩))) (w.alloc (.cells (a.eval y).cells T0)):=by
  simp [execOp,ho,Instr.box,newVar,newRow,newObj,Sem.run]
  try rfl
 have hpv:own=false∨(∀ sz es,v≠.list sz es)→Does P L σ T st.boxes.length (({ st1 with boxes:=st1.boxes++[(⟨false,v.cells.map .pv⟩:Box)] }:St).put d (.aO st1.boxes.length 0)) a w o true:=fun hown=>by
  have hv:own=false:=by
   rcases hown with e|e
   ·exact e
   ·cases own
    ·rfl
    ·obtain ⟨sz,es,_,e2,_⟩:=k5 rfl;exact absurd e2 (e sz es)
  have hc:=(k4 hv).cells
  refine ⟨_,_,_,fun k=>if k=st1.boxes.length then w.heap.size else σ k,_,hrun,.inl rfl,?_,((k2.pV w).trans (mW (k1.fresh _ (ze _)) _ (.box st1.boxes.length))),fun k hk=>if_neg (by omega),fun _=>kW _ _⟩
  rw [hd]
  refine k1.He (by simpa using hc.size) (fun j bv u hj hu=>?_)
  rw [zb] at hj
  cases e:v.cells[j]? with
  |none=>rw [e] at hj;cases hj
  |some x=>rw [e] at hj;cases hj;exact ⟨hc.one j u hu,hc.rep j x u e hu⟩
 cases own with
 |false =>
  by_cases hnl:∃ sz,v=.l9 sz
  ·obtain ⟨sz,rfl⟩:=hnl
   subst hp
   obtain ⟨xa,he⟩:∃ xa,a.eval y=.slice xa 0 0:=by
    have:=k4 rfl
    generalize a.eval y=u at this
    cases this;exact ⟨_,rfl⟩
   refine ⟨_,_,_,fun k=>if k=st1.boxes.length then w.heap.size else σ k,_,hrun,.inl rfl,?_,((k2.pV w).trans (mW (k1.fresh _ (ze _)) _ (.box st1.boxes.length))),fun k hk=>if_neg (by omega),fun _=>kW _ _⟩
   rw [hd]
   refine k1.He (by rw [he];rfl) (fun j bv u hj hu=>?_)
   rw [he] at hu
   cases j with
   |zero =>
    simp [Value.cells] at hj hu
    subst hj;subst hu
    exact ⟨rfl,.inl ⟨rfl,xa,rfl⟩⟩
   |succ j=>simp at hj
  have e:st'=(({ st1 with boxes:=st1.boxes++[(⟨false,v.cells.map .pv⟩:Box)] }:St).put d (.aO st1.boxes.length 0)):=by
   rw [← hp];cases v<;>first|rfl|exact absurd ⟨_,rfl⟩ hnl
  rw [e]
  exact hpv (.inl rfl)
 |true =>
  obtain ⟨sz,es,n,rfl,hf,hr⟩:=k5 rfl
  subst hp
  have hone:(a.eval y).cells=#[a.eval y]∧(a.eval y).oneCell'=true:=by
   obtain ⟨xa,c,e,_⟩:=hr.slice
   rw [e];exact ⟨rfl,rfl⟩
  have k6:=k1.retag hf (p:=st1.boxes.length) (j:=0) (ze _)
  refine ⟨_,_,_,fun k=>if k=st1.boxes.length then w.heap.size else σ k,_,hrun,.inl rfl,?_,((k2.pV w).trans (((Still.moved T1 (.slot n) (.cell st1.boxes.length 0)).pV w).trans (mW (k6.fresh _ (ze _)) _ (.box st1.boxes.length)))),fun k hk=>if_neg (by omega),fun _=>kW _ _⟩
  rw [hd]
  refine k6.He (by rw [hone.1];rfl) (fun j bv u hj hu=>?_)
  rw [hone.1] at hu
  cases j with
  |zero =>
   simp at hj hu
   subst hj;subst hu
   exact ⟨hone.2,aW.frame (fun b e _=>⟨rD e,rfl⟩) (fun b e _=>⟨iI e,rfl⟩) hr⟩
  |succ j=>simp at hj
end
structure eF (ok:Nat→Prop)(w:World)(sz:Nat)(es:List PV)(xs:List Value):Prop where
 len:xs.length=es.length*sz
 wid:∀ e∈es,e.cells.length=sz
 rep:∀ (i:Nat) (e:PV) (j:Nat) (x:PV),es[i]?=some e→e.cells[j]?=some x→∃ u,xs[i*sz+j]?=some u∧u.oneCell'=true∧aA ok w x u
theorem Dv {i n j sz:Nat}(hi:i<n)(hj:j<sz):i*sz+j<n*sz:=by
 calc i*sz+j<i*sz+sz:=by omega
  _=(i+1)*sz:=by rw [ZaC];omega
  _≤n*sz:=Zam _ hi
section
variable {P:Program}{L:Nat}{σ σ':Nat→Nat}{T T':Tags}{st st' st1:St}{a:Act}{w w1:World}{o:Oper}{d n:Nat}{x x2:bU}{y y2:Operand}{ok:Nat→Prop}{sz:Nat}{es ys:List PV}{xs zs:List Value}
theorem eF.nil (ok:Nat→Prop)(w:World)(sz:Nat):eF ok w sz [] []:=⟨by simp,(fun e he=>by cases he),fun i e j x hi=>by simp at hi⟩
theorem eF.lt (h:eF ok w sz es xs){i j:Nat}{e x:PV}(hi:es[i]?=some e)(hj:e.cells[j]?=some x):i<es.length∧j<sz:=by
 have h1:=(Z6.1 hi).1
 have h2:=(Z6.1 hj).1
 exact ⟨h1,by rw [h.wid e (Zab hi)] at h2;exact h2⟩
theorem eF.append (h:eF ok w sz es xs)(k:eF ok w sz ys zs):eF ok w sz (es++ys) (xs++zs):=by
 refine ⟨by simp [h.len,k.len,ZaC],fun e he=>(Zbb.1 he).elim (h.wid e) (k.wid e),fun i e j x hi hj=>?_⟩
 by_cases hl:i<es.length
 ·rw [Zad hl] at hi
  obtain ⟨u,h1,h2,h3⟩:=h.rep i e j x hi hj
  exact ⟨u,by rw [Zad (Z6.1 h1).1];exact h1,h2,h3⟩
 ·rw [zP (by omega)] at hi
  obtain ⟨u,h1,h2,h3⟩:=k.rep _ e j x hi hj
  refine ⟨u,?_,h2,h3⟩
  have hm:es.length*sz≤i*sz:=Zam _ (by omega)
  rw [zP (by rw [h.len];omega),h.len,← h1]
  congr 1
  rw [Nat.sub_mul];omega
theorem eF.take (h:eF ok w sz es xs)(n:Nat):eF ok w sz (es.take n) (xs.take (n*sz)):=by
 refine ⟨?_,fun e he=>h.wid e (Za2 he),fun i e j x hi hj=>?_⟩
 ·simp only [Zac,h.len]
  by_cases hn:n≤es.length
  ·rw [Zbv hn,Zbv (Zam _ hn)]
  ·have hn':es.length≤n:=by omega
   rw [ZcE hn',ZcE (Zam sz hn')]
 ·rw [Zaq] at hi
  split at hi
  case isFalse=>cases hi
  rename_i hin
  obtain ⟨u,h1,h2,h3⟩:=h.rep i e j x hi hj
  exact ⟨u,by rw [Zaq,if_pos (Dv hin (h.lt hi hj).2)];exact h1,h2,h3⟩
theorem eF.drop (h:eF ok w sz es xs)(n:Nat):eF ok w sz (es.drop n) (xs.drop (n*sz)):=by
 refine ⟨by simp [h.len,Nat.sub_mul],fun e he=>h.wid e (Zce he),fun i e j x hi hj=>?_⟩
 rw [ZaP] at hi
 obtain ⟨u,h1,h2,h3⟩:=h.rep _ e j x hi hj
 exact ⟨u,by rw [ZaP,← h1];congr 1;rw [ZaC];omega,h2,h3⟩
theorem eF.frame (h:eF ok w sz es xs){ok':Nat→Prop}(hf:∀ b,ok b→b<w.heap.size→ok' b∧w1.heap[b]?=w.heap[b]?):eF ok' w1 sz es xs :=
 ⟨h.len,h.wid,fun i e j x hi hj=>by obtain ⟨u,h1,h2,h3⟩:=h.rep i e j x hi hj;exact ⟨u,h1,h2,h3.frame hf⟩⟩
theorem eF.one (h:eF ok w sz es xs):∀ u∈xs,u.oneCell'=true:=by
 intro u hu
 obtain ⟨k,hk⟩:=List.mem_iff_getElem?.1 hu
 have hlt:=(Z6.1 hk).1
 rw [h.len] at hlt
 have hpos:0<sz:=by rcases ZbR sz with h0|h0;(rw [h0] at hlt;simp at hlt);exact h0
 have hi:k / sz<es.length:=ZcM (by rw [Zcc];exact hlt)
 have hm:=ZcN k hpos
 have e1:es[k / sz]?=some es[k / sz]:=ZS hi
 have e2:(es[k / sz]).cells[k % sz]?=some _:=ZS (by rw [h.wid _ (zR hi)];exact hm)
 obtain ⟨v,h1,h2,h3⟩:=h.rep _ _ _ _ e1 e2
 rw [show k / sz*sz+k % sz=k by rw [Zcc];exact Zdn k sz,hk] at h1
 cases h1;exact h2
theorem eF.acw {b off:Nat}(h1:∀ e∈es,e.cells.length=sz)(h2:∀ i e,es[i]?=some e→Mem ok w b (off+i*sz) e.cells) :
  ∃ xs,eF ok w sz es xs∧∀ k u,xs[k]?=some u→w.cell? ⟨b,off+k,none⟩=some u:=by
 let xs:List Value:=(Zar (es.length*sz)).map fun k=>(w.cell? ⟨b,off+k,none⟩).getD undef
 have hx:∀ i e j x,es[i]?=some e→e.cells[j]?=some x→∃ u,w.cell? ⟨b,off+(i*sz+j),none⟩=some u∧u.oneCell'=true∧aA ok w x u:=fun i e j x hi hj=>by
  obtain ⟨u,g1,g2,g3⟩:=h2 i e hi j x hj
  exact ⟨u,by rw [← Zbs];exact g1,g2,g3⟩
 have hget:∀ k,k<es.length*sz→xs[k]?=some ((w.cell? ⟨b,off+k,none⟩).getD undef):=fun k hk=>by simp [xs,hk]
 refine ⟨xs,⟨by simp [xs],h1,fun i e j x hi hj=>?_⟩,fun k u hk=>?_⟩
 ·obtain ⟨u,g1,g2,g3⟩:=hx i e j x hi hj
  have hl:i<es.length:=(Z6.1 hi).1
  have hj':j<sz:=by have:=(Z6.1 hj).1;rw [h1 e (Zab hi)] at this;exact this
  exact ⟨u,by rw [hget _ (Dv hl hj'),g1];rfl,g2,g3⟩
 ·have hlt:k<es.length*sz:=by have:=(Z6.1 hk).1;simpa [xs] using this
  have hpos:0<sz:=by rcases ZbR sz with h0|h0;(rw [h0] at hlt;simp at hlt);exact h0
  have hi:k / sz<es.length:=ZcM (by rw [Zcc];exact hlt)
  have e1:es[k / sz]?=some es[k / sz]:=ZS hi
  have e2:(es[k / sz]).cells[k % sz]?=some _:=ZS (by rw [h1 _ (zR hi)];exact ZcN k hpos)
  obtain ⟨v,g1,_,_⟩:=hx _ _ _ _ e1 e2
  rw [show k / sz*sz+k % sz=k by rw [Zcc];exact Zdn k sz] at g1
  rw [hget k hlt,g1] at hk
  rw [g1];exact hk
theorem aW.Hf {r:Root}{v:Value}(h:aW T w r sz es v):(es=[]∧∃ xa,v=.slice xa 0 0)∨∃ b c arr E,v=.slice (some ⟨b,0,none⟩) es.length c∧T b=.row r∧w.heap[b]?=some (.cells arr E (0,0))∧arr.size=c*sz∧es.length≤c∧c≤maxLen∧eF (fun b=>T b=.ro) w sz es (arr.toList.take (es.length*sz)):=by
 rcases h with h|⟨b,c,arr,E,h1,h2,h3,h4,h5,h6,h7,h8⟩
 ·exact .inl h
 ·have hm:=Zam sz h5
  refine .inr ⟨b,c,arr,E,h1,h2,h3,h4,h5,h6,⟨by simp only [Zac,ZaA];omega,h7,fun i e j x hi hj=>?_⟩⟩
  obtain ⟨u,g1,g2,g3⟩:=h8 i e j x hi hj
  refine ⟨u,?_,g2,g3⟩
  have hl:i<es.length:=(Z6.1 hi).1
  have hj':j<sz:=by have:=(Z6.1 hj).1;rw [h7 e (Zab hi)] at this;exact this
  rw [Zaq,if_pos (Dv hl hj'),Zbd];exact g1
theorem aW.mk {r:Root}{b c E:Nat}{arr:Array Value}(h2:T b=.row r)(h3:w.heap[b]?=some (.cells arr E (0,0)))(h4:arr.size=c*sz)(h5:es.length≤c)(h6:c≤maxLen)(hx:eF (fun b=>T b=.ro) w sz es xs)(hp:xs <+: arr.toList):aW T w r sz es (.slice (some ⟨b,0,none⟩) es.length c) :=
 .inr ⟨b,c,arr,E,rfl,h2,h3,h4,h5,h6,hx.wid,fun i e j x hi hj=>by
  obtain ⟨u,g1,g2,g3⟩:=hx.rep i e j x hi hj
  obtain ⟨t,ht⟩:=hp
  exact ⟨u,by rw [← Zbd,← ht,Zad (Z6.1 g1).1];exact g1,g2,g3⟩⟩
theorem aV.elems (h:aV L σ T st a w)(hm:bf y x=true)(he:st.elems x=some (sz,ys)):∃ xa c,a.eval y=.slice xa ys.length c∧(0<ys.length→∃ ad zs,xa=some ad∧eF (fun b=>T b=.ro) w sz ys zs∧∀ k u,zs[k]?=some u→w.cell? (ad.add k)=some u):=by
 unfold St.elems at he
 split at he
 case h_1 s l e =>
  simp only [ZD.injEq,ZaD.injEq] at he
  obtain ⟨rfl,rfl⟩:=he
  obtain ⟨xa,c,e1,_,_,k3⟩:=(h.pv hm (show st.dG x=some (.list s l) by simp [St.dG,e])).gq
  refine ⟨xa,c,e1,fun hpos=>?_⟩
  obtain ⟨b,off,rfl,m1,m2,m3,m4⟩:=k3 hpos
  obtain ⟨zs,g1,g2⟩:=eF.acw m3 m4
  exact ⟨_,zs,rfl,g1,fun k u hk=>by rw [Addr.add_lit];exact g2 k u hk⟩
 case h_2 s l e =>
  simp only [ZD.injEq,ZaD.injEq] at he
  obtain ⟨rfl,rfl⟩:=he
  cases x with
  |c v=>simp [St.get] at e
  |nil s' =>
   simp only [St.get,AV.row.injEq] at e
   obtain ⟨rfl,rfl⟩:=e
   rcases h.get hm with ⟨t,e1,_⟩|⟨v',e1,g⟩|⟨s,e1,g⟩
   ·cases e1
   ·cases e1
   ·exact ⟨none,0,g,fun h=>by simp at h⟩
  |t n =>
   obtain ⟨q1,q2,q3⟩:=h.VN hm e
   obtain ⟨xa,c,e1,k1,k2,k3⟩:=q3.slice
   refine ⟨xa,c,e1,fun hpos=>?_⟩
   obtain ⟨b,rfl,m1,m2,m3,m4⟩:=k3 hpos
   obtain ⟨zs,g1,g2⟩:=eF.acw (off:=0) m3 (fun i e hi=>by rw [Zan];exact m4 i e hi)
   exact ⟨_,zs,rfl,g1,fun k u hk=>by rw [Addr.add_lit];exact g2 k u hk⟩
 case h_3 r off len e =>
  split at he
  case h_2=>cases he
  rename_i s l hr
  split at he
  case isFalse=>cases he
  rename_i hl
  simp only [ZD.injEq,ZaD.injEq] at he
  obtain ⟨rfl,rfl⟩:=he
  obtain ⟨xa,n,c,x',m1,m2,m3,m4,m0⟩:=h.Q9 hm e s l hr
  obtain ⟨u,m5,m6⟩:=h.vS hr
  rw [m5] at m1;cases m1
  obtain ⟨xb,c',e3,m7,m8,m9⟩:=m6.slice
  cases e3
  have hlen:((l.drop off).take len).length=len:=by simp;omega
  refine ⟨x',c - off,by rw [hlen];exact m2,fun hpos=>?_⟩
  rw [hlen] at hpos
  obtain ⟨b,hb,q1,q2,q3,q4⟩:=m9 (by omega)
  have hx':x'=some ⟨b,off*s,none⟩:=by rw [m4 hpos,hb];simp [Addr.add_lit]
  obtain ⟨zs,g1,g2⟩:=eF.acw (w:=w) (ok:=fun b=>T b=.ro) (b:=b) (off:=off*s) (es:=(l.drop off).take len) (sz:=s) (fun el he=>q3 el (Zce (Za2 he))) (fun i el hi=>by
   rw [Zaq] at hi
   split at hi
   ·rw [ZaP] at hi
    have:=q4 _ _ hi
    rwa [show off*s+i*s=(off+i)*s by rw [ZaC]]
   ·cases hi)
  exact ⟨_,zs,hx',g1,fun k u hk=>by rw [Addr.add_lit];exact g2 k u hk⟩
 case h_4=>cases he
end
end Go.Proofs.YtioijcfcehhmdaaGreatDoor
