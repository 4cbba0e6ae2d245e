/-
  Part 5 of the texts that the statement stands on.
-/
import Derived.Test.YthccglceomoboaaGreatDoorW4
import Derived.Lib.TrailingZeros
import Derived.Test.YthccglceomoboaaGreatDoorProg
import Derived.Shelf.SlSortCmp.WholeK
import Derived.Shelf.SlSortCmp.NoneTotal
import Derived.Shelf.SlicesG.Cmp
import Derived.Shelf.Small.Bits
import Derived.Ground.SlsfProg
import Derived.Ground.SlgcProg
import Derived.Ground.NamesProg
set_option linter.all false
open And renaming intro → Zs
open Bool renaming and_eq_true → ZS, false_eq_true → zm, true_and → Zai, and_self → Zal, not_eq_true' → ZaM, false_and → ZaX, eq_false_iff → Za2, and_false → Zbi, false_or → Zbz, not_false → ZbI, and_true → ZbO, not_true → ZbP
open List renaming getElem?_eq_getElem → ZZ, getElem?_eq_some_iff → Z1, length_map → za, length_cons → zc, getElem?_map → zd, length_nil → ze, length_append → zp, all_eq_true → zw, mem_of_getElem? → zz, getElem?_append_right → zP, eq_nil_of_length_eq_zero → Zac, replicate → Zae, getD_eq_getElem?_getD → Zaf, drop_eq_getElem_cons → Zah, length_take → Zam, append_assoc → Zan, mem_singleton → Zao, map_cons → Zat, map_nil → Zav, mem_append → Zax, getElem?_drop → Zaz, range → ZaC, getElem_mem → ZaD, append_nil → ZaE, take_succ_eq_append_getElem → ZaF, map_append → ZaH, mem_cons → ZaI, drop_zero → ZaK, getElem?_cons_succ → ZaO, drop_of_length_le → ZaS, length_drop → ZaV, take_length → ZaW, nil_append → Za0, length_replicate → Za6, mem_map → Za9, mem_range → Zbj, cons_append → Zbp, ext_getElem → Zbr, take_succ_cons → Zbx, take_of_length_le → Zby, getElem_range → ZbM, getElem_map → ZbV, filter_append → Zb0, filter_eq_nil_iff → Zb2, filter_congr → Zb3, map_set → Zb4, length_range → Zco, map_take → Zcv, getElem_set → Zcz, range_succ → ZcF, getElem_mapIdx → ZcJ, map_replicate → ZcQ, getElem_append_right → ZcW, getElem_append_left → Zc1, filter_cons_of_pos → Zc3, mem_filter → Zc6, range_add → Zdm
open Nat renaming beq → zb, le_refl → zg, le_trans → Zaa, lt_of_lt_of_le → Zab, mul_le_mul_right → Zag, zero_add → Zaj, add_mul → Zap, zero_le → ZaG, eq_zero_or_pos → ZaT, min_eq_left → Za4, add_assoc → Zbe, mod_lt → Zbl, div_lt_of_lt_mul → Zbs, sub_self → ZbL, pow_succ' → ZbY, mod_eq_of_lt → Zb7, div_div_eq_div_mul → Zcu, min_eq_right → Zcx, testBit_two_pow_mul_add → ZcP, pow_succ → Zc2, pow_le_pow_right → Zdp, testBit_succ → ZdK
open Array renaming getElem?_eq_some_iff → zt
open Option renaming map_some → Zak
open Int renaming tmod_eq_emod_of_nonneg → Zaq, toNat_natCast → Zaw, lt_irrefl → ZaL, tdiv_eq_ediv_of_nonneg → Zbg, toNat_of_nonneg → Zbw, ediv_nonneg → Zb1, fdiv_eq_ediv_of_nonneg → ZcT, ediv_le_ediv → ZdL, ediv_le_self → ZdM
open BitVec renaming ofInt → Zas, getLsbD_ushiftRight → ZbQ, getLsbD_and → Zcg, ofNat → Zch, eq_of_getLsbD_eq → Zcl, eq_of_toNat_eq → ZcB, allOnes → ZcL, testBit_toNat → Zdq, ofInt_natCast → Zdr, toNat_ofNat → ZdE, toNat_sub → ZdJ
namespace Go.Proofs.YthccglceomoboaaGreatDoor.V
def wS (out:List bH)(i:Nat):List bH:=match out.getLast? with
 |some x=>if x.start+x.count=(i:Int) then out.dropLast++[⟨x.start,x.count+1⟩] else out++[⟨i,1⟩]
 |none=>[⟨i,1⟩]
def exts (l:List Nat):List bH:=l.foldl wS []
theorem jq (pre:List bH)(x:bH)(i:Nat):wS (pre++[x]) i=if x.start+x.count=(i:Int) then pre++[⟨x.start,x.count+1⟩] else pre++[x]++[⟨i,1⟩]:=by
 simp [wS]
theorem yh (l:List Nat)(i:Nat):exts (l++[i])=wS (exts l) i:=by simp [exts]
theorem lD {α:Type}(l:List α):l=[]∨∃ p x,l=p++[x]:=by
 rcases List.eq_nil_or_concat l with h|⟨p,x,h⟩
 ·exact .inl h
 ·exact .inr ⟨p,x,by rw [h];simp⟩
theorem JI:∀ (n:Nat) (l:List Nat),l.length=n→∀ i:Nat,∃ pre x,exts (l++[i])=pre++[x]∧x.start+x.count=(i:Int)+1∧0≤x.start∧1≤x.count∧pre.length≤l.length:=by
 intro n
 induction n with
 |zero =>
  intro l hl i
  have:=Zac hl
  subst this
  exact ⟨[],⟨i,1⟩,rfl,rfl,by simp,by simp,by simp⟩
 |succ n ih =>
  intro l hl i
  rcases lD l with rfl|⟨p,j,rfl⟩
  ·simp at hl
  ·obtain ⟨pre,x,e,h1,h2,h3,h4⟩:=ih p (by simpa using hl) j
   rw [yh,e,jq]
   split
   ·rename_i hx
    exact ⟨pre,_,rfl,by simp;omega,h2,by simp;omega,by simp;omega⟩
   ·exact ⟨pre++[x],_,rfl,by simp,by simp,by simp,by simp;omega⟩
theorem Yt {n:Nat}(h:n≤lim):IntKind.i64.wrap (((n+1:Nat):Int) - 1)=(n:Int):=by
 rw [aF (by unfold lim at h;omega)];omega
def yI (l:List Nat):List (List PV):=l.map fun (i:Nat)=>[PV.int .i64 (i:Int)]
def ext (p:Nat→Bool)(n:Nat):List bH:=exts ((ZaC n).filter p)
theorem Qj (p:Nat→Bool):ext p 0=[]:=rfl
theorem mV (p:Nat→Bool)(n:Nat):ext p (n+1)=if p n then wS (ext p n) n else ext p n:=by
 unfold ext
 rw [ZcF,Zb0]
 cases h:p n
 ·simp [h]
 ·rw [Zc3 h,List.filter_nil,yh];rfl
theorem ahL {p:Nat→Bool}{n:Nat}(h:n=0∨p (n - 1)=false):wS (ext p n) n=ext p n++[⟨(n:Int),1⟩]:=by
 unfold ext
 rcases lD ((ZaC n).filter p) with h0|⟨l,j,h0⟩
 ·rw [h0];rfl
 ·obtain ⟨pre,⟨s,c⟩,e0,h1,h2,h3,h4⟩:=JI _ l rfl j
  have hmem:j∈(ZaC n).filter p:=by rw [h0];simp
  obtain ⟨q1,q2⟩:=Zc6.1 hmem
  have hj:=Zbj.1 q1
  simp only at h1
  rw [h0,e0,jq,if_neg]
  intro hh
  simp only at hh
  have:j=n - 1:=by omega
  rcases h with h|h
  ·omega
  ·rw [← this,q2] at h;cases h
theorem yj {p:Nat→Bool}{a:Nat}:∀ k,(∀ s,a≤s→s<a+k→p s=false)→ext p (a+k)=ext p a
 |0,_=>rfl
 |k+1,h=>by
  rw [← Zbe,mV,h (a+k) (by omega) (by omega),if_neg (by simp)]
  exact yj k fun s h1 h2=>h s h1 (by omega)
theorem Gv {p:Nat→Bool}{a:Nat}{pre:List bH}{s0:Int}(h0:ext p a=pre++[⟨s0,a - s0⟩]):∀ k,(∀ s,a≤s→s<a+k→p s=true)→ext p (a+k)=pre++[⟨s0,((a+k:Nat):Int) - s0⟩]
 |0,_=>h0
 |k+1,h=>by
  rw [← Zbe,mV,h (a+k) (by omega) (by omega),if_pos rfl,Gv h0 k fun s h1 h2=>h s h1 (by omega),jq,if_pos (by simp only;omega)]
  congr 2
  simp only [bH.mk.injEq,true_and]
  omega
theorem Yu {p:Nat→Bool}{a k:Nat}(hn:a=0∨p (a - 1)=false)(h:∀ s,a≤s→s<a+(k+1)→p s=true):ext p (a+(k+1))=ext p a++[⟨(a:Int),((a+(k+1):Nat):Int) - a⟩]:=by
 have h1:ext p (a+1)=ext p a++[⟨(a:Int),((a+1:Nat):Int) - a⟩]:=by
  rw [mV,h a (zg _) (by omega),if_pos rfl,ahL hn]
  congr 2
  simp only [bH.mk.injEq,true_and]
  omega
 have:=Gv (a:=a+1) h1 k fun s h2 h3=>h s (by omega) (by omega)
 rw [show a+(k+1)=a+1+k by omega]
 exact this
theorem BN {p q:Nat→Bool}{n:Nat}(h:∀ s,s<n→p s=q s):ext p n=ext q n:=by
 unfold ext
 rw [Zb3 fun s hs=>h s (Zbj.1 hs)]
def dep (i:Nat)(s:Nat):List End→Int
 |[]=>0
 |x::l=>(if x.list=i∧x.pos≤s then x.step else 0)+dep i s l
def tot (i:Nat):List End→Int
 |[]=>0
 |x::l=>(if x.list=i then x.step else 0)+tot i l
theorem yt (i s:Nat):∀ l m:List End,dep i s (l++m)=dep i s l+dep i s m
 |[],m=>by simp [dep]
 |x::l,m=>by simp only [Zbp,dep,yt i s l m];omega
theorem Vr {i s:Nat}:∀ {l:List End},(∀ x∈l,x.pos≤s)→dep i s l=tot i l
 |[],_=>rfl
 |x::l,h=>by
  have h1:=h x (by simp)
  have ih:=Vr (i:=i) (s:=s) (l:=l) fun y hy=>h y (by simp [hy])
  simp only [dep,tot,ih,h1,and_true]
theorem AA {i s:Nat}:∀ {l:List End},(∀ x∈l,s<x.pos)→dep i s l=0
 |[],_=>rfl
 |x::l,h=>by
  have h1:=h x (by simp)
  have ih:=AA (i:=i) (s:=s) (l:=l) fun y hy=>h y (by simp [hy])
  simp only [dep,ih]
  rw [if_neg (by omega)];rfl
theorem AB (i:Nat):∀ l m:List End,tot i (l++m)=tot i l+tot i m
 |[],m=>by simp [tot]
 |x::l,m=>by simp only [Zbp,tot,AB i l m];omega
def kJ (keep:Bool→Bool→Bool)(l:List End)(s:Nat):Bool:=keep (decide (dep 0 s l > 0)) (decide (dep 1 s l > 0))
def jy (x:End):List End→Bool
 |[]=>false
 |y::_=>decide (y.pos=x.pos)
def BO (keep:Bool→Bool→Bool):List End→Int→Int→Int→Bool→List bH
 |[],_,_,_,_=>[]
 |x::l,d0,d1,st,ins =>
  if jy x l then BO keep l (if x.list=0 then d0+x.step else d0) (if x.list=1 then d1+x.step else d1) st ins
  else
   (if !keep (decide ((if x.list=0 then d0+x.step else d0) > 0)) (decide ((if x.list=1 then d1+x.step else d1) > 0))&&ins then [⟨st,x.pos - st⟩] else []) ++
   BO keep l (if x.list=0 then d0+x.step else d0) (if x.list=1 then d1+x.step else d1)
    (if keep (decide ((if x.list=0 then d0+x.step else d0) > 0)) (decide ((if x.list=1 then d1+x.step else d1) > 0))&&!ins then x.pos else st)
    (keep (decide ((if x.list=0 then d0+x.step else d0) > 0)) (decide ((if x.list=1 then d1+x.step else d1) > 0)))
def Asc:List End→Prop
 |[]=>True
 |[_]=>True
 |x::y::l=>x.pos≤y.pos∧Asc (y::l)
theorem Asc.tail {x:End}{l:List End}(h:Asc (x::l)):Asc l:=by
 cases l with
 |nil=>trivial
 |cons y l=>exact h.2
theorem Asc.le {x:End}:∀ {l:List End},Asc (x::l)→∀ y∈l,x.pos≤y.pos
 |[],_,y,hy=>by cases hy
 |z::l,h,y,hy=>by
  rcases ZaI.1 hy with rfl|hy
  ·exact h.1
  ·exact Zaa h.1 (Asc.le h.2 y hy)
def atStart (N:Nat):List End→Nat→Prop
 |[],a=>a=N
 |x::_,a=>a=x.pos
theorem yu {keep:Bool→Bool→Bool}(hk:keep false false=false){L:List End}{N:Nat}(hN:∀ x∈L,x.pos≤N)(h0:tot 0 L=0)(h1:tot 1 L=0) :
  ∀ (R P:List End) (out:List bH) (st:Int) (ins:Bool) (a:Nat),L=P++R→Asc R→(∀ x∈P,∀ y∈R,x.pos≤y.pos)→(∀ x∈P,x.pos≤a) →
   atStart N R a→ext (kJ keep L) a=out++(if ins then [⟨st,a - st⟩] else [])→(a=0∨ins=true∨kJ keep L (a - 1)=false)→(R=[]→ins=false)→(a=0→ins=false) →
   ext (kJ keep L) N=out++BO keep R (tot 0 P) (tot 1 P) st ins
 |[],P,out,st,ins,a,hL,_,_,_,ha,he,hi,hr,_=>by
  have ha:a=N:=ha
  rw [hr rfl] at he
  rw [ha] at he
  simpa [BO] using he
 |x::l,P,out,st,ins,a,hL,hs,hP,hPa,ha,he,hi,_,hz=>by
  have ha:a=x.pos:=ha
  subst ha
  have hL2:L=(P++[x])++l:=by rw [hL];simp
  have t0:tot 0 (P++[x])=(if x.list=0 then tot 0 P+x.step else tot 0 P):=by
   rw [AB];simp only [tot];split<;>omega
  have t1:tot 1 (P++[x])=(if x.list=1 then tot 1 P+x.step else tot 1 P):=by
   rw [AB];simp only [tot];split<;>omega
  have hP2:∀ z∈P++[x],∀ y∈l,z.pos≤y.pos:=by
   intro z hz y hy
   rcases Zax.1 hz with hz|hz
   ·exact hP z hz y (by simp [hy])
   ·simp only [Zao] at hz;rw [hz];exact hs.le y hy
  have hPx:∀ z∈P++[x],z.pos≤x.pos:=by
   intro z hz
   rcases Zax.1 hz with hz|hz
   ·exact hP z hz x (by simp)
   ·simp only [Zao] at hz;rw [hz];exact zg _
  unfold BO
  rw [← t0,← t1]
  by_cases hn:jy x l=true
  ·rw [if_pos hn]
   cases l with
   |nil=>simp [jy] at hn
   |cons y l =>
    have hy:y.pos=x.pos:=by simpa [jy] using hn
    exact yu hk hN h0 h1 (y::l) (P++[x]) out st ins x.pos hL2 hs.tail hP2 hPx hy.symm he hi (fun e=>by cases e) hz
  ·rw [if_neg hn]
   -- the next place
   obtain ⟨b,hb,hbl,hbx,hbm⟩:∃ b,x.pos≤b∧(∀ y∈l,b≤y.pos)∧(l≠[]→x.pos<b)∧atStart N l b:=by
    cases l with
    |nil=>exact ⟨N,hN x (by rw [hL];simp),fun y hy=>(by cases hy),fun h=>absurd rfl h,rfl⟩
    |cons y l =>
     have hy:y.pos≠x.pos:=by simpa [jy] using hn
     have:=hs.1
     exact ⟨y.pos,hs.1,fun z hz=>by
      rcases ZaI.1 hz with rfl|hz
      ·exact zg _
      ·exact hs.tail.le z hz,fun _=>by omega,rfl⟩
   have hconst:∀ s,x.pos≤s→s<b→kJ keep L s=keep (decide (tot 0 (P++[x]) > 0)) (decide (tot 1 (P++[x]) > 0)):=by
    intro s hs1 hs2
    unfold kJ
    have e:∀ i,dep i s L=tot i (P++[x]):=by
     intro i
     rw [hL2,yt,Vr (fun z hz=>by have:=hPx z hz;omega),AA (fun z hz=>by have:=hbl z hz;omega)]
     omega
    rw [e 0,e 1]
   have hlast:l=[]→keep (decide (tot 0 (P++[x]) > 0)) (decide (tot 1 (P++[x]) > 0))=false:=by
    intro hl
    have e0:tot 0 (P++[x])=0:=by rw [← h0,hL2,hl,ZaE]
    have e1:tot 1 (P++[x])=0:=by rw [← h1,hL2,hl,ZaE]
    rw [e0,e1]
    exact hk
   have hPb:∀ z∈P++[x],z.pos≤b:=fun z hz=>Zaa (hPx z hz) hb
   obtain ⟨k,rfl⟩:∃ k,b=x.pos+k:=⟨b - x.pos,by omega⟩
   generalize keep (decide (tot 0 (P++[x]) > 0)) (decide (tot 1 (P++[x]) > 0))=now at *
   have aja:k≠0→kJ keep L (x.pos+k - 1)=now:=fun hk0=>hconst _ (by omega) (by omega)
   cases now with
   |false =>
    have hf:=yj (p:=kJ keep L) (a:=x.pos) k fun s q1 q2=>hconst s q1 q2
    cases ins with
    |false =>
     simp only [ZbI,Zbi,zm,if_false,Za0,ZbO,ZaX,ZaE,if_true] at he ⊢
     refine yu hk hN h0 h1 l (P++[x]) out _ false (x.pos+k) hL2 hs.tail hP2 hPb hbm ?_ ?_ (fun _=>rfl) (fun _=>rfl)
     ·rw [hf,he];simp
     ·by_cases hk0:k=0
      ·subst hk0
       rcases hi with hi|hi|hi
       ·exact .inl hi
       ·cases hi
       ·exact .inr (.inr hi)
      ·exact .inr (.inr (aja hk0))
    |true =>
     simp only [ZbI,Zal,if_true,ZbP,Zbi,ZaX,zm,if_false] at he ⊢
     rw [← Zan]
     by_cases hk0:k=0
     ·subst hk0
      have hl:l=[]:=by
       cases l with
       |nil=>rfl
       |cons y l=>have:=hbx (by simp);omega
      subst hl
      have hb2:x.pos+0=N:=hbm
      simp only [BO,ZaE]
      rw [← hb2]
      exact he
     ·refine yu hk hN h0 h1 l (P++[x]) _ _ false (x.pos+k) hL2 hs.tail hP2 hPb hbm ?_ (.inr (.inr (aja hk0))) (fun _=>rfl) (fun _=>rfl)
      rw [hf,he];simp
   |true =>
    have hl:l≠[]:=fun e=>by have:=hlast e;cases this
    have hk1:=hbx hl
    obtain ⟨j,rfl⟩:∃ j,k=j+1:=⟨k - 1,by omega⟩
    cases ins with
    |false =>
     simp only [ZbP,ZaX,zm,if_false,Za0,ZbI,Zal,if_true,ZaE] at he ⊢
     refine yu hk hN h0 h1 l (P++[x]) out _ true (x.pos+(j+1)) hL2 hs.tail hP2 hPb hbm ?_ (.inr (.inl rfl)) (fun e=>absurd e hl) (fun e=>by omega)
     have hi2:x.pos=0∨kJ keep L (x.pos - 1)=false:=by
      rcases hi with hi|hi|hi
      ·exact .inl hi
      ·cases hi
      ·exact .inr hi
     rw [Yu hi2 fun s q1 q2=>hconst s q1 q2,he]
     simp
    |true =>
     simp only [ZbP,ZaX,zm,if_false,Za0,Zbi,if_true] at he ⊢
     refine yu hk hN h0 h1 l (P++[x]) out st true (x.pos+(j+1)) hL2 hs.tail hP2 hPb hbm ?_ (.inr (.inl rfl)) (fun e=>absurd e hl) (fun e=>by omega)
     rw [Gv he (j+1) fun s q1 q2=>hconst s q1 q2]
     simp
theorem adz {keep:Bool→Bool→Bool}(hk:keep false false=false){L:List End}{N:Nat}(hs:Asc L)(hN:∀ x∈L,x.pos≤N)(h0:tot 0 L=0)(h1:tot 1 L=0) :
  BO keep L 0 0 0 false=ext (kJ keep L) N:=by
 cases L with
 |nil =>
  have:ext (kJ keep ([]:List End)) (0+N)=ext (kJ keep []) 0:=yj N fun s _ _=>hk
  rw [Zaj] at this
  rw [this];rfl
 |cons x l =>
  have hb:ext (kJ keep (x::l)) (0+x.pos)=ext (kJ keep (x::l)) 0:=yj x.pos fun s _ h2=>by
   unfold kJ
   have e:∀ i,dep i s (x::l)=0:=fun i=>AA fun y hy=>by
    rcases ZaI.1 hy with rfl|hy
    ·omega
    ·have:=hs.le y hy;omega
   rw [e 0,e 1]
   exact hk
  rw [Zaj] at hb
  have:=yu hk hN h0 h1 (x::l) [] [] 0 false x.pos rfl hs (fun z hz=>by cases hz) (fun z hz=>by cases hz) rfl (by rw [hb];rfl) (by
   by_cases h:x.pos=0
   ·exact .inl h
   ·refine .inr (.inr ?_)
    unfold kJ
    have e:∀ i,dep i (x.pos - 1) (x::l)=0:=fun i=>AA fun y hy=>by
     rcases ZaI.1 hy with rfl|hy
     ·omega
     ·have:=hs.le y hy;omega
    rw [e 0,e 1]
    exact hk) (fun e=>by cases e) (fun _=>rfl)
  rw [this];rfl
abbrev Wd:=BitVec 64
structure Bm where
 size:Int
 ws:List Wd
 deriving DecidableEq
def eW (w:Wd):PV:=.int .u64 (w.toNat:Int)
def wU (b:Bm):PV:=.agg [.int .i64 b.size,.list 1 (b.ws.map eW)]
def bit (ws:List Wd)(i:Nat):Bool:=(ws.getD (i / 64) 0).getLsbD (i % 64)
theorem Gw {ws:List Wd}{k:Nat}(h:k<ws.length){j:Nat}(hj:j<64):bit ws (64*k+j)=ws[k].getLsbD j:=by
 unfold bit
 have e1:(64*k+j) / 64=k:=by omega
 have e2:(64*k+j) % 64=j:=by omega
 rw [e1,e2];simp [h]
theorem Gx {ws:List Wd}{i:Nat}(h:i / 64<ws.length):bit ws i=ws[i / 64].getLsbD (i % 64):=by
 unfold bit;simp [h]
theorem AL {ws:List Wd}{i:Nat}(h:64*ws.length≤i):bit ws i=false:=by
 unfold bit
 have:ws.length≤i / 64:=by omega
 rw [Zaf,List.getElem?_eq_none this];simp
theorem ak6 {a b:List Wd}(hl:a.length=b.length)(h:∀ i,i<64*a.length→bit a i=bit b i):a=b:=by
 apply Zbr hl
 intro k h1 h2
 apply Zcl
 intro j hj
 rw [← Gw h1 hj,← Gw h2 hj,h _ (by omega)]
theorem Yv (w:Wd):Zas 64 (w.toNat:Int)=w:=by
 apply ZcB
 have:=w.isLt
 rw [BitVec.toNat_ofInt]
 omega
theorem adA (n:Int):IntKind.u64.wrap n=n % 2 ^ 64:=by
 simp only [IntKind.wrap,IntKind.bits,IntKind.signed,ZaX,zm,if_false]
theorem Us (w:Wd):IntKind.u64.wrap (w.toNat:Int)=(w.toNat:Int):=by
 have:=w.isLt
 simp only [IntKind.wrap,IntKind.bits,IntKind.signed,ZaX,zm,if_false]
 omega
theorem aqs (a b:Wd):IntKind.u64.wrap ((Zas IntKind.u64.bits (a.toNat:Int) ||| Zas IntKind.u64.bits (b.toNat:Int)).toNat:Int)=((a ||| b).toNat:Int):=by
 show IntKind.u64.wrap ((Zas 64 (a.toNat:Int) ||| Zas 64 (b.toNat:Int)).toNat:Int)=_
 rw [Yv,Yv,Us]
theorem adB (a b:Wd):IntKind.u64.wrap ((Zas IntKind.u64.bits (a.toNat:Int) &&& Zas IntKind.u64.bits (b.toNat:Int)).toNat:Int)=((a &&& b).toNat:Int):=by
 show IntKind.u64.wrap ((Zas 64 (a.toNat:Int) &&& Zas 64 (b.toNat:Int)).toNat:Int)=_
 rw [Yv,Yv,Us]
theorem adC (a b:Wd):IntKind.u64.wrap ((Zas IntKind.u64.bits (a.toNat:Int) &&& ~~~Zas IntKind.u64.bits (b.toNat:Int)).toNat:Int)=((a &&& ~~~b).toNat:Int):=by
 show IntKind.u64.wrap ((Zas 64 (a.toNat:Int) &&& ~~~Zas 64 (b.toNat:Int)).toNat:Int)=_
 rw [Yv,Yv,Us]
theorem adD (w:Wd){s:Int}{n:Nat}(hs:s=(n:Int)):(w.toNat:Int).fdiv (2 ^ (min s.toNat IntKind.u64.bits))=((w >>> n).toNat:Int):=by
 subst hs
 rw [BitVec.toNat_ushiftRight,Nat.shiftRight_eq_div_pow,Zaw]
 have hw:=w.isLt
 show (w.toNat:Int).fdiv (2 ^ (min n 64))=_
 by_cases h:n≤64
 ·have h2:(0:Int)≤2 ^ n:=by have:=Int.natCast_nonneg (2 ^ n);push_cast at this;exact this
  rw [Za4 h,ZcT _ h2]
  push_cast
  rfl
 ·rw [Zcx (by omega),ZcT _ (by decide)]
  have h1:w.toNat / 2 ^ n=0:=Nat.div_eq_of_lt (Zab hw (Zdp (by decide) (by omega)))
  rw [h1]
  omega
theorem anA (w:Wd){s:Int}{n:Nat}(hs:s=(n:Int)):IntKind.u64.wrap ((w.toNat:Int)*2 ^ (min s.toNat IntKind.u64.bits))=((w <<< n).toNat:Int):=by
 subst hs
 rw [BitVec.toNat_shiftLeft,Nat.shiftLeft_eq,Zaw]
 have hw:=w.isLt
 rw [adA]
 show ((w.toNat:Int)*2 ^ (min n 64)) % 2 ^ 64=_
 by_cases h:n≤64
 ·have e2:((2 ^ n:Nat):Int)=2 ^ n:=by push_cast;rfl
  have e3:((2 ^ 64:Nat):Int)=2 ^ 64:=by decide
  rw [Za4 h,Int.natCast_emod,Int.natCast_mul,e2,e3]
 ·rw [Zcx (by omega)]
  have e:2 ^ n=2 ^ 64*2 ^ (n - 64):=by rw [← Nat.pow_add];congr 1;omega
  have:w.toNat*2 ^ n % 2 ^ 64=0:=by
   rw [e,Nat.mul_left_comm];exact Nat.mul_mod_right _ _
  rw [this]
  exact Int.mul_emod_left _ _
theorem anB (a b:Wd):IntKind.u64.wrap ((a.toNat:Int) - (b.toNat:Int))=((a - b).toNat:Int):=by
 have h1:=a.isLt
 have h2:=b.isLt
 simp only [IntKind.wrap,IntKind.bits,IntKind.signed,ZaX,zm,if_false]
 rw [ZdJ]
 omega
theorem adE (a b:Wd):((a.toNat:Int)==(b.toNat:Int))=decide (a=b):=by
 by_cases h:a=b
 ·subst h;simp
 ·have:a.toNat≠b.toNat:=fun e=>h (ZcB e)
  simp [h];omega
def vC (k:Nat)(a b:Int):Wd :=
 if max (a - 64*(k:Int)) 0 ≥ min (b - 64*(k:Int)) 64 then 0
 else (ZcL 64 >>> (64 - (min (b - 64*(k:Int)) 64 - max (a - 64*(k:Int)) 0)).toNat) <<< (max (a - 64*(k:Int)) 0).toNat
theorem Gy (k:Nat)(a b:Int){j:Nat}(hj:j<64):(vC k a b).getLsbD j=decide (a≤64*(k:Int)+j∧64*(k:Int)+j<b):=by
 unfold vC
 split
 ·rename_i h
  rw [show (0:Wd).getLsbD j=false by simp]
  symm
  apply decide_eq_false
  omega
 ·rename_i h
  rw [BitVec.getLsbD_shiftLeft,ZbQ,BitVec.getLsbD_allOnes]
  rw [Bool.eq_iff_iff]
  simp only [ZS,decide_eq_true_eq,ZaM,decide_eq_false_iff_not]
  omega
def bitsOf (w:Wd):List Nat:=(ZaC 64).filter fun j=>w.getLsbD j
theorem Yw:bitsOf 0=[]:=by
 unfold bitsOf
 rw [Zb2]
 intro j _
 simp
theorem Vs {w:Wd}(h:w≠0):Lib.ctz 64 w.toNat<64∧(∀ j,j<Lib.ctz 64 w.toNat→w.getLsbD j=false)∧w.getLsbD (Lib.ctz 64 w.toNat)=true∧∀ j,j<64→(w &&& (w - 1)).getLsbD j=(w.getLsbD j&&decide (j≠Lib.ctz 64 w.toNat)):=by
 have h0:0<w.toNat:=by
  rcases ZaT w.toNat with e|e
  ·exact absurd (ZcB (by simpa using e)) h
  ·exact e
 have hl:Lib.ctz 64 w.toNat=Lib.ctzFrom 64 w.toNat:=by unfold Lib.ctz;rw [if_neg (by omega)]
 rw [hl]
 obtain ⟨m,h1,h2⟩:=Lib.ctzFrom_spec 64 w.toNat h0 w.isLt
 generalize Lib.ctzFrom 64 w.toNat=c at h1 h2
 have hbit:∀ j,w.getLsbD j=if j<c then false else (2*m+1).testBit (j - c):=fun j=>by
  rw [← Zdq,h1,Nat.testBit_two_pow_mul]
  by_cases hc:j<c
  ·rw [if_pos hc,decide_eq_false (by omega),ZaX]
  ·rw [if_neg hc,decide_eq_true (by omega),Zai]
 have hsub:(w - 1).toNat=2 ^ c*(2*m)+(2 ^ c - 1):=by
  have hp:0<2 ^ c:=Nat.pow_pos (by decide)
  rw [ZdJ]
  have:=w.isLt
  have e1:(1:Wd).toNat=1:=rfl
  rw [e1,show 2 ^ 64 - 1+w.toNat=(w.toNat - 1)+2 ^ 64 by omega,Nat.add_mod_right,Zb7 (by omega),h1,Nat.mul_add,Nat.mul_one]
  omega
 have anC:∀ j,(w - 1).getLsbD j=if j<c then true else (2*m).testBit (j - c):=fun j=>by
  rw [← Zdq,hsub]
  have hp:2 ^ c - 1<2 ^ c:=by have:0<2 ^ c:=Nat.pow_pos (by decide);omega
  by_cases hc:j<c
  ·rw [if_pos hc,ZcP _ hp,if_pos hc,Nat.testBit_two_pow_sub_one]
   simp [hc]
  ·rw [if_neg hc,ZcP _ hp,if_neg hc]
 refine ⟨h2,fun j hj=>by rw [hbit,if_pos hj],by rw [hbit,if_neg (Nat.lt_irrefl _),ZbL];simp,fun j hj=>?_⟩
 rw [Zcg,hbit,anC]
 by_cases hc:j<c
 ·simp [hc]
 ·rw [if_neg hc,if_neg hc]
  by_cases he:j=c
  ·subst he;simp
  ·obtain ⟨d,hd⟩:∃ d,j - c=d+1:=⟨j - c - 1,by omega⟩
   rw [hd,ZdK,ZdK,show (2*m+1) / 2=m by omega,show 2*m / 2=m by omega]
   simp [he]
theorem LY {p q:Nat→Bool}{c n:Nat}(hc:c<n)(hlow:∀ j,j<c→p j=false)(hp:p c=true)(hq:∀ j,j<n→q j=(p j&&decide (j≠c))):(ZaC n).filter p=c::(ZaC n).filter q:=by
 have e:ZaC n=ZaC c++(c::(ZaC (n - c - 1)).map (c+1+·)):=by
  apply Zbr
  ·simp;omega
  ·intro i h1 h2
   simp only [Zco] at h1
   rw [ZbM,List.getElem_append]
   split
   ·simp
   ·rename_i h
    simp only [Zco] at h ⊢
    obtain ⟨d,hd⟩:∃ d,i=c+d:=⟨i - c,by omega⟩
    subst hd
    cases d with
    |zero=>simp
    |succ d=>simp [show c+(d+1) - c=d+1 by omega];omega
 have hq':∀ j,j∈ZaC n→q j=(p j&&decide (j≠c)):=fun j hj=>hq j (Zbj.1 hj)
 rw [Zb3 hq',e,Zb0,Zb0]
 have h1:(ZaC c).filter p=[]:=by
  rw [Zb2];intro j hj;rw [hlow j (Zbj.1 hj)];simp
 have h2:(ZaC c).filter (fun j=>p j&&decide (j≠c))=[]:=by
  rw [Zb2];intro j hj;rw [hlow j (Zbj.1 hj)];simp
 rw [h1,h2,Za0,Za0,Zc3 hp,List.filter_cons_of_neg (by simp)]
 congr 1
 apply Zb3
 intro j hj
 obtain ⟨d,_,rfl⟩:=Za9.1 hj
 simp;omega
theorem Yx {w:Wd}(h:w≠0):bitsOf w=Lib.ctz 64 w.toNat::bitsOf (w &&& (w - 1)):=by
 obtain ⟨h1,h2,h3,h4⟩:=Vs h
 exact LY h1 h2 h3 h4
def wV (ws:List Wd)(a b:Int):List Nat:=(ZaC (64*ws.length)).filter fun (i:Nat)=>bit ws i&&decide (a≤(i:Int)∧(i:Int)<b)
theorem range_add (n m:Nat):ZaC (n+m)=ZaC n++(ZaC m).map (n+·):=Zdm
theorem Ut {ws:List Wd}{k:Nat}(h:k<ws.length)(a b:Int):(ZaC (64*(k+1))).filter (fun (i:Nat)=>bit ws i&&decide (a≤(i:Int)∧(i:Int)<b))
  = (ZaC (64*k)).filter (fun (i:Nat)=>bit ws i&&decide (a≤(i:Int)∧(i:Int)<b))++(bitsOf (ws[k] &&& vC k a b)).map (64*k+·):=by
 rw [show 64*(k+1)=64*k+64 by omega,Zdm,Zb0,List.filter_map]
 congr 2
 unfold bitsOf
 apply Zb3
 intro j hj
 have hj:=Zbj.1 hj
 rw [Zcg,Gy k a b hj]
 show (bit ws (64*k+j)&&_)=_
 rw [Gw h hj]
 push_cast
 rfl
def setW (ws:List Wd)(a b:Int):List Wd:=ws.mapIdx fun k w=>w ||| vC k a b
def Iq (ws:List Wd)(a b:Int):List Wd:=ws.mapIdx fun k w=>w &&& ~~~vC k a b
theorem Vt {ws:List Wd}{a b:Int}{i:Nat}(h:i<64*ws.length):bit (setW ws a b) i=(bit ws i || decide (a≤(i:Int)∧(i:Int)<b)):=by
 have hk:i / 64<ws.length:=by omega
 have hk2:i / 64<(setW ws a b).length:=by simp [setW,hk]
 rw [Gx hk,Gx hk2]
 simp only [setW,ZcJ,BitVec.getLsbD_or]
 rw [Gy _ _ _ (Zbl _ (by decide))]
 congr 2
 have:(64*((i / 64:Nat):Int))+((i % 64:Nat):Int)=(i:Int):=by omega
 rw [this]
theorem ahM {ws:List Wd}{a b:Int}{i:Nat}(h:i<64*ws.length):bit (Iq ws a b) i=(bit ws i&&!decide (a≤(i:Int)∧(i:Int)<b)):=by
 have hk:i / 64<ws.length:=by omega
 have hk2:i / 64<(Iq ws a b).length:=by simp [Iq,hk]
 rw [Gx hk,Gx hk2]
 simp only [Iq,ZcJ,Zcg,BitVec.getLsbD_not]
 rw [Gy _ _ _ (Zbl _ (by decide))]
 have:(64*((i / 64:Nat):Int))+((i % 64:Nat):Int)=(i:Int):=by omega
 rw [this]
 have h64:decide (i % 64<64)=true:=decide_eq_true (Zbl _ (by decide))
 rw [h64,Zai]
def lF (n:Int):Int:=(n+63) / 64
def okB (b:Bm):Bool:=decide (0≤b.size∧b.size≤4096∧(b.ws.length:Int)=lF b.size)&&(ZaC (64*b.ws.length)).all fun (i:Nat)=>decide ((i:Int)<b.size) || !bit b.ws i
theorem jr {b:Bm}:okB b=true ↔ (0≤b.size∧b.size≤4096∧(b.ws.length:Int)=lF b.size)∧∀ i:Nat,b.size≤(i:Int)→bit b.ws i=false:=by
 unfold okB
 simp only [ZS,decide_eq_true_eq,zw,Zbj,Bool.or_eq_true,ZaM]
 refine and_congr Iff.rfl ⟨fun h i hi=>?_,fun h i hi=>?_⟩
 ·by_cases c:i<64*b.ws.length
  ·exact (h i c).resolve_left (by omega)
  ·exact AL (by omega)
 ·by_cases c:(i:Int)<b.size
  ·exact .inl c
  ·exact .inr (h i (by omega))
theorem jU {b:Bm}(h:okB b=true):0≤b.size∧b.size≤4096∧b.ws.length≤64∧b.size≤64*(b.ws.length:Int)∧64*(b.ws.length:Int)<b.size+64:=by
 have:=(jr.1 h).1
 unfold lF at this
 omega
theorem Gz {b:Bm}(h:okB b=true){i:Nat}(hb:bit b.ws i=true):(i:Int)<b.size:=by
 rcases Int.lt_or_le (i:Int) b.size with c|c
 ·exact c
 ·rw [(jr.1 h).2 i c] at hb;cases hb
theorem ak7 {a b:Bm}(ha:okB a=true)(hb:okB b=true)(hs:a.size=b.size)(h:∀ i:Nat,(i:Int)<a.size→bit a.ws i=bit b.ws i):a=b:=by
 have h1:=(jr.1 ha)
 have h2:=(jr.1 hb)
 have e:a.ws=b.ws:=ak6 (by have:=h1.1.2.2;have:=h2.1.2.2;rw [hs] at *;omega) fun i _=>by
  rcases Int.lt_or_le (i:Int) a.size with c|c
  ·exact h i c
  ·rw [h1.2 i c,h2.2 i (by omega)]
 cases a;cases b;simp_all
theorem adF {b:Bm}(h:0≤b.size∧b.size≤4096∧(b.ws.length:Int)=lF b.size):okB b=true ↔ (b.size % 64=0∨∀ (hw:b.ws.length - 1<b.ws.length),b.ws[b.ws.length - 1] >>> (b.size % 64).toNat=0):=by
 rw [jr]
 unfold lF at h ⊢
 constructor
 ·rintro ⟨_,h2⟩
  by_cases c:b.size % 64=0
  ·exact .inl c
  ·refine .inr fun hw=>?_
   apply Zcl
   intro j hj
   rw [ZbQ]
   by_cases cj:(b.size % 64).toNat+j<64
   ·rw [← Gw hw cj,h2 _ (by omega)];simp
   ·rw [BitVec.getLsbD_of_ge _ _ (by omega)];simp
 ·intro hr
  refine ⟨by omega,fun i hi=>?_⟩
  by_cases c:i<64*b.ws.length
  ·have hw:b.ws.length - 1<b.ws.length:=by omega
   have hk:i / 64=b.ws.length - 1:=by omega
   rcases hr with hr|hr
   ·omega
   ·have:=congrArg (fun w:Wd=>w.getLsbD (i % 64 - (b.size % 64).toNat)) (hr hw)
    simp only [ZbQ,BitVec.getLsbD_zero] at this
    rw [show (b.size % 64).toNat+(i % 64 - (b.size % 64).toNat)=i % 64 by omega] at this
    rw [show i=64*(b.ws.length - 1)+i % 64 by omega,Gw hw (Zbl _ (by decide))]
    simpa using this
  ·exact AL (by omega)
def LZ (b:Bm):List bH:=ext (bit b.ws) b.size.toNat
def bmE (b:Bm):Int:=if okB b then 0 else 3
theorem adH {b:Bm}(h:okB b=true)(a:Int)(ha:a≤0):wV b.ws a b.size=(ZaC b.size.toNat).filter (bit b.ws):=by
 unfold wV
 obtain ⟨h1,h2,h3,h4,h5⟩:=jU h
 rw [show 64*b.ws.length=b.size.toNat+(64*b.ws.length - b.size.toNat) by omega,Zdm,Zb0]
 have e:(((ZaC (64*b.ws.length - b.size.toNat)).map (b.size.toNat+·)).filter fun (i:Nat)=>bit b.ws i&&decide (a≤(i:Int)∧(i:Int)<b.size))=[]:=by
  rw [Zb2]
  intro i hi
  obtain ⟨d,_,rfl⟩:=Za9.1 hi
  rw [decide_eq_false (by omega)];simp
 rw [e,ZaE]
 apply Zb3
 intro i hi
 have hi:=Zbj.1 hi
 rw [decide_eq_true (by omega),ZbO]
theorem BP {b:Bm}(h:okB b=true):bmE b=0:=by unfold bmE;rw [if_pos h]
theorem wW {b:Bm}(h:okB b=false):bmE b=3:=by unfold bmE;rw [if_neg (by rw [h];exact Bool.false_ne_true)]
theorem q64 {n:Int}(h:0≤n):(n+64 - 1).tdiv 64=lF n:=by
 unfold lF;rw [Zbg (by omega)];congr 1;omega
theorem z64:((64:Int)=0)=False:=eq_false (by decide)
theorem adI {n:Int}(h:0≤n∧n≤4096):cal env 222 [.int .i64 n]=some [(.int .i64 (lF n),false)]:=by
 have W1:IntKind.i64.wrap (n+64)=n+64:=aF (by omega)
 have W2:IntKind.i64.wrap (n+64 - 1)=n+64 - 1:=aF (by omega)
 have W3:IntKind.i64.wrap (lF n)=lF n:=aF (by unfold lF;omega)
 rw [ak akI rfl];simp only [Pz];simp only [start,aT,aY,aQ,aX,aK,aN,aS,aU,Nat.reduceAdd,Nat.reduceSub]
 simp only [W1,W2,q64 h.1,W3,z64,dF,reduceCtorEq,Nat.reduceEqDiff,Nat.reduceAdd,Nat.reduceLT,Nat.reduceLeDiff,zb]
theorem L6 {b:Bm}:cal env 161 [wU b]=some [(.int .i64 (bmE b),false)]:=by
 unfold wU
 have P:∀ x y:PV,part [x,y] 0 (some 2)=some (.agg [x,y]):=fun _ _=>rfl
 by_cases c0:b.size<0
 ·have hE:bmE b=3:=wW (by rw [Za2];intro h;have:=jU h;omega)
  rw [hE]
  rw [ak BM rfl];simp only [yJ];simp only [start,aT,aY,aQ,aX,aK,aN,aS,aU,Nat.reduceAdd,Nat.reduceSub]
  simp only [c0,P,dF,reduceCtorEq,Nat.reduceEqDiff,Nat.reduceAdd,Nat.reduceLT,Nat.reduceLeDiff,zb]
 ·by_cases c1:b.size > 4096
  ·have hE:bmE b=3:=wW (by rw [Za2];intro h;have:=jU h;omega)
   rw [hE]
   have F1:(b.size > 4096)=True:=eq_true c1
   rw [ak BM rfl];simp only [yJ];simp only [start,aT,aY,aQ,aX,aK,aN,aS,aU,Nat.reduceAdd,Nat.reduceSub]
   simp only [c0,F1,P,dF,reduceCtorEq,Nat.reduceEqDiff,Nat.reduceAdd,Nat.reduceLT,Nat.reduceLeDiff,zb]
  ·have F1:(b.size > 4096)=False:=eq_false c1
   have e1:=adI (n:=b.size) (by omega)
   by_cases c2:(b.ws.length:Int)=lF b.size
   ·have F2:((b.ws.length:Int) != lF b.size)=false:=by simp [c2]
    have hr:=adF (b:=b) ⟨by omega,by omega,c2⟩
    have hw:=c2
    unfold lF at hw
    have M:b.size.tmod 64=b.size % 64:=Zaq (by omega)
    by_cases c3:b.size % 64=0
    ·have hE:bmE b=0:=BP (hr.2 (.inl c3))
     rw [hE]
     have F3:(b.size % 64 > 0)=False:=eq_false (by omega)
     rw [ak BM rfl];simp only [yJ];simp only [start,aT,aY,aQ,aX,aK,aN,aS,aU,Nat.reduceAdd,Nat.reduceSub]
     simp only [c0,F1,F2,F3,M,e1,z64,P,dF,reduceCtorEq,Nat.reduceEqDiff,Nat.reduceAdd,Nat.reduceLT,Nat.reduceLeDiff,zb]
    ·have F3:(b.size % 64 > 0)=True:=eq_true (by omega)
     have hi:b.ws.length - 1<b.ws.length:=by omega
     have W:IntKind.i64.wrap ((b.ws.length:Int) - 1)=((b.ws.length - 1:Nat):Int):=by rw [aF (by omega)];omega
     have S0:(b.size % 64<0)=False:=eq_false (by omega)
     have S:=adD b.ws[b.ws.length - 1] (s:=b.size % 64) (n:=(b.size % 64).toNat) (by omega)
     have B:=adE (b.ws[b.ws.length - 1] >>> (b.size % 64).toNat) 0
     have B0:((0:Wd).toNat:Int)=0:=rfl
     rw [B0] at B
     have B':(((b.ws[b.ws.length - 1] >>> (b.size % 64).toNat).toNat:Int) != 0)=!decide (b.ws[b.ws.length - 1] >>> (b.size % 64).toNat=0):=by unfold bne;rw [B]
     by_cases c4:b.ws[b.ws.length - 1] >>> (b.size % 64).toNat=0
     ·have hE:bmE b=0:=BP (hr.2 (.inr fun _=>c4))
      rw [hE]
      rw [decide_eq_true c4] at B'
      rw [ak BM rfl];simp only [yJ];simp only [start,aT,aY,aQ,aX,aK,aN,aS,aU,Nat.reduceAdd,Nat.reduceSub]
      simp only [c0,F1,F2,F3,M,e1,z64,P,W,S0,S,B',aB hi,eW,zd,ZZ hi,dF,reduceCtorEq,Nat.reduceEqDiff,Nat.reduceAdd,Nat.reduceLT,Nat.reduceLeDiff,zb]
     ·have hE:bmE b=3:=wW (by
       rw [Za2];intro h
       rcases hr.1 h with h|h
       ·exact c3 h
       ·exact c4 (h hi))
      rw [hE]
      rw [decide_eq_false c4] at B'
      rw [ak BM rfl];simp only [yJ];simp only [start,aT,aY,aQ,aX,aK,aN,aS,aU,Nat.reduceAdd,Nat.reduceSub]
      simp only [c0,F1,F2,F3,M,e1,z64,P,W,S0,S,B',aB hi,eW,zd,ZZ hi,dF,reduceCtorEq,Nat.reduceEqDiff,Nat.reduceAdd,Nat.reduceLT,Nat.reduceLeDiff,zb]
   ·have F2:((b.ws.length:Int) != lF b.size)=true:=by simp [c2]
    have hE:bmE b=3:=wW (by rw [Za2];intro h;exact c2 (jr.1 h).1.2.2)
    rw [hE]
    rw [ak BM rfl];simp only [yJ];simp only [start,aT,aY,aQ,aX,aK,aN,aS,aU,Nat.reduceAdd,Nat.reduceSub]
    simp only [c0,F1,F2,e1,P,dF,reduceCtorEq,Nat.reduceEqDiff,Nat.reduceAdd,Nat.reduceLT,Nat.reduceLeDiff,zb]
theorem adJ {k:Nat}{a b:Int}(hk:k≤100000)(ha:-1000000≤a∧a≤1000000)(hb':-1000000≤b∧b≤1000000):cal env 263 [.int .i64 (k:Nat),.int .i64 a,.int .i64 b]=some [(eW (vC k a b),false)]:=by
 have W0:IntKind.i64.wrap ((k:Int)*64)=64*(k:Int):=by rw [aF (by omega)];omega
 have W1:IntKind.i64.wrap (a - 64*(k:Int))=a - 64*(k:Int):=aF (by omega)
 have W2:IntKind.i64.wrap (b - 64*(k:Int))=b - 64*(k:Int):=aF (by omega)
 have X1:(if a - 64*(k:Int)<0 then 0 else a - 64*(k:Int))=max (a - 64*(k:Int)) 0:=by split<;>omega
 have X2:(if 64<b - 64*(k:Int) then 64 else b - 64*(k:Int))=min (b - 64*(k:Int)) 64:=by split<;>omega
 unfold vC eW
 generalize hf:max (a - 64*(k:Int)) 0=f at X1 ⊢
 generalize ht:min (b - 64*(k:Int)) 64=t at X2 ⊢
 by_cases c:f ≥ t
 ·have F1:(f ≥ t)=True:=eq_true c
  rw [if_pos c]
  have B0:((0:Wd).toNat:Int)=0:=rfl
  rw [B0]
  rw [ak adq rfl];simp only [JH];simp only [start,aT,aY,aQ,aX,aK,aN,aS,aU,Nat.reduceAdd,Nat.reduceSub]
  simp only [W0,W1,W2,X1,X2,F1,dF,reduceCtorEq,Nat.reduceEqDiff,Nat.reduceAdd,Nat.reduceLT,Nat.reduceLeDiff,zb]
 ·have F1:(f ≥ t)=False:=eq_false c
  rw [if_neg c]
  have W3:IntKind.i64.wrap (t - f)=t - f:=aF (by omega)
  have W4:IntKind.i64.wrap (64 - (t - f))=64 - (t - f):=aF (by omega)
  have A:(18446744073709551615:Int)=((ZcL 64).toNat:Int):=rfl
  have S0:(64 - (t - f)<0)=False:=eq_false (by omega)
  have S1:(f<0)=False:=eq_false (by omega)
  have S2:=adD (ZcL 64) (s:=64 - (t - f)) (n:=(64 - (t - f)).toNat) (by omega)
  have S3:=anA (ZcL 64 >>> (64 - (t - f)).toNat) (s:=f) (n:=f.toNat) (by omega)
  rw [← A] at S2
  rw [ak adq rfl];simp only [JH];simp only [start,aT,aY,aQ,aX,aK,aN,aS,aU,Nat.reduceAdd,Nat.reduceSub]
  simp only [W0,W1,W2,W3,W4,X1,X2,F1,S0,S1,S2,S3,dF,reduceCtorEq,Nat.reduceEqDiff,Nat.reduceAdd,Nat.reduceLT,Nat.reduceLeDiff,zb]
def Zu (b:Bm):List PV:=[.int .i64 b.size,.list 1 (b.ws.map eW)]
def tz (w:Wd):Nat:=Lib.ctz 64 w.toNat
theorem ak8 {w:Wd}:cal env 264 [.int .u64 (w.toNat:Int)]=some [(.int .i64 (tz w:Nat),false)]:=by
 rw [Ag akY]
 have:=w.isLt
 have e:tzX [.int .u64 (w.toNat:Int)]=if (0:Int)≤(w.toNat:Int)∧(w.toNat:Int)<18446744073709551616 then some [(.int .i64 (Lib.ctz 64 (w.toNat:Int).toNat:Nat),false)] else none:=rfl
 rw [e,if_pos (by omega),Zaw]
 rfl
theorem ahN {b:Bm}{a:Int}{k:Nat}{w0:Wd}{ys0:List (List PV)}(hk:k≤100000)
  {st:St} (h:st.head [0,1,2,4,5,10,11,12] st.boxes.length=some ⟨[.qX,.pv (.dD (Zu b) 0),.pv (.dD [.int .i64 a] 0),.any,.pv (.int .i64 (k:Nat)),.pv (eW w0),.any,.any,.any,.any,.pv (.list 1 (b.ws.map eW)),.pv (.int .i64 b.ws.length),.pv (.int .i64 (k:Nat)),.any,.any,.any,.any,.any,.any,.any,.any,.any,.any,.any,.any,.any,.any,.any,.any,.any,.any,.any,.any,.any,.any,.any,.any,.any,.any],[],ys0,some none⟩) :
  den env Gl st=some (.normal,⟨[.qX,.pv (.dD (Zu b) 0),.pv (.dD [.int .i64 a] 0),.any,.any,.any,.any,.any,.any,.any,.pv (.list 1 (b.ws.map eW)),.pv (.int .i64 b.ws.length),.pv (.int .i64 (k:Nat)),.any,.any,.any,.any,.any,.any,.any,.any,.any,.any,.any,.any,.any,.any,.any,.any,.any,.any,.any,.any,.any,.any,.any,.any,.any,.any],[],ys0++yI ((bitsOf w0).map (64*k+·)),some none⟩):=by
 unfold Gl
 refine Ju (env:=env) (fun p:Wd×List (List PV)=>⟨[.qX,.pv (.dD (Zu b) 0),.pv (.dD [.int .i64 a] 0),.any,.pv (.int .i64 (k:Nat)),.pv (eW p.1),.any,.any,.any,.any,.pv (.list 1 (b.ws.map eW)),.pv (.int .i64 b.ws.length),.pv (.int .i64 (k:Nat)),.any,.any,.any,.any,.any,.any,.any,.any,.any,.any,.any,.any,.any,.any,.any,.any,.any,.any,.any,.any,.any,.any,.any,.any,.any,.any],[],p.2,some none⟩)
  (fun p=>some (.normal,⟨[.qX,.pv (.dD (Zu b) 0),.pv (.dD [.int .i64 a] 0),.any,.any,.any,.any,.any,.any,.any,.pv (.list 1 (b.ws.map eW)),.pv (.int .i64 b.ws.length),.pv (.int .i64 (k:Nat)),.any,.any,.any,.any,.any,.any,.any,.any,.any,.any,.any,.any,.any,.any,.any,.any,.any,.any,.any,.any,.any,.any,.any,.any,.any,.any],[],p.2++yI ((bitsOf p.1).map (64*k+·)),some none⟩)) (fun _=>True) (fun p=>(bitsOf p.1).length) (w0,ys0) h trivial (fun _=>rfl) (fun _=>rfl) ?_
 rintro ⟨w,ys⟩ rb _ ih
 simp only [eW] at ih ⊢
 have B:=adE w 0
 have B0:((0:Wd).toNat:Int)=0:=rfl
 rw [B0] at B
 have B':((w.toNat:Int) != 0)=!decide (w=0):=by unfold bne;rw [B]
 by_cases c:w=0
 ·rw [decide_eq_true c] at B'
  subst c
  simp only [Gj,B',Yw,Zav,dF,reduceCtorEq,Nat.reduceEqDiff,Nat.reduceAdd,Nat.reduceLT,Nat.reduceLeDiff,zb]
  simp only [yI,Zav,ZaE]
  rfl
 ·rw [decide_eq_false c] at B'
  have e1:=ak8 (w:=w)
  have ht:=(Vs c).1
  have W0:IntKind.i64.wrap ((k:Int)*64)=64*(k:Int):=by rw [aF (by omega)];omega
  have W1:IntKind.i64.wrap (64*(k:Int)+((tz w:Nat):Int))=((64*k+tz w:Nat):Int):=by unfold tz;rw [aF (by omega)];omega
  have W2:=anB w 1
  have W3:=adB w (w - 1)
  have B1:((1:Wd).toNat:Int)=1:=rfl
  rw [B1] at W2
  have hc:=Yx c
  simp only [Gj,B',e1,W0,W1,W2,W3,dF,reduceCtorEq,Nat.reduceEqDiff,Nat.reduceAdd,Nat.reduceLT,Nat.reduceLeDiff,zb]
  rw [ih (w &&& (w - 1),ys++[[.int .i64 ((64*k+tz w:Nat):Int)]]) (by simp only;rw [hc,zc];omega) trivial _ rfl]
  rw [hc]
  simp only [yI,Zat,Zan,Zbp,Za0]
  rfl
theorem adK {b:Bm}{a:Int}(hb:b.ws.length≤64)(hs:0≤b.size∧b.size≤4096)(ha:-1000000≤a∧a≤1000000)
  {st:St} (h:st.head [0,1,2,10,11,12] st.boxes.length=some ⟨[.qX,.pv (.dD (Zu b) 0),.pv (.dD [.int .i64 a] 0),.any,.any,.any,.any,.any,.any,.any,.pv (.list 1 (b.ws.map eW)),.pv (.int .i64 b.ws.length),.pv (.int .i64 (0:Nat)),.any,.any,.any,.any,.any,.any,.any,.any,.any,.any,.any,.any,.any,.any,.any,.any,.any,.any,.any,.any,.any,.any,.any,.any,.any,.any],[],[],some none⟩) :
  den env Gn st=some (.normal,⟨[.any,.any,.any,.any,.any,.any,.any,.any,.any,.any,.any,.any,.any,.any,.any,.any,.any,.any,.any,.any,.any,.any,.any,.any,.any,.any,.any,.any,.any,.any,.any,.any,.any,.any,.any,.any,.any,.any,.any],[],yI (wV b.ws a b.size),some none⟩):=by
 unfold Gn
 refine dL (env:=env) b.ws.length (fun k=>⟨[.qX,.pv (.dD (Zu b) 0),.pv (.dD [.int .i64 a] 0),.any,.any,.any,.any,.any,.any,.any,.pv (.list 1 (b.ws.map eW)),.pv (.int .i64 b.ws.length),.pv (.int .i64 k),.any,.any,.any,.any,.any,.any,.any,.any,.any,.any,.any,.any,.any,.any,.any,.any,.any,.any,.any,.any,.any,.any,.any,.any,.any,.any],[],yI ((ZaC (64*k)).filter fun (i:Nat)=>bit b.ws i&&decide (a≤(i:Int)∧(i:Int)<b.size)),some none⟩)
  (fun _=>some (.normal,⟨[.any,.any,.any,.any,.any,.any,.any,.any,.any,.any,.any,.any,.any,.any,.any,.any,.any,.any,.any,.any,.any,.any,.any,.any,.any,.any,.any,.any,.any,.any,.any,.any,.any,.any,.any,.any,.any,.any,.any],[],yI (wV b.ws a b.size),some none⟩)) h (fun _=>rfl) (fun _=>rfl) ?_ ?_
 ·intro k rb hi ih
  have hi1:=dV hi (by unfold lim;omega)
  have F1:((k:Int)<(b.ws.length:Int))=True:=eq_true (by omega)
  have e1:=adJ (k:=k) (a:=a) (b:=b.size) (by omega) ha (by omega)
  have W3:=adB b.ws[k] (vC k a b.size)
  rw [Ut hi] at ih
  unfold eW at e1
  simp only [Gm,F1,e1,W3,Zu,eW,aB hi,zd,ZZ hi,dF,reduceCtorEq,Nat.reduceEqDiff,Nat.reduceAdd,Nat.reduceLT,Nat.reduceLeDiff,zb]
  rw [ahN (b:=b) (a:=a) (k:=k) (w0:=b.ws[k] &&& vC k a b.size) (ys0:=yI ((ZaC (64*k)).filter fun (i:Nat)=>bit b.ws i&&decide (a≤(i:Int)∧(i:Int)<b.size))) (by omega)]
  rotate_left
  ·rfl
  simp only [dF,reduceCtorEq,Nat.reduceEqDiff,Nat.reduceAdd,Nat.reduceLT,Nat.reduceLeDiff,zb]
  rw [ih _ (by simp only [hi1];simp only [yI,ZaH];rfl)]
 ·intro rb
  simp only [Gm,ZaL,dF,reduceCtorEq,Nat.reduceEqDiff,Nat.reduceAdd,Nat.reduceLT,Nat.reduceLeDiff,zb]
  rfl
theorem ahO {b:Bm}{a:Int}(ha:-1000000≤a∧a≤1000000):iter env 262 [.dD (Zu b) 0,.dD [.int .i64 a] 0] none=some (yI (if okB b then wV b.ws a b.size else [])):=by
 have P:part (Zu b) 0 (some 2)=some (wU b):=rfl
 have e1:=L6 (b:=b)
 rw [yg akX rfl rfl]
 simp only [P7,Gt,aT,aY,aQ,aX,aK,aN,aS,aU,Nat.reduceAdd,Nat.reduceSub]
 cases c:okB b with
 |false =>
  rw [wW c] at e1
  have Z:((3:Int) != 0)=true:=rfl
  simp only [P,e1,Z,yC,dF,reduceCtorEq,Nat.reduceEqDiff,Nat.reduceAdd,Nat.reduceLT,Nat.reduceLeDiff,zb]
  rfl
 |true =>
  rw [BP c] at e1
  have Z:((0:Int) != 0)=false:=rfl
  obtain ⟨h1,h2,h3,_⟩:=jU c
  have P2:part (Zu b) 1 none=some (.list 1 (b.ws.map eW)):=rfl
  simp only [P,P2,e1,Z,za,yC,dF,reduceCtorEq,Nat.reduceEqDiff,Nat.reduceAdd,Nat.reduceLT,Nat.reduceLeDiff,zb]
  rw [adK (a:=a) h3 ⟨h1,h2⟩ ha]
  rotate_left
  ·rfl
  ·rfl
theorem ak9 {b:Bm}{a:Int}:cal env 219 [wU b,.int .i64 a]=some [(.func 262 [.dD (Zu b) 0,.dD [.int .i64 a] 0],false)]:=by
 unfold wU Zu
 rw [ak akH rfl];simp only [Py];simp only [start,aT,aY,aQ,aX,aK,aN,aS,aU,Nat.reduceAdd,Nat.reduceSub]
 simp only [dF,reduceCtorEq,Nat.reduceEqDiff,Nat.reduceAdd,Nat.reduceLT,Nat.reduceLeDiff,zb]
end Go.Proofs.YthccglceomoboaaGreatDoor.V
namespace Go.Proofs.YthccglceomoboaaGreatDoor
def look:List (Nat×AV)→Nat→AV
 |[],_=>.any
 |(j,v)::l,i=>dR (zb i j) v (look l i)
def sl (n:Nat)(l:List (Nat×AV)):List AV:=(ZaC n).map (look l)
def mapA (f:AV→AV):List (Nat×AV)→List (Nat×AV)
 |[]=>[]
 |(j,v)::l=>(j,f v)::mapA f l
def keepA (l:List (Nat×AV)):List Nat→List (Nat×AV)
 |[]=>[]
 |k::ks=>(k,look l k)::keepA l ks
def DF:Nat→List PV→List (Nat×AV)
 |_,[]=>[]
 |k,v::l=>(k,.pv v)::DF (k+1) l
def Qk (nb:Nat):List (Nat×AV)→Bool
 |[]=>true
 |(_,v)::l=>AV.low nb v&&Qk nb l
def Uu (n:Nat):List Nat→Bool
 |[]=>true
 |k::ks=>decide (k<n)&&Uu n ks
theorem adL (i:Nat)(v:AV)(l:List (Nat×AV)):look ((i,v)::l) i=v:=by
 show dR (zb i i) v _=v
 rw [Nat.beq_refl];rfl
theorem look_nil (i:Nat):look [] i=.any:=(rfl)
theorem ala {n i:Nat}{l:List (Nat×AV)}(h':i<n):(sl n l).getD i .any=look l i:=by
 simp [sl,Zaf,h']
theorem ahP {n i:Nat}{l:List (Nat×AV)}(h':i<n):(sl n l)[i]?=some (look l i):=by
 simp [sl,h']
theorem nS (l:List (Nat×AV))(i j:Nat)(v:AV):look ((j,v)::l) i=if i=j then v else look l i:=by
 show dR (zb i j) v _=_
 by_cases h:i=j
 ·subst h;rw [Nat.beq_refl,if_pos rfl];rfl
 ·rw [if_neg h]
  have:zb i j=false:=by
   cases e:zb i j with
   |false=>rfl
   |true=>exact absurd (Nat.eq_of_beq_eq_true e) h
  rw [this];rfl
theorem alb (n i:Nat)(v:AV)(l:List (Nat×AV)):(sl n l).set i v=sl n ((i,v)::l):=by
 apply Zbr (by simp [sl])
 intro k h1 h2
 have hk:k<n:=by simpa [sl] using h2
 simp only [sl,Zcz,ZbV,ZbM,nS]
 by_cases h:i=k
 ·subst h;simp
 ·rw [if_neg h,if_neg (fun e=>h e.symm)]
theorem Yy {i j:Nat}{v:AV}{l:List (Nat×AV)}(h:(i==j)=false):look ((j,v)::l) i=look l i:=by
 rw [nS,if_neg (by simpa using h)]
theorem JJ (f:AV→AV)(hf:f .any=.any):∀ (l:List (Nat×AV)) (i:Nat),look (mapA f l) i=f (look l i)
 |[],i=>hf.symm
 |(j,v)::l,i=>by
  show look ((j,f v)::mapA f l) i=_
  rw [nS,nS,JJ f hf l i]
  split<;>rfl
theorem L8 {f:AV→AV}(hf:f .any=.any)(n:Nat)(l:List (Nat×AV)):(sl n l).map f=sl n (mapA f l):=by
 unfold sl
 rw [List.map_map]
 apply List.map_congr_left
 intro i _
 exact (JJ f hf l i).symm
theorem ahQ (n d:Nat)(l:List (Nat×AV)):(sl n l).map (AV.kill d)=sl n (mapA (AV.kill d) l):=L8 rfl n l
theorem adM (n d:Nat)(l:List (Nat×AV)):(sl n l).map (AV.bZ d)=sl n (mapA (AV.bZ d) l):=L8 rfl n l
theorem adN (n d y:Nat)(l:List (Nat×AV)):(sl n l).map (AV.ig d y)=sl n (mapA (AV.ig d y) l):=L8 rfl n l
theorem adO (n:Nat)(l:List (Nat×AV)):(sl n l).map AV.froze=sl n (mapA AV.froze l):=L8 rfl n l
theorem adP (f:AV→AV):mapA f []=[]:=(rfl)
theorem Yz (f:AV→AV)(j:Nat)(v:AV)(l:List (Nat×AV)):mapA f ((j,v)::l)=(j,f v)::mapA f l:=(rfl)
theorem YA (l:List (Nat×AV)):keepA l []=[]:=(rfl)
theorem zi (l:List (Nat×AV))(k:Nat)(ks:List Nat):keepA l (k::ks)=(k,look l k)::keepA l ks:=(rfl)
theorem adQ (nb:Nat):Qk nb []=true:=(rfl)
theorem JK (nb k:Nat)(v:AV)(l:List (Nat×AV)):Qk nb ((k,v)::l)=(AV.low nb v&&Qk nb l):=(rfl)
theorem adR (n:Nat):Uu n []=true:=(rfl)
theorem JL (n k:Nat)(l:List Nat):Uu n (k::l)=(decide (k<n)&&Uu n l):=(rfl)
theorem YB (k:Nat):DF k []=[]:=(rfl)
theorem GH (k:Nat)(v:PV)(l:List PV):DF k (v::l)=(k,.pv v)::DF (k+1) l:=(rfl)
theorem zk (l:List (Nat×AV)):∀ (ks:List Nat) (i:Nat),look (keepA l ks) i=if ks.contains i then look l i else .any
 |[],i=>rfl
 |k::ks,i=>by
  rw [zi,nS,zk l ks i,List.contains_cons]
  by_cases h:i=k
  ·subst h;simp
  ·have:(i==k)=false:=by simpa using h
   rw [if_neg h,this,Zbz]
theorem Ql (nb n:Nat)(l:List (Nat×AV)):∀ ks:List Nat,Uu n ks=true→(Qk nb (keepA l ks)=true ↔ ∀ k∈ks,(look l k).low nb=true)
 |[],_=>by simp [keepA,Qk]
 |k::ks,h=>by
  rw [JL,ZS] at h
  rw [zi,JK,ZS,Ql nb n l ks h.2]
  simp
theorem Vu {n nb:Nat}{l:List (Nat×AV)}{keep:List Nat}{bx:List Box}{ys:List (List PV)}{sp:Option (Option Nat)}(h:Uu n keep=true)(hb:nb≤bx.length)(hl:Qk nb (keepA l keep)=true) :
  St.head ⟨sl n l,bx,ys,sp⟩ keep nb=some ⟨sl n (keepA l keep),bx.take nb,ys,sp⟩:=by
 have e:((sl n l).zipIdx.map fun (v,i)=>if keep.contains i then v else AV.any)=sl n (keepA l keep):=by
  apply Zbr (by simp [sl])
  intro i h1 h2
  simp only [sl,ZbV,List.getElem_zipIdx,ZbM,zk,Zaj]
 unfold St.head
 simp only
 rw [e,if_pos]
 rw [ZS,decide_eq_true_eq]
 refine ⟨?_,hb⟩
 rw [zw]
 intro v hv
 unfold sl at hv
 obtain ⟨i,hi,rfl⟩:=Za9.1 hv
 rw [zk]
 split
 ·rename_i hc
  exact (Ql nb n l keep h).1 hl i (by simpa using hc)
 ·rfl
theorem adS {n nb:Nat}{e:Ex}{l:List (Nat×AV)}{keep:List Nat}{bx:List Box}{ys:List (List PV)}{sp:Option (Option Nat)}(h:Uu n keep=true)(hb:nb≤bx.length)(hl:Qk nb (keepA l keep)=true) :
  mM keep nb (e,⟨sl n l,bx,ys,sp⟩)=some (e,⟨sl n (keepA l keep),bx.take nb,ys,sp⟩):=by
 unfold mM
 simp only
 rw [Vu h hb hl]
 rfl
theorem GI:∀ (l:List PV) (k i:Nat),look (DF k l) i=if k≤i then ((l[i - k]?).map AV.pv).getD .any else .any:=by
 intro l
 induction l with
 |nil=>intro k i;simp [DF,look]
 |cons v l ih =>
  intro k i
  rw [GH,nS,ih]
  by_cases h1:i=k
  ·subst h1;simp
  ·rw [if_neg h1]
   by_cases h2:k≤i
   ·rw [if_pos (by omega),if_pos h2,show i - k=(i - (k+1))+1 by omega,ZaO]
   ·rw [if_neg (by omega),if_neg h2]
theorem YC {n:Nat}{x:kM}{args:List PV}(hn:args.length+1≤n):S9 n x args=⟨sl n ((0,x.av)::DF 1 args),x.boxes,[],none⟩:=by
 unfold S9
 congr 1
 apply Zbr (by simp [sl];omega)
 intro i h1 h2
 simp only [sl,ZbV,ZbM,nS,GI]
 cases i with
 |zero=>simp
 |succ i =>
  rw [List.getElem_cons_succ,if_neg (by omega),if_pos (by omega),show i+1 - 1=i by omega]
  by_cases hi:i<args.length
  ·rw [Zc1 (by simpa using hi)]
   simp [hi]
  ·rw [ZcW (by simp;omega)]
   simp [hi]
theorem adT {n:Nat}{args:List PV}(hn:args.length≤n):start n args=⟨sl n (DF 0 args),[],[],none⟩:=by
 have key:=GI
 unfold start
 congr 1
 apply Zbr (by simp [sl];omega)
 intro i h1 h2
 simp only [sl,ZbV,ZbM,key,ZaG,if_true,Nat.sub_zero]
 by_cases hi:i<args.length
 ·rw [Zc1 (by simpa using hi)]
  simp [hi]
 ·rw [ZcW (by simp;omega)]
  simp [hi]
theorem alc (nb:Nat)(v:PV):AV.low nb (.pv v)=true:=(rfl)
theorem ahR (nb:Nat):AV.low nb .any=true:=(rfl)
theorem ahS (nb:Nat):AV.low nb .qX=true:=(rfl)
theorem ahT (nb sz:Nat)(es:List PV):AV.low nb (.row sz es)=true:=(rfl)
theorem adU (nb o j:Nat):AV.low nb (.aP o j)=decide (o<nb):=(rfl)
theorem adV (nb t off len:Nat):AV.low nb (.ref (.slot t) off len)=true:=(rfl)
theorem adW (nb o j off len:Nat):AV.low nb (.ref (.cell o j) off len)=decide (o<nb):=(rfl)
theorem adX (nb t i j:Nat):AV.low nb (.oO (.slot t) i j)=true:=(rfl)
theorem adY (nb o q i j:Nat):AV.low nb (.oO (.cell o q) i j)=decide (o<nb):=(rfl)
theorem ald (nb f:Nat)(caps:List AV):AV.low nb (.fn f caps)=caps.all fun c=>match c with
  |.pv _=>true
  |.aP o _=>o<nb
  |_=>false:=(rfl)
def aG:=Zs @adL (Zs @Yy (Zs @look_nil (Zs @ala (Zs @ahP (Zs @alb (Zs @ahQ (Zs (Zs @adM @adN) (Zs @adO (Zs @adP (Zs @Yz (Zs @YA (Zs @zi (Zs @adQ (Zs @JK (Zs @adR (Zs @JL (Zs @YB (Zs @GH (Zs @Vu (Zs @adS (Zs @adT (Zs @YC (Zs @alc (Zs @ahR (Zs @ahS (Zs @ahT (Zs @adU (Zs @adV (Zs @adW (Zs @adX (Zs @adY (@ald))))))))))))))))))))))))))))))))
def aC:=Zs @aG (Zs @dN (Zs @ads @Qd))
end Go.Proofs.YthccglceomoboaaGreatDoor
namespace Go.Proofs.YthccglceomoboaaGreatDoor.V
theorem Qm:wU ⟨0,[]⟩=.agg [.int .i64 0,.list 1 []]:=rfl
def Np (x y:Wd):Wd:=x ||| y
theorem sorted_at {l:List Nat}(hs:l.Pairwise (·<·)){j i:Nat}(h:l[j]?=some i):j≤i∧∀ k∈l.take j,k<i:=by
 obtain ⟨hj,rfl⟩:=Z1.1 h
 have hp:=List.pairwise_iff_getElem.1 hs
 refine ⟨?_,fun k hk=>?_⟩
 ·clear h
  induction j with
  |zero=>exact ZaG _
  |succ j ih =>
   have h1:=ih (by omega)
   have h2:=hp j (j+1) (by omega) hj (by omega)
   omega
 ·obtain ⟨m,hm,rfl⟩:=List.mem_iff_getElem.1 hk
  rw [List.getElem_take]
  simp only [Zam] at hm
  exact hp m j (by omega) hj (by omega)
def GK (b:Bm):List Nat:=if okB b then wV b.ws 0 b.size else []
theorem ahU {b:Bm}{j i:Nat}(h:(GK b)[j]?=some i):i<4096∧j≤i∧∀ k∈(GK b).take j,k<i:=by
 unfold GK at h ⊢
 split at h
 ·rename_i c
  rw [if_pos c]
  have hs:(wV b.ws 0 b.size).Pairwise (·<·):=List.pairwise_lt_range.filter _
  have hm:=zz h
  simp only [wV,Zc6,Zbj,ZS,decide_eq_true_eq] at hm
  have:=jU c
  exact ⟨by omega,sorted_at hs h⟩
 ·simp at h
def Ir (b:Bm):List bH:=if okB b then LZ b else []
theorem ale (b:Bm):exts (GK b)=Ir b:=by
 unfold GK Ir LZ ext
 split
 ·rename_i c;rw [adH c 0 (by omega)]
 ·rfl
theorem alf {b:Bm}:cal env 154 [wU b]=some [(.list 2 ((Ir b).map aZ),true)]:=by
 have e1:=ak9 (b:=b) (a:=0)
 have eA:∀ a:Bm,wU a=.agg [.int .i64 a.size,.list 1 (a.ws.map eW)]:=fun _=>rfl
 rw [eA] at e1 ⊢
 rw [ak akv rfl];simp only [O7];simp only [start,aT,aY,aQ,aX,aK,aN,aS,aU,Nat.reduceAdd,Nat.reduceSub]
 simp only [e1,dF,reduceCtorEq,Nat.reduceEqDiff,Nat.reduceAdd,Nat.reduceLT,Nat.reduceLeDiff,zb]
 rw [Ef (env:=env) (fun j=>[⟨false,[.pv (.int .i64 b.size),.pv (.list 1 (b.ws.map eW))]⟩,⟨false,[.row 2 ((exts ((GK b).take j)).map aZ)]⟩]) (xs:=yI (GK b)) rfl (by have:=ahO (b:=b) (a:=0) (by omega);exact this) rfl ?_]
 ·simp only [yI,za,ZaW,yC,dF,reduceCtorEq,Nat.reduceEqDiff,Nat.reduceAdd,Nat.reduceLT,Nat.reduceLeDiff,zb]
  rw [ale]
 ·intro j x hx sl0
  simp only [yI,zd,Option.map_eq_some_iff] at hx
  obtain ⟨i,hi,rfl⟩:=hx
  obtain ⟨k1,k2,k3⟩:=ahU hi
  have hlim:lim=1073741824:=rfl
  have hj:=(Z1.1 hi).1
  have ht:(GK b).take (j+1)=(GK b).take j++[i]:=by rw [List.take_add_one,hi];rfl
  have hlen:((GK b).take j).length=j:=by simp;omega
  rw [ht]
  rcases lD ((GK b).take j) with h0|⟨p,q,h0⟩
  ·have F2:(((0:Nat):Int) > 0)=False:=eq_false (by omega)
   have F3:(0+1≤lim)=True:=eq_true (by omega)
   have e0:exts ([]:List Nat)=[]:=rfl
   have e2:exts [i]=[⟨i,1⟩]:=rfl
   refine ⟨?_,?_⟩
   rotate_left
   ·simp only [h0,Za0,Aj,Ak,F2,F3,e0,e2,aZ,Zav,Zat,yC,dF,reduceCtorEq,Nat.reduceEqDiff,Nat.reduceAdd,Nat.reduceLT,Nat.reduceLeDiff,zb]
    rfl
  ·obtain ⟨pre,⟨s,c⟩,e0,h1,h2,h3,h4⟩:=JI _ p rfl q
   have hqi:q<i:=k3 q (by rw [h0];simp)
   simp only at h1 h2 h3
   have hpl:p.length+1=j:=by rw [h0] at hlen;simpa using hlen
   have F2:(((pre.length+1:Nat):Int) > 0)=True:=eq_true (by omega)
   have F3:=Yt (n:=pre.length) (by omega)
   have F4:IntKind.i64.wrap (s+c)=s+c:=aF (by omega)
   have F5:IntKind.i64.wrap (c+1)=c+1:=aF (by omega)
   have F6:(pre.length+1+1≤lim)=True:=eq_true (by omega)
   have F7:index (.int .i64 (pre.length:Int)) (pre.length+1)=some pre.length:=aB (by omega)
   by_cases hc:s+c=(i:Int)
   ·have F8:(s+c==(i:Int))=true:=by simpa using hc
    have e2:exts (p++[q]++[i])=pre++[⟨s,c+1⟩]:=by rw [yh,e0,jq,if_pos hc]
    refine ⟨?_,?_⟩
    rotate_left
    ·simp only [h0,Aj,Ak,e0,e2,F2,F3,F4,F5,F6,F7,F8,aZ,ZaH,Zat,Zav,yC,dF,reduceCtorEq,Nat.reduceEqDiff,Nat.reduceAdd,Nat.reduceLT,Nat.reduceLeDiff,zb]
     rfl
   ·have F8:(s+c==(i:Int))=false:=by simpa using hc
    have e2:exts (p++[q]++[i])=pre++[⟨s,c⟩]++[⟨i,1⟩]:=by rw [yh,e0,jq,if_neg hc]
    refine ⟨?_,?_⟩
    rotate_left
    ·simp only [h0,Aj,Ak,e0,e2,F2,F3,F4,F5,F6,F7,F8,aZ,ZaH,Zat,Zav,yC,dF,reduceCtorEq,Nat.reduceEqDiff,Nat.reduceAdd,Nat.reduceLT,Nat.reduceLeDiff,zb]
     rfl
theorem anD (w:Wd)(s:Nat):(w >>> s &&& 1==(1:Wd))=w.getLsbD s:=by
 have h:w >>> s &&& 1=if w.getLsbD s then 1 else 0:=by
  apply Zcl
  intro j hj
  rw [Zcg,ZbQ]
  cases j with
  |zero=>cases h:w.getLsbD s<;>simp [h]
  |succ j =>
   have:(1:Wd).getLsbD (j+1)=false:=by
    rw [show (1:Wd)=1#64 from rfl,BitVec.getLsbD_one];simp
   rw [this,Zbi]
   cases w.getLsbD s<;>simp
 rw [h]
 cases w.getLsbD s<;>rfl
structure Spn where
 epoch:Int
 fr:Int
 to:Int
 deriving DecidableEq
def aqt (x:Spn):PV:=.agg [.int .i64 x.epoch,.int .i64 x.fr,.int .i64 x.to]
def alh (p x:Spn):Bool:=decide (x.fr=p.to+1)&&(decide (x.fr≤x.to)&&(decide (x.to≤1073741824)&&(decide (x.epoch≤1073741824)&&decide (p.epoch<x.epoch))))
def z0:Spn:=⟨0,0,0⟩
def qw (p:Spn):List Spn→Bool×Spn
 |[]=>(true,p)
 |x::r=>if alh p x=true then qw x r else (false,p)
structure Pt where
 site:Int
 lin:List Spn
 dirty:List Bm
 img:Img
end Go.Proofs.YthccglceomoboaaGreatDoor.V
namespace Go.Proofs.YthccglceomoboaaGreatDoor
open Go.RowKit
def RV (w:World)(rs:List pY)(v:Value):Prop :=
 ∃ arr:Array Value,arr.size=rs.length∧v=(if arr.size=1 then arr.getD 0 undef else .tuple arr)∧∀ (i:Nat) (r:pY) (u:Value),rs[i]?=some r→arr[i]?=some u→aA (fun b=>b<w.heap.size) w r.1 u
theorem adZ {T:Tags}{w:World}{r:Root}{sz:Nat}{es:List PV}{v:Value}(h:aJ T w r sz es v){ok:Nat→Prop}(hk:∀ b,(T b=.ro∨T b=.row r)→b<w.heap.size→ok b):aA ok w (.list sz es) v:=by
 rcases h with ⟨rfl,a,rfl⟩|⟨b,c,arr,E,rfl,h1,h2,h3,h4,h5,h6,h7⟩
 ·exact .nil _ _
 ·have hb:b<w.heap.size:=(zt.1 h2).1
  refine .list sz es b 0 c (fun i j=>arr[i*sz+j]?.getD undef) (hk b (.inr h1) hb) ⟨_,_,_,h2⟩ h4 h5 h6 (fun i e j x he hx=>?_) (fun i e j x he hx=>?_)
  ·obtain ⟨u,g1,g2,g3⟩:=h7 i e j x he hx
   rw [g1,Zaj,cell_of_row w b (i*sz+j) arr E (0,0) h2]
   exact ⟨g1,g2⟩
  ·obtain ⟨u,g1,g2,g3⟩:=h7 i e j x he hx
   rw [g1]
   exact g3.frame fun b e hb=>⟨hk b (.inl e) hb,rfl⟩
theorem qJ.below {w w':World}(h:qJ w)(hB:Below w.heap.size w w'):qJ w':=h.frame fun b _ hb=>⟨if_pos (Zab hb hB.size),hB.block b hb⟩
theorem JM {P:Program}{env:Env}{f:Nat}{args:List PV}{rs:List pY}{vs:List Value}{w:World}(hE:Ae P env)(h:cal env f args=some rs)(hr:EZ w args vs)(hG:qJ w)(hf:∀ r∈rs,r.2=false∨∃ sz es,r.1=.list sz es) :
  Calls P f vs.toArray w (fun e w'=>∃ v,e=.returned v∧Below w.heap.size w w'∧RV w' rs v):=by
 obtain ⟨n,hn⟩:=jC h
 have hC:=(qh hE hn).2 (fun b=>if b<w.heap.size then .ro else .other) w vs (fun b=>by
  by_cases hb:b<w.heap.size
  ·exact .inl (if_pos hb)
  ·exact .inr (if_neg hb)) (fun b hb=>if_neg (by omega)) hr.get.1 (fun i x v hx hv=>(hr.get.2 i x v hx hv).frame fun b hb _=>⟨if_pos hb,rfl⟩) hG
 refine hC.mono ?_
 rintro e w' ⟨v,T',rfl,h1,t1,t2,arr,s1,s2,h2⟩
 have hlt:∀ b,(T' b=.ro∨∃ r,T' b=.row r)→b<w'.heap.size:=fun b hb=>by
  refine Nat.lt_of_not_le fun hle=>?_
  rw [t2 b hle] at hb
  rcases hb with hb|⟨r,hb⟩<;>cases hb
 refine ⟨v,rfl,h1,arr,s1,s2,fun i r u hr hu=>?_⟩
 have h3:=h2 i r u hr hu
 obtain ⟨x,fl⟩:=r
 have hor:=hf _ (zz hr)
 cases fl with
 |false =>
  have h4:aA (fun b=>T' b=.ro) w' x u:=by
   unfold R1 at h3
   split at h3
   ·rename_i q;cases q
   ·rename_i q;cases q
   ·rename_i q;cases q;exact h3
  exact h4.frame fun b hb _=>⟨hlt b (.inl hb),rfl⟩
 |true =>
  rcases hor with hor|⟨sz,es,hor⟩
  ·cases hor
  ·have hor:x=.list sz es:=hor
   subst hor
   have h4:aJ T' w' (.part 0 i) sz es u:=h3
   exact adZ h4 fun b hb hl=>hl
theorem arr1 {α:Type}{arr:Array α}(h:arr.size=1):∃ a,arr=#[a]:=by
 obtain ⟨l⟩:=arr
 match l,h with
 |[a],_=>exact ⟨a,rfl⟩
theorem EF {α:Type}{arr:Array α}(h:arr.size=2):∃ a b,arr=#[a,b]:=by
 obtain ⟨l⟩:=arr
 match l,h with
 |[a,b],_=>exact ⟨a,b,rfl⟩
theorem aqu {α:Type}{arr:Array α}(h:arr.size=4):∃ a b c d,arr=#[a,b,c,d]:=by
 obtain ⟨l⟩:=arr
 match l,h with
 |[a,b,c,d],_=>exact ⟨a,b,c,d,rfl⟩
theorem RV.one {w:World}{r:pY}{v:Value}(h:RV w [r] v):aA (fun b=>b<w.heap.size) w r.1 v:=by
 obtain ⟨arr,h1,rfl,h3⟩:=h
 obtain ⟨a,rfl⟩:=arr1 h1
 exact h3 0 _ _ rfl rfl
theorem aA.up {w w':World}{x:PV}{v:Value}(h:aA (fun b=>b<w.heap.size) w x v)(hB:Below w.heap.size w w'):aA (fun b=>b<w'.heap.size) w' x v:=h.frame fun b hb _=>⟨Zab hb hB.size,hB.block b hb⟩
theorem aA.cell1 {ok:Nat→Prop}{w:World}{sz:Nat}{es:List PV}{v:Value}(h:aA ok w (.list sz es) v):v.oneCell'=true:=by
 obtain ⟨x,c,rfl,_⟩:=h.dU
 rfl
open V in
structure PtR (w:World)(p:Pt)(v1 v2 v3:Value):Prop where
 l:aA (fun b=>b<w.heap.size) w (.list 3 (p.lin.map aqt)) v1
 d:aA (fun b=>b<w.heap.size) w (.list 2 (p.dirty.map wU)) v2
 i:aA (fun b=>b<w.heap.size) w (.list 1 (p.img.map dh)) v3
open V in
theorem PtR.below {w w':World}{p:Pt}{v1 v2 v3:Value}(h:PtR w p v1 v2 v3)(hB:Below w.heap.size w w'):PtR w' p v1 v2 v3:=⟨h.l.up hB,h.d.up hB,h.i.up hB⟩
open V in
open V in
theorem L9 (z:Array Value)(n k:Nat)(h:k<n*z.size):(Builtin.zeroCells z n)[k]?=z[k % z.size]?:=by
 have hz:0<z.size:=by
  rcases ZaT z.size with e|e
  ·rw [e] at h;simp at h
  ·exact e
 have hm:k % z.size<z.size:=Zbl _ hz
 unfold Builtin.zeroCells
 simp [h,hm]
def tq (w:World)(base:Nat)(e:TypeId)(z:Array Value)(v:Value)(n:Nat)(xs:List Value):Prop :=
 xs.length=n*z.size ∧
 ((v=.slice none 0 0∧n=0) ∨
  ∃ g cap cur,v=.slice (some ⟨g,0,none⟩) n cap∧base≤g∧w.heap[g]?=some (.cells cur e (0,0))∧n≤cap∧cap≤maxLen∧cur.size=cap*z.size∧cur.toList.take (n*z.size)=xs∧∀ k,n*z.size≤k→k<cap*z.size→cur[k]?=z[k % z.size]?)
theorem Qn (w:World)(base:Nat)(e:TypeId)(z:Array Value):tq w base e z (.slice none 0 0) 0 []:=⟨by simp,.inl ⟨rfl,rfl⟩⟩
theorem tq.own {w:World}{base:Nat}{e:TypeId}{z:Array Value}{v:Value}{n:Nat}{xs:List Value}(h:tq w base e z v n xs):w.ownsRow base e z.size v n xs:=by
 obtain ⟨h1,h2⟩:=h
 refine ⟨h1,?_⟩
 rcases h2 with h2|⟨g,cap,cur,a1,a2,a3,a4,a5,a6,a7,-⟩
 ·exact .inl h2
 ·exact .inr ⟨g,cap,cur,a1,a2,a3,a4,a5,a6,a7⟩
theorem tq.keep {w w':World}{base:Nat}{e:TypeId}{z:Array Value}{v:Value}{n:Nat}{xs:List Value}(h:tq w base e z v n xs)(hb:∀ g,base≤g→g<w.heap.size→w'.heap[g]?=w.heap[g]?):tq w' base e z v n xs:=by
 obtain ⟨h1,h2⟩:=h
 refine ⟨h1,?_⟩
 rcases h2 with h2|⟨g,cap,cur,a1,a2,a3,a4⟩
 ·exact .inl h2
 ·exact .inr ⟨g,cap,cur,a1,a2,(hb g a2 (zt.1 a3).1).trans a3,a4⟩
theorem ad1 {P:Program}(w:World)(base:Nat)(t ty e:TypeId)(i:TypeInfo)(z:Value)(ht:P.underlying t=some (.slice e))(hi:P.info? e=some i)(hz:i.zero=some z)
  (hzs:z.cells.size=i.size) (hsz:0<i.size) (v:Value) (n:Nat) (xs:List Value) (hown:tq w base e z.cells v n xs)
  (a:Addr) (m c:Nat) (news:List Value) (hl:news.length=m*i.size) (hnews:∀ j u,news[j]?=some u→w.cell? (a.add j)=some u) (h1:∀ u∈news,u.oneCell'=true)
  (h63:n+m≤maxLen) (hbytes:(n+m)*i.bytes≤140737488355328) (hbase:base≤w.heap.size) :
  ∃ v' w',(Builtin.append_ #[t,t] ty #[v,.slice (some a) m c]).run P w=.ok v' w'∧tq w' base e z.cells v' (n+m) (xs++news)∧w.grownBy w' v.ownBlock∧((∃ x c,v=.slice x n c∧v'=.slice x (n+m) c)∨w.grownBy w' none):=by
 have hsmall:n+m≤9223372036854775807:=by simp only [maxLen] at h63;omega
 unfold tq at hown
 rw [hzs] at hown
 have hlen:(xs++news).length=(n+m)*i.size:=by rw [zp,hown.1,hl,Zap]
 have grown:∀ (old:Nat) (row:Option Nat),
   tq (w.drew.alloc (.cells (xs.toArray++news.toArray++Builtin.zeroCells z.cells (grownCap w (n+m) old e - (n+m))) e)) base e z.cells
    (.slice (some ⟨w.heap.size,0,none⟩) (n+m) (grownCap w (n+m) old e)) (n+m) (xs++news) ∧
   w.grownBy (w.drew.alloc (.cells (xs.toArray++news.toArray++Builtin.zeroCells z.cells (grownCap w (n+m) old e - (n+m))) e)) row:=by
  intro old row
  have hge:=grownCap_ge w (n+m) old e
  have hcm:grownCap w (n+m) old e≤maxLen:=grownCap_le_maxLen w (n+m) old e h63
  generalize hG:grownCap w (n+m) old e=G at *
  have hsub:(n+m)*i.size+(G - (n+m))*i.size=G*i.size:=by rw [← Zap];congr 1;omega
  have hxa:(xs.toArray++news.toArray).size=(n+m)*i.size:=by rw [← hlen];simp
  refine ⟨⟨by rw [hzs];exact hlen,.inr ⟨w.heap.size,G,_,rfl,hbase,Go.heap_alloc_new w.drew _,hge,hcm,?_,?_,fun k k1 k2=>?_⟩⟩,⟨rfl,rfl,rfl,by simp,fun k hk _=>(Below.heap_alloc w.drew _ k hk)⟩⟩
  ·rw [Array.size_append,hxa,size_zeroCells,hzs];exact hsub
  ·rw [hzs]
   simp only [Array.toList_append,Zan]
   rw [← Zan,← hlen]
   exact List.take_left
  ·rw [hzs] at k1 k2
   rw [Array.getElem?_append,hxa,if_neg (by omega),L9 _ _ _ (by rw [hzs];omega),hzs]
   congr 1
   obtain ⟨d,rfl⟩:∃ d,k=(n+m)*i.size+d:=⟨k - (n+m)*i.size,by omega⟩
   rw [Nat.add_sub_cancel_left,Nat.mul_comm,Nat.mul_add_mod]
 rcases hown.2 with ⟨rfl,rfl⟩|⟨g,cap,cur,rfl,hbg,hg,hnc,hcm,hcs,htake,hsp⟩
 ·have hx:xs=[]:=Zac (by simpa using hown.1)
  subst hx
  by_cases hm:m=0
  ·subst hm
   have hn:news=[]:=Zac (by simpa using hl)
   subst hn
   refine ⟨.slice none 0 0,w,?_,Qn w base e _,⟨rfl,rfl,rfl,zg _,fun _ _ _=>rfl⟩,.inl ⟨none,0,rfl,rfl⟩⟩
   simp [Builtin.append_,run_underlying ht,sizeOf,typeInfo,hi,Builtin.lenOf,Builtin.firstCells,loadCells,loadCellsFrom]
  ·have hr:=run_append_nil (P:=P) w t ty e i z ht hi hz a m c news hl hnews (by omega) (by omega) (by have hb:=hbytes;simp only [Zaj] at hb;omega)
   have hgr:=grown 0 (Value.ownBlock (.slice none 0 0))
   have hgn:=(grown 0 none).2
   simp only [Zaj,Za0,Array.empty_append] at hgr hgn ⊢
   exact ⟨_,_,hr,hgr.1,hgr.2,.inr hgn⟩
 ·by_cases hroom:n+m≤cap
  ·have hfit:n*i.size+news.length≤cur.size:=by rw [hl,hcs,← Zap];exact Zag _ hroom
   have hr:=run_append_room' (P:=P) w t ty e e i ht hi g n cap cur hg a m c news hl hnews h1 hroom hfit
   refine ⟨_,_,hr,⟨by rw [hzs];exact hlen,.inr ⟨g,cap,_,rfl,hbg,setRow_heap w g cur _ e _ hg,hroom,hcm,?_,?_,fun k k1 k2=>?_⟩⟩,⟨rfl,rfl,rfl,by simp [World.setRow],fun k _ hk=>setRow_other w g k _ (fun e=>hk (by simp [Value.ownBlock,e]))⟩,.inl ⟨_,_,rfl,rfl⟩⟩
   ·rw [hzs]
    simp only [List.size_toArray,zp,Zam,ZaV,Array.length_toList]
    omega
   ·rw [htake,hzs,← hlen]
    exact List.take_left
   ·rw [hzs] at k1 k2 ⊢
    rw [htake]
    have e1:(xs++news++cur.toList.drop (n*i.size+news.length)).toArray[k]?=cur[k]?:=by
     rw [List.getElem?_toArray,zP (by omega),hlen,Zaz,Array.getElem?_toList]
     congr 1
     rw [hl,← Zap];omega
    rw [e1]
    exact hsp k (by rw [Zap] at k1;omega) k2
  ·have holds:∀ j u,xs[j]?=some u→w.cell? ((⟨g,0,none⟩:Addr).add j)=some u:=(show w.ownsRow base e i.size (.slice (some ⟨g,0,none⟩) n cap) n xs from ⟨hown.1,.inr ⟨g,cap,cur,rfl,hbg,hg,hnc,hcm,hcs,htake⟩⟩).cells (g:=g) rfl
   have hr:=run_append_grow (P:=P) w t ty e i z ht hi hz ⟨g,0,none⟩ n cap xs hown.1 holds a m c news hl hnews (by omega) (by omega) (growslice_fits (by omega) hbytes)
   have hgr:=grown cap (Value.ownBlock (.slice (some ⟨g,0,none⟩) n cap))
   exact ⟨_,_,hr,hgr.1,hgr.2,.inr (grown cap none).2⟩
theorem Qo {P:Program}(w:World){ops:Array Oper}{rest:List Oper}{o:Oper}{a:Act}{Q:Exit→Act→World→Prop}(hgd:o.guard=none)(s x:Operand)(t:TypeId)
  (ho:o.op=.call { callee:=.builtin .append,args:=#[s,x],argTypes:=#[t,t] })
  (base:Nat) (e:TypeId) (i:TypeInfo) (z:Value) (ht:P.underlying t=some (.slice e)) (hi:P.info? e=some i) (hz:i.zero=some z) (hzs:z.cells.size=i.size) (hsz:0<i.size)
  (v:Value) (n:Nat) (xs:List Value) (hs:a.eval s=v) (hown:tq w base e z.cells v n xs)
  (ad:Addr) (m c:Nat) (news:List Value) (hx:a.eval x=.slice (some ad) m c) (hl:news.length=m*i.size) (hnews:∀ j u,news[j]?=some u→w.cell? (ad.add j)=some u) (h1:∀ u∈news,u.oneCell'=true)
  (h63:n+m≤maxLen) (hbytes:(n+m)*i.bytes≤140737488355328) (hbase:base≤w.heap.size)
  (h:∀ v' w',tq w' base e z.cells v' (n+m) (xs++news)→w.grownBy w' v.ownBlock→((∃ x c,v=.slice x n c∧v'=.slice x (n+m) c)∨w.grownBy w' none)→wpList P ops Q rest (a.put o.dst v') w'):wpList P ops Q (o::rest) a w :=
 wpList_plain hgd fun _ hK=>by
  obtain ⟨v',w',hr,h2,h3,h4⟩:=ad1 (P:=P) w base t o.type e i z ht hi hz hzs hsz v n xs hown ad m c news hl hnews h1 h63 hbytes hbase
  unfold Oper.wp execOp
  simp only [ho,resolve,invoke,builtin,Sem.run_bind,Sem.run_pure,Result.andThen_ok,List.map_toArray,Zat,Zav,hs,hx,hr]
  exact hK _ _ (h v' w' h2 h3 h4)
end Go.Proofs.YthccglceomoboaaGreatDoor
namespace Go.Proofs.YthccglceomoboaaGreatDoor.V
theorem ahV {n:Int}(h:0≤n):((lF n).toNat:Int)=lF n:=by unfold lF;omega
def newE (n:Int):Int:=if n<0∨n > 4096 then 2 else 0
def tu (n:Int):Bm:=if n<0∨n > 4096 then ⟨0,[]⟩ else ⟨n,Zae (lF n).toNat 0⟩
theorem ad2 {n:Int}:cal env 169 [.int .i64 n]=some [(wU (tu n),false),(.int .i64 (newE n),false)]:=by
 have hz:=Qm
 unfold newE tu
 by_cases c0:n<0
 ·rw [if_pos (.inl c0),if_pos (.inl c0),hz]
  have F0:(n<0)=True:=eq_true c0
  rw [ak Un rfl];simp only [FH,aG,Nat.reduceBEq,Nat.reduceLeDiff,Nat.reduceAdd,zc,ze]
  simp only [F0,aC,Nat.reduceMul,Nat.reduceBEq,Nat.reduceLT,Nat.reduceLeDiff,reduceCtorEq,Nat.reduceEqDiff,Nat.reduceAdd,zb]
 ·have F0:(n<0)=False:=eq_false c0
  by_cases c1:n > 4096
  ·rw [if_pos (.inr c1),if_pos (.inr c1),hz]
   have F1:(n > 4096)=True:=eq_true c1
   rw [ak Un rfl];simp only [FH,aG,Nat.reduceBEq,Nat.reduceLeDiff,Nat.reduceAdd,zc,ze]
   simp only [F0,F1,aC,Nat.reduceMul,Nat.reduceBEq,Nat.reduceLT,Nat.reduceLeDiff,reduceCtorEq,Nat.reduceEqDiff,Nat.reduceAdd,zb]
  ·have F1:(n > 4096)=False:=eq_false c1
   rw [if_neg (by omega),if_neg (by omega)]
   have e1:=adI (n:=n) (by omega)
   have hw:0≤lF n∧lF n≤64:=by unfold lF;omega
   have F3:(0≤lF n)=True:=eq_true hw.1
   have F4:(lF n≤(lim:Int))=True:=eq_true (by unfold lim;omega)
   have F5:(lF n≤lF n)=True:=eq_true (Int.le_refl _)
   have z0:eW 0=.int .u64 0:=rfl
   unfold wU
   rw [ZcQ,z0]
   rw [ak Un rfl];simp only [FH,aG,Nat.reduceBEq,Nat.reduceLeDiff,Nat.reduceAdd,zc,ze]
   simp only [F0,F1,e1,F3,F4,F5,aC,Nat.reduceMul,Nat.reduceBEq,Nat.reduceLT,Nat.reduceLeDiff,reduceCtorEq,Nat.reduceEqDiff,Nat.reduceAdd,zb]
def tC (size:Int)(e:bH):Bool:=decide (0≤e.start)&&decide (0≤e.count)&&decide (e.start≤size)&&decide (e.count≤size - e.start)
theorem lS {size:Int}{e:bH}:tC size e=true ↔ 0≤e.start∧0≤e.count∧e.start≤size∧e.count≤size - e.start:=by
 unfold tC;simp [and_assoc]
theorem ali {size:Int}{e:bH}(hs:0≤size∧size≤4096):cal env 267 [aZ e,.int .i64 size]=some [(.bool (tC size e),false)]:=by
 unfold tC aZ
 by_cases c0:0≤e.start
 ·have F0:(e.start ≥ 0)=True:=eq_true c0
  rw [decide_eq_true c0]
  by_cases c1:0≤e.count
  ·have F1:(e.count ≥ 0)=True:=eq_true c1
   rw [decide_eq_true c1]
   by_cases c2:e.start≤size
   ·have F2:(e.start≤size)=True:=eq_true c2
    have W:IntKind.i64.wrap (size - e.start)=size - e.start:=aF (by omega)
    rw [decide_eq_true c2]
    rw [ak LW rfl];simp only [Dy,aG,Nat.reduceBEq,Nat.reduceLeDiff,Nat.reduceAdd,zc,ze]
    simp only [F0,F1,F2,W,aC,Nat.reduceMul,Nat.reduceBEq,Nat.reduceLT,Nat.reduceLeDiff,reduceCtorEq,Nat.reduceEqDiff,Nat.reduceAdd,zb]
   ·have F2:(e.start≤size)=False:=eq_false c2
    rw [decide_eq_false c2]
    rw [ak LW rfl];simp only [Dy,aG,Nat.reduceBEq,Nat.reduceLeDiff,Nat.reduceAdd,zc,ze]
    simp only [F0,F1,F2,aC,Nat.reduceMul,Nat.reduceBEq,Nat.reduceLT,Nat.reduceLeDiff,reduceCtorEq,Nat.reduceEqDiff,Nat.reduceAdd,zb]
  ·have F1:(e.count ≥ 0)=False:=eq_false c1
   rw [decide_eq_false c1]
   rw [ak LW rfl];simp only [Dy,aG,Nat.reduceBEq,Nat.reduceLeDiff,Nat.reduceAdd,zc,ze]
   simp only [F0,F1,aC,Nat.reduceMul,Nat.reduceBEq,Nat.reduceLT,Nat.reduceLeDiff,reduceCtorEq,Nat.reduceEqDiff,Nat.reduceAdd,zb]
 ·have F0:(e.start ≥ 0)=False:=eq_false c0
  rw [decide_eq_false c0]
  rw [ak LW rfl];simp only [Dy,aG,Nat.reduceBEq,Nat.reduceLeDiff,Nat.reduceAdd,zc,ze]
  simp only [F0,aC,Nat.reduceMul,Nat.reduceBEq,Nat.reduceLT,Nat.reduceLeDiff,reduceCtorEq,Nat.reduceEqDiff,Nat.reduceAdd,zb]
def chW (f:Wd→Wd→Wd)(ws:List Wd)(e:bH):List Wd:=ws.mapIdx fun k w=>f w (vC k e.start (e.start+e.count))
theorem Vw (f:Wd→Wd→Wd)(ws:List Wd)(e:bH):(chW f ws e).length=ws.length:=by simp [chW]
def Eh (b:Bm)(e:bH):Int:=if okB b=false then 3 else if tC b.size e=false then 2 else 0
def zA (f:Wd→Wd→Wd)(b:Bm)(e:bH):Bm:=if Eh b e=0 then ⟨b.size,chW f b.ws e⟩ else ⟨0,[]⟩
def BQ (a b:List Wd)(i:Nat):List PV:=(a.take i++b.drop i).map eW
theorem ad4 {a b:List Wd}(h:a.length=b.length)(i:Nat):(BQ a b i).length=b.length:=by simp [BQ];omega
theorem ad5 {a b:List Wd}(h:a.length=b.length){i:Nat}(hi:i<b.length):(BQ a b i)[i]?=some (eW b[i]):=by
 unfold BQ
 rw [zd,zP (by simp;omega),Zam,Za4 (by omega),ZbL,Zaz,Nat.add_zero,ZZ hi]
 rfl
theorem ad6 {a b:List Wd}(h:a.length=b.length){i:Nat}(hi:i<a.length):(BQ a b i).set i (eW a[i])=BQ a b (i+1):=by
 unfold BQ
 rw [← Zb4,List.set_append_right _ _ (by simp;omega),Zam,Za4 (by omega),ZbL,ZaF hi,Zan]
 congr 2
 rw [Zah (show i<b.length by omega)]
 rfl
theorem YD (a b:List Wd):BQ a b 0=b.map eW:=by simp [BQ]
theorem ad7 {a b:List Wd}(h:a.length=b.length):BQ a b b.length=a.map eW:=by
 unfold BQ
 rw [Zby (by omega),ZaS (zg _),ZaE]
theorem ahW {f:Wd→Wd→Wd}{ws:List Wd}{e:bH}{i:Nat}(h:i<(chW f ws e).length)(h2:i<ws.length):(chW f ws e)[i]=f ws[i] (vC i e.start (e.start+e.count)):=by
 simp [chW]
theorem alj {es:List PV}(hl:es.length≤lim):cal env 120 [.list 1 es]=some [(.list 1 es,true)]:=(Ag akt).trans (if_pos ⟨rfl,hl⟩)
set_option maxRecDepth 20000 in
theorem ahX {b:Bm}{e:bH}{f:Wd→Wd→Wd}{gf:Nat}(hf:∀ x y,cal env gf [eW x,eW y]=some [(eW (f x y),false)])(hm:b.ws.length≤64)(he:0≤e.start∧e.start≤4096∧0≤e.count∧e.count≤4096){st:St}(h:st.head [3,4,5,6,9,25,27,28] st.boxes.length=some ⟨sl 55 [(3,.aP 0 0),(4,.aP 1 0),(5,.aP 2 0),(6,.aP 3 0),(9,.row 1 (BQ (chW f b.ws e) b.ws ((0:Nat)))),(25,.any),(27,.pv (.int .i64 b.ws.length)),(28,.pv (.int .i64 (0:Nat)))],[⟨false,[.pv (.func gf [])]⟩,⟨false,[.pv (.int .i64 b.size),.pv (.list 1 (b.ws.map eW))]⟩,⟨false,[.pv (.int .i64 e.start),.pv (.int .i64 e.count)]⟩,⟨false,[.pv (.int .i64 0),.row 1 []]⟩],[],none⟩) :
  den env FP st=some (.normal,⟨sl 55 [(4,.aP 1 0),(6,.aP 3 0),(7,.any),(9,.row 1 ((chW f b.ws e).map eW))],[⟨false,[.pv (.func gf [])]⟩,⟨false,[.pv (.int .i64 b.size),.pv (.list 1 (b.ws.map eW))]⟩,⟨false,[.pv (.int .i64 e.start),.pv (.int .i64 e.count)]⟩,⟨false,[.pv (.int .i64 0),.row 1 []]⟩],[],none⟩):=by
 unfold FP
 refine dL (env:=env) (nb:=4) (b.ws.length) (fun i=>⟨sl 55 [(3,.aP 0 0),(4,.aP 1 0),(5,.aP 2 0),(6,.aP 3 0),(9,.row 1 (BQ (chW f b.ws e) b.ws (i))),(25,.any),(27,.pv (.int .i64 b.ws.length)),(28,.pv (.int .i64 i))],[⟨false,[.pv (.func gf [])]⟩,⟨false,[.pv (.int .i64 b.size),.pv (.list 1 (b.ws.map eW))]⟩,⟨false,[.pv (.int .i64 e.start),.pv (.int .i64 e.count)]⟩,⟨false,[.pv (.int .i64 0),.row 1 []]⟩],[],none⟩) (fun i=>some (.normal,⟨sl 55 [(4,.aP 1 0),(6,.aP 3 0),(7,.any),(9,.row 1 ((chW f b.ws e).map eW))],[⟨false,[.pv (.func gf [])]⟩,⟨false,[.pv (.int .i64 b.size),.pv (.list 1 (b.ws.map eW))]⟩,⟨false,[.pv (.int .i64 e.start),.pv (.int .i64 e.count)]⟩,⟨false,[.pv (.int .i64 0),.row 1 []]⟩],[],none⟩)) h (fun _=>rfl) (fun _=>by simp only [aG,dN,Nat.reduceMul,Nat.reduceBEq,Nat.reduceLT,Nat.reduceLeDiff,Nat.reduceAdd,decide_true,Zal,Zai]) ?_ ?_
 ·intro i rb hi ih
  have hi1:=dV hi (by unfold lim;omega)
  have F1:((i:Int)<(b.ws.length:Int))=True:=eq_true (by omega)
  have hcl:=Vw f b.ws e
  have f1:=ad4 hcl i
  have f2:=ad5 hcl hi
  have f3:=ad6 hcl (i:=i) (by omega)
  have e1:=hf b.ws[i] (vC i e.start (e.start+e.count))
  rw [ahW (by omega) hi] at f3
  have W:IntKind.i64.wrap (e.start+e.count)=e.start+e.count:=aF (by omega)
  have e2:=adJ (k:=i) (a:=e.start) (b:=e.start+e.count) (by omega) (by omega) (by omega)
  unfold eW at e1 e2 f2 f3 ih ⊢
  simp only [FN,F1,W,e1,e2,f1,f2,f3,aB hi,Zak,za,aC,Nat.reduceMul,Nat.reduceBEq,Nat.reduceLT,Nat.reduceLeDiff,reduceCtorEq,Nat.reduceEqDiff,Nat.reduceAdd,zb]
  rw [ih _ (by simp only [hi1,aC,Nat.reduceMul,Nat.reduceBEq,Nat.reduceLT,Nat.reduceLeDiff,reduceCtorEq,Nat.reduceEqDiff,Nat.reduceAdd,zb]<;>rfl)]
 ·intro rb
  rw [ad7 (Vw f b.ws e)]
  simp only [FN,ZaL,aC,Nat.reduceMul,Nat.reduceBEq,Nat.reduceLT,Nat.reduceLeDiff,reduceCtorEq,Nat.reduceEqDiff,Nat.reduceAdd,zb]
theorem ad8 {b:Bm}{e:bH}{f:Wd→Wd→Wd}{gf:Nat}(hf:∀ x y,cal env gf [eW x,eW y]=some [(eW (f x y),false)]) :
  cal env 234 [.agg [.func gf []],wU b,aZ e]=some [(wU (zA f b e),false),(.int .i64 (Eh b e),false)]:=by
 have P:∀ b:Bm,part [PV.int .i64 b.size,.list 1 (b.ws.map eW)] 0 (some 2)=some (wU b):=fun _=>rfl
 have e1:=L6 (b:=b)
 have Z0:((0:Int) != 0)=false:=rfl
 have Z3:((3:Int) != 0)=true:=rfl
 have hz:=Qm
 have eA:wU b=.agg [.int .i64 b.size,.list 1 (b.ws.map eW)]:=rfl
 have eX:aZ e=.agg [.int .i64 e.start,.int .i64 e.count]:=rfl
 unfold zA
 cases c1:okB b with
 |false =>
  have hE:Eh b e=3:=by unfold Eh;rw [if_pos c1]
  rw [hE,if_neg (by decide),hz]
  rw [wW c1] at e1
  rw [eA] at e1 ⊢;rw [eX]
  rw [ak Uo rfl];simp only [FQ,aG,Nat.reduceBEq,Nat.reduceLeDiff,Nat.reduceAdd,zc,ze]
  simp only [e1,Z3,xY,Jy,O5,aC,Nat.reduceMul,Nat.reduceBEq,Nat.reduceLT,Nat.reduceLeDiff,reduceCtorEq,Nat.reduceEqDiff,Nat.reduceAdd,zb]
 |true =>
  rw [BP c1] at e1
  have hsz:=jU c1
  have e2:=ali (size:=b.size) (e:=e) ⟨hsz.1,hsz.2.1⟩
  cases c2:tC b.size e with
  |false =>
   have hE:Eh b e=2:=by unfold Eh;rw [if_neg (by rw [c1];decide),if_pos c2]
   rw [hE,if_neg (by decide),hz]
   rw [c2] at e2
   rw [eA] at e1 ⊢;rw [eX] at e2 ⊢
   rw [ak Uo rfl];simp only [FQ,aG,Nat.reduceBEq,Nat.reduceLeDiff,Nat.reduceAdd,zc,ze]
   simp only [e1,e2,Z0,aC,Nat.reduceMul,Nat.reduceBEq,Nat.reduceLT,Nat.reduceLeDiff,reduceCtorEq,Nat.reduceEqDiff,Nat.reduceAdd,zb]
  |true =>
   have hE:Eh b e=0:=by unfold Eh;rw [if_neg (by rw [c1];decide),if_neg (by rw [c2];decide)]
   rw [hE,if_pos rfl]
   rw [c2] at e2
   have hfi:=lS.1 c2
   have k1:=alj (es:=b.ws.map eW) (by rw [za];unfold lim;omega)
   rw [eA] at e1 ⊢;rw [eX] at e2 ⊢
   rw [ak Uo rfl];simp only [FQ,aG,Nat.reduceBEq,Nat.reduceLeDiff,Nat.reduceAdd,zc,ze]
   simp only [e1,e2,k1,Z0,za,aC,Nat.reduceMul,Nat.reduceBEq,Nat.reduceLT,Nat.reduceLeDiff,reduceCtorEq,Nat.reduceEqDiff,Nat.reduceAdd,zb]
   have q1:b.ws.length≤64:=by omega
   have q2:0≤e.start∧e.start≤4096∧0≤e.count∧e.count≤4096:=by omega
   rw [ahX hf q1 q2]
   rotate_left
   ·rw [YD]
    simp only [aG,dN,Nat.reduceMul,Nat.reduceBEq,Nat.reduceLT,Nat.reduceLeDiff,Nat.reduceAdd,decide_true,Zal,Zai]<;>rfl
   ·simp only [e1,e2,k1,Z0,za,aC,Nat.reduceMul,Nat.reduceBEq,Nat.reduceLT,Nat.reduceLeDiff,reduceCtorEq,Nat.reduceEqDiff,Nat.reduceAdd,zb]
    rfl
theorem alk (x y:Wd):cal env 233 [eW x,eW y]=some [(eW (x ||| y),false)]:=by
 have W:=aqs x y
 unfold eW
 rw [ak akJ rfl];simp only [PD];simp only [start,aT,aY,aQ,aX,aK,aN,aS,aU,Nat.reduceAdd,Nat.reduceSub]
 simp only [W,dF,reduceCtorEq,Nat.reduceEqDiff,Nat.reduceAdd,Nat.reduceLT,Nat.reduceLeDiff,zb]
theorem alm (x y:Wd):cal env 272 [eW x,eW y]=some [(eW (x &&& ~~~y),false)]:=by
 have W:=adC x y
 unfold eW
 rw [ak ak1 rfl];simp only [Qc];simp only [start,aT,aY,aQ,aX,aK,aN,aS,aU,Nat.reduceAdd,Nat.reduceSub]
 simp only [W,dF,reduceCtorEq,Nat.reduceEqDiff,Nat.reduceAdd,Nat.reduceLT,Nat.reduceLeDiff,zb]
def clW (x y:Wd):Wd:=x &&& ~~~y
--+
theorem ad9 {b:Bm}{e:bH}:cal env 170 [wU b,aZ e]=some [(wU (zA Np b e),false),(.int .i64 (Eh b e),false)]:=by
 have e1:=ad8 (b:=b) (e:=e) (f:=Np) (gf:=233) alk
 have eA:∀ a:Bm,wU a=.agg [.int .i64 a.size,.list 1 (a.ws.map eW)]:=fun _=>rfl
 have eX:aZ e=.agg [.int .i64 e.start,.int .i64 e.count]:=rfl
 rw [eA,eA,eX] at e1 ⊢
 rw [ak akw rfl];simp only [O8];simp only [start,aT,aY,aQ,aX,aK,aN,aS,aU,Nat.reduceAdd,Nat.reduceSub]
 simp only [e1,dF,reduceCtorEq,Nat.reduceEqDiff,Nat.reduceAdd,Nat.reduceLT,Nat.reduceLeDiff,zb]
--+
theorem aln {b:Bm}{e:bH}:cal env 253 [wU b,aZ e]=some [(wU (zA clW b e),false),(.int .i64 (Eh b e),false)]:=by
 have e1:=ad8 (b:=b) (e:=e) (f:=clW) (gf:=272) alm
 have eA:∀ a:Bm,wU a=.agg [.int .i64 a.size,.list 1 (a.ws.map eW)]:=fun _=>rfl
 have eX:aZ e=.agg [.int .i64 e.start,.int .i64 e.count]:=rfl
 rw [eA,eA,eX] at e1 ⊢
 rw [ak akT rfl];simp only [PS];simp only [start,aT,aY,aQ,aX,aK,aN,aS,aU,Nat.reduceAdd,Nat.reduceSub]
 simp only [e1,dF,reduceCtorEq,Nat.reduceEqDiff,Nat.reduceAdd,Nat.reduceLT,Nat.reduceLeDiff,zb]
def vK (b:Bm)(s:Int):Bool:=okB b&&(decide (0≤s)&&(decide (s<b.size)&&bit b.ws s.toNat))
theorem Uw {b:Bm}{s:Int}:cal env 177 [wU b,.int .i64 s]=some [(.bool (vK b s),false)]:=by
 have e1:=L6 (b:=b)
 have P:∀ x y:PV,part [x,y] 0 (some 2)=some (.agg [x,y]):=fun _ _=>rfl
 have eA:wU b=.agg [.int .i64 b.size,.list 1 (b.ws.map eW)]:=rfl
 have Z0:((0:Int)==0)=true:=rfl
 have Z3:((3:Int)==0)=false:=rfl
 unfold vK
 rw [eA] at e1 ⊢
 cases c:okB b with
 |false =>
  rw [wW c] at e1
  rw [ak LV rfl];simp only [Dx,aG,Nat.reduceBEq,Nat.reduceLeDiff,Nat.reduceAdd,zc,ze]
  simp only [e1,Z3,P,aC,Nat.reduceMul,Nat.reduceBEq,Nat.reduceLT,Nat.reduceLeDiff,reduceCtorEq,Nat.reduceEqDiff,Nat.reduceAdd,zb]
 |true =>
  rw [BP c] at e1
  have hs:=jU c
  by_cases c0:0≤s
  ·have F0:(s ≥ 0)=True:=eq_true c0
   rw [decide_eq_true c0]
   by_cases c1:s<b.size
   ·have F1:(s<b.size)=True:=eq_true c1
    rw [decide_eq_true c1]
    obtain ⟨i,rfl⟩:∃ i:Nat,s=(i:Int):=⟨s.toNat,by omega⟩
    have h:i / 64<b.ws.length:=by omega
    have T1:(i:Int).tdiv 64=((i / 64:Nat):Int):=by rw [Zbg (by omega)];omega
    have T2:(i:Int).tmod 64=((i % 64:Nat):Int):=by rw [Zaq (by omega)];omega
    have W1:IntKind.i64.wrap ((i / 64:Nat):Int)=((i / 64:Nat):Int):=aF (by omega)
    have S0:(((i % 64:Nat):Int)<0)=False:=eq_false (by omega)
    have S1:=adD b.ws[i / 64] (s:=((i % 64:Nat):Int)) (n:=i % 64) rfl
    have S2:=adB (b.ws[i / 64] >>> (i % 64)) 1
    have B1:((1:Wd).toNat:Int)=1:=rfl
    have S3:=adE (b.ws[i / 64] >>> (i % 64) &&& 1) 1
    rw [B1] at S2 S3
    have S4:decide (b.ws[i / 64] >>> (i % 64) &&& 1=(1:Wd))=bit b.ws i:=by rw [Gx h,← anD];rfl
    rw [S4] at S3
    have e9:(i:Int).toNat=i:=by omega
    rw [e9]
    rw [ak LV rfl];simp only [Dx,aG,Nat.reduceBEq,Nat.reduceLeDiff,Nat.reduceAdd,zc,ze]
    simp only [e1,Z0,P,F0,F1,z64,T1,T2,W1,S0,S1,S2,S3,eW,aB h,zd,ZZ h,aC,Nat.reduceMul,Nat.reduceBEq,Nat.reduceLT,Nat.reduceLeDiff,reduceCtorEq,Nat.reduceEqDiff,Nat.reduceAdd,zb]
   ·have F1:(s<b.size)=False:=eq_false c1
    rw [decide_eq_false c1]
    rw [ak LV rfl];simp only [Dx,aG,Nat.reduceBEq,Nat.reduceLeDiff,Nat.reduceAdd,zc,ze]
    simp only [e1,Z0,P,F0,F1,aC,Nat.reduceMul,Nat.reduceBEq,Nat.reduceLT,Nat.reduceLeDiff,reduceCtorEq,Nat.reduceEqDiff,Nat.reduceAdd,zb]
  ·have F0:(s ≥ 0)=False:=eq_false c0
   rw [decide_eq_false c0]
   rw [ak LV rfl];simp only [Dx,aG,Nat.reduceBEq,Nat.reduceLeDiff,Nat.reduceAdd,zc,ze]
   simp only [e1,Z0,P,F0,aC,Nat.reduceMul,Nat.reduceBEq,Nat.reduceLT,Nat.reduceLeDiff,reduceCtorEq,Nat.reduceEqDiff,Nat.reduceAdd,zb]
structure iL where
 size:Int
 aV:Int
 act:List Int
 bm:Bm
def oW (i:iL):PV:=.agg [.int .i64 i.size,.int .i64 i.aV,.list 1 (i.act.map eI),.int .i64 i.bm.size,.list 1 (i.bm.ws.map eW)]
def YE:iL:=⟨0,0,[],⟨0,[]⟩⟩
theorem iD:oW YE=.agg [.int .i64 0,.int .i64 0,.list 1 [],.int .i64 0,.list 1 []]:=rfl
def lT (s g:Int):Bool:=decide (1≤s)&&decide (s≤4096)&&decide (1≤g)&&decide (g≤4096)
theorem cZ {s g:Int}:lT s g=true ↔ 1≤s∧s≤4096∧1≤g∧g≤4096:=by unfold lT;simp [and_assoc]
--+
theorem aea {s g:Int}:cal env 172 [.int .i64 s,.int .i64 g]=some [(.bool (lT s g),false)]:=by
 unfold lT
 by_cases c0:1≤s
 ·have F0:(s ≥ 1)=True:=eq_true c0
  rw [decide_eq_true c0]
  by_cases c1:s≤4096
  ·have F1:(s≤4096)=True:=eq_true c1
   rw [decide_eq_true c1]
   by_cases c2:1≤g
   ·have F2:(g ≥ 1)=True:=eq_true c2
    rw [decide_eq_true c2]
    rw [ak LQ rfl];simp only [Dv,aG,Nat.reduceBEq,Nat.reduceLeDiff,Nat.reduceAdd,zc,ze]
    simp only [F0,F1,F2,aC,Nat.reduceMul,Nat.reduceBEq,Nat.reduceLT,Nat.reduceLeDiff,reduceCtorEq,Nat.reduceEqDiff,Nat.reduceAdd,zb]
   ·have F2:(g ≥ 1)=False:=eq_false c2
    rw [decide_eq_false c2]
    rw [ak LQ rfl];simp only [Dv,aG,Nat.reduceBEq,Nat.reduceLeDiff,Nat.reduceAdd,zc,ze]
    simp only [F0,F1,F2,aC,Nat.reduceMul,Nat.reduceBEq,Nat.reduceLT,Nat.reduceLeDiff,reduceCtorEq,Nat.reduceEqDiff,Nat.reduceAdd,zb]
  ·have F1:(s≤4096)=False:=eq_false c1
   rw [decide_eq_false c1]
   rw [ak LQ rfl];simp only [Dv,aG,Nat.reduceBEq,Nat.reduceLeDiff,Nat.reduceAdd,zc,ze]
   simp only [F0,F1,aC,Nat.reduceMul,Nat.reduceBEq,Nat.reduceLT,Nat.reduceLeDiff,reduceCtorEq,Nat.reduceEqDiff,Nat.reduceAdd,zb]
 ·have F0:(s ≥ 1)=False:=eq_false c0
  rw [decide_eq_false c0]
  rw [ak LQ rfl];simp only [Dv,aG,Nat.reduceBEq,Nat.reduceLeDiff,Nat.reduceAdd,zc,ze]
  simp only [F0,aC,Nat.reduceMul,Nat.reduceBEq,Nat.reduceLT,Nat.reduceLeDiff,reduceCtorEq,Nat.reduceEqDiff,Nat.reduceAdd,zb]
def mW (s g:Int):Int:=(s+g - 1) / g
theorem lG {s g:Int}(h:lT s g=true):1≤mW s g∧mW s g≤s:=by
 obtain ⟨h1,h2,h3,h4⟩:=cZ.1 h
 unfold mW
 constructor
 ·exact (Int.le_ediv_iff_mul_le (by omega)).2 (by omega)
 ·have:s+g - 1<(s+1)*g:=by
   have h5:s≤s*g:=by
    have:=Int.mul_le_mul_of_nonneg_left h3 (show 0≤s by omega)
    omega
   rw [Int.add_mul,Int.one_mul];omega
  have:=Int.ediv_lt_of_lt_mul (by omega) this
  omega
--+
theorem aeb {s g:Int}(h:lT s g=true):cal env 173 [.int .i64 s,.int .i64 g]=some [(.int .i64 (mW s g),false)]:=by
 obtain ⟨h1,h2,h3,h4⟩:=cZ.1 h
 have hg:=lG h
 have W1:IntKind.i64.wrap (s+g)=s+g:=aF (by omega)
 have W2:IntKind.i64.wrap (s+g - 1)=s+g - 1:=aF (by omega)
 have Q:(s+g - 1).tdiv g=mW s g:=by unfold mW;exact Zbg (by omega)
 have W3:IntKind.i64.wrap (mW s g)=mW s g:=aF (by omega)
 have Z:(g=0)=False:=eq_false (by omega)
 rw [ak akx rfl];simp only [O9,aG,Nat.reduceBEq,Nat.reduceLeDiff,Nat.reduceAdd,zc,ze]
 simp only [W1,W2,Q,W3,Z,aC,Nat.reduceMul,Nat.reduceBEq,Nat.reduceLT,Nat.reduceLeDiff,reduceCtorEq,Nat.reduceEqDiff,Nat.reduceAdd,zb]
def yK (s g:Int):Int:=if lT s g then 0 else 2
def jJ (s g:Int):iL:=if lT s g then ⟨s,g,Zae (mW s g).toNat 0,tu (mW s g)⟩ else YE
theorem ajb {s g:Int}:cal env 87 [.int .i64 s,.int .i64 g]=some [(oW (jJ s g),false),(.int .i64 (yK s g),false)]:=by
 have e0:=aea (s:=s) (g:=g)
 unfold jJ yK
 cases c:lT s g with
 |false =>
  rw [if_neg (by decide),if_neg (by decide),iD]
  rw [c] at e0
  rw [ak ai7 rfl];simp only [Yg,aG,Nat.reduceBEq,Nat.reduceLeDiff,Nat.reduceAdd,zc,ze]
  simp only [e0,aC,Nat.reduceMul,Nat.reduceBEq,Nat.reduceLT,Nat.reduceLeDiff,reduceCtorEq,Nat.reduceEqDiff,Nat.reduceAdd,zb]
 |true =>
  rw [if_pos rfl,if_pos rfl]
  rw [c] at e0
  have hg:=lG c
  obtain ⟨_,h2,_,_⟩:=cZ.1 c
  have e1:=aeb c
  have e2:=ad2 (n:=mW s g)
  have hE:newE (mW s g)=0:=by unfold newE;rw [if_neg (by omega)]
  rw [hE] at e2
  have F3:(0≤mW s g)=True:=eq_true (by omega)
  have F4:(mW s g≤(lim:Int))=True:=eq_true (by unfold lim;omega)
  have F5:(mW s g≤mW s g)=True:=eq_true (Int.le_refl _)
  have eA:wU (tu (mW s g))=.agg [.int .i64 (tu (mW s g)).size,.list 1 ((tu (mW s g)).ws.map eW)]:=rfl
  rw [eA] at e2
  unfold oW
  rw [ZcQ,show eI 0=.int .i64 0 from rfl]
  rw [ak ai7 rfl];simp only [Yg,aG,Nat.reduceBEq,Nat.reduceLeDiff,Nat.reduceAdd,zc,ze]
  simp only [e0,e1,e2,F3,F4,F5,aC,Nat.reduceMul,Nat.reduceBEq,Nat.reduceLT,Nat.reduceLeDiff,reduceCtorEq,Nat.reduceEqDiff,Nat.reduceAdd,zb]
def GL (i:iL)(g:Nat)(n:Int):Bool:=decide (n<0) || (decide (n > 4096) || (decide (n > 0)&&!vK i.bm g))
def jV (i:iL)(k:Nat):Bool:=((ZaC i.act.length).drop k).all fun g=>!GL i g (i.act.getD g 0)
theorem YF {i:iL}{k:Nat}(h:k<i.act.length):jV i k=(!GL i k i.act[k]&&jV i (k+1)):=by
 unfold jV
 rw [Zah (by rw [Zco];exact h),List.all_cons,ZbM]
 congr 2
 rw [Zaf,ZZ h]
 rfl
theorem aec (i:iL):jV i i.act.length=true:=by
 unfold jV
 rw [ZaS (by rw [Zco];exact zg _)]
 rfl
def alo (i:iL):Bool:=lT i.size i.aV&&(decide ((i.act.length:Int)=mW i.size i.aV)&&(okB i.bm&&decide (i.bm.size=(i.act.length:Int))))
def fP (i:iL):Bool:=alo i&&jV i 0
def aed (i:iL):Int:=if fP i then 0 else 3
def sG (i:iL):List BV:=[.pv (.int .i64 i.size),.pv (.int .i64 i.aV),.pv (.list 1 (i.act.map eI)),.pv (.int .i64 i.bm.size),.pv (.list 1 (i.bm.ws.map eW))]
theorem bK (i:iL):sG i=[.pv (.int .i64 i.size),.pv (.int .i64 i.aV),.pv (.list 1 (i.act.map eI)),.pv (.int .i64 i.bm.size),.pv (.list 1 (i.bm.ws.map eW))]:=rfl
def ahY (n:Nat)(i:iL)(b:Bool):Option (Ex×St):=if b then some (.normal,⟨sl n [(2,.any)],[⟨false,sG i⟩],[],none⟩) else some (.ret,⟨sl n [(2,.pv (.int .i64 3))],[⟨false,sG i⟩],[],none⟩)
theorem aee (n:Nat)(i:iL):ahY n i true=some (.normal,⟨sl n [(2,.any)],[⟨false,sG i⟩],[],none⟩):=rfl
theorem Mc (n:Nat)(i:iL):ahY n i false=some (.ret,⟨sl n [(2,.pv (.int .i64 3))],[⟨false,sG i⟩],[],none⟩):=rfl
theorem dO (a b c:PV)(x y:PV):part [a,b,c,x,y] 3 (some 2)=some (.agg [x,y]):=rfl
set_option maxRecDepth 20000 in
theorem ahZ {i0:iL}(hl:i0.act.length≤lim){st:St}(h:st.head [1,38,39,40] st.boxes.length=some ⟨sl 63 [(1,.aP 0 0),(38,.pv (.list 1 (i0.act.map eI))),(39,.pv (.int .i64 i0.act.length)),(40,.pv (.int .i64 (0:Nat)))],[⟨false,sG i0⟩],[],none⟩) :
  den env FI st=ahY 63 i0 (jV i0 ((0:Nat))):=by
 unfold FI
 refine dL (env:=env) (nb:=1) (i0.act.length) (fun i=>⟨sl 63 [(1,.aP 0 0),(38,.pv (.list 1 (i0.act.map eI))),(39,.pv (.int .i64 i0.act.length)),(40,.pv (.int .i64 i))],[⟨false,sG i0⟩],[],none⟩) (fun i=>ahY 63 i0 (jV i0 (i))) h (fun _=>rfl) (fun _=>by simp only [aG,dN,Nat.reduceMul,Nat.reduceBEq,Nat.reduceLT,Nat.reduceLeDiff,Nat.reduceAdd,decide_true,Zal,Zai]) ?_ ?_
 ·intro i rb hi ih
  have hi1:=dV hi hl
  have F1:((i:Int)<(i0.act.length:Int))=True:=eq_true (by omega)
  rw [YF hi]
  have e1:=Uw (b:=i0.bm) (s:=(i:Int))
  have eA:wU i0.bm=.agg [.int .i64 i0.bm.size,.list 1 (i0.bm.ws.map eW)]:=rfl
  rw [eA] at e1
  have hx:(i0.act.map eI)[i]?=some (.int .i64 i0.act[i]):=by rw [zd,ZZ hi];rfl
  unfold GL
  generalize i0.act[i]=n at *
  by_cases c0:n<0
  ·have F2:(n<0)=True:=eq_true c0
   rw [decide_eq_true c0]
   simp only [qM,F1,F2,hx,aB hi,za,bK,Mc,aC,Nat.reduceMul,Nat.reduceBEq,Nat.reduceLT,Nat.reduceLeDiff,reduceCtorEq,Nat.reduceEqDiff,Nat.reduceAdd,zb]
  ·have F2:(n<0)=False:=eq_false c0
   rw [decide_eq_false c0]
   by_cases c1:n > 4096
   ·have F3:(n > 4096)=True:=eq_true c1
    rw [decide_eq_true c1]
    simp only [qM,F1,F2,F3,hx,aB hi,za,bK,Mc,aC,Nat.reduceMul,Nat.reduceBEq,Nat.reduceLT,Nat.reduceLeDiff,reduceCtorEq,Nat.reduceEqDiff,Nat.reduceAdd,zb]
   ·have F3:(n > 4096)=False:=eq_false c1
    rw [decide_eq_false c1]
    by_cases c2:n > 0
    ·have F4:(n > 0)=True:=eq_true c2
     rw [decide_eq_true c2]
     cases c3:vK i0.bm (i:Int) with
     |true =>
      rw [c3] at e1
      simp only [qM,F1,F2,F3,F4,hx,e1,dO,aB hi,za,bK,aC,Nat.reduceMul,Nat.reduceBEq,Nat.reduceLT,Nat.reduceLeDiff,reduceCtorEq,Nat.reduceEqDiff,Nat.reduceAdd,zb]
      rw [ih _ (by simp only [hi1,bK,aC,Nat.reduceMul,Nat.reduceBEq,Nat.reduceLT,Nat.reduceLeDiff,reduceCtorEq,Nat.reduceEqDiff,Nat.reduceAdd,zb]<;>rfl)]
     |false =>
      rw [c3] at e1
      simp only [qM,F1,F2,F3,F4,hx,e1,dO,aB hi,za,bK,Mc,aC,Nat.reduceMul,Nat.reduceBEq,Nat.reduceLT,Nat.reduceLeDiff,reduceCtorEq,Nat.reduceEqDiff,Nat.reduceAdd,zb]
    ·have F4:(n > 0)=False:=eq_false c2
     rw [decide_eq_false c2]
     simp only [qM,F1,F2,F3,F4,hx,aB hi,za,bK,aC,Nat.reduceMul,Nat.reduceBEq,Nat.reduceLT,Nat.reduceLeDiff,reduceCtorEq,Nat.reduceEqDiff,Nat.reduceAdd,zb]
     rw [ih _ (by simp only [hi1,bK,aC,Nat.reduceMul,Nat.reduceBEq,Nat.reduceLT,Nat.reduceLeDiff,reduceCtorEq,Nat.reduceEqDiff,Nat.reduceAdd,zb]<;>rfl)]
 ·intro rb
  rw [aec,aee]
  simp only [qM,ZaL,bK,aC,Nat.reduceMul,Nat.reduceBEq,Nat.reduceLT,Nat.reduceLeDiff,reduceCtorEq,Nat.reduceEqDiff,Nat.reduceAdd,zb]
theorem Ux {i:iL}(hl:i.act.length≤lim):cal env 181 [oW i]=some [(.int .i64 (aed i),false)]:=by
 have e0:=aea (s:=i.size) (g:=i.aV)
 have e2:=L6 (b:=i.bm)
 have eA:wU i.bm=.agg [.int .i64 i.bm.size,.list 1 (i.bm.ws.map eW)]:=rfl
 have Ei:oW i=.agg [.int .i64 i.size,.int .i64 i.aV,.list 1 (i.act.map eI),.int .i64 i.bm.size,.list 1 (i.bm.ws.map eW)]:=rfl
 have Z0:((0:Int) != 0)=false:=rfl
 have Z3:((3:Int) != 0)=true:=rfl
 rw [eA] at e2
 rw [Ei]
 unfold aed fP alo
 cases c0:lT i.size i.aV with
 |false =>
  rw [c0] at e0
  rw [ak Gp rfl];simp only [Aq,aG,Nat.reduceBEq,Nat.reduceLeDiff,Nat.reduceAdd,zc,ze]
  simp only [e0,aC,Nat.reduceMul,Nat.reduceBEq,Nat.reduceLT,Nat.reduceLeDiff,reduceCtorEq,Nat.reduceEqDiff,Nat.reduceAdd,zb]
 |true =>
  rw [c0] at e0
  have e1:=aeb c0
  by_cases c1:(i.act.length:Int)=mW i.size i.aV
  ·have G1:((i.act.length:Int) != mW i.size i.aV)=false:=by simp [c1]
   rw [decide_eq_true c1]
   cases c2:okB i.bm with
   |false =>
    rw [wW c2] at e2
    rw [ak Gp rfl];simp only [Aq,aG,Nat.reduceBEq,Nat.reduceLeDiff,Nat.reduceAdd,zc,ze]
    simp only [e0,e1,e2,G1,Z3,dO,za,aC,Nat.reduceMul,Nat.reduceBEq,Nat.reduceLT,Nat.reduceLeDiff,reduceCtorEq,Nat.reduceEqDiff,Nat.reduceAdd,zb]
   |true =>
    rw [BP c2] at e2
    by_cases c3:i.bm.size=(i.act.length:Int)
    ·have G3:(i.bm.size != (i.act.length:Int))=false:=by simp [c3]
     rw [decide_eq_true c3]
     rw [ak Gp rfl];simp only [Aq,aG,Nat.reduceBEq,Nat.reduceLeDiff,Nat.reduceAdd,zc,ze]
     simp only [e0,e1,e2,G1,G3,Z0,dO,za,aC,Nat.reduceMul,Nat.reduceBEq,Nat.reduceLT,Nat.reduceLeDiff,reduceCtorEq,Nat.reduceEqDiff,Nat.reduceAdd,zb]
     rw [ahZ (i0:=i) hl]
     rotate_left
     ·rw [bK]
      simp only [aG,dN,Nat.reduceMul,Nat.reduceBEq,Nat.reduceLT,Nat.reduceLeDiff,Nat.reduceAdd,decide_true,Zal,Zai]<;>rfl
     ·cases jV i 0 with
      |true =>
       rw [aee,bK]
       simp only [e0,e1,e2,G1,G3,Z0,dO,za,aC,Nat.reduceMul,Nat.reduceBEq,Nat.reduceLT,Nat.reduceLeDiff,reduceCtorEq,Nat.reduceEqDiff,Nat.reduceAdd,zb]
      |false =>
       rw [Mc,bK]
       simp only [e0,e1,e2,G1,G3,Z0,dO,za,aC,Nat.reduceMul,Nat.reduceBEq,Nat.reduceLT,Nat.reduceLeDiff,reduceCtorEq,Nat.reduceEqDiff,Nat.reduceAdd,zb]
    ·have G3:(i.bm.size != (i.act.length:Int))=true:=by simp [c3]
     rw [decide_eq_false c3]
     rw [ak Gp rfl];simp only [Aq,aG,Nat.reduceBEq,Nat.reduceLeDiff,Nat.reduceAdd,zc,ze]
     simp only [e0,e1,e2,G1,G3,Z0,dO,za,aC,Nat.reduceMul,Nat.reduceBEq,Nat.reduceLT,Nat.reduceLeDiff,reduceCtorEq,Nat.reduceEqDiff,Nat.reduceAdd,zb]
  ·have G1:((i.act.length:Int) != mW i.size i.aV)=true:=by simp [c1]
   rw [decide_eq_false c1]
   rw [ak Gp rfl];simp only [Aq,aG,Nat.reduceBEq,Nat.reduceLeDiff,Nat.reduceAdd,zc,ze]
   simp only [e0,e1,G1,za,aC,Nat.reduceMul,Nat.reduceBEq,Nat.reduceLT,Nat.reduceLeDiff,reduceCtorEq,Nat.reduceEqDiff,Nat.reduceAdd,zb]
def oD (s:Int)(e:bH):Bool:=decide (0≤e.start)&&(decide (1≤e.count)&&(decide (e.start<s)&&decide (e.count≤s - e.start)))
theorem jW {s:Int}{e:bH}:oD s e=true ↔ 0≤e.start∧1≤e.count∧e.start<s∧e.count≤s - e.start:=by unfold oD;simp
def jc (s g:Int)(e:bH):bH:=if oD s e then ⟨e.start / g,(e.start+e.count - 1) / g - e.start / g+1⟩ else ⟨0,0⟩
def alp (s:Int)(e:bH):Int:=if oD s e then 0 else 2
theorem GN {s g:Int}{e:bH}(h:lT s g=true)(hb:oD s e=true):0≤(jc s g e).start∧1≤(jc s g e).count∧(jc s g e).start+(jc s g e).count≤mW s g:=by
 obtain ⟨h1,h2,h3,h4⟩:=cZ.1 h
 obtain ⟨b1,b2,b3,b4⟩:=jW.1 hb
 have k0:0≤e.start / g:=Zb1 b1 (by omega)
 have k1:e.start / g≤(e.start+e.count - 1) / g:=ZdL (by omega) (by omega)
 have k2:(e.start+e.count - 1) / g≤(s - 1) / g:=ZdL (by omega) (by omega)
 have k3:mW s g=(s - 1) / g+1:=by
  unfold mW
  rw [show s+g - 1=(s - 1)+1*g by omega,Int.add_mul_ediv_right _ _ (by omega)]
 unfold jc
 rw [if_pos hb,k3]
 simp only
 omega
theorem alq {i:iL}{e:bH}(h:lT i.size i.aV=true):cal env 235 [oW i,aZ e]=some [(aZ (jc i.size i.aV e),false),(.int .i64 (alp i.size e),false)]:=by
 obtain ⟨h1,h2,h3,h4⟩:=cZ.1 h
 have Ei:oW i=.agg [.int .i64 i.size,.int .i64 i.aV,.list 1 (i.act.map eI),.int .i64 i.bm.size,.list 1 (i.bm.ws.map eW)]:=rfl
 have eX:aZ e=.agg [.int .i64 e.start,.int .i64 e.count]:=rfl
 have hz:aZ ⟨0,0⟩=.agg [.int .i64 0,.int .i64 0]:=rfl
 rw [Ei,eX]
 unfold alp jc
 by_cases c0:e.start<0
 ·have F0:(e.start<0)=True:=eq_true c0
  have hb:oD i.size e=false:=by rw [Za2];intro hh;have:=jW.1 hh;omega
  rw [hb,if_neg (by decide),if_neg (by decide),hz]
  rw [ak Gq rfl];simp only [Ar,aG,Nat.reduceBEq,Nat.reduceLeDiff,Nat.reduceAdd,zc,ze]
  simp only [F0,aC,Nat.reduceMul,Nat.reduceBEq,Nat.reduceLT,Nat.reduceLeDiff,reduceCtorEq,Nat.reduceEqDiff,Nat.reduceAdd,zb]
 ·have F0:(e.start<0)=False:=eq_false c0
  by_cases c1:e.count<1
  ·have F1:(e.count<1)=True:=eq_true c1
   have hb:oD i.size e=false:=by rw [Za2];intro hh;have:=jW.1 hh;omega
   rw [hb,if_neg (by decide),if_neg (by decide),hz]
   rw [ak Gq rfl];simp only [Ar,aG,Nat.reduceBEq,Nat.reduceLeDiff,Nat.reduceAdd,zc,ze]
   simp only [F0,F1,aC,Nat.reduceMul,Nat.reduceBEq,Nat.reduceLT,Nat.reduceLeDiff,reduceCtorEq,Nat.reduceEqDiff,Nat.reduceAdd,zb]
  ·have F1:(e.count<1)=False:=eq_false c1
   by_cases c2:e.start ≥ i.size
   ·have F2:(e.start ≥ i.size)=True:=eq_true c2
    have hb:oD i.size e=false:=by rw [Za2];intro hh;have:=jW.1 hh;omega
    rw [hb,if_neg (by decide),if_neg (by decide),hz]
    rw [ak Gq rfl];simp only [Ar,aG,Nat.reduceBEq,Nat.reduceLeDiff,Nat.reduceAdd,zc,ze]
    simp only [F0,F1,F2,aC,Nat.reduceMul,Nat.reduceBEq,Nat.reduceLT,Nat.reduceLeDiff,reduceCtorEq,Nat.reduceEqDiff,Nat.reduceAdd,zb]
   ·have F2:(e.start ≥ i.size)=False:=eq_false c2
    have W1:IntKind.i64.wrap (i.size - e.start)=i.size - e.start:=aF (by omega)
    by_cases c3:e.count > i.size - e.start
    ·have F3:(e.count > i.size - e.start)=True:=eq_true c3
     have hb:oD i.size e=false:=by rw [Za2];intro hh;have:=jW.1 hh;omega
     rw [hb,if_neg (by decide),if_neg (by decide),hz]
     rw [ak Gq rfl];simp only [Ar,aG,Nat.reduceBEq,Nat.reduceLeDiff,Nat.reduceAdd,zc,ze]
     simp only [F0,F1,F2,F3,W1,aC,Nat.reduceMul,Nat.reduceBEq,Nat.reduceLT,Nat.reduceLeDiff,reduceCtorEq,Nat.reduceEqDiff,Nat.reduceAdd,zb]
    ·have F3:(e.count > i.size - e.start)=False:=eq_false c3
     have hb:oD i.size e=true:=jW.2 (by omega)
     have hin:=GN h hb
     have hgl:=lG h
     rw [hb,if_pos rfl,if_pos rfl]
     have Zg:(i.aV=0)=False:=eq_false (by omega)
     have Q1:e.start.tdiv i.aV=e.start / i.aV:=Zbg (by omega)
     have Q2:(e.start+e.count - 1).tdiv i.aV=(e.start+e.count - 1) / i.aV:=Zbg (by omega)
     have d1:0≤e.start / i.aV∧e.start / i.aV≤4096:=by
      refine ⟨Zb1 (by omega) (by omega),?_⟩
      have:=ZdM i.aV (show 0≤e.start by omega);omega
     have d2:0≤(e.start+e.count - 1) / i.aV∧(e.start+e.count - 1) / i.aV≤4096:=by
      refine ⟨Zb1 (by omega) (by omega),?_⟩
      have:=ZdM i.aV (show 0≤e.start+e.count - 1 by omega);omega
     have W2:IntKind.i64.wrap (e.start / i.aV)=e.start / i.aV:=aF (by omega)
     have W3:IntKind.i64.wrap (e.start+e.count)=e.start+e.count:=aF (by omega)
     have W4:IntKind.i64.wrap (e.start+e.count - 1)=e.start+e.count - 1:=aF (by omega)
     have W5:IntKind.i64.wrap ((e.start+e.count - 1) / i.aV)=(e.start+e.count - 1) / i.aV:=aF (by omega)
     have W6:IntKind.i64.wrap ((e.start+e.count - 1) / i.aV - e.start / i.aV)=(e.start+e.count - 1) / i.aV - e.start / i.aV:=aF (by omega)
     have W7:IntKind.i64.wrap ((e.start+e.count - 1) / i.aV - e.start / i.aV+1)=(e.start+e.count - 1) / i.aV - e.start / i.aV+1:=aF (by omega)
     unfold aZ
     rw [ak Gq rfl];simp only [Ar,aG,Nat.reduceBEq,Nat.reduceLeDiff,Nat.reduceAdd,zc,ze]
     simp only [F0,F1,F2,F3,W1,W2,W3,W4,W5,W6,W7,Q1,Q2,Zg,aC,Nat.reduceMul,Nat.reduceBEq,Nat.reduceLT,Nat.reduceLeDiff,reduceCtorEq,Nat.reduceEqDiff,Nat.reduceAdd,zb]
def yR (s:Int)(n:Nat):List (List PV):=(ZaC n).map fun (j:Nat)=>[PV.int .i64 (s+(j:Int))]
theorem Md (s:Int)(n:Nat):yR s (n+1)=yR s n++[[.int .i64 (s+(n:Int))]]:=by simp [yR,ZcF]
theorem wY (s:Int)(n:Nat):(yR s n).length=n:=by simp [yR]
theorem ah0 (s:Int){n m:Nat}(h:m≤n):(yR s n).take m=yR s m:=by
 unfold yR
 rw [← Zcv,List.take_range,Za4 h]
theorem Vx {s:Int}{n j:Nat}{x:List PV}(h:(yR s n)[j]?=some x):j<n∧x=[.int .i64 (s+(j:Int))]:=by
 have hj:=(Z1.1 h).1
 rw [wY] at hj
 refine ⟨hj,?_⟩
 unfold yR at h
 rw [zd,List.getElem?_range hj] at h
 simpa using h.symm
theorem ah1 {s:Int}{n:Nat}(hs:0≤s∧s≤100000)(hn:n≤100000)
  {st:St} (h:st.head [0,1,5,6] st.boxes.length=some ⟨[.qX,.pv (.dD [.int .i64 s,.int .i64 n] 0),.any,.any,.any,.pv (.int .i64 n),.pv (.int .i64 (0:Nat)),.any,.any,.any,.any,.any,.any,.any,.any,.any,.any],[],[],some none⟩) :
  den env wQ st=some (.normal,⟨[.any,.any,.any,.any,.any,.any,.any,.any,.any,.any,.any,.any,.any,.any,.any,.any,.any],[],yR s n,some none⟩):=by
 unfold wQ
 refine dL (env:=env) n (fun i=>⟨[.qX,.pv (.dD [.int .i64 s,.int .i64 n] 0),.any,.any,.any,.pv (.int .i64 n),.pv (.int .i64 i),.any,.any,.any,.any,.any,.any,.any,.any,.any,.any],[],yR s i,some none⟩) (fun _=>some (.normal,⟨[.any,.any,.any,.any,.any,.any,.any,.any,.any,.any,.any,.any,.any,.any,.any,.any,.any],[],yR s n,some none⟩)) h (fun _=>rfl) (fun _=>rfl) ?_ ?_
 ·intro i rb hi ih
  have hi1:=dV hi (by unfold lim;omega)
  have F1:((i:Int)<(n:Int))=True:=eq_true (by omega)
  have W1:IntKind.i64.wrap (s+(i:Int))=s+(i:Int):=aF (by omega)
  simp only [wP,F1,W1,dF,reduceCtorEq,Nat.reduceEqDiff,Nat.reduceAdd,Nat.reduceLT,Nat.reduceLeDiff,zb]
  rw [ih _ (by simp only [hi1];rw [Md];rfl)]
 ·intro rb
  simp only [wP,ZaL,dF,reduceCtorEq,Nat.reduceEqDiff,Nat.reduceAdd,Nat.reduceLT,Nat.reduceLeDiff,zb]
  rfl
theorem aef {s:Int}{n m:Nat}(hs:0≤s∧s≤100000)(hn:n≤100000)(hm:m<n)
  {st:St} (h:st.head [0,1,5,6] st.boxes.length=some ⟨[.qX,.pv (.dD [.int .i64 s,.int .i64 n] 0),.any,.any,.any,.pv (.int .i64 n),.pv (.int .i64 (0:Nat)),.any,.any,.any,.any,.any,.any,.any,.any,.any,.any],[],[],some (some (m+1))⟩) :
  den env wQ st=some (.ret,⟨[.any,.any,.any,.any,.any,.any,.any,.any,.any,.any,.any,.any,.any,.any,.any,.any,.any],[],yR s (m+1),some (some (m+1))⟩):=by
 unfold wQ
 refine dL (env:=env) m (fun i=>⟨[.qX,.pv (.dD [.int .i64 s,.int .i64 n] 0),.any,.any,.any,.pv (.int .i64 n),.pv (.int .i64 i),.any,.any,.any,.any,.any,.any,.any,.any,.any,.any],[],yR s i,some (some (m+1))⟩) (fun _=>some (.ret,⟨[.any,.any,.any,.any,.any,.any,.any,.any,.any,.any,.any,.any,.any,.any,.any,.any,.any],[],yR s (m+1),some (some (m+1))⟩)) h (fun _=>rfl) (fun _=>rfl) ?_ ?_
 ·intro i rb hi ih
  have hi1:=dV hi (by unfold lim;omega)
  have F1:((i:Int)<(n:Int))=True:=eq_true (by omega)
  have F2:((yR s i).length<m+1)=True:=eq_true (by rw [wY];omega)
  have F3:((yR s i).length+1==m+1)=false:=by rw [wY];simp;omega
  have W1:IntKind.i64.wrap (s+(i:Int))=s+(i:Int):=aF (by omega)
  simp only [wP,F1,F2,F3,W1,dF,reduceCtorEq,Nat.reduceEqDiff,Nat.reduceAdd,Nat.reduceLT,Nat.reduceLeDiff,zb]
  rw [ih _ (by simp only [hi1];rw [Md];rfl)]
 ·intro rb
  have F1:((m:Int)<(n:Int))=True:=eq_true (by omega)
  have F2:((yR s m).length<m+1)=True:=eq_true (by rw [wY];omega)
  have F3:((yR s m).length+1==m+1)=true:=by rw [wY];simp
  have W1:IntKind.i64.wrap (s+(m:Int))=s+(m:Int):=aF (by omega)
  simp only [wP,F1,F2,F3,W1,dF,reduceCtorEq,Nat.reduceEqDiff,Nat.reduceAdd,Nat.reduceLT,Nat.reduceLeDiff,zb]
  rw [Md]
  rfl
theorem Vy {s:Int}{n:Nat}(hs:0≤s∧s≤100000)(hn:n≤100000):iter env 236 [.dD [.int .i64 s,.int .i64 n] 0] none=some (yR s n):=by
 rw [yg adl rfl rfl]
 simp only [JD,Gt,aT,aY,aQ,aX,aK,aN,aS,aU,Nat.reduceAdd,Nat.reduceSub]
 simp only [dF,reduceCtorEq,Nat.reduceEqDiff,Nat.reduceAdd,Nat.reduceLT,Nat.reduceLeDiff,zb]
 rw [ah1 hs hn]
 rotate_left
 ·rfl
 ·rfl
theorem aeg {s:Int}{n m:Nat}(hs:0≤s∧s≤100000)(hn:n≤100000)(hm:m<n):iter env 236 [.dD [.int .i64 s,.int .i64 n] 0] (some (m+1))=some ((yR s n).take (m+1)):=by
 rw [ah0 s (by omega),yg adl rfl rfl]
 simp only [JD,Gt,aT,aY,aQ,aX,aK,aN,aS,aU,Nat.reduceAdd,Nat.reduceSub]
 simp only [dF,reduceCtorEq,Nat.reduceEqDiff,Nat.reduceAdd,Nat.reduceLT,Nat.reduceLeDiff,zb]
 rw [aef hs hn hm]
 rotate_left
 ·rfl
 ·rfl
theorem aeh {e:bH}:cal env 176 [aZ e]=some [(.func 236 [.dD [.int .i64 e.start,.int .i64 e.count] 0],false)]:=by
 unfold aZ
 rw [ak aky rfl];simp only [Pg];simp only [start,aT,aY,aQ,aX,aK,aN,aS,aU,Nat.reduceAdd,Nat.reduceSub]
 simp only [dF,reduceCtorEq,Nat.reduceEqDiff,Nat.reduceAdd,Nat.reduceLT,Nat.reduceLeDiff,zb]
def zl (n:Int):Int:=if n=4096 then 0 else n+1
def ru (n:Int):Int:=if n=4096 then 6 else 0
def uO (n:Int):Int:=if n=0 then 0 else n - 1
def nT (n:Int):Int:=if n=0 then 12 else 0
theorem alr {n:Int}(hn:0≤n∧n≤4096):cal env 175 [.int .i64 n]=some [(.int .i64 (zl n),false),(.int .i64 (ru n),false)]:=by
 have W:IntKind.i64.wrap (n+1)=n+1:=aF (by omega)
 unfold zl ru
 by_cases c:n=4096
 ·have F1:(n==4096)=true:=by simp [c]
  rw [if_pos c,if_pos c]
  rw [ak adh rfl];simp only [JA];simp only [start,aT,aY,aQ,aX,aK,aN,aS,aU,Nat.reduceAdd,Nat.reduceSub]
  simp only [F1,dF,reduceCtorEq,Nat.reduceEqDiff,Nat.reduceAdd,Nat.reduceLT,Nat.reduceLeDiff,zb]
 ·have F1:(n==4096)=false:=by simp [c]
  rw [if_neg c,if_neg c]
  rw [ak adh rfl];simp only [JA];simp only [start,aT,aY,aQ,aX,aK,aN,aS,aU,Nat.reduceAdd,Nat.reduceSub]
  simp only [F1,W,dF,reduceCtorEq,Nat.reduceEqDiff,Nat.reduceAdd,Nat.reduceLT,Nat.reduceLeDiff,zb]
theorem als {n:Int}(hn:0≤n∧n≤4096):cal env 254 [.int .i64 n]=some [(.int .i64 (uO n),false),(.int .i64 (nT n),false)]:=by
 have W:IntKind.i64.wrap (n - 1)=n - 1:=aF (by omega)
 unfold uO nT
 by_cases c:n=0
 ·have F1:(n==0)=true:=by simp [c]
  rw [if_pos c,if_pos c]
  rw [ak adp rfl];simp only [JG];simp only [start,aT,aY,aQ,aX,aK,aN,aS,aU,Nat.reduceAdd,Nat.reduceSub]
  simp only [F1,dF,reduceCtorEq,Nat.reduceEqDiff,Nat.reduceAdd,Nat.reduceLT,Nat.reduceLeDiff,zb]
 ·have F1:(n==0)=false:=by simp [c]
  rw [if_neg c,if_neg c]
  rw [ak adp rfl];simp only [JG];simp only [start,aT,aY,aQ,aX,aK,aN,aS,aU,Nat.reduceAdd,Nat.reduceSub]
  simp only [F1,W,dF,reduceCtorEq,Nat.reduceEqDiff,Nat.reduceAdd,Nat.reduceLT,Nat.reduceLeDiff,zb]
theorem aei {i:iL}:jV i 0=true ↔ ∀ g (h:g<i.act.length),GL i g i.act[g]=false:=by
 unfold jV
 rw [ZaK,zw]
 constructor
 ·intro h g hg
  have:=h g (Zbj.2 hg)
  rw [Zaf,ZZ hg] at this
  simpa using this
 ·intro h g hg
  have hg:=Zbj.1 hg
  rw [Zaf,ZZ hg]
  simpa using h g hg
theorem bP {i:iL}:fP i=true ↔ lT i.size i.aV=true∧(i.act.length:Int)=mW i.size i.aV∧okB i.bm=true∧i.bm.size=(i.act.length:Int)∧∀ g (h:g<i.act.length),GL i g i.act[g]=false:=by
 unfold fP alo
 rw [ZS,aei]
 simp [and_assoc]
theorem Ej {i:iL}{g:Nat}{n:Int}(h:GL i g n=false):(0≤n∧n≤4096)∧(0<n→vK i.bm g=true):=by
 unfold GL at h
 simp only [Bool.or_eq_false_iff,decide_eq_false_iff_not,Bool.and_eq_false_iff,Bool.not_eq_false'] at h
 obtain ⟨h1,h2,h3⟩:=h
 refine ⟨by omega,fun h4=>?_⟩
 rcases h3 with h3|h3
 ·omega
 ·simpa using h3
theorem alu {i:iL}(h:fP i=true){g:Nat}(hg:g<i.act.length):0≤i.act[g]∧i.act[g]≤4096:=(Ej ((bP.1 h).2.2.2.2 g hg)).1
def jX (v:Int→Int)(l:List Int)(s j:Nat):List Int:=l.mapIdx fun k n=>if s≤k∧k<s+j then v n else n
theorem eH (v:Int→Int)(l:List Int)(s j:Nat):(jX v l s j).length=l.length:=by simp [jX]
theorem oG {v:Int→Int}{l:List Int}{s j k:Nat}(h:k<(jX v l s j).length):(jX v l s j)[k]=if s≤k∧k<s+j then v (l[k]'(by rw [eH] at h;exact h)) else l[k]'(by rw [eH] at h;exact h):=ZcJ
theorem zn (v:Int→Int)(l:List Int)(s:Nat):jX v l s 0=l:=by
 apply Zbr
 ·exact eH ..
 ·intro k h1 h2
  rw [oG,if_neg (by omega)]
theorem YG (v:Int→Int){l:List Int}{s j:Nat}(h:s+j<l.length):(jX v l s j)[s+j]?=some l[s+j]:=by
 rw [ZZ (by rw [eH];exact h),oG,if_neg (by omega)]
theorem YH (v:Int→Int){l:List Int}{s j:Nat}(h:s+j<l.length):(jX v l s j).set (s+j) (v l[s+j])=jX v l s (j+1):=by
 apply Zbr
 ·simp [eH]
 ·intro k h1 h2
  rw [Zcz,oG,oG]
  split
  ·subst_vars;rw [if_pos (by omega)]
  ·by_cases c:s≤k∧k<s+j
   ·rw [if_pos c,if_pos (by omega)]
   ·rw [if_neg c,if_neg (by omega)]
def BR (er:Int→Int)(l:List Int)(s c:Nat):Int:=match ((l.drop s).take c).find? fun n=>er n != 0 with
 |some n=>er n
 |none=>0
theorem qO (er:Int→Int){l:List Int}{s c:Nat}(h:s+c≤l.length):(BR er l s c=0∧∀ j (hj:j<c),er (l[s+j]'(by omega))=0)∨∃ m,∃ hm:m<c,(∀ j (hj:j<m),er (l[s+j]'(by omega))=0)∧er (l[s+m]'(by omega))≠0∧BR er l s c=er (l[s+m]'(by omega)):=by
 induction c generalizing s with
 |zero=>exact .inl ⟨by simp [BR],fun j hj=>by omega⟩
 |succ c ih =>
  have hs:s<l.length:=by omega
  have e:BR er l s (c+1)=if er l[s]=0 then BR er l (s+1) c else er l[s]:=by
   unfold BR
   rw [Zah hs,Zbx,List.find?_cons]
   by_cases c0:er l[s]=0
   ·rw [if_pos c0];simp [c0]
   ·rw [if_neg c0]
    have:(er l[s] != 0)=true:=by simp [c0]
    rw [this]
  rw [e]
  by_cases c0:er l[s]=0
  ·rw [if_pos c0]
   rcases ih (s:=s+1) (by omega) with ⟨h1,h2⟩|⟨m,hm,h1,h2,h3⟩
   ·refine .inl ⟨h1,fun j hj=>?_⟩
    cases j with
    |zero=>exact c0
    |succ j =>
     have:=h2 j (by omega)
     simp only [show s+1+j=s+(j+1) by omega] at this
     exact this
   ·refine .inr ⟨m+1,by omega,fun j hj=>?_,?_,?_⟩
    ·cases j with
     |zero=>exact c0
     |succ j =>
      have:=h1 j (by omega)
      simp only [show s+1+j=s+(j+1) by omega] at this
      exact this
    ·simp only [show s+1+m=s+(m+1) by omega] at h2
     exact h2
    ·rw [h3]
     simp only [show s+1+m=s+(m+1) by omega]
  ·rw [if_neg c0]
   exact .inr ⟨0,by omega,fun j hj=>by omega,c0,rfl⟩
def DZ (er:Int→Int)(i:iL)(e:bH):Int:=if fP i=false then 3 else if oD i.size e=false then 2 else BR er i.act (jc i.size i.aV e).start.toNat (jc i.size i.aV e).count.toNat
def Nq (v er:Int→Int)(i:iL)(e:bH):iL:=if DZ er i e=0 then { i with act:=jX v i.act (jc i.size i.aV e).start.toNat (jc i.size i.aV e).count.toNat } else YE
def cgX (er:Int→Int)(i:iL)(e:bH):bH:=if DZ er i e=0 then jc i.size i.aV e else ⟨0,0⟩
theorem aej {es:List PV}(hl:es.length≤lim):cal env 107 [.list 1 es]=some [(.list 1 es,true)]:=(Ag aks).trans (if_pos ⟨rfl,hl⟩)
set_option maxRecDepth 20000 in
theorem aek {f:Nat}{v er:Int→Int}(hf:∀ n,0≤n∧n≤4096→cal env f [.int .i64 n]=some [(.int .i64 (v n),false),(.int .i64 (er n),false)]){i:iL}{e:bH}(hl:i.act.length≤lim) :
  cal env 174 [oW i,aZ e,.func f []]=some [(oW (Nq v er i e),false),(aZ (cgX er i e),false),(.int .i64 (DZ er i e),false)]:=by
 have e0:=Ux (i:=i) hl
 have Ei:oW i=.agg [.int .i64 i.size,.int .i64 i.aV,.list 1 (i.act.map eI),.int .i64 i.bm.size,.list 1 (i.bm.ws.map eW)]:=rfl
 have eX:aZ e=.agg [.int .i64 e.start,.int .i64 e.count]:=rfl
 have hz:aZ ⟨0,0⟩=.agg [.int .i64 0,.int .i64 0]:=rfl
 have Z0:((0:Int) != 0)=false:=rfl
 have Z3:((3:Int) != 0)=true:=rfl
 have Z2:((2:Int) != 0)=true:=rfl
 have N3:¬ ((3:Int)=0):=by decide
 have N2:¬ ((2:Int)=0):=by decide
 unfold aed at e0
 cases c0:fP i with
 |false =>
  have hE:DZ er i e=3:=by unfold DZ;rw [c0];rfl
  unfold Nq cgX
  rw [hE,if_neg N3,if_neg N3,hz,iD]
  rw [c0] at e0
  rw [Ei] at e0 ⊢
  rw [eX]
  rw [ak LU rfl];simp only [Dw,aG,Nat.reduceBEq,Nat.reduceLeDiff,Nat.reduceAdd,zc,ze]
  simp only [e0,Z3,aC,Nat.reduceMul,Nat.reduceBEq,Nat.reduceLT,Nat.reduceLeDiff,reduceCtorEq,Nat.reduceEqDiff,Nat.reduceAdd,zb]
 |true =>
  obtain ⟨h1,h2,h3,h4,h5⟩:=bP.1 c0
  rw [c0,if_pos rfl] at e0
  have e1:=alq (i:=i) (e:=e) h1
  unfold alp at e1
  have P5:∀ a b c d e:PV,part [a,b,c,d,e] 0 (some 5)=some (.agg [a,b,c,d,e]):=fun _ _ _ _ _=>rfl
  have P2:∀ a b:PV,part [a,b] 0 (some 2)=some (.agg [a,b]):=fun _ _=>rfl
  cases c1:oD i.size e with
  |false =>
   have hE:DZ er i e=2:=by unfold DZ;rw [c0,c1];rfl
   unfold Nq cgX
   rw [hE,if_neg N2,if_neg N2,hz,iD]
   have ht:jc i.size i.aV e=⟨0,0⟩:=by unfold jc;rw [c1];rfl
   rw [c1,ht,hz,if_neg (by decide)] at e1
   rw [Ei] at e0 e1 ⊢
   rw [eX] at e1 ⊢
   rw [ak LU rfl];simp only [Dw,aG,Nat.reduceBEq,Nat.reduceLeDiff,Nat.reduceAdd,zc,ze]
   simp only [e0,e1,Z0,Z2,P5,P2,aC,Nat.reduceMul,Nat.reduceBEq,Nat.reduceLT,Nat.reduceLeDiff,reduceCtorEq,Nat.reduceEqDiff,Nat.reduceAdd,zb]
  |true =>
   have hgl:=lG h1
   obtain ⟨t1,t2,t3⟩:=GN h1 c1
   have e2:=aeh (e:=jc i.size i.aV e)
   have e4:=aej (es:=i.act.map eI) (by simpa using hl)
   have hE:DZ er i e=BR er i.act (jc i.size i.aV e).start.toNat (jc i.size i.aV e).count.toNat:=by unfold DZ;rw [c0,c1];rfl
   rw [c1,if_pos rfl] at e1
   unfold Nq cgX
   rw [hE]
   generalize jc i.size i.aV e=t at *
   obtain ⟨ts,tc⟩:=t
   simp only at t1 t2 t3
   obtain ⟨s,rfl⟩:∃ s:Nat,ts=(s:Int):=⟨ts.toNat,by omega⟩
   obtain ⟨c,rfl⟩:∃ c:Nat,tc=(c:Int):=⟨tc.toNat,by omega⟩
   simp only [Zaw]
   have hx:aZ ⟨(s:Int),(c:Int)⟩=.agg [.int .i64 (s:Int),.int .i64 (c:Int)]:=rfl
   rw [hx] at e1 e2
   rw [Ei] at e0 e1 ⊢
   rw [eX] at e1 ⊢
   have hlen:i.act.length≤4096:=by have:=(cZ.1 h1).2.1;omega
   have hsc:s+c≤i.act.length:=by omega
   have hit:=Vy (s:=(s:Int)) (n:=c) (by omega) (by omega)
   have hb0:(i.act.map eI)=(jX v i.act s 0).map eI:=by rw [zn]
   have hset:∀ j (hj:j<c),((jX v i.act s j).map eI).set (s+j) (.int .i64 (v (i.act[s+j]'(by omega))))=(jX v i.act s (j+1)).map eI:=fun j hj=>by
    rw [← YH v (show s+j<i.act.length by omega),Zb4];rfl
   have hget:∀ j (hj:j<c),((jX v i.act s j).map eI)[s+j]?=some (.int .i64 (i.act[s+j]'(by omega))):=fun j hj=>by
    rw [zd,YG v (show s+j<i.act.length by omega)];rfl
   have hcl:∀ j,(jX v i.act s j).length=i.act.length:=fun j=>eH ..
   have hact:∀ j (hj:j<c),0≤i.act[s+j]'(by omega)∧i.act[s+j]'(by omega)≤4096:=fun j hj=>alu c0 _
   have Uy:∀ j (hj:j<c),cal env f [.int .i64 (i.act[s+j]'(by omega))]=some [(.int .i64 (v (i.act[s+j]'(by omega))),false),(.int .i64 (er (i.act[s+j]'(by omega))),false)]:=fun j hj=>hf _ (hact j hj)
   rcases qO er hsc with ⟨b1,b2⟩|⟨m,hm,b1,b2,b3⟩
   ·rw [if_pos b1,if_pos b1,b1,hx]
    rw [ak LU rfl];simp only [Dw];simp only [start,aT,aY,aQ,aX,aK,aN,aS,aU,Nat.reduceAdd,Nat.reduceSub]
    simp only [e0,e1,e2,e4,Z0,Z2,P5,P2,za,dF,reduceCtorEq,Nat.reduceEqDiff,Nat.reduceAdd,Nat.reduceLT,Nat.reduceLeDiff,zb]
    rw [Ef (env:=env) (fun j=>[⟨false,[.pv (.int .i64 i.size),.pv (.int .i64 i.aV),.row 1 ((jX v i.act s j).map eI),.pv (.int .i64 i.bm.size),.pv (.list 1 (i.bm.ws.map eW))]⟩,⟨false,[.pv (.int .i64 e.start),.pv (.int .i64 e.count)]⟩,⟨false,[.pv (.func f [])]⟩,⟨false,[.pv (.int .i64 0),.pv (.int .i64 0),.row 1 [],.pv (.int .i64 0),.row 1 []]⟩,⟨false,[.pv (.int .i64 0),.pv (.int .i64 0)]⟩,⟨false,[.pv (.int .i64 0)]⟩,⟨false,[.pv (.int .i64 (s:Int)),.pv (.int .i64 (c:Int))]⟩,⟨false,[.pv (.int .i64 0)]⟩]) (xs:=yR s c) rfl hit (by simp only [zn]) ?_]
    ·simp only [wY,oW,yC,dF,reduceCtorEq,Nat.reduceEqDiff,Nat.reduceAdd,Nat.reduceLT,Nat.reduceLeDiff,zb]
    ·intro j x hj sl0
     obtain ⟨hjc,rfl⟩:=Vx hj
     have g1:=hget j hjc
     have g2:=hset j hjc
     have g3:=Uy j hjc
     have g4:er (i.act[s+j]'(by omega))=0:=b2 j hjc
     rw [g4] at g3
     have g5:(s:Int)+(j:Int)=((s+j:Nat):Int):=by omega
     have g6:index (.int .i64 ((s+j:Nat):Int)) i.act.length=some (s+j):=aB (by omega)
     rw [g5]
     refine ⟨?_,?_⟩
     rotate_left
     ·simp only [Am,Ap,g1,g2,g3,g6,hcl,Z0,za,yC,dF,reduceCtorEq,Nat.reduceEqDiff,Nat.reduceAdd,Nat.reduceLT,Nat.reduceLeDiff,zb]
      rfl
   ·rw [if_neg (by rw [b3];exact b2),if_neg (by rw [b3];exact b2),b3,hz,iD]
    rw [ak LU rfl];simp only [Dw];simp only [start,aT,aY,aQ,aX,aK,aN,aS,aU,Nat.reduceAdd,Nat.reduceSub]
    simp only [e0,e1,e2,e4,Z0,Z2,P5,P2,za,dF,reduceCtorEq,Nat.reduceEqDiff,Nat.reduceAdd,Nat.reduceLT,Nat.reduceLeDiff,zb]
    have aqw:=aeg (s:=(s:Int)) (n:=c) (m:=m) (by omega) (by omega) hm
    rw [Qh (env:=env) (fun j=>[⟨false,[.pv (.int .i64 i.size),.pv (.int .i64 i.aV),.row 1 ((jX v i.act s j).map eI),.pv (.int .i64 i.bm.size),.pv (.list 1 (i.bm.ws.map eW))]⟩,⟨false,[.pv (.int .i64 e.start),.pv (.int .i64 e.count)]⟩,⟨false,[.pv (.func f [])]⟩,⟨false,[.pv (.int .i64 0),.pv (.int .i64 0),.row 1 [],.pv (.int .i64 0),.row 1 []]⟩,⟨false,[.pv (.int .i64 0),.pv (.int .i64 0)]⟩,⟨false,[.pv (.int .i64 0)]⟩,⟨false,[.pv (.int .i64 (s:Int)),.pv (.int .i64 (c:Int))]⟩,⟨false,[.pv (.int .i64 0)]⟩]) m (e:=.ret) (s:=⟨[],[⟨false,[.pv (.int .i64 i.size),.pv (.int .i64 i.aV),.row 1 ((jX v i.act s (m+1)).map eI),.pv (.int .i64 i.bm.size),.pv (.list 1 (i.bm.ws.map eW))]⟩,⟨false,[.pv (.int .i64 e.start),.pv (.int .i64 e.count)]⟩,⟨false,[.pv (.func f [])]⟩,⟨false,[.pv (.int .i64 0),.pv (.int .i64 0),.pv (.list 1 []),.pv (.int .i64 0),.pv (.list 1 [])]⟩,⟨false,[.pv (.int .i64 0),.pv (.int .i64 0)]⟩,⟨false,[.pv (.int .i64 (er (i.act[s+m]'(by omega))))]⟩,⟨false,[.pv (.int .i64 (s:Int)),.pv (.int .i64 (c:Int))]⟩,⟨true,[.pv (.int .i64 (er (i.act[s+m]'(by omega))))]⟩],[],none⟩) rfl hit aqw (by simp only [zn]) (by rw [wY];exact hm) ?_ (by intro h;cases h) ?_]
    ·simp only [yC,dF,reduceCtorEq,Nat.reduceEqDiff,Nat.reduceAdd,Nat.reduceLT,Nat.reduceLeDiff,zb]
    ·intro j x hjm hj sl0
     obtain ⟨hjc,rfl⟩:=Vx hj
     have g1:=hget j hjc
     have g2:=hset j hjc
     have g3:=Uy j hjc
     have g4:er (i.act[s+j]'(by omega))=0:=b1 j hjm
     rw [g4] at g3
     have g5:(s:Int)+(j:Int)=((s+j:Nat):Int):=by omega
     have g6:index (.int .i64 ((s+j:Nat):Int)) i.act.length=some (s+j):=aB (by omega)
     rw [g5]
     refine ⟨?_,?_⟩
     rotate_left
     ·simp only [Am,Ap,g1,g2,g3,g6,hcl,Z0,za,yC,dF,reduceCtorEq,Nat.reduceEqDiff,Nat.reduceAdd,Nat.reduceLT,Nat.reduceLeDiff,zb]
      rfl
    ·intro x hj sl0
     obtain ⟨hjc,rfl⟩:=Vx hj
     have g1:=hget m hjc
     have g2:=hset m hjc
     have g3:=Uy m hjc
     have g5:(s:Int)+(m:Int)=((s+m:Nat):Int):=by omega
     have g6:index (.int .i64 ((s+m:Nat):Int)) i.act.length=some (s+m):=aB (by omega)
     have g7:(er (i.act[s+m]'(by omega)) != 0)=true:=by simpa using b2
     rw [g5]
     refine ⟨?_,?_⟩
     rotate_left
     ·simp only [Am,Ap,g1,g2,g3,g6,g7,hcl,za,yC,dF,reduceCtorEq,Nat.reduceEqDiff,Nat.reduceAdd,Nat.reduceLT,Nat.reduceLeDiff,zb]
      rfl
def newG (b:Bm)(s:Int)(n:Nat):Bool:=(ZaC n).any fun (k:Nat)=>!vK b (s+(k:Int))
theorem YI (b:Bm)(s:Int)(n:Nat):newG b s (n+1)=(newG b s n || !vK b (s+(n:Int))):=by
 unfold newG
 rw [ZcF,List.any_append]
 simp
def Zv (i:iL)(e:bH):Int:=DZ ru i e
def bgS (i:iL)(e:bH):Bool:=decide (Zv i e=0)&&newG i.bm (jc i.size i.aV e).start (jc i.size i.aV e).count.toNat
def Iu (i:iL)(e:bH):iL:=if Zv i e=0 then { Nq zl ru i e with bm:=zA Np i.bm (jc i.size i.aV e) } else YE
theorem ajc {er:Int→Int}{i:iL}{e:bH}(hn:∀ n,er n=0∨er n=6∨er n=12)(h:DZ er i e=0):fP i=true∧oD i.size e=true:=by
 unfold DZ at h
 split at h
 ·cases h
 ·split at h
  ·cases h
  ·rename_i h1 h2
   exact ⟨by simpa using h1,by simpa using h2⟩
theorem GR (n:Int):ru n=0∨ru n=6∨ru n=12:=by unfold ru;split<;>simp
theorem ah3 {i:iL}{e:bH}(h:fP i=true)(hb:oD i.size e=true):Eh i.bm (jc i.size i.aV e)=0:=by
 obtain ⟨h1,h2,h3,h4,h5⟩:=bP.1 h
 obtain ⟨t1,t2,t3⟩:=GN h1 hb
 unfold Eh
 have:tC i.bm.size (jc i.size i.aV e)=true:=lS.2 (by omega)
 rw [h3,this]
 rfl
set_option maxRecDepth 20000 in
theorem anE {i:iL}{e:bH}(hl:i.act.length≤lim) :
  cal env 88 [oW i,aZ e]=some [(oW (Iu i e),false),(.bool (bgS i e),false),(.int .i64 (Zv i e),false)]:=by
 have e0:=aek (v:=zl) (er:=ru) (fun n hn=>alr hn) (i:=i) (e:=e) hl
 have Ei:∀ i:iL,oW i=.agg [.int .i64 i.size,.int .i64 i.aV,.list 1 (i.act.map eI),.int .i64 i.bm.size,.list 1 (i.bm.ws.map eW)]:=fun _=>rfl
 have eX:∀ e:bH,aZ e=.agg [.int .i64 e.start,.int .i64 e.count]:=fun _=>rfl
 have P5:∀ a b c d e:PV,part [a,b,c,d,e] 0 (some 5)=some (.agg [a,b,c,d,e]):=fun _ _ _ _ _=>rfl
 have P2:∀ a b:PV,part [a,b] 0 (some 2)=some (.agg [a,b]):=fun _ _=>rfl
 have Z0:((0:Int) != 0)=false:=rfl
 unfold bgS Iu Zv
 by_cases c0:DZ ru i e=0
 ·obtain ⟨k0,k1⟩:=ajc GR c0
  obtain ⟨h1,h2,h3,h4,h5⟩:=bP.1 k0
  obtain ⟨t1,t2,t3⟩:=GN h1 k1
  have hgl:=lG h1
  have hlen:i.act.length≤4096:=by have:=(cZ.1 h1).2.1;omega
  have hX:cgX ru i e=jc i.size i.aV e:=by unfold cgX;rw [if_pos c0]
  have e3:=ad9 (b:=i.bm) (e:=jc i.size i.aV e)
  have e2:=aeh (e:=jc i.size i.aV e)
  rw [ah3 k0 k1] at e3
  rw [hX,c0] at e0
  rw [if_pos c0,decide_eq_true c0,c0]
  generalize Nq zl ru i e=o at *
  generalize jc i.size i.aV e=t at *
  obtain ⟨ts,tc⟩:=t
  simp only at t1 t2 t3 ⊢
  obtain ⟨s,rfl⟩:∃ s:Nat,ts=(s:Int):=⟨ts.toNat,by omega⟩
  obtain ⟨c,rfl⟩:∃ c:Nat,tc=(c:Int):=⟨tc.toNat,by omega⟩
  simp only [Zaw,Zai]
  have hit:=Vy (s:=(s:Int)) (n:=c) (by omega) (by omega)
  generalize zA Np i.bm ⟨(s:Int),(c:Int)⟩=b2 at *
  have eA:∀ b:Bm,wU b=.agg [.int .i64 b.size,.list 1 (b.ws.map eW)]:=fun _=>rfl
  rw [eA,eX,eA] at e3
  simp only [eX] at e2
  simp only [Ei,eX] at e0 ⊢
  rw [ak ai8 rfl];simp only [Yh];simp only [start,aT,aY,aQ,aX,aK,aN,aS,aU,Nat.reduceAdd,Nat.reduceSub]
  simp only [e0,e2,e3,Z0,P5,P2,dO,za,dF,reduceCtorEq,Nat.reduceEqDiff,Nat.reduceAdd,Nat.reduceLT,Nat.reduceLeDiff,zb]
  rw [Ef (env:=env) (fun j=>[⟨false,[.pv (.int .i64 i.size),.pv (.int .i64 i.aV),.pv (.list 1 (i.act.map eI)),.pv (.int .i64 i.bm.size),.pv (.list 1 (i.bm.ws.map eW))]⟩,⟨false,[.pv (.int .i64 e.start),.pv (.int .i64 e.count)]⟩,⟨false,[.pv (.int .i64 0),.pv (.int .i64 0),.row 1 [],.pv (.int .i64 0),.row 1 []]⟩,⟨false,[.pv (.int .i64 o.size),.pv (.int .i64 o.aV),.pv (.list 1 (o.act.map eI)),.pv (.int .i64 o.bm.size),.pv (.list 1 (o.bm.ws.map eW))]⟩,⟨false,[.pv (.int .i64 (s:Int)),.pv (.int .i64 (c:Int))]⟩,⟨false,[.pv (.bool (newG i.bm s j))]⟩]) (xs:=yR s c) rfl hit rfl ?_]
  ·simp only [wY,e3,P5,P2,dO,yC,dF,reduceCtorEq,Nat.reduceEqDiff,Nat.reduceAdd,Nat.reduceLT,Nat.reduceLeDiff,zb]
  ·intro j x hj sl0
   obtain ⟨hjc,rfl⟩:=Vx hj
   have g1:=Uw (b:=i.bm) (s:=(s:Int)+(j:Int))
   rw [eA] at g1
   simp only [YI]
   cases hb:newG i.bm s j with
   |true =>
    refine ⟨?_,?_⟩
    rotate_left
    ·simp only [LJ,LK,g1,dO,Bool.true_or,yC,dF,reduceCtorEq,Nat.reduceEqDiff,Nat.reduceAdd,Nat.reduceLT,Nat.reduceLeDiff,zb]
     rfl
   |false =>
    refine ⟨?_,?_⟩
    rotate_left
    ·simp only [LJ,LK,g1,dO,Zbz,yC,dF,reduceCtorEq,Nat.reduceEqDiff,Nat.reduceAdd,Nat.reduceLT,Nat.reduceLeDiff,zb]
     rfl
 ·have hI:Nq zl ru i e=YE:=by unfold Nq;rw [if_neg c0]
  have hX:cgX ru i e=⟨0,0⟩:=by unfold cgX;rw [if_neg c0]
  have Zc:(DZ ru i e != 0)=true:=by simpa using c0
  rw [hI,hX] at e0
  rw [if_neg c0,decide_eq_false c0,ZaX]
  simp only [eX,iD] at e0 ⊢
  rw [Ei] at e0 ⊢
  rw [ak ai8 rfl];simp only [Yh];simp only [start,aT,aY,aQ,aX,aK,aN,aS,aU,Nat.reduceAdd,Nat.reduceSub]
  simp only [e0,Zc,P5,P2,dF,reduceCtorEq,Nat.reduceEqDiff,Nat.reduceAdd,Nat.reduceLT,Nat.reduceLeDiff,zb]
theorem alv {i:iL}{e:bH}(hl:i.act.length≤lim) :
  cal env 212 [oW i,aZ e]=some [(oW (Nq uO nT i e),false),(.int .i64 (DZ nT i e),false)]:=by
 have e0:=aek (v:=uO) (er:=nT) (fun n hn=>als hn) (i:=i) (e:=e) hl
 have Ei:∀ i:iL,oW i=.agg [.int .i64 i.size,.int .i64 i.aV,.list 1 (i.act.map eI),.int .i64 i.bm.size,.list 1 (i.bm.ws.map eW)]:=fun _=>rfl
 have eX:∀ e:bH,aZ e=.agg [.int .i64 e.start,.int .i64 e.count]:=fun _=>rfl
 have P5:∀ a b c d e:PV,part [a,b,c,d,e] 0 (some 5)=some (.agg [a,b,c,d,e]):=fun _ _ _ _ _=>rfl
 have P2:∀ a b:PV,part [a,b] 0 (some 2)=some (.agg [a,b]):=fun _ _=>rfl
 generalize Nq uO nT i e=o at *
 generalize DZ nT i e=q at *
 generalize cgX nT i e=t at *
 simp only [Ei,eX] at e0 ⊢
 rw [ak akE rfl];simp only [Pq];simp only [start,aT,aY,aQ,aX,aK,aN,aS,aU,Nat.reduceAdd,Nat.reduceSub]
 simp only [e0,P5,P2,dF,reduceCtorEq,Nat.reduceEqDiff,Nat.reduceAdd,Nat.reduceLT,Nat.reduceLeDiff,zb]
def gB (i:iL):Nat→Bm×Bool
 |0=>(i.bm,false)
 |k+1=>if i.act.getD k 0=0∧vK i.bm k=true then (zA clW (gB i k).1 ⟨k,1⟩,true) else gB i k
theorem ah4 {i:iL}{k:Nat}(h:k<i.act.length)(h0:i.act[k]=0)(h1:vK i.bm k=true):gB i (k+1)=(zA clW (gB i k).1 ⟨k,1⟩,true):=by
 rw [gB,if_pos]
 rw [Zaf,ZZ h]
 exact ⟨h0,h1⟩
theorem aem {i:iL}{k:Nat}(h:k<i.act.length)(h1:¬ (i.act[k]=0∧vK i.bm k=true)):gB i (k+1)=gB i k:=by
 rw [gB,if_neg]
 rw [Zaf,ZZ h]
 exact h1
def aen (i:iL)(p:Bm×Bool):List BV:=[.pv (.int .i64 i.size),.pv (.int .i64 i.aV),if p.2 then .pv (.list 1 (i.act.map eI)) else .row 1 (i.act.map eI),.pv (.int .i64 p.1.size),.pv (.list 1 (p.1.ws.map eW))]
theorem uP (i:iL)(b:Bm):aen i (b,true)=[.pv (.int .i64 i.size),.pv (.int .i64 i.aV),.pv (.list 1 (i.act.map eI)),.pv (.int .i64 b.size),.pv (.list 1 (b.ws.map eW))]:=rfl
theorem wZ (i:iL)(b:Bm):aen i (b,false)=[.pv (.int .i64 i.size),.pv (.int .i64 i.aV),.row 1 (i.act.map eI),.pv (.int .i64 b.size),.pv (.list 1 (b.ws.map eW))]:=rfl
def Vz (i:iL):Option (Ex×St):=some (.normal,⟨sl 45 [(2,.aP 1 0),(3,.any),(4,.aP 2 0),(5,.pv (.bool (gB i i.act.length).2))],[⟨false,sG i⟩,⟨false,[.pv (.int .i64 0),.pv (.int .i64 0),.row 1 [],.pv (.int .i64 0),.row 1 []]⟩,⟨false,aen i (gB i i.act.length)⟩],[],none⟩)
set_option maxRecDepth 20000 in
theorem ah5 {i0:iL}(hl:i0.act.length≤lim){st:St}(h:st.head [1,2,4,5,18,19,20] st.boxes.length=some ⟨sl 45 [(1,.aP 0 0),(2,.aP 1 0),(4,.aP 2 0),(5,.pv (.bool (gB i0 ((0:Nat))).2)),(18,.pv (.list 1 (i0.act.map eI))),(19,.pv (.int .i64 i0.act.length)),(20,.pv (.int .i64 (0:Nat)))],[⟨false,sG i0⟩,⟨false,[.pv (.int .i64 0),.pv (.int .i64 0),.row 1 [],.pv (.int .i64 0),.row 1 []]⟩,⟨false,aen i0 (gB i0 ((0:Nat)))⟩],[],none⟩) :
  den env FM st=Vz i0:=by
 unfold FM
 refine dL (env:=env) (nb:=3) (i0.act.length) (fun i=>⟨sl 45 [(1,.aP 0 0),(2,.aP 1 0),(4,.aP 2 0),(5,.pv (.bool (gB i0 (i)).2)),(18,.pv (.list 1 (i0.act.map eI))),(19,.pv (.int .i64 i0.act.length)),(20,.pv (.int .i64 i))],[⟨false,sG i0⟩,⟨false,[.pv (.int .i64 0),.pv (.int .i64 0),.row 1 [],.pv (.int .i64 0),.row 1 []]⟩,⟨false,aen i0 (gB i0 (i))⟩],[],none⟩) (fun i=>Vz i0) h (fun _=>rfl) (fun _=>by simp only [aG,dN,Nat.reduceMul,Nat.reduceBEq,Nat.reduceLT,Nat.reduceLeDiff,Nat.reduceAdd,decide_true,Zal,Zai]) ?_ ?_
 ·intro i rb hi ih
  have hi1:=dV hi hl
  have F1:((i:Int)<(i0.act.length:Int))=True:=eq_true (by omega)
  have e1:=Uw (b:=i0.bm) (s:=(i:Int))
  have eA:∀ b:Bm,wU b=.agg [.int .i64 b.size,.list 1 (b.ws.map eW)]:=fun _=>rfl
  have eX:∀ e:bH,aZ e=.agg [.int .i64 e.start,.int .i64 e.count]:=fun _=>rfl
  have e2:=aln (b:=(gB i0 i).1) (e:=⟨(i:Int),1⟩)
  rw [eA] at e1
  have hx:(i0.act.map eI)[i]?=some (.int .i64 i0.act[i]):=by rw [zd,ZZ hi];rfl
  by_cases c0:i0.act[i]=0
  ·have F2:(i0.act[i]==0)=true:=by simpa using c0
   cases c1:vK i0.bm (i:Int) with
   |true =>
    rw [c1] at e1
    have hn:=ah4 hi c0 c1
    generalize gB i0 i=p at *
    rw [hn] at ih
    generalize zA clW p.1 ⟨(i:Int),1⟩=b2 at *
    rw [eA,eX,eA] at e2
    obtain ⟨pb,pf⟩:=p
    cases pf with
    |true =>
     simp only [mO,F1,F2,hx,e1,e2,dO,aB hi,za,bK,uP,aC,Nat.reduceMul,Nat.reduceBEq,Nat.reduceLT,Nat.reduceLeDiff,reduceCtorEq,Nat.reduceEqDiff,Nat.reduceAdd,zb]
     rw [ih _ (by simp only [hi1,bK,uP,aC,Nat.reduceMul,Nat.reduceBEq,Nat.reduceLT,Nat.reduceLeDiff,reduceCtorEq,Nat.reduceEqDiff,Nat.reduceAdd,zb]<;>rfl)]
    |false =>
     simp only [mO,F1,F2,hx,e1,e2,dO,aB hi,za,bK,wZ,aC,Nat.reduceMul,Nat.reduceBEq,Nat.reduceLT,Nat.reduceLeDiff,reduceCtorEq,Nat.reduceEqDiff,Nat.reduceAdd,zb]
     rw [ih _ (by simp only [hi1,bK,uP,aC,Nat.reduceMul,Nat.reduceBEq,Nat.reduceLT,Nat.reduceLeDiff,reduceCtorEq,Nat.reduceEqDiff,Nat.reduceAdd,zb]<;>rfl)]
   |false =>
    rw [c1] at e1
    have hn:=aem hi (by rw [c1];simp)
    generalize gB i0 i=p at *
    rw [hn] at ih
    obtain ⟨pb,pf⟩:=p
    cases pf with
    |true =>
     simp only [mO,F1,F2,hx,e1,dO,aB hi,za,bK,uP,aC,Nat.reduceMul,Nat.reduceBEq,Nat.reduceLT,Nat.reduceLeDiff,reduceCtorEq,Nat.reduceEqDiff,Nat.reduceAdd,zb]
     rw [ih _ (by simp only [hi1,bK,uP,aC,Nat.reduceMul,Nat.reduceBEq,Nat.reduceLT,Nat.reduceLeDiff,reduceCtorEq,Nat.reduceEqDiff,Nat.reduceAdd,zb]<;>rfl)]
    |false =>
     simp only [mO,F1,F2,hx,e1,dO,aB hi,za,bK,wZ,aC,Nat.reduceMul,Nat.reduceBEq,Nat.reduceLT,Nat.reduceLeDiff,reduceCtorEq,Nat.reduceEqDiff,Nat.reduceAdd,zb]
     rw [ih _ (by simp only [hi1,bK,wZ,aC,Nat.reduceMul,Nat.reduceBEq,Nat.reduceLT,Nat.reduceLeDiff,reduceCtorEq,Nat.reduceEqDiff,Nat.reduceAdd,zb]<;>rfl)]
  ·have F2:(i0.act[i]==0)=false:=by simpa using c0
   have hn:=aem hi (fun h=>c0 h.1)
   generalize gB i0 i=p at *
   rw [hn] at ih
   obtain ⟨pb,pf⟩:=p
   cases pf with
   |true =>
    simp only [mO,F1,F2,hx,dO,aB hi,za,bK,uP,aC,Nat.reduceMul,Nat.reduceBEq,Nat.reduceLT,Nat.reduceLeDiff,reduceCtorEq,Nat.reduceEqDiff,Nat.reduceAdd,zb]
    rw [ih _ (by simp only [hi1,bK,uP,aC,Nat.reduceMul,Nat.reduceBEq,Nat.reduceLT,Nat.reduceLeDiff,reduceCtorEq,Nat.reduceEqDiff,Nat.reduceAdd,zb]<;>rfl)]
   |false =>
    simp only [mO,F1,F2,hx,dO,aB hi,za,bK,wZ,aC,Nat.reduceMul,Nat.reduceBEq,Nat.reduceLT,Nat.reduceLeDiff,reduceCtorEq,Nat.reduceEqDiff,Nat.reduceAdd,zb]
    rw [ih _ (by simp only [hi1,bK,wZ,aC,Nat.reduceMul,Nat.reduceBEq,Nat.reduceLT,Nat.reduceLeDiff,reduceCtorEq,Nat.reduceEqDiff,Nat.reduceAdd,zb]<;>rfl)]
 ·intro rb
  unfold Vz
  generalize gB i0 i0.act.length=p at *
  obtain ⟨pb,pf⟩:=p
  cases pf with
  |true=>simp only [mO,ZaL,bK,uP,aC,Nat.reduceMul,Nat.reduceBEq,Nat.reduceLT,Nat.reduceLeDiff,reduceCtorEq,Nat.reduceEqDiff,Nat.reduceAdd,zb]
  |false=>simp only [mO,ZaL,bK,wZ,aC,Nat.reduceMul,Nat.reduceBEq,Nat.reduceLT,Nat.reduceLeDiff,reduceCtorEq,Nat.reduceEqDiff,Nat.reduceAdd,zb]
def tH (i:iL):iL:=if fP i then { i with bm:=(gB i i.act.length).1 } else i
def alx (i:iL):Bool:=fP i&&(gB i i.act.length).2
theorem aly {i:iL}(hl:i.act.length≤lim):cal env 211 [oW i]=some [(oW (tH i),false),(.bool (alx i),false)]:=by
 have e0:=Ux (i:=i) hl
 have Ei:∀ i:iL,oW i=.agg [.int .i64 i.size,.int .i64 i.aV,.list 1 (i.act.map eI),.int .i64 i.bm.size,.list 1 (i.bm.ws.map eW)]:=fun _=>rfl
 have P5:∀ a b c d e:PV,part [a,b,c,d,e] 0 (some 5)=some (.agg [a,b,c,d,e]):=fun _ _ _ _ _=>rfl
 have Z0:((0:Int) != 0)=false:=rfl
 have Z3:((3:Int) != 0)=true:=rfl
 have e4:=aej (es:=i.act.map eI) (by simpa using hl)
 unfold aed at e0
 unfold tH alx
 cases c0:fP i with
 |false =>
  rw [c0,if_neg (by decide)] at e0
  rw [if_neg (by decide)]
  rw [Ei] at e0 ⊢
  rw [ak adk rfl];simp only [JC,aG,Nat.reduceBEq,Nat.reduceLeDiff,Nat.reduceAdd,zc,ze]
  simp only [e0,Z3,P5,aC,Nat.reduceMul,Nat.reduceBEq,Nat.reduceLT,Nat.reduceLeDiff,reduceCtorEq,Nat.reduceEqDiff,Nat.reduceAdd,zb]
 |true =>
  rw [c0,if_pos rfl] at e0
  rw [if_pos rfl,Zai]
  simp only [Ei] at e0 ⊢
  rw [ak adk rfl];simp only [JC,aG,Nat.reduceBEq,Nat.reduceLeDiff,Nat.reduceAdd,zc,ze]
  simp only [e0,e4,Z0,P5,za,aC,Nat.reduceMul,Nat.reduceBEq,Nat.reduceLT,Nat.reduceLeDiff,reduceCtorEq,Nat.reduceEqDiff,Nat.reduceAdd,zb]
  rw [ah5 (i0:=i) hl]
  rotate_left
  ·rw [bK,gB,wZ]
   simp only [aG,dN,Nat.reduceMul,Nat.reduceBEq,Nat.reduceLT,Nat.reduceLeDiff,Nat.reduceAdd,decide_true,Zal,Zai]<;>rfl
  ·unfold Vz
   rw [bK]
   generalize gB i i.act.length=p at *
   obtain ⟨pb,pf⟩:=p
   cases pf with
   |true =>
    rw [uP]
    simp only [e0,e4,Z0,P5,za,aC,Nat.reduceMul,Nat.reduceBEq,Nat.reduceLT,Nat.reduceLeDiff,reduceCtorEq,Nat.reduceEqDiff,Nat.reduceAdd,zb]
   |false =>
    rw [wZ]
    simp only [e0,e4,Z0,P5,za,aC,Nat.reduceMul,Nat.reduceBEq,Nat.reduceLT,Nat.reduceLeDiff,reduceCtorEq,Nat.reduceEqDiff,Nat.reduceAdd,zb]
theorem aeo {n:Nat}(h:n≤4096):newE (n:Int)=0∧okB (tu (n:Int))=true∧(tu (n:Int)).size=(n:Int)∧∀ s,bit (tu (n:Int)).ws s=false:=by
 have e1:newE (n:Int)=0:=by unfold newE;rw [if_neg (by omega)]
 have e2:tu (n:Int)=⟨n,Zae (lF n).toNat 0⟩:=by unfold tu;rw [if_neg (by omega)]
 have hb:∀ s,bit (Zae (lF n).toNat (0:Wd)) s=false:=fun s=>by
  unfold bit
  rw [Zaf,List.getElem?_replicate]
  split<;>simp
 rw [e2]
 refine ⟨e1,jr.2 ⟨⟨by show (0:Int)≤(n:Int);omega,by show (n:Int)≤4096;omega,?_⟩,fun i _=>hb i⟩,rfl,hb⟩
 show ((Zae (lF n).toNat (0:Wd)).length:Int)=lF n
 rw [Za6]
 exact ahV (by omega)
theorem ah6 (ws:List Wd)(e:bH):chW Np ws e=setW ws e.start (e.start+e.count):=rfl
theorem Uz {b:Bm}{e:bH}(h:okB b=true)(hf:tC b.size e=true):Eh b e=0∧okB (zA Np b e)=true∧(zA Np b e).size=b.size∧∀ s:Nat,(s:Int)<b.size→bit (zA Np b e).ws s=(bit b.ws s || decide (e.start≤(s:Int)∧(s:Int)<e.start+e.count)):=by
 have hE:Eh b e=0:=by unfold Eh;rw [if_neg (by rw [h];decide),if_neg (by rw [hf];decide)]
 have hO:zA Np b e=⟨b.size,setW b.ws e.start (e.start+e.count)⟩:=by unfold zA;rw [if_pos hE,ah6]
 have hs:=jU h
 have hf:=lS.1 hf
 rw [hO]
 have hl:(setW b.ws e.start (e.start+e.count)).length=b.ws.length:=by simp [setW]
 refine ⟨hE,jr.2 ⟨⟨hs.1,hs.2.1,?_⟩,fun i hi=>?_⟩,rfl,fun s hlt=>Vt (by omega)⟩
 ·show ((setW b.ws e.start (e.start+e.count)).length:Int)=_
  rw [hl];exact (jr.1 h).1.2.2
 ·have hi:b.size≤(i:Int):=hi
  by_cases c:i<64*b.ws.length
  ·show bit (setW b.ws e.start (e.start+e.count)) i=false
   rw [Vt c,(jr.1 h).2 i hi,decide_eq_false (by omega)]
   rfl
  ·exact AL (by show 64*(setW b.ws e.start (e.start+e.count)).length≤i;rw [hl];omega)
theorem oH {b:Bm}(h:okB b=true)(g:Nat):vK b (g:Int)=bit b.ws g:=by
 unfold vK
 rw [h,Zai,decide_eq_true (by omega),Zai,Zaw]
 cases hb:bit b.ws g with
 |false=>rw [Zbi]
 |true=>rw [decide_eq_true (Gz h hb)];rfl
theorem alz {b:Bm}{e:bH}(h:okB b=true)(hf:tC b.size e=true):Eh b e=0∧okB (zA clW b e)=true∧(zA clW b e).size=b.size∧∀ s:Nat,bit (zA clW b e).ws s=(bit b.ws s&&!decide (e.start≤(s:Int)∧(s:Int)<e.start+e.count)):=by
 have hE:Eh b e=0:=by unfold Eh;rw [if_neg (by rw [h];decide),if_neg (by rw [hf];decide)]
 have hO:zA clW b e=⟨b.size,Iq b.ws e.start (e.start+e.count)⟩:=by unfold zA;rw [if_pos hE];rfl
 have hs:=jU h
 have hl:(Iq b.ws e.start (e.start+e.count)).length=b.ws.length:=by simp [Iq]
 have hb:∀ s:Nat,bit (Iq b.ws e.start (e.start+e.count)) s=(bit b.ws s&&!decide (e.start≤(s:Int)∧(s:Int)<e.start+e.count)):=fun s=>by
  by_cases c:s<64*b.ws.length
  ·exact ahM c
  ·rw [AL (by rw [hl];omega),AL (show 64*b.ws.length≤s by omega),ZaX]
 rw [hO]
 refine ⟨hE,jr.2 ⟨⟨hs.1,hs.2.1,?_⟩,fun i hi=>?_⟩,rfl,hb⟩
 ·show ((Iq b.ws e.start (e.start+e.count)).length:Int)=_
  rw [hl];exact (jr.1 h).1.2.2
 ·show bit (Iq b.ws e.start (e.start+e.count)) i=false
  rw [hb,(jr.1 h).2 i hi,ZaX]
theorem VA {b:Bm}{e:bH}(h:okB b=true)(hf:tC b.size e=true)(s:Nat):bit (zA Np b e).ws s=(bit b.ws s || decide (e.start≤(s:Int)∧(s:Int)<e.start+e.count)):=by
 obtain ⟨_,h2,h3,h4⟩:=Uz h hf
 by_cases c:(s:Int)<b.size
 ·exact h4 s c
 ·have:=lS.1 hf
  rw [(jr.1 h2).2 s (by rw [h3];omega),(jr.1 h).2 s (by omega),decide_eq_false (by omega)]
  rfl
theorem ah7 {n:Int}(h:0≤n∧n≤4096)(he:ru n=0):0<zl n∧zl n≤4096:=by
 unfold ru at he
 unfold zl
 split at he
 ·cases he
 ·rename_i c
  rw [if_neg c];omega
theorem ah8 {n:Int}(h:0≤n∧n≤4096)(he:nT n=0):(0≤uO n∧uO n≤4096)∧0<n:=by
 unfold nT at he
 unfold uO
 split at he
 ·cases he
 ·rename_i c
  rw [if_neg c];omega
theorem yw {i:iL}{e:bH}(h:fP i=true)(hb:oD i.size e=true):∃ s c:Nat,jc i.size i.aV e=⟨(s:Int),(c:Int)⟩∧1≤c∧s+c≤i.act.length∧tC i.bm.size ⟨(s:Int),(c:Int)⟩=true:=by
 obtain ⟨h1,h2,h3,h4,h5⟩:=bP.1 h
 obtain ⟨t1,t2,t3⟩:=GN h1 hb
 refine ⟨(jc i.size i.aV e).start.toNat,(jc i.size i.aV e).count.toNat,?_,by omega,by omega,lS.2 (by simp only;omega)⟩
 generalize jc i.size i.aV e=t at *
 obtain ⟨a,b⟩:=t
 simp only at *
 simp only [bH.mk.injEq]
 omega
theorem AO {v er:Int→Int}{i:iL}{e:bH}{s c:Nat}(h:fP i=true)(hb:oD i.size e=true)(ht:jc i.size i.aV e=⟨(s:Int),(c:Int)⟩):DZ er i e=BR er i.act s c∧(BR er i.act s c=0→Nq v er i e={ i with act:=jX v i.act s c }):=by
 have hE:DZ er i e=BR er i.act s c:=by
  unfold DZ
  rw [if_neg (by rw [h];decide),if_neg (by rw [hb];decide),ht]
  rfl
 refine ⟨hE,fun h0=>?_⟩
 unfold Nq
 rw [if_pos (by rw [hE];exact h0),ht]
 rfl
theorem ajd {i:iL}{e:bH}{s c:Nat}(h:fP i=true)(hb:oD i.size e=true)(ht:jc i.size i.aV e=⟨(s:Int),(c:Int)⟩)(h0:Zv i e=0) :
  Iu i e=⟨i.size,i.aV,jX zl i.act s c,zA Np i.bm ⟨(s:Int),(c:Int)⟩⟩∧fP (Iu i e)=true:=by
 obtain ⟨h1,h2,h3,h4,h5⟩:=bP.1 h
 obtain ⟨hE,hI⟩:=AO (v:=zl) (er:=ru) h hb ht
 have h0':BR ru i.act s c=0:=by rw [← hE];exact h0
 obtain ⟨s',c',ht',k1,k2,k3⟩:=yw h hb
 obtain ⟨rfl,rfl⟩:s'=s∧c'=c:=by rw [ht] at ht';simp only [bH.mk.injEq] at ht';omega
 have e1:Iu i e=⟨i.size,i.aV,jX zl i.act s' c',zA Np i.bm ⟨(s':Int),(c':Int)⟩⟩:=by
  unfold Iu
  rw [if_pos h0,hI h0',ht]
 refine ⟨e1,?_⟩
 obtain ⟨g1,g2,g3,-⟩:=Uz h3 k3
 have g4:=VA h3 k3
 have hbad:=(qO ru k2).resolve_right (fun ⟨m,hm,_,q2,q3⟩=>q2 (by rw [← q3];exact h0'))
 rw [e1]
 refine bP.2 ⟨h1,by rw [eH];exact h2,g2,by rw [eH,g3];exact h4,fun g hg=>?_⟩
 rw [eH] at hg
 rw [oG]
 have q:=h5 g hg
 obtain ⟨q1,q2⟩:=Ej q
 have hx:vK (zA Np i.bm ⟨(s':Int),(c':Int)⟩) (g:Int)=(bit i.bm.ws g || decide ((s':Int)≤(g:Int)∧(g:Int)<(s':Int)+(c':Int))):=by rw [oH g2,g4]
 unfold GL
 split
 ·rename_i cc
  have hz:=hbad.2 (g - s') (by omega)
  simp only [show s'+(g - s')=g by omega] at hz
  have:=ah7 q1 hz
  rw [hx,decide_eq_false (by omega),decide_eq_false (by omega),decide_eq_true (show (s':Int)≤(g:Int)∧(g:Int)<(s':Int)+(c':Int) by omega)]
  simp
 ·rw [hx,decide_eq_false (by omega),decide_eq_false (by omega)]
  by_cases c0:0<i.act[g]
  ·have:=q2 c0
   rw [oH h3] at this
   rw [this]
   simp
  ·rw [decide_eq_false (by omega)]
   simp
theorem anF {i:iL}{e:bH}{s c:Nat}(h:fP i=true)(hb:oD i.size e=true)(ht:jc i.size i.aV e=⟨(s:Int),(c:Int)⟩)(h0:DZ nT i e=0) :
  Nq uO nT i e=⟨i.size,i.aV,jX uO i.act s c,i.bm⟩∧fP (Nq uO nT i e)=true:=by
 obtain ⟨h1,h2,h3,h4,h5⟩:=bP.1 h
 obtain ⟨hE,hI⟩:=AO (v:=uO) (er:=nT) h hb ht
 have h0':BR nT i.act s c=0:=by rw [← hE];exact h0
 obtain ⟨s',c',ht',k1,k2,k3⟩:=yw h hb
 obtain ⟨rfl,rfl⟩:s'=s∧c'=c:=by rw [ht] at ht';simp only [bH.mk.injEq] at ht';omega
 have e1:=hI h0'
 refine ⟨e1,?_⟩
 have hbad:=(qO nT k2).resolve_right (fun ⟨m,hm,_,q2,q3⟩=>q2 (by rw [← q3];exact h0'))
 rw [e1]
 refine bP.2 ⟨h1,by rw [eH];exact h2,h3,by rw [eH];exact h4,fun g hg=>?_⟩
 rw [eH] at hg
 rw [oG]
 have q:=h5 g hg
 obtain ⟨q1,q2⟩:=Ej q
 split
 ·rename_i cc
  have hz:=hbad.2 (g - s') (by omega)
  simp only [show s'+(g - s')=g by omega] at hz
  obtain ⟨r1,r2⟩:=ah8 q1 hz
  unfold GL
  rw [q2 r2,decide_eq_false (by omega),decide_eq_false (by omega)]
  simp
 ·exact q
theorem UA {i:iL}(h:fP i=true):∀ k,k≤i.act.length→okB (gB i k).1=true∧(gB i k).1.size=i.bm.size∧(∀ s:Nat,bit (gB i k).1.ws s=(bit i.bm.ws s&&!decide (s<k∧i.act.getD s 0=0)))∧((gB i k).2=true ↔ ∃ s,s<k∧i.act.getD s 0=0∧bit i.bm.ws s=true)
 |0,_=>⟨(bP.1 h).2.2.1,rfl,fun s=>by simp [gB],by simp [gB]⟩
 |k+1,hk=>by
  obtain ⟨h1,h2,h3,h4,h5⟩:=bP.1 h
  obtain ⟨q1,q2,q3,q4⟩:=UA h k (by omega)
  unfold gB
  rw [oH h3]
  by_cases c:i.act.getD k 0=0∧bit i.bm.ws k=true
  ·rw [if_pos c]
   obtain ⟨r1,r2,r3,r4⟩:=alz (b:=(gB i k).1) (e:=⟨(k:Int),1⟩) q1 (lS.2 (by rw [q2];simp only;omega))
   refine ⟨r2,r3.trans q2,fun s=>?_,⟨fun _=>⟨k,by omega,c⟩,fun _=>rfl⟩⟩
   show bit (zA clW (gB i k).1 ⟨(k:Int),1⟩).ws s=_
   rw [r4,q3]
   by_cases e1:s=k
   ·subst e1
    rw [decide_eq_true (show ((s:Int)≤(s:Int)∧(s:Int)<(s:Int)+1) by omega),decide_eq_true (show s<s+1∧i.act.getD s 0=0 from ⟨by omega,c.1⟩)]
    simp
   ·rw [decide_eq_false (show ¬ ((k:Int)≤(s:Int)∧(s:Int)<(k:Int)+1) by omega)]
    have:decide (s<k+1∧i.act.getD s 0=0)=decide (s<k∧i.act.getD s 0=0):=by
     apply decide_eq_decide.2
     constructor
     ·rintro ⟨a,b⟩;exact ⟨by omega,b⟩
     ·rintro ⟨a,b⟩;exact ⟨by omega,b⟩
    rw [this]
    simp
  ·rw [if_neg c]
   refine ⟨q1,q2,fun s=>?_,?_⟩
   ·rw [q3]
    by_cases e1:s=k
    ·subst e1
     rw [decide_eq_false (show ¬ (s<s∧i.act.getD s 0=0) by omega)]
     cases hb:bit i.bm.ws s with
     |false=>simp
     |true =>
      have:¬ i.act.getD s 0=0:=fun hh=>c ⟨hh,hb⟩
      rw [decide_eq_false (fun hh=>this hh.2)]
    ·have:decide (s<k+1∧i.act.getD s 0=0)=decide (s<k∧i.act.getD s 0=0):=by
      apply decide_eq_decide.2
      constructor
      ·rintro ⟨a,b⟩;exact ⟨by omega,b⟩
      ·rintro ⟨a,b⟩;exact ⟨by omega,b⟩
     rw [this]
   ·rw [q4]
    constructor
    ·rintro ⟨s,a,b⟩;exact ⟨s,by omega,b⟩
    ·rintro ⟨s,a,b⟩
     by_cases e1:s=k
     ·subst e1;exact absurd b c
     ·exact ⟨s,by omega,b⟩
theorem Me {s g:Int}(h:lT s g=true):jJ s g=⟨s,g,Zae (mW s g).toNat 0,tu (mW s g)⟩∧yK s g=0∧fP (jJ s g)=true:=by
 have hg:=lG h
 have h2:=(cZ.1 h).2.1
 have e1:jJ s g=⟨s,g,Zae (mW s g).toNat 0,tu (mW s g)⟩:=by unfold jJ;rw [if_pos h]
 refine ⟨e1,by unfold yK;rw [if_pos h],?_⟩
 obtain ⟨n1,n2,n3,n4⟩:=aeo (n:=(mW s g).toNat) (by omega)
 have hc:(((mW s g).toNat:Nat):Int)=mW s g:=by omega
 rw [hc] at n1 n2 n3 n4
 rw [e1]
 refine bP.2 ⟨h,by simp only [Za6];omega,n2,by simp only [Za6];rw [n3];omega,fun g hg=>?_⟩
 unfold GL
 simp
def eY (c:Nat):PV:=.int .u8 (c:Int)
def most:Nat:=9007199254740991
def jI (n:Int):Nat:=if n<0∨n > 9007199254740991 then 0 else n.toNat
theorem ah9 (n:Int):jI n≤most:=by unfold jI most;split<;>omega
def jK:Nat→Nat→List Nat
 |0,n=>[n % 256]
 |f+1,n=>if n<128 then [n] else (n % 128+128)::jK f (n / 128)
def yD (n:Nat):List Nat:=jK 8 n
def encI (n:Int):List Nat:=yD (jI n)
def tJ (n:Nat):Nat:=(yD n).length - 1
theorem GU:∀ f n,1≤(jK f n).length∧(jK f n).length≤f+1
 |0,n=>by simp [jK]
 |f+1,n=>by
  unfold jK
  split
  ·simp
  ·have:=GU f (n / 128)
   simp only [zc];omega
theorem JO:∀ f n,∀ c∈jK f n,c<256
 |0,n,c,h=>by simp [jK] at h;omega
 |f+1,n,c,h=>by
  unfold jK at h
  split at h
  ·simp at h;omega
  ·rcases ZaI.1 h with h|h
   ·omega
   ·exact JO f (n / 128) c h
theorem Qp (n:Nat):1≤(yD n).length∧(yD n).length≤9:=GU 8 n
theorem mX (n:Int):1≤(encI n).length∧(encI n).length≤9:=Qp _
theorem tK (n:Int):∀ c∈encI n,c<256:=JO 8 _
theorem VB:∀ (f n i:Nat),n<128 ^ (f+1)→i+1<(jK f n).length→128≤n / 128 ^ i∧(jK f n)[i]?=some (n / 128 ^ i % 128+128)
 |0,n,i,hn,hi=>by simp [jK] at hi
 |f+1,n,i,hn,hi=>by
  unfold jK at hi ⊢
  by_cases c:n<128
  ·rw [if_pos c] at hi;simp at hi
  ·rw [if_neg c] at hi ⊢
   cases i with
   |zero=>simp;omega
   |succ i =>
    have h2:n / 128<128 ^ (f+1):=Zbs (by rw [← ZbY];exact hn)
    have:=VB f (n / 128) i h2 (by simp only [zc] at hi;omega)
    rw [Zcu,← ZbY] at this
    exact ⟨this.1,by rw [ZaO];exact this.2⟩
theorem JQ:∀ (f n:Nat),n<128 ^ (f+1)→n / 128 ^ ((jK f n).length - 1)<128∧jK f n=(jK f n).take ((jK f n).length - 1)++[n / 128 ^ ((jK f n).length - 1)]
 |0,n,hn=>by
  have:n<128:=by simpa using hn
  simp [jK];omega
 |f+1,n,hn=>by
  unfold jK
  by_cases c:n<128
  ·rw [if_pos c];simp;exact c
  ·rw [if_neg c]
   have h2:n / 128<128 ^ (f+1):=Zbs (by rw [← ZbY];exact hn)
   obtain ⟨h3,h4⟩:=JQ f (n / 128) h2
   have h5:=(GU f (n / 128)).1
   rw [Zcu,← ZbY] at h3 h4
   have e:((n % 128+128)::jK f (n / 128)).length - 1=(jK f (n / 128)).length - 1+1:=by simp only [zc];omega
   rw [e]
   refine ⟨h3,?_⟩
   rw [Zbx,Zbp,← h4]
theorem Qq {n:Nat}(h:n≤most):n<128 ^ (8+1):=by unfold most at h;omega
theorem VD {n i:Nat}(h:n≤most)(hi:i<tJ n):128≤n / 128 ^ i∧(yD n)[i]?=some (n / 128 ^ i % 128+128):=VB 8 n i (Qq h) (by unfold tJ yD at hi;omega)
theorem BU {n:Nat}(h:n≤most):n / 128 ^ tJ n<128∧yD n=(yD n).take (tJ n)++[n / 128 ^ tJ n]:=JQ 8 n (Qq h)
theorem YJ {n i:Nat}(h:n≤most)(hi:i<tJ n):(yD n).take (i+1)=(yD n).take i++[n / 128 ^ i % 128+128]:=by
 have e:=(VD h hi).2
 obtain ⟨h1,h2⟩:=Z1.1 e
 rw [ZaF h1,h2]
def qP:Nat→Nat→Nat→List Nat→Nat×Nat×Nat
 |0,_,_,_=>(3,0,0)
 |_+1,_,_,[]=>(10,0,0)
 |k+1,i,n,b::l=>if b<128 then (if (b=0∧0<i)∨most<n+b*128 ^ i then (3,0,0) else (0,n+b*128 ^ i,i+1)) else qP k (i+1) (n+b % 128*128 ^ i) l
def dA (l:List Nat):Nat×Nat×Nat:=qP 8 0 0 l
theorem JR:∀ (k i n:Nat) (l:List Nat),(qP k i n l).1=0→i<(qP k i n l).2.2∧(qP k i n l).2.2≤i+l.length∧(qP k i n l).2.1≤most
 |0,_,_,_,h=>by simp [qP] at h
 |k+1,_,_,[],h=>by simp [qP] at h
 |k+1,i,n,b::l,h=>by
  unfold qP at h ⊢
  by_cases c:b<128
  ·rw [if_pos c] at h ⊢
   by_cases c2:(b=0∧0<i)∨most<n+b*128 ^ i
   ·rw [if_pos c2] at h;simp at h
   ·rw [if_neg c2]
    simp only [zc]
    omega
  ·rw [if_neg c] at h ⊢
   have:=JR k (i+1) _ l h
   simp only [zc]
   omega
theorem JU {l:List Nat}(h:(dA l).1=0):0<(dA l).2.2∧(dA l).2.2≤l.length∧(dA l).2.1≤most:=by
 unfold dA at h ⊢
 obtain ⟨h1,h2,h3⟩:=JR 8 0 0 l h
 exact ⟨h1,by omega,h3⟩
theorem Qr:∀ (f n i acc:Nat) (rest:List Nat),n<128 ^ (f+1)→(0<i→0<n)→acc+n*128 ^ i≤most→qP (f+1) i acc (jK f n++rest)=(0,acc+n*128 ^ i,i+(jK f n).length)
 |0,n,i,acc,rest,hn,h0,hm=>by
  have hn:n<128:=by simpa using hn
  have e:jK 0 n=[n]:=by simp [jK];omega
  rw [e]
  show qP 1 i acc (n::rest)=_
  unfold qP
  rw [if_pos hn,if_neg (by omega)]
  rfl
 |f+1,n,i,acc,rest,hn,h0,hm=>by
  unfold jK
  by_cases c:n<128
  ·rw [if_pos c]
   show qP (f+2) i acc (n::rest)=_
   unfold qP
   rw [if_pos c,if_neg (by omega)]
   rfl
  ·rw [if_neg c]
   show qP (f+2) i acc ((n % 128+128)::(jK f (n / 128)++rest))=_
   unfold qP
   rw [if_neg (by omega)]
   have h2:n / 128<128 ^ (f+1):=Zbs (by rw [← ZbY];exact hn)
   have e1:(n % 128+128) % 128=n % 128:=by omega
   have e2:acc+n % 128*128 ^ i+n / 128*128 ^ (i+1)=acc+n*128 ^ i:=by
    rw [ZbY,← Nat.mul_assoc,Zbe,← Zap]
    congr 2
    omega
   rw [e1,Qr f (n / 128) (i+1) _ rest h2 (fun _=>by omega) (by rw [e2];exact hm),e2]
   simp only [zc]
   congr 2
   omega
theorem YK:∀ (f n:Nat),n<128 ^ f→jK f n=jK (f - 1) n∨f=0
 |0,_,_=>.inr rfl
 |f+1,n,h=>by
  left
  show jK (f+1) n=jK f n
  induction f generalizing n with
  |zero =>
   have h:n<128:=by simpa using h
   simp [jK,h];omega
  |succ f ih =>
   show (if n<128 then [n] else (n % 128+128)::jK (f+1) (n / 128))=(if n<128 then [n] else (n % 128+128)::jK f (n / 128))
   by_cases c:n<128
   ·rw [if_pos c,if_pos c]
   ·rw [if_neg c,if_neg c,ih (n / 128) (Zbs (by rw [← ZbY];exact h))]
theorem UC {n:Nat}(h:n≤most):yD n=jK 7 n:=by
 rcases YK 8 n (by unfold most at h;omega) with e|e
 ·exact e
 ·cases e
theorem aia {n:Nat}(h:n≤most)(rest:List Nat):dA (yD n++rest)=(0,n,(yD n).length):=by
 rw [UC h]
 have:=Qr 7 n 0 0 rest (by unfold most at h;omega) (fun e=>absurd e (Nat.lt_irrefl _)) (by simpa using h)
 simpa [dA] using this
def vM (l:List Nat)(m i:Nat):List Nat:=l++(yD m).take i
theorem YL (l:List Nat)(m:Nat):vM l m 0=l:=by simp [vM]
theorem YM {m i:Nat}(l:List Nat)(h:m≤most)(hi:i<tJ m):vM l m (i+1)=vM l m i++[m / 128 ^ i % 128+128]:=by
 unfold vM;rw [YJ h hi,Zan]
theorem Qs (l:List Nat)(m i:Nat):(vM l m i).length≤l.length+9:=by
 have:=Qp m
 unfold vM;rw [zp,Zam];omega
theorem YN {m:Nat}(l:List Nat)(h:m≤most):vM l m (tJ m)++[m / 128 ^ tJ m]=l++yD m:=by
 unfold vM
 rw [Zan,← (BU h).2]
theorem anG {x:Nat}(h:x<128):IntKind.u8.wrap ((Zas IntKind.u8.bits (x:Int) ||| Zas IntKind.u8.bits 128).toNat:Int)=((x+128:Nat):Int):=by
 have key:∀ x:Fin 128,IntKind.u8.wrap ((Zas IntKind.u8.bits ((x.val:Nat):Int) ||| Zas IntKind.u8.bits 128).toNat:Int)=((x.val+128:Nat):Int):=by decide +kernel
 exact key ⟨x,h⟩
theorem aep {x:Nat}(h:x<256):IntKind.u8.wrap (x:Int)=(x:Int):=by
 simp only [IntKind.wrap,IntKind.bits,IntKind.signed,ZaX,zm,if_false]
 omega
theorem aer (x:Nat):((x:Nat):Int).tmod 128=((x % 128:Nat):Int):=by rw [Zaq (by omega)];omega
theorem aes (m i:Nat):((m / 128 ^ i:Nat):Int).tdiv 128=((m / 128 ^ (i+1):Nat):Int):=by
 rw [Zc2,← Zcu]
 generalize m / 128 ^ i=q
 rw [Zbg (by omega)];omega
theorem aib {q:Nat}(h:q≤most):IntKind.i64.wrap (q:Int)=(q:Int):=aF (by unfold most at h;omega)
theorem anH:((128:Int)=0)=False:=eq_false (by decide)
theorem alA (m i:Nat):m / 128 ^ i≤m:=Nat.div_le_self _ _
theorem aic {l:List Nat}{m:Nat}(hm:m≤most)(hl:l.length≤1000000){st:St}(h:st.head [0,1,21] st.boxes.length=some ⟨sl 27 [(0,.row 1 ((vM l m ((0:Nat))).map eY)),(1,.pv (.int .i64 ((m / 128 ^ ((0:Nat)):Nat):Int))),(21,.any)],[],[],none⟩) :
  den env FW st=some (.normal,⟨sl 27 [(0,.row 1 ((vM l m (tJ m)).map eY)),(1,.pv (.int .i64 ((m / 128 ^ tJ m:Nat):Int))),(4,.any)],[],[],none⟩):=by
 unfold FW
 refine dL (env:=env) (tJ m) (fun i=>⟨sl 27 [(0,.row 1 ((vM l m (i)).map eY)),(1,.pv (.int .i64 ((m / 128 ^ (i):Nat):Int))),(21,.any)],[],[],none⟩) (fun i=>some (.normal,⟨sl 27 [(0,.row 1 ((vM l m (tJ m)).map eY)),(1,.pv (.int .i64 ((m / 128 ^ tJ m:Nat):Int))),(4,.any)],[],[],none⟩)) h (fun _=>rfl) (fun _=>by simp only [aG,dN,Nat.reduceMul,Nat.reduceBEq,Nat.reduceLT,Nat.reduceLeDiff,Nat.reduceAdd,decide_true,Zal,Zai]) ?_ ?_
 ·intro i rb hi ih
  obtain ⟨q1,_⟩:=VD hm hi
  have F1:(((m / 128 ^ i:Nat):Int) ≥ 128)=True:=eq_true (by omega)
  have F2:=aer (m / 128 ^ i)
  have hx:m / 128 ^ i % 128<128:=Zbl _ (by decide)
  have F3:=aep (x:=m / 128 ^ i % 128) (by omega)
  have F4:=anG hx
  have F5:=aes m i
  have hd:=alA m (i+1)
  have F6:=aib (Zaa hd hm)
  have F7:((vM l m i).length+1≤lim)=True:=eq_true (by have:=Qs l m i;unfold lim;omega)
  have hs:(vM l m (i+1)).map eY=(vM l m i).map eY++[.int .u8 ((m / 128 ^ i % 128+128:Nat):Int)]:=by rw [YM l hm hi,ZaH];rfl
  simp only [FV,F1,F2,F3,F4,F5,F6,F7,anH,za,aC,Nat.reduceMul,Nat.reduceBEq,Nat.reduceLT,Nat.reduceLeDiff,reduceCtorEq,Nat.reduceEqDiff,Nat.reduceAdd,zb]
  rw [ih _ (by rw [hs];simp only [aC,Nat.reduceMul,Nat.reduceBEq,Nat.reduceLT,Nat.reduceLeDiff,reduceCtorEq,Nat.reduceEqDiff,Nat.reduceAdd,zb]<;>rfl)]
 ·intro rb
  have F1:(((m / 128 ^ tJ m:Nat):Int) ≥ 128)=False:=eq_false (by have:=(BU hm).1;omega)
  simp only [FV,F1,aC,Nat.reduceMul,Nat.reduceBEq,Nat.reduceLT,Nat.reduceLeDiff,reduceCtorEq,Nat.reduceEqDiff,Nat.reduceAdd,zb]
theorem MB {l:List Nat}{n:Int}(hl:l.length≤1000000):wL env 244 (.row 1 (l.map eY)) [.int .i64 n]=some ([(.list 1 ((l++encI n).map eY),true)],none):=by
 have hc:=ah9 n
 have key:∀ {st:St},st.head [0,1,21] st.boxes.length=some ⟨sl 27 [(0,.row 1 (l.map eY)),(1,.pv (.int .i64 ((jI n:Nat):Int))),(21,.any)],[],[],none⟩→_:=fun {st} h=>aic (l:=l) (m:=jI n) hc hl (st:=st) (by rw [YL];simpa using h)
 have F8:=aep (x:=jI n / 128 ^ tJ (jI n)) (by have:=(BU hc).1;omega)
 have F9:((vM l (jI n) (tJ (jI n))).length+1≤lim)=True:=eq_true (by have:=Qs l (jI n) (tJ (jI n));unfold lim;omega)
 have hr:(l++encI n).map eY=(vM l (jI n) (tJ (jI n))).map eY++[.int .u8 ((jI n / 128 ^ tJ (jI n):Nat):Int)]:=by
  show (l++yD (jI n)).map eY=_
  rw [← YN l hc,ZaH];rfl
 rw [hr]
 rw [kE akP rfl]
 by_cases c0:n<0
 ·have F0:(n<0)=True:=eq_true c0
  have e0:jI n=0:=by unfold jI;rw [if_pos (.inl c0)]
  simp only [FX,aG,Nat.reduceBEq,Nat.reduceLeDiff,Nat.reduceAdd,zc,ze]
  simp only [F0,aC,Nat.reduceMul,Nat.reduceBEq,Nat.reduceLT,Nat.reduceLeDiff,reduceCtorEq,Nat.reduceEqDiff,Nat.reduceAdd,zb]
  rw [key (by rw [e0];simp only [aG,dN,Nat.reduceMul,Nat.reduceBEq,Nat.reduceLT,Nat.reduceLeDiff,Nat.reduceAdd,decide_true,Zal,Zai]<;>rfl)]
  simp only [F8,F9,za,aC,Nat.reduceMul,Nat.reduceBEq,Nat.reduceLT,Nat.reduceLeDiff,reduceCtorEq,Nat.reduceEqDiff,Nat.reduceAdd,zb]
 ·have F0:(n<0)=False:=eq_false c0
  by_cases c1:n > 9007199254740991
  ·have F1:(n > 9007199254740991)=True:=eq_true c1
   have e0:jI n=0:=by unfold jI;rw [if_pos (.inr c1)]
   simp only [FX,aG,Nat.reduceBEq,Nat.reduceLeDiff,Nat.reduceAdd,zc,ze]
   simp only [F0,F1,aC,Nat.reduceMul,Nat.reduceBEq,Nat.reduceLT,Nat.reduceLeDiff,reduceCtorEq,Nat.reduceEqDiff,Nat.reduceAdd,zb]
   rw [key (by rw [e0];simp only [aG,dN,Nat.reduceMul,Nat.reduceBEq,Nat.reduceLT,Nat.reduceLeDiff,Nat.reduceAdd,decide_true,Zal,Zai]<;>rfl)]
   simp only [F8,F9,za,aC,Nat.reduceMul,Nat.reduceBEq,Nat.reduceLT,Nat.reduceLeDiff,reduceCtorEq,Nat.reduceEqDiff,Nat.reduceAdd,zb]
  ·have F1:(n > 9007199254740991)=False:=eq_false c1
   have e0:((jI n:Nat):Int)=n:=by unfold jI;rw [if_neg (by omega)];omega
   simp only [FX,aG,Nat.reduceBEq,Nat.reduceLeDiff,Nat.reduceAdd,zc,ze]
   simp only [F0,F1,aC,Nat.reduceMul,Nat.reduceBEq,Nat.reduceLT,Nat.reduceLeDiff,reduceCtorEq,Nat.reduceEqDiff,Nat.reduceAdd,zb]
   rw [key (by rw [e0];simp only [aG,dN,Nat.reduceMul,Nat.reduceBEq,Nat.reduceLT,Nat.reduceLeDiff,Nat.reduceAdd,decide_true,Zal,Zai]<;>rfl)]
   simp only [F8,F9,za,aC,Nat.reduceMul,Nat.reduceBEq,Nat.reduceLT,Nat.reduceLeDiff,reduceCtorEq,Nat.reduceEqDiff,Nat.reduceAdd,zb]
def Iw:Nat→Nat→Nat→List Nat→Option (Nat×Nat×Nat)
 |0,_,_,_=>none
 |_+1,_,_,[]=>some (10,0,0)
 |k+1,i,n,b::l=>if b<128 then some (if (b=0∧0<i)∨most<n+b*128 ^ i then (3,0,0) else (0,n+b*128 ^ i,i+1)) else Iw k (i+1) (n+b % 128*128 ^ i) l
theorem UD:∀ (k i n:Nat) (l:List Nat),qP k i n l=(Iw k i n l).getD (3,0,0)
 |0,_,_,_=>rfl
 |_+1,_,_,[]=>rfl
 |k+1,i,n,b::l=>by
  unfold qP Iw
  by_cases c:b<128
  ·rw [if_pos c,if_pos c];rfl
  ·rw [if_neg c,if_neg c];exact UD k (i+1) _ l
def uQ (l:List Nat):Nat→Nat
 |0=>0
 |i+1=>uQ l i+l.getD i 0 % 128*128 ^ i
theorem VE (l:List Nat):∀ i,uQ l i<128 ^ i
 |0=>by simp [uQ]
 |i+1=>by
  have h:=VE l i
  have h2:l.getD i 0 % 128<128:=Zbl _ (by decide)
  have h3:l.getD i 0 % 128*128 ^ i≤127*128 ^ i:=Zag _ (by omega)
  unfold uQ
  rw [Zc2]
  omega
theorem anI {i:Nat}(h:i<8):128 ^ (i+1)≤72057594037927936:=by
 have:128 ^ (i+1)≤128 ^ 8:=Zdp (by decide) (by omega)
 exact Zaa this (by decide)
theorem MC (i:Nat):128 ^ i=2 ^ (7*i):=by rw [Nat.pow_mul]
theorem aeu (f:Nat){b:Nat}(h:b<256):IntKind.u8.wrap ((Zas IntKind.u8.bits (b:Int) &&& Zas IntKind.u8.bits 127).toNat:Int)=((b % 128:Nat):Int):=by
 have key:∀ x:Fin 256,IntKind.u8.wrap ((Zas IntKind.u8.bits ((x.val:Nat):Int) &&& Zas IntKind.u8.bits 127).toNat:Int)=((x.val % 128:Nat):Int):=by decide +kernel
 exact key ⟨b,h⟩
theorem aev {b:Nat}(h:b<256):(IntKind.u8.wrap ((Zas IntKind.u8.bits (b:Int) &&& Zas IntKind.u8.bits 128).toNat:Int) != 0)=decide (128≤b):=by
 have key:∀ x:Fin 256,(IntKind.u8.wrap ((Zas IntKind.u8.bits ((x.val:Nat):Int) &&& Zas IntKind.u8.bits 128).toNat:Int) != 0)=decide (128≤x.val):=by decide +kernel
 exact key ⟨b,h⟩
theorem aie {x i:Nat}(hx:x<128)(hi:i<8):IntKind.i64.wrap ((x:Int)*2 ^ (min (7*(i:Int)).toNat IntKind.i64.bits))=((x*128 ^ i:Nat):Int):=by
 have h1:(7*(i:Int)).toNat=7*i:=by omega
 have h2:min (7*i) IntKind.i64.bits=7*i:=Za4 (by show 7*i≤64;omega)
 have h3:=anI hi
 have h4:x*128 ^ i≤127*128 ^ i:=Zag _ (by omega)
 rw [Zc2] at h3
 rw [h1,h2]
 have h5:(x:Int)*2 ^ (7*i)=((x*128 ^ i:Nat):Int):=by rw [MC];push_cast;rfl
 rw [h5]
 exact aF (by omega)
theorem alB {a x i:Nat}(ha:a<128 ^ i)(hx:x<128)(hi:i<8):IntKind.i64.wrap ((Zas IntKind.i64.bits (a:Int) ||| Zas IntKind.i64.bits ((x*128 ^ i:Nat):Int)).toNat:Int)=((a+x*128 ^ i:Nat):Int):=by
 have h3:=anI hi
 have h4:x*128 ^ i≤127*128 ^ i:=Zag _ (by omega)
 rw [Zc2] at h3
 have e1:(Zas IntKind.i64.bits (a:Int))=Zch 64 a:=Zdr 64 a
 have e2:(Zas IntKind.i64.bits ((x*128 ^ i:Nat):Int))=Zch 64 (x*128 ^ i):=Zdr 64 _
 have e3:(Zch 64 a ||| Zch 64 (x*128 ^ i)).toNat=a+x*128 ^ i:=by
  rw [BitVec.toNat_or,ZdE,ZdE,Zb7 (by omega),Zb7 (by omega),Nat.or_comm,Nat.mul_comm x,MC,← Nat.two_pow_add_eq_or_of_lt (by rw [← MC];exact ha),Nat.add_comm]
 rw [e1,e2]
 show IntKind.i64.wrap (((Zch 64 a ||| Zch 64 (x*128 ^ i)).toNat:Nat):Int)=_
 rw [e3]
 exact aF (by omega)
def aif (l:List Nat):Option (Nat×Nat×Nat)→Option (Ex×St)
 |none=>some (.normal,⟨sl 57 [(2,.any),(3,.any)],[⟨false,[.pv (.list 1 (l.map eY))]⟩],[],none⟩)
 |some (e,n,u)=>some (.ret,⟨sl 57 [(2,.pv (.int .i64 (n:Int))),(3,.pv (.int .i64 (e:Int)))],[⟨false,[.pv (.list 1 ((l.drop u).map eY))]⟩],[],none⟩)
theorem JV (l:List Nat):aif l none=some (.normal,⟨sl 57 [(2,.any),(3,.any)],[⟨false,[.pv (.list 1 (l.map eY))]⟩],[],none⟩):=rfl
theorem nU (l:List Nat)(e n u:Nat):aif l (some (e,n,u))=some (.ret,⟨sl 57 [(2,.pv (.int .i64 (n:Int))),(3,.pv (.int .i64 (e:Int)))],[⟨false,[.pv (.list 1 ((l.drop u).map eY))]⟩],[],none⟩):=rfl
theorem aii {l:List Nat}(hb:∀ c∈l,c<256)(hl:l.length≤1000000){st:St}(h:st.head [0,4,7] st.boxes.length=some ⟨sl 57 [(0,.aP 0 0),(4,.pv (.int .i64 (uQ l ((0:Nat)):Int))),(7,.pv (.int .i64 (0:Nat)))],[⟨false,[.pv (.list 1 (l.map eY))]⟩],[],none⟩) :
  den env FT st=aif l (Iw (8 - ((0:Nat))) ((0:Nat)) (uQ l ((0:Nat))) (l.drop ((0:Nat)))):=by
 unfold FT
 refine dL (env:=env) (nb:=1) (8) (fun i=>⟨sl 57 [(0,.aP 0 0),(4,.pv (.int .i64 (uQ l (i):Int))),(7,.pv (.int .i64 i))],[⟨false,[.pv (.list 1 (l.map eY))]⟩],[],none⟩) (fun i=>aif l (Iw (8 - (i)) (i) (uQ l (i)) (l.drop (i)))) h (fun _=>rfl) (fun _=>by simp only [aG,dN,Nat.reduceMul,Nat.reduceBEq,Nat.reduceLT,Nat.reduceLeDiff,Nat.reduceAdd,decide_true,Zal,Zai]) ?_ ?_
 ·intro i rb hi ih
  have hi1:=dV hi (by unfold lim;omega)
  have F1:((i:Int)<8)=True:=eq_true (by omega)
  rw [show 8 - i=(7 - i)+1 by omega]
  by_cases c:i<l.length
  ·have F2:((i:Int) ≥ (l.length:Int))=False:=eq_false (by omega)
   have hbi:=hb _ (ZaD c)
   have e0:l.drop i=l[i]::l.drop (i+1):=Zah c
   have eg:l.getD i 0=l[i]:=by rw [Zaf,ZZ c];rfl
   have ha:=VE l i
   have hx:l[i] % 128<128:=Zbl _ (by decide)
   have F3:=aeu i hbi
   have F4:IntKind.i64.wrap ((l[i] % 128:Nat):Int)=((l[i] % 128:Nat):Int):=aF (by omega)
   have F5:IntKind.i64.wrap (7*(i:Int))=7*(i:Int):=aF (by omega)
   have F6:(7*(i:Int)<0)=False:=eq_false (by omega)
   have F7:=aie hx hi
   have F8:=alB ha hx hi
   have F9:=aev hbi
   have hs:uQ l (i+1)=uQ l i+l[i] % 128*128 ^ i:=by show uQ l i+l.getD i 0 % 128*128 ^ i=_;rw [eg]
   rw [← hs] at F8
   rw [e0]
   unfold Iw
   by_cases c2:l[i]<128
   ·rw [if_pos c2]
    rw [decide_eq_false (show ¬ 128≤l[i] by omega)] at F9
    have e5:uQ l i+l[i]*128 ^ i=uQ l (i+1):=by rw [hs,Zb7 c2]
    rw [e5]
    by_cases c3:l[i]=0∧0<i
    ·rw [if_pos (.inl c3)]
     have G1:((l[i]:Int)==0)=true:=by simp [c3.1]
     have G2:((i:Int) > 0)=True:=eq_true (by omega)
     simp only [mP,F1,F2,F3,F4,F5,F6,F7,F8,F9,G1,G2,eY,aB c,zd,ZZ c,Zak,za,nU,ZaK,aC,Nat.reduceMul,Nat.reduceBEq,Nat.reduceLT,Nat.reduceLeDiff,reduceCtorEq,Nat.reduceEqDiff,Nat.reduceAdd,zb]
     rfl
    ·by_cases c4:most<uQ l (i+1)
     ·rw [if_pos (.inr c4)]
      have G3:((uQ l (i+1):Int) > 9007199254740991)=True:=eq_true (by unfold most at c4;omega)
      by_cases c5:l[i]=0
      ·have G1:((l[i]:Int)==0)=true:=by simp [c5]
       have G2:((i:Int) > 0)=False:=eq_false (by omega)
       simp only [mP,F1,F2,F3,F4,F5,F6,F7,F8,F9,G1,G2,G3,eY,aB c,zd,ZZ c,Zak,za,nU,ZaK,aC,Nat.reduceMul,Nat.reduceBEq,Nat.reduceLT,Nat.reduceLeDiff,reduceCtorEq,Nat.reduceEqDiff,Nat.reduceAdd,zb]
       rfl
      ·have G1:((l[i]:Int)==0)=false:=by simp [c5]
       simp only [mP,F1,F2,F3,F4,F5,F6,F7,F8,F9,G1,G3,eY,aB c,zd,ZZ c,Zak,za,nU,ZaK,aC,Nat.reduceMul,Nat.reduceBEq,Nat.reduceLT,Nat.reduceLeDiff,reduceCtorEq,Nat.reduceEqDiff,Nat.reduceAdd,zb]
       rfl
     ·rw [if_neg (by omega)]
      have G3:((uQ l (i+1):Int) > 9007199254740991)=False:=eq_false (by unfold most at c4;omega)
      have hj:IntKind.i64.wrap ((i:Int)+1)=((i+1:Nat):Int):=by rw [aF (by omega)];omega
      have B1:(0≤((i+1:Nat):Int)∧((i+1:Nat):Int)≤(l.length:Int))=True:=eq_true (by omega)
      have B2:((i+1:Nat):Int).toNat=i+1:=by omega
      have B3:(0≤(l.length:Int)∧(l.length:Int)≤(l.length:Int))=True:=eq_true (by omega)
      have hdr:((l.map eY).drop (i+1)).take (l.length - (i+1))=(l.drop (i+1)).map eY:=by
       rw [← List.map_drop,← Zcv,Zby (by rw [ZaV];exact zg _)]
      by_cases c5:l[i]=0
      ·have G1:((l[i]:Int)==0)=true:=by simp [c5]
       have G2:((i:Int) > 0)=False:=eq_false (by omega)
       simp only [mP,F1,F2,F3,F4,F5,F6,F7,F8,F9,G1,G2,G3,hj,B1,B2,B3,hdr,bound,eY,aB c,zd,ZZ c,Zak,za,nU,aC,Nat.reduceMul,Nat.reduceBEq,Nat.reduceLT,Nat.reduceLeDiff,reduceCtorEq,Nat.reduceEqDiff,Nat.reduceAdd,zb]
       rfl
      ·have G1:((l[i]:Int)==0)=false:=by simp [c5]
       simp only [mP,F1,F2,F3,F4,F5,F6,F7,F8,F9,G1,G3,hj,B1,B2,B3,hdr,bound,eY,aB c,zd,ZZ c,Zak,za,nU,aC,Nat.reduceMul,Nat.reduceBEq,Nat.reduceLT,Nat.reduceLeDiff,reduceCtorEq,Nat.reduceEqDiff,Nat.reduceAdd,zb]
       rfl
   ·rw [if_neg c2]
    rw [decide_eq_true (show 128≤l[i] by omega)] at F9
    rw [← hs,show 7 - i=8 - (i+1) by omega]
    simp only [mP,F1,F2,F3,F4,F5,F6,F7,F8,F9,eY,aB c,zd,ZZ c,Zak,za,aC,Nat.reduceMul,Nat.reduceBEq,Nat.reduceLT,Nat.reduceLeDiff,reduceCtorEq,Nat.reduceEqDiff,Nat.reduceAdd,zb]
    rw [ih _ (by simp only [hi1,aC,Nat.reduceMul,Nat.reduceBEq,Nat.reduceLT,Nat.reduceLeDiff,reduceCtorEq,Nat.reduceEqDiff,Nat.reduceAdd,zb]<;>rfl)]
  ·have F2:((i:Int) ≥ (l.length:Int))=True:=eq_true (by omega)
   have e0:l.drop i=[]:=ZaS (by omega)
   rw [e0]
   unfold Iw
   simp only [mP,F1,F2,za,nU,ZaK,aC,Nat.reduceMul,Nat.reduceBEq,Nat.reduceLT,Nat.reduceLeDiff,reduceCtorEq,Nat.reduceEqDiff,Nat.reduceAdd,zb]
   rfl
 ·intro rb
  rw [ZbL]
  unfold Iw
  have F1:(((8:Nat):Int)<8)=False:=eq_false (by omega)
  simp only [mP,F1,JV,aC,Nat.reduceMul,Nat.reduceBEq,Nat.reduceLT,Nat.reduceLeDiff,reduceCtorEq,Nat.reduceEqDiff,Nat.reduceAdd,zb]
def dH (l:List Nat):List Nat:=l.drop (dA l).2.2
theorem YO {k i n:Nat}{l:List Nat}(h:Iw k i n l=none):qP k i n l=(3,0,0):=by rw [UD,h];rfl
theorem MF {l:List Nat}(hb:∀ c∈l,c<256)(hl:l.length≤1000000):wL env 238 (.box [.list 1 (l.map eY)]) []=some ([(.int .i64 ((dA l).2.1:Int),false),(.int .i64 ((dA l).1:Int),false)],some [.list 1 ((dH l).map eY)]):=by
 rw [kE akK rfl]
 simp only [PE,aG,Nat.reduceBEq,Nat.reduceLeDiff,Nat.reduceAdd,zc,ze]
 simp only [aC,Nat.reduceMul,Nat.reduceBEq,Nat.reduceLT,Nat.reduceLeDiff,reduceCtorEq,Nat.reduceEqDiff,Nat.reduceAdd,zb]
 have key:∀ {st:St},st.head [0,4,7] st.boxes.length=some ⟨sl 57 [(0,.aP 0 0),(4,.pv (.int .i64 ((uQ l 0:Nat):Int))),(7,.pv (.int .i64 (0:Nat)))],[⟨false,[.pv (.list 1 (l.map eY))]⟩],[],none⟩→_:=fun {st} h=>aii (l:=l) hb hl (st:=st) h
 rw [key (by simp only [aG,dN,Nat.reduceMul,Nat.reduceBEq,Nat.reduceLT,Nat.reduceLeDiff,Nat.reduceAdd,decide_true,Zal,Zai]<;>rfl)]
 unfold dH dA
 cases e:Iw 8 0 0 l with
 |none =>
  rw [YO e,show 8 - 0=8 from rfl,show uQ l 0=0 from rfl,ZaK,e,JV]
  simp only [aC,Nat.reduceMul,Nat.reduceBEq,Nat.reduceLT,Nat.reduceLeDiff,reduceCtorEq,Nat.reduceEqDiff,Nat.reduceAdd,zb]
  rfl
 |some q =>
  obtain ⟨x,n,u⟩:=q
  have:qP 8 0 0 l=(x,n,u):=by rw [UD,e];rfl
  rw [this,show 8 - 0=8 from rfl,show uQ l 0=0 from rfl,ZaK,e,nU]
  simp only [aC,Nat.reduceMul,Nat.reduceBEq,Nat.reduceLT,Nat.reduceLeDiff,reduceCtorEq,Nat.reduceEqDiff,Nat.reduceAdd,zb]
def kK (e:bH):List Nat:=encI e.start++encI e.count
theorem Qu (e:bH):(kK e).length≤18:=by
 have h1:=mX e.start
 have h2:=mX e.count
 unfold kK;rw [zp];omega
def zo (es:List bH):List Nat:=encI es.length++es.flatMap kK
def D5 (l:List Nat)(es:List bH)(i:Nat):List Nat:=l++encI es.length++(es.take i).flatMap kK
theorem aew (es:List bH):(es.flatMap kK).length≤18*es.length:=by
 induction es with
 |nil=>simp
 |cons e es ih=>have:=Qu e;simp only [List.flatMap_cons,zp,zc];omega
theorem aex (l:List Nat)(es:List bH)(i:Nat):(D5 l es i).length≤l.length+9+18*es.length:=by
 have h1:=mX es.length
 have h2:=aew (es.take i)
 have h3:(es.take i).length≤es.length:=List.length_take_le' _ _
 unfold D5;rw [zp,zp];omega
theorem YP (l:List Nat)(es:List bH):D5 l es 0=l++encI es.length:=by simp [D5]
theorem YQ (l:List Nat){es:List bH}{i:Nat}(h:i<es.length):D5 l es (i+1)=D5 l es i++kK es[i]:=by
 unfold D5
 rw [ZaF h,List.flatMap_append]
 simp [Zan]
theorem aey (l:List Nat)(es:List bH):D5 l es es.length=l++zo es:=by
 unfold D5 zo;rw [ZaW,Zan]
theorem alC {l:List Nat}{e:bH}(hl:l.length≤900000):wL env 247 (.row 1 (l.map eY)) [aZ e]=some ([(.list 1 ((l++kK e).map eY),true)],none):=by
 have h1:=mX e.start
 have e1:=MB (l:=l) (n:=e.start) (by omega)
 have e2:=MB (l:=l++encI e.start) (n:=e.count) (by rw [zp];omega)
 have eX:aZ e=.agg [.int .i64 e.start,.int .i64 e.count]:=rfl
 unfold kK
 rw [eX,← Zan]
 rw [kE akS rfl]
 simp only [PO,aG,Nat.reduceBEq,Nat.reduceLeDiff,Nat.reduceAdd,zc,ze]
 simp only [e1,e2,aC,Nat.reduceMul,Nat.reduceBEq,Nat.reduceLT,Nat.reduceLeDiff,reduceCtorEq,Nat.reduceEqDiff,Nat.reduceAdd,zb]
theorem aij {l:List Nat}{es:List bH}{gf:Nat}(hf:∀ {l:List Nat} {e:bH},l.length≤900000→wL env gf (.row 1 (l.map eY)) [aZ e]=some ([(.list 1 ((l++kK e).map eY),true)],none))(hl:l.length≤400000)(hes:es.length≤10000){st:St}(h:st.head [0,1,2,12,13,14,15,22] st.boxes.length=some ⟨sl 25 [(0,.row 1 ((D5 l es ((0:Nat))).map eY)),(1,.pv (.list 2 (es.map aZ))),(2,.pv (.func gf [])),(12,.any),(13,.pv (.list 2 (es.map aZ))),(14,.pv (.int .i64 es.length)),(15,.pv (.int .i64 (0:Nat))),(22,.any)],[],[],none⟩) :
  den env FZ st=some (.normal,⟨sl 25 [(0,.row 1 ((l++zo es).map eY)),(6,.any)],[],[],none⟩):=by
 unfold FZ
 refine dL (env:=env) (es.length) (fun i=>⟨sl 25 [(0,.row 1 ((D5 l es (i)).map eY)),(1,.pv (.list 2 (es.map aZ))),(2,.pv (.func gf [])),(12,.any),(13,.pv (.list 2 (es.map aZ))),(14,.pv (.int .i64 es.length)),(15,.pv (.int .i64 i)),(22,.any)],[],[],none⟩) (fun i=>some (.normal,⟨sl 25 [(0,.row 1 ((l++zo es).map eY)),(6,.any)],[],[],none⟩)) h (fun _=>rfl) (fun _=>by simp only [aG,dN,Nat.reduceMul,Nat.reduceBEq,Nat.reduceLT,Nat.reduceLeDiff,Nat.reduceAdd,decide_true,Zal,Zai]) ?_ ?_
 ·intro i rb hi ih
  have hi1:=dV hi (by unfold lim;omega)
  have F1:((i:Int)<(es.length:Int))=True:=eq_true (by omega)
  have e1:=hf (l:=D5 l es i) (e:=es[i]) (by have:=aex l es i;omega)
  rw [← YQ l hi] at e1
  have eX:aZ es[i]=.agg [.int .i64 es[i].start,.int .i64 es[i].count]:=rfl
  rw [eX] at e1
  simp only [FY,F1,e1,aZ,aB hi,zd,ZZ hi,Zak,za,aC,Nat.reduceMul,Nat.reduceBEq,Nat.reduceLT,Nat.reduceLeDiff,reduceCtorEq,Nat.reduceEqDiff,Nat.reduceAdd,zb]
  rw [ih _ (by simp only [hi1,aC,Nat.reduceMul,Nat.reduceBEq,Nat.reduceLT,Nat.reduceLeDiff,reduceCtorEq,Nat.reduceEqDiff,Nat.reduceAdd,zb]<;>rfl)]
 ·intro rb
  rw [aey]
  simp only [FY,ZaL,aC,Nat.reduceMul,Nat.reduceBEq,Nat.reduceLT,Nat.reduceLeDiff,reduceCtorEq,Nat.reduceEqDiff,Nat.reduceAdd,zb]
theorem alD {l:List Nat}{es:List bH}{gf:Nat}(hf:∀ {l:List Nat} {e:bH},l.length≤900000→wL env gf (.row 1 (l.map eY)) [aZ e]=some ([(.list 1 ((l++kK e).map eY),true)],none))(hl:l.length≤400000)(hes:es.length≤10000) :
  wL env 246 (.row 1 (l.map eY)) [.list 2 (es.map aZ),.func gf []]=some ([(.list 1 ((l++zo es).map eY),true)],none):=by
 have e1:=MB (l:=l) (n:=es.length) (by omega)
 rw [kE akR rfl]
 simp only [PN,aG,Nat.reduceBEq,Nat.reduceLeDiff,Nat.reduceAdd,zc,ze]
 simp only [e1,za,aC,Nat.reduceMul,Nat.reduceBEq,Nat.reduceLT,Nat.reduceLeDiff,reduceCtorEq,Nat.reduceEqDiff,Nat.reduceAdd,zb]
 rw [aij (l:=l) (es:=es) (gf:=gf) hf hl hes]
 rotate_left
 ·rw [YP]
  simp only [aG,dN,Nat.reduceMul,Nat.reduceBEq,Nat.reduceLT,Nat.reduceLeDiff,Nat.reduceAdd,decide_true,Zal,Zai]<;>rfl
 ·simp only [aC,Nat.reduceMul,Nat.reduceBEq,Nat.reduceLT,Nat.reduceLeDiff,reduceCtorEq,Nat.reduceEqDiff,Nat.reduceAdd,zb]
theorem MG {es:List PV}(hl:es.length≤lim):cal env 245 [.list 1 es]=some [(.list 1 es,true)]:=(Ag akQ).trans (if_pos ⟨rfl,hl⟩)
theorem aez {l:List Nat}{n:Int}(hl:l.length≤1000000):cal env 182 [.list 1 (l.map eY),.int .i64 n]=some [(.list 1 ((l++encI n).map eY),true)]:=by
 have e0:=MG (es:=l.map eY) (by rw [za];unfold lim;omega)
 have e1:=MB (l:=l) (n:=n) hl
 rw [ak akC rfl];simp only [Pn,aG,Nat.reduceBEq,Nat.reduceLeDiff,Nat.reduceAdd,zc,ze]
 simp only [e0,e1,aC,Nat.reduceMul,Nat.reduceBEq,Nat.reduceLT,Nat.reduceLeDiff,reduceCtorEq,Nat.reduceEqDiff,Nat.reduceAdd,zb]
theorem alE {l:List Nat}{es:List bH}(hl:l.length≤400000)(hes:es.length≤10000):cal env 183 [.list 1 (l.map eY),.list 2 (es.map aZ)]=some [(.list 1 ((l++zo es).map eY),true)]:=by
 have e0:=MG (es:=l.map eY) (by rw [za];unfold lim;omega)
 have e1:=alD (l:=l) (es:=es) (gf:=247) (fun {l e} h=>alC h) hl hes
 rw [ak akD rfl];simp only [Po,aG,Nat.reduceBEq,Nat.reduceLeDiff,Nat.reduceAdd,zc,ze]
 simp only [e0,e1,aC,Nat.reduceMul,Nat.reduceBEq,Nat.reduceLT,Nat.reduceLeDiff,reduceCtorEq,Nat.reduceEqDiff,Nat.reduceAdd,zb]
theorem oI {l:List Nat}{c:Nat}(h:c∈dH l):c∈l:=List.mem_of_mem_drop h
theorem jA (l:List Nat):(dH l).length≤l.length:=by unfold dH;rw [ZaV];omega
theorem JW:∀ (k i n:Nat) (l:List Nat),(qP k i n l).1≠0→(qP k i n l).2.1=0
 |0,_,_,_,_=>rfl
 |_+1,_,_,[],_=>rfl
 |k+1,i,n,b::l,hne=>by
  unfold qP at hne ⊢
  by_cases c:b<128
  ·rw [if_pos c] at hne ⊢
   by_cases c2:(b=0∧0<i)∨most<n+b*128 ^ i
   ·rw [if_pos c2]
   ·rw [if_neg c2] at hne;exact absurd rfl hne
  ·rw [if_neg c] at hne ⊢;exact JW k _ _ _ hne
theorem JX {l:List Nat}(h:(dA l).1≠0):(dA l).2.1=0:=JW 8 0 0 l h
theorem JY (l:List Nat):(dA l).2.1≤most:=by
 by_cases h:(dA l).1=0
 ·exact (JU h).2.2
 ·rw [JX h];exact ZaG _
def Iy (l:List Nat):Nat:=if (dA l).1=0∧65536<(dA l).2.1 then 5 else (dA l).1
theorem alF {l:List Nat}(hb:∀ c∈l,c<256)(hl:l.length≤1000000):wL env 268 (.box [.list 1 (l.map eY)]) []=some ([(.int .i64 ((dA l).2.1:Int),false),(.int .i64 (Iy l:Int),false)],some [.list 1 ((dH l).map eY)]):=by
 have e1:=MF hb hl
 unfold Iy
 rw [kE akZ rfl]
 simp only [P8,aG,Nat.reduceBEq,Nat.reduceLeDiff,Nat.reduceAdd,zc,ze]
 by_cases c:(dA l).1=0
 ·rw [c] at e1
  have G1:(((0:Nat):Int)==0)=true:=rfl
  by_cases c2:65536<(dA l).2.1
  ·have F1:(((dA l).2.1:Int) > 65536)=True:=eq_true (by omega)
   rw [if_pos ⟨c,c2⟩]
   simp only [e1,G1,F1,aC,Nat.reduceMul,Nat.reduceBEq,Nat.reduceLT,Nat.reduceLeDiff,reduceCtorEq,Nat.reduceEqDiff,Nat.reduceAdd,zb]
   rfl
  ·have F1:(((dA l).2.1:Int) > 65536)=False:=eq_false (by omega)
   rw [if_neg (by omega),c]
   simp only [e1,G1,F1,aC,Nat.reduceMul,Nat.reduceBEq,Nat.reduceLT,Nat.reduceLeDiff,reduceCtorEq,Nat.reduceEqDiff,Nat.reduceAdd,zb]
 ·have G1:(((dA l).1:Int)==0)=false:=by simp [c]
  rw [if_neg (by omega)]
  simp only [e1,G1,aC,Nat.reduceMul,Nat.reduceBEq,Nat.reduceLT,Nat.reduceLeDiff,reduceCtorEq,Nat.reduceEqDiff,Nat.reduceAdd,zb]
def fE (l:List Nat):Nat×bH×List Nat:=if (dA l).1=0 then ((dA (dH l)).1,⟨((dA l).2.1:Int),((dA (dH l)).2.1:Int)⟩,dH (dH l)) else ((dA l).1,⟨0,0⟩,dH l)
theorem YR {l:List Nat}{c:Nat}(h:c∈(fE l).2.2):c∈l:=by
 unfold fE at h
 split at h
 ·exact oI (oI h)
 ·exact oI h
theorem JZ (l:List Nat):(fE l).2.2.length≤l.length:=by
 have h1:=jA l
 have h2:=jA (dH l)
 unfold fE
 split<;>simp only<;>omega
theorem alG {l:List Nat}(hb:∀ c∈l,c<256)(hl:l.length≤1000000):wL env 269 (.box [.list 1 (l.map eY)]) []=some ([(.int .i64 (fE l).2.1.start,false),(.int .i64 (fE l).2.1.count,false),(.int .i64 ((fE l).1:Int),false)],some [.list 1 ((fE l).2.2.map eY)]):=by
 have e1:=MF hb hl
 have e2:=MF (l:=dH l) (fun c h=>hb c (oI h)) (Zaa (jA l) hl)
 unfold fE
 rw [kE ak0 rfl]
 simp only [P9,aG,Nat.reduceBEq,Nat.reduceLeDiff,Nat.reduceAdd,zc,ze]
 by_cases c:(dA l).1=0
 ·rw [c] at e1
  have G1:(((0:Nat):Int) != 0)=false:=rfl
  rw [if_pos c]
  simp only [e1,e2,G1,aC,Nat.reduceMul,Nat.reduceBEq,Nat.reduceLT,Nat.reduceLeDiff,reduceCtorEq,Nat.reduceEqDiff,Nat.reduceAdd,zb]
 ·have G1:(((dA l).1:Int) != 0)=true:=by simp [c]
  rw [if_neg c]
  simp only [e1,G1,aC,Nat.reduceMul,Nat.reduceBEq,Nat.reduceLT,Nat.reduceLeDiff,reduceCtorEq,Nat.reduceEqDiff,Nat.reduceAdd,zb]
theorem alH {l:List Nat}(hb:∀ c∈l,c<256)(hl:l.length≤1000000):wL env 242 (.box [.list 1 (l.map eY)]) []=some ([(aZ (fE l).2.1,false),(.int .i64 ((fE l).1:Int),false)],some [.list 1 ((fE l).2.2.map eY)]):=by
 have e1:=alG hb hl
 unfold aZ
 rw [kE akN rfl]
 simp only [PK,aG,Nat.reduceBEq,Nat.reduceLeDiff,Nat.reduceAdd,zc,ze]
 simp only [e1,aC,Nat.reduceMul,Nat.reduceBEq,Nat.reduceLT,Nat.reduceLeDiff,reduceCtorEq,Nat.reduceEqDiff,Nat.reduceAdd,zb]
def vN:Nat→List Nat→List bH→Nat×List bH×List Nat
 |0,l,acc=>(0,acc,l)
 |k+1,l,acc=>if (fE l).1=0 then vN k (fE l).2.2 (acc++[(fE l).2.1]) else ((fE l).1,acc,(fE l).2.2)
def xg (l:List Nat):Nat→List Nat
 |0=>l
 |i+1=>(fE (xg l i)).2.2
def BX (l:List Nat)(i:Nat):List bH:=(ZaC i).map fun j=>(fE (xg l j)).2.1
theorem YS (l:List Nat)(i:Nat):BX l (i+1)=BX l i++[(fE (xg l i)).2.1]:=by simp [BX,ZcF]
theorem aeA (l:List Nat)(i:Nat):(BX l i).length=i:=by simp [BX]
theorem Qv {l:List Nat}{c:Nat}:∀ {i:Nat},c∈xg l i→c∈l
 |0,h=>h
 |i+1,h=>Qv (i:=i) (YR h)
theorem Qw (l:List Nat):∀ i,(xg l i).length≤l.length
 |0=>zg _
 |i+1=>Zaa (JZ _) (Qw l i)
def aeB (n:Nat)(q:Nat×List bH×List Nat):Option (Ex×St) :=
 if q.1=0 then some (.normal,⟨sl n [(4,.any),(5,.any),(8,.row 2 (q.2.1.map aZ))],[⟨false,[.pv (.list 1 (q.2.2.map eY))]⟩],[],none⟩)
 else some (.ret,⟨sl n [(4,.row 2 []),(5,.pv (.int .i64 (q.1:Int))),(8,.row 2 (q.2.1.map aZ))],[⟨false,[.pv (.list 1 (q.2.2.map eY))]⟩],[],none⟩)
theorem aik {l:List Nat}{n gf:Nat}(hf:∀ {l:List Nat},(∀ c∈l,c<256)→l.length≤1000000→wL env gf (.box [.list 1 (l.map eY)]) []=some ([(aZ (fE l).2.1,false),(.int .i64 ((fE l).1:Int),false)],some [.list 1 ((fE l).2.2.map eY)]))(hb:∀ c∈l,c<256)(hl:l.length≤1000000)(hn:n≤65536){st:St}(h:st.head [0,1,8,19,20,34] st.boxes.length=some ⟨sl 37 [(0,.aP 0 0),(1,.pv (.func gf [])),(8,.row 2 ((BX l ((0:Nat))).map aZ)),(19,.pv (.int .i64 n)),(20,.pv (.int .i64 (0:Nat))),(34,.any)],[⟨false,[.pv (.list 1 ((xg l ((0:Nat))).map eY))]⟩],[],none⟩) :
  den env FU st=aeB 37 (vN (n - ((0:Nat))) (xg l ((0:Nat))) (BX l ((0:Nat)))):=by
 unfold FU
 refine dL (env:=env) (nb:=1) (n) (fun i=>⟨sl 37 [(0,.aP 0 0),(1,.pv (.func gf [])),(8,.row 2 ((BX l (i)).map aZ)),(19,.pv (.int .i64 n)),(20,.pv (.int .i64 i)),(34,.any)],[⟨false,[.pv (.list 1 ((xg l (i)).map eY))]⟩],[],none⟩) (fun i=>aeB 37 (vN (n - (i)) (xg l (i)) (BX l (i)))) h (fun _=>rfl) (fun _=>by simp only [aG,dN,Nat.reduceMul,Nat.reduceBEq,Nat.reduceLT,Nat.reduceLeDiff,Nat.reduceAdd,decide_true,Zal,Zai]) ?_ ?_
 ·intro i rb hi ih
  have hi1:=dV hi (by unfold lim;omega)
  have F1:((i:Int)<(n:Int))=True:=eq_true (by omega)
  have e1:=hf (l:=xg l i) (fun c h=>hb c (Qv h)) (Zaa (Qw l i) hl)
  have hr:xg l (i+1)=(fE (xg l i)).2.2:=rfl
  have hacc:=YS l i
  have F3:((BX l i).length+1≤lim)=True:=eq_true (by rw [aeA];unfold lim;omega)
  rw [show n - i=(n - (i+1))+1 by omega]
  unfold vN
  by_cases c:(fE (xg l i)).1=0
  ·rw [if_pos c,← hr,← hacc]
   rw [c,← hr] at e1
   have G1:(((0:Nat):Int) != 0)=false:=rfl
   have hs:(BX l (i+1)).map aZ=(BX l i).map aZ++[.agg [.int .i64 (fE (xg l i)).2.1.start,.int .i64 (fE (xg l i)).2.1.count]]:=by rw [hacc,ZaH];rfl
   unfold aZ at e1
   simp only [Au,F1,F3,e1,G1,za,xY,aC,Nat.reduceMul,Nat.reduceBEq,Nat.reduceLT,Nat.reduceLeDiff,reduceCtorEq,Nat.reduceEqDiff,Nat.reduceAdd,zb]
   rw [ih _ (by rw [hs];simp only [hi1,aC,Nat.reduceMul,Nat.reduceBEq,Nat.reduceLT,Nat.reduceLeDiff,reduceCtorEq,Nat.reduceEqDiff,Nat.reduceAdd,zb]<;>rfl)]
  ·rw [if_neg c]
   unfold aeB
   rw [if_neg c]
   have G1:(((fE (xg l i)).1:Int) != 0)=true:=by simp [c]
   unfold aZ at e1
   simp only [Au,F1,F3,e1,G1,za,xY,aC,Nat.reduceMul,Nat.reduceBEq,Nat.reduceLT,Nat.reduceLeDiff,reduceCtorEq,Nat.reduceEqDiff,Nat.reduceAdd,zb]
 ·intro rb
  rw [ZbL]
  unfold vN aeB
  rw [if_pos rfl]
  simp only [Au,ZaL,aC,Nat.reduceMul,Nat.reduceBEq,Nat.reduceLT,Nat.reduceLeDiff,reduceCtorEq,Nat.reduceEqDiff,Nat.reduceAdd,zb]
def aeC (q:Nat×List bH×List Nat):Nat×List bH×List Nat:=(q.1,if q.1=0 then q.2.1 else [],q.2.2)
def iO (l:List Nat):Nat×List bH×List Nat:=if Iy l=0 then aeC (vN (dA l).2.1 (dH l) []) else (Iy l,[],dH l)
theorem J3 {l:List Nat}(h:Iy l=0):(dA l).1=0∧(dA l).2.1≤65536:=by
 unfold Iy at h
 split at h
 ·cases h
 ·omega
theorem alI {l:List Nat}{gf:Nat}(hf:∀ {l:List Nat},(∀ c∈l,c<256)→l.length≤1000000→wL env gf (.box [.list 1 (l.map eY)]) []=some ([(aZ (fE l).2.1,false),(.int .i64 ((fE l).1:Int),false)],some [.list 1 ((fE l).2.2.map eY)]))(hb:∀ c∈l,c<256)(hl:l.length≤1000000) :
  wL env 241 (.box [.list 1 (l.map eY)]) [.func gf []]=some ([(.list 2 ((iO l).2.1.map aZ),true),(.int .i64 ((iO l).1:Int),false)],some [.list 1 ((iO l).2.2.map eY)]):=by
 have e1:=alF hb hl
 unfold iO
 rw [kE akM rfl]
 simp only [PI,aG,Nat.reduceBEq,Nat.reduceLeDiff,Nat.reduceAdd,zc,ze]
 by_cases c:Iy l=0
 ·rw [if_pos c]
  rw [c] at e1
  have G1:(((0:Nat):Int) != 0)=false:=rfl
  simp only [e1,G1,aC,Nat.reduceMul,Nat.reduceBEq,Nat.reduceLT,Nat.reduceLeDiff,reduceCtorEq,Nat.reduceEqDiff,Nat.reduceAdd,zb]
  rw [aik (l:=dH l) (n:=(dA l).2.1) (gf:=gf) hf (fun c h=>hb c (oI h)) (Zaa (jA l) hl) (J3 c).2]
  rotate_left
  ·simp only [aG,dN,Nat.reduceMul,Nat.reduceBEq,Nat.reduceLT,Nat.reduceLeDiff,Nat.reduceAdd,decide_true,Zal,Zai]<;>rfl
  ·rw [Nat.sub_zero,show xg (dH l) 0=dH l from rfl,show BX (dH l) 0=[] from rfl]
   unfold aeB aeC
   by_cases c2:(vN (dA l).2.1 (dH l) []).1=0
   ·rw [if_pos c2,if_pos c2,c2]
    simp only [za,aC,Nat.reduceMul,Nat.reduceBEq,Nat.reduceLT,Nat.reduceLeDiff,reduceCtorEq,Nat.reduceEqDiff,Nat.reduceAdd,zb]
    rfl
   ·rw [if_neg c2,if_neg c2,Zav]
    simp only [aC,Nat.reduceMul,Nat.reduceBEq,Nat.reduceLT,Nat.reduceLeDiff,reduceCtorEq,Nat.reduceEqDiff,Nat.reduceAdd,zb]
 ·rw [if_neg c]
  have G1:((Iy l:Int) != 0)=true:=by simp [c]
  simp only [e1,G1,aC,Nat.reduceMul,Nat.reduceBEq,Nat.reduceLT,Nat.reduceLeDiff,reduceCtorEq,Nat.reduceEqDiff,Nat.reduceAdd,zb]
theorem alJ {l:List Nat}(hb:∀ c∈l,c<256)(hl:l.length≤1000000):cal env 237 [.list 1 (l.map eY),.func 238 []]=some [(.int .i64 ((dA l).2.1:Int),false),(.list 1 ((if (dA l).1=0 then dH l else []).map eY),true),(.int .i64 ((dA l).1:Int),false)]:=by
 have e1:=MF hb hl
 have e2:=MG (es:=(dH l).map eY) (by have:=jA l;rw [za];unfold lim;omega)
 by_cases c:(dA l).1=0
 ·rw [if_pos c]
  rw [c] at e1 ⊢
  have G1:(((0:Nat):Int) != 0)=false:=rfl
  rw [ak adn rfl];simp only [JE,aG,Nat.reduceBEq,Nat.reduceLeDiff,Nat.reduceAdd,zc,ze]
  simp only [e1,e2,G1,aC,Nat.reduceMul,Nat.reduceBEq,Nat.reduceLT,Nat.reduceLeDiff,reduceCtorEq,Nat.reduceEqDiff,Nat.reduceAdd,zb]
  rfl
 ·have G1:(((dA l).1:Int) != 0)=true:=by simp [c]
  have hz:(dA l).2.1=0:=by
   have:=JX c
   exact this
  rw [if_neg c,Zav]
  rw [hz] at e1 ⊢
  rw [ak adn rfl];simp only [JE,aG,Nat.reduceBEq,Nat.reduceLeDiff,Nat.reduceAdd,zc,ze]
  simp only [e1,G1,aC,Nat.reduceMul,Nat.reduceBEq,Nat.reduceLT,Nat.reduceLeDiff,reduceCtorEq,Nat.reduceEqDiff,Nat.reduceAdd,zb]
  rfl
theorem aeD {l:List Nat}(hb:∀ c∈l,c<256)(hl:l.length≤1000000):cal env 178 [.list 1 (l.map eY)]=some [(.int .i64 ((dA l).2.1:Int),false),(.list 1 ((if (dA l).1=0 then dH l else []).map eY),true),(.int .i64 ((dA l).1:Int),false)]:=by
 have e1:=alJ hb hl
 rw [ak akz rfl];simp only [Ph,aG,Nat.reduceBEq,Nat.reduceLeDiff,Nat.reduceAdd,zc,ze]
 simp only [e1,aC,Nat.reduceMul,Nat.reduceBEq,Nat.reduceLT,Nat.reduceLeDiff,reduceCtorEq,Nat.reduceEqDiff,Nat.reduceAdd,zb]
theorem alK {l:List Nat}(hb:∀ c∈l,c<256)(hl:l.length≤1000000):wL env 240 (.box [.list 1 (l.map eY)]) []=some ([(.list 2 ((iO l).2.1.map aZ),true),(.int .i64 ((iO l).1:Int),false)],some [.list 1 ((iO l).2.2.map eY)]):=by
 have e1:=alI (gf:=242) (fun {l} h1 h2=>alH h1 h2) hb hl
 rw [kE akL rfl]
 simp only [PG,aG,Nat.reduceBEq,Nat.reduceLeDiff,Nat.reduceAdd,zc,ze]
 simp only [e1,aC,Nat.reduceMul,Nat.reduceBEq,Nat.reduceLT,Nat.reduceLeDiff,reduceCtorEq,Nat.reduceEqDiff,Nat.reduceAdd,zb]
theorem Qx:∀ (k:Nat) (l:List Nat) (acc:List bH),(vN k l acc).2.2.length≤l.length∧(vN k l acc).2.1.length≤acc.length+k
 |0,l,acc=>⟨zg _,zg _⟩
 |k+1,l,acc=>by
  have h1:=JZ l
  unfold vN
  split
  ·have:=Qx k (fE l).2.2 (acc++[(fE l).2.1])
   rw [zp] at this
   simp only [zc,ze] at this
   omega
  ·simp only;omega
theorem aeE (l:List Nat):(iO l).2.2.length≤l.length∧(iO l).2.1.length≤65536:=by
 unfold iO aeC
 have h2:=jA l
 split
 ·rename_i h
  have h1:=Qx (dA l).2.1 (dH l) []
  have h3:=(J3 h).2
  simp only [ze] at h1
  refine ⟨by simp only;omega,?_⟩
  simp only
  split
  ·omega
  ·simp
 ·exact ⟨h2,by simp⟩
theorem alL {l:List Nat}(hb:∀ c∈l,c<256)(hl:l.length≤1000000):cal env 239 [.list 1 (l.map eY),.func 240 []]=some [(.list 2 ((if (iO l).1=0 then (iO l).2.1 else []).map aZ),true),(.list 1 ((if (iO l).1=0 then (iO l).2.2 else []).map eY),true),(.int .i64 ((iO l).1:Int),false)]:=by
 have e1:=alK hb hl
 have e2:=MG (es:=(iO l).2.2.map eY) (by have:=(aeE l).1;rw [za];unfold lim;omega)
 by_cases c:(iO l).1=0
 ·rw [if_pos c,if_pos c]
  rw [c] at e1 ⊢
  have G1:(((0:Nat):Int) != 0)=false:=rfl
  rw [ak ado rfl];simp only [JF,aG,Nat.reduceBEq,Nat.reduceLeDiff,Nat.reduceAdd,zc,ze]
  simp only [e1,e2,G1,za,aC,Nat.reduceMul,Nat.reduceBEq,Nat.reduceLT,Nat.reduceLeDiff,reduceCtorEq,Nat.reduceEqDiff,Nat.reduceAdd,zb]
  rfl
 ·have G1:(((iO l).1:Int) != 0)=true:=by simp [c]
  rw [if_neg c,if_neg c,Zav,Zav]
  rw [ak ado rfl];simp only [JF,aG,Nat.reduceBEq,Nat.reduceLeDiff,Nat.reduceAdd,zc,ze]
  simp only [e1,G1,za,aC,Nat.reduceMul,Nat.reduceBEq,Nat.reduceLT,Nat.reduceLeDiff,reduceCtorEq,Nat.reduceEqDiff,Nat.reduceAdd,zb]
theorem alM {l:List Nat}(hb:∀ c∈l,c<256)(hl:l.length≤1000000):cal env 179 [.list 1 (l.map eY)]=some [(.list 2 ((if (iO l).1=0 then (iO l).2.1 else []).map aZ),true),(.list 1 ((if (iO l).1=0 then (iO l).2.2 else []).map eY),true),(.int .i64 ((iO l).1:Int),false)]:=by
 have e1:=alL hb hl
 rw [ak akA rfl];simp only [Pj,aG,Nat.reduceBEq,Nat.reduceLeDiff,Nat.reduceAdd,zc,ze]
 simp only [e1,aC,Nat.reduceMul,Nat.reduceBEq,Nat.reduceLT,Nat.reduceLeDiff,reduceCtorEq,Nat.reduceEqDiff,Nat.reduceAdd,zb]
theorem GV {α:Type}{l:List α}{i:Nat}(h:i<l.length):l.take (i+1)=l.take i++[l[i]]:=by rw [ZaF h]
def okE (x:bH):Prop:=(-9223372036854775808≤x.start∧x.start≤9223372036854775807)∧(-9223372036854775808≤x.count∧x.count≤9223372036854775807)
def MH (l:List bH):Prop:=∀ x∈l,okE x
def vF (e:bH):Int:=max e.start 0
def Zw (e:bH):Int:=if e.start<0∨e.count<4096 - e.start then min (e.start+e.count) 4096 else 4096
def wX (e:bH):Int×Int×Bool:=if e.count≤0 then (0,0,false) else (vF e,Zw e,decide (vF e<Zw e))
def uh (e:bH)(s:Nat):Bool:=decide (0<e.count)&&(decide (e.start≤(s:Int))&&decide ((s:Int)<e.start+e.count))
def vk (l:List bH)(s:Nat):Bool:=l.any fun e=>uh e s
theorem MI {e:bH}(h:(wX e).2.2=true):∃ n m:Nat,wX e=((n:Int),(m:Int),true)∧n<m∧m≤4096∧∀ s:Nat,s<4096→(uh e s=true ↔ n≤s∧s<m):=by
 unfold wX at h ⊢
 by_cases c:e.count≤0
 ·rw [if_pos c] at h;cases h
 ·rw [if_neg c] at h ⊢
  have h2:vF e<Zw e:=by simpa using h
  have h3:0≤vF e:=by unfold vF;omega
  have h4:Zw e≤4096:=by unfold Zw;split<;>omega
  refine ⟨(vF e).toNat,(Zw e).toNat,?_,by omega,by omega,fun s hs=>?_⟩
  ·rw [Zbw h3,Zbw (by omega),decide_eq_true h2]
  ·unfold uh
   simp only [ZS,decide_eq_true_eq]
   have e1:(vF e).toNat≤s ↔ vF e≤(s:Int):=by omega
   have e2:s<(Zw e).toNat ↔ (s:Int)<Zw e:=by omega
   rw [e1,e2]
   unfold vF Zw
   split<;>omega
theorem aeF {e:bH}(h:(wX e).2.2=false){s:Nat}(hs:s<4096):uh e s=false:=by
 unfold wX at h
 by_cases c:e.count≤0
 ·unfold uh
  rw [decide_eq_false (by omega),ZaX]
 ·rw [if_neg c] at h
  have h2:¬ vF e<Zw e:=by simpa using h
  unfold uh
  cases hq:(decide (0<e.count)&&(decide (e.start≤(s:Int))&&decide ((s:Int)<e.start+e.count))) with
  |false=>rfl
  |true =>
   exfalso
   simp only [ZS,decide_eq_true_eq] at hq
   apply h2
   unfold vF Zw
   split<;>omega
theorem alN {e:bH}(ho:okE e):cal env 273 [aZ e]=some [(.int .i64 (wX e).1,false),(.int .i64 (wX e).2.1,false),(.bool (wX e).2.2,false)]:=by
 obtain ⟨⟨o1,o2⟩,o3,o4⟩:=ho
 unfold wX
 simp only [aZ]
 by_cases c:e.count≤0
 ·rw [if_pos c]
  rw [ak LX rfl];simp only [Dz,aG,Nat.reduceBEq,Nat.reduceLeDiff,Nat.reduceAdd,zc,ze]
  simp only [c,aC,Nat.reduceMul,Nat.reduceBEq,Nat.reduceLT,Nat.reduceLeDiff,reduceCtorEq,Nat.reduceEqDiff,Nat.reduceAdd,zb]
 ·rw [if_neg c]
  unfold vF Zw
  have hmin:min (e.start+e.count) 4096=if 4096<e.start+e.count then 4096 else e.start+e.count:=by split<;>omega
  by_cases c1:e.start<0
  ·have hmax:max e.start 0=0:=by omega
   rw [hmin,hmax]
   have W1:IntKind.i64.wrap (e.start+e.count)=e.start+e.count:=aF (by omega)
   rw [if_pos (.inl c1)]
   rw [ak LX rfl];simp only [Dz,aG,Nat.reduceBEq,Nat.reduceLeDiff,Nat.reduceAdd,zc,ze]
   simp only [c,c1,W1,aC,Nat.reduceMul,Nat.reduceBEq,Nat.reduceLT,Nat.reduceLeDiff,reduceCtorEq,Nat.reduceEqDiff,Nat.reduceAdd,zb]
  ·have hmax:max e.start 0=e.start:=by omega
   rw [hmin,hmax]
   have W2:IntKind.i64.wrap (4096 - e.start)=4096 - e.start:=aF (by omega)
   by_cases c2:e.count<4096 - e.start
   ·have W1:IntKind.i64.wrap (e.start+e.count)=e.start+e.count:=aF (by omega)
    rw [if_pos (.inr c2)]
    rw [ak LX rfl];simp only [Dz,aG,Nat.reduceBEq,Nat.reduceLeDiff,Nat.reduceAdd,zc,ze]
    simp only [c,c1,c2,W1,W2,aC,Nat.reduceMul,Nat.reduceBEq,Nat.reduceLT,Nat.reduceLeDiff,reduceCtorEq,Nat.reduceEqDiff,Nat.reduceAdd,zb]
   ·rw [if_neg (by omega)]
    rw [ak LX rfl];simp only [Dz,aG,Nat.reduceBEq,Nat.reduceLeDiff,Nat.reduceAdd,zc,ze]
    simp only [c,c1,c2,W2,aC,Nat.reduceMul,Nat.reduceBEq,Nat.reduceLT,Nat.reduceLeDiff,reduceCtorEq,Nat.reduceEqDiff,Nat.reduceAdd,zb]
def fJ (i:Nat)(l:List bH):List End:=l.flatMap fun e=>if (wX e).2.2 then [⟨(wX e).1.toNat,i,1⟩,⟨(wX e).2.1.toNat,i,-1⟩] else []
theorem GX (i:Nat)(l:List bH)(e:bH):fJ i (l++[e])=fJ i l++(if (wX e).2.2 then [⟨(wX e).1.toNat,i,1⟩,⟨(wX e).2.1.toNat,i,-1⟩] else []):=by simp [fJ]
theorem BZ (i:Nat):∀ l:List bH,(fJ i l).length≤2*l.length
 |[]=>zg _
 |e::l=>by
  have:=BZ i l
  have h:fJ i (e::l)=(if (wX e).2.2 then [⟨(wX e).1.toNat,i,1⟩,⟨(wX e).2.1.toNat,i,-1⟩] else [])++fJ i l:=by simp [fJ]
  rw [h,zp,zc]
  split<;>simp<;>omega
def cu:Nat→List (List bH)→List End
 |_,[]=>[]
 |i,l::ls=>fJ i l++cu (i+1) ls
theorem AP:∀ (ls:List (List bH)) (i:Nat) (l:List bH),cu i (ls++[l])=cu i ls++fJ (i+ls.length) l
 |[],i,l=>by simp [cu]
 |m::ls,i,l=>by
  simp only [Zbp,cu,AP ls (i+1) l,zc,Zan]
  rw [show i+1+ls.length=i+(ls.length+1) by omega]
theorem rQ {n:Nat}:∀ (ls:List (List bH)) (i:Nat),(∀ l∈ls,l.length≤n)→(cu i ls).length≤2*n*ls.length
 |[],i,_=>ZaG _
 |l::ls,i,h=>by
  have h1:=rQ ls (i+1) fun x hx=>h x (by simp [hx])
  have h2:=BZ i l
  have h3:=h l (by simp)
  simp only [cu,zp,zc]
  rw [Nat.mul_add]
  omega
set_option maxRecDepth 20000 in
theorem ail {D:PV}{l:List bH}{pre:List End}{v n:Nat}{q17:AV}(hq:q17=.pv (.list 2 (l.map aZ)))(ho:MH l)(hl:l.length≤100000)(hpre:pre.length≤10000000){st:St}(h:st.head [0,3,4,5,11,12,13,17,18,19,20,39] st.boxes.length=some ⟨sl 45 [(0,.pv D),(3,.row 3 ((pre++fJ v (l.take ((0:Nat)))).map iM)),(4,.pv (.int .i64 v)),(5,.pv (.list 2 (l.map aZ))),(11,.pv D),(12,.pv (.int .i64 n)),(13,.pv (.int .i64 v)),(17,.pv (.list 2 (l.map aZ))),(18,.pv (.list 2 (l.map aZ))),(19,.pv (.int .i64 l.length)),(20,.pv (.int .i64 (0:Nat))),(39,.any)],[],[],none⟩) :
  den env Gg st=some (.normal,⟨sl 45 [(0,.pv D),(2,.any),(3,.row 3 ((pre++fJ v l).map iM)),(11,.pv D),(12,.pv (.int .i64 n)),(13,.pv (.int .i64 v)),(39,.any)],[],[],none⟩):=by
 unfold Gg
 refine dL (env:=env) (l.length) (fun i=>⟨sl 45 [(0,.pv D),(3,.row 3 ((pre++fJ v (l.take (i))).map iM)),(4,.pv (.int .i64 v)),(5,.pv (.list 2 (l.map aZ))),(11,.pv D),(12,.pv (.int .i64 n)),(13,.pv (.int .i64 v)),(17,.pv (.list 2 (l.map aZ))),(18,.pv (.list 2 (l.map aZ))),(19,.pv (.int .i64 l.length)),(20,.pv (.int .i64 i)),(39,.any)],[],[],none⟩) (fun i=>some (.normal,⟨sl 45 [(0,.pv D),(2,.any),(3,.row 3 ((pre++fJ v l).map iM)),(11,.pv D),(12,.pv (.int .i64 n)),(13,.pv (.int .i64 v)),(39,.any)],[],[],none⟩)) h (fun _=>rfl) (fun _=>by simp only [aG,dN,Nat.reduceMul,Nat.reduceBEq,Nat.reduceLT,Nat.reduceLeDiff,Nat.reduceAdd,decide_true,Zal,Zai]) ?_ ?_
 ·intro i rb hi ih
  have hlim:lim=1073741824:=rfl
  have hi1:=dV hi (by omega)
  have F1:((i:Int)<(l.length:Int))=True:=eq_true (by omega)
  have hx:l[i]?=some l[i]:=ZZ hi
  have ht:=GV hi
  have hox:=ho _ (ZaD hi)
  generalize l[i]=x at *
  have e1:=alN hox
  have hrl:=BZ v (l.take i)
  rw [Zam] at hrl
  have P2:part [PV.int .i64 x.start,.int .i64 x.count] 0 (some 2)=some (.agg [.int .i64 x.start,.int .i64 x.count]):=rfl
  simp only [aZ] at e1
  cases hw:(wX x).2.2 with
  |false =>
   rw [hw] at e1
   have hs:fJ v (l.take (i+1))=fJ v (l.take i):=by rw [ht,GX,hw];simp
   simp only [Aw,F1,hx,e1,aZ,P2,aB hi,zd,Zak,za,zc,ze,aC,Nat.reduceMul,Nat.reduceBEq,Nat.reduceLT,Nat.reduceLeDiff,reduceCtorEq,Nat.reduceEqDiff,Nat.reduceAdd,zb]
   rw [ih _ (by simp only [hi1,hs,aC,Nat.reduceMul,Nat.reduceBEq,Nat.reduceLT,Nat.reduceLeDiff,reduceCtorEq,Nat.reduceEqDiff,Nat.reduceAdd,zb]<;>rfl)]
  |true =>
   obtain ⟨a,b,hab,-,-,-⟩:=MI hw
   have hs:fJ v (l.take (i+1))=fJ v (l.take i)++[⟨a,v,1⟩,⟨b,v,-1⟩]:=by rw [ht,GX,hab];simp
   rw [hab] at e1
   have F2:((pre++fJ v (l.take i)).length+1+1≤lim)=True:=eq_true (by rw [zp];omega)
   have F3:((pre++fJ v (l.take i)).length+2≤lim)=True:=eq_true (by rw [zp];omega)
   simp only [Aw,F1,F2,F3,hx,e1,aZ,P2,aB hi,zd,Zak,za,zc,ze,aC,Nat.reduceMul,Nat.reduceBEq,Nat.reduceLT,Nat.reduceLeDiff,reduceCtorEq,Nat.reduceEqDiff,Nat.reduceAdd,zb]
   rw [ih _ (by simp only [hi1,hs,← Zan,ZaH,Zat,Zav,iM,aC,Nat.reduceMul,Nat.reduceBEq,Nat.reduceLT,Nat.reduceLeDiff,reduceCtorEq,Nat.reduceEqDiff,Nat.reduceAdd,zb]<;>rfl)]
 ·intro rb
  simp only [Aw,ZaL,za,ZaW,aC,Nat.reduceMul,Nat.reduceBEq,Nat.reduceLT,Nat.reduceLeDiff,reduceCtorEq,Nat.reduceEqDiff,Nat.reduceAdd,zb]
set_option maxRecDepth 20000 in
theorem YT {ls:List (List bH)}(ho:∀ l∈ls,MH l)(hr:∀ l∈ls,l.length≤100000)(hl:ls.length≤10){st:St}(h:st.head [0,3,11,12,13,39] st.boxes.length=some ⟨sl 45 [(0,.pv (.list 1 (ls.map Af))),(3,.row 3 ((cu 0 (ls.take ((0:Nat)))).map iM)),(11,.pv (.list 1 (ls.map Af))),(12,.pv (.int .i64 ls.length)),(13,.pv (.int .i64 (0:Nat))),(39,.any)],[],[],none⟩) :
  den env Gi st=some (.normal,⟨sl 45 [(2,.any),(3,.row 3 ((cu 0 ls).map iM))],[],[],none⟩):=by
 unfold Gi
 refine dL (env:=env) (ls.length) (fun i=>⟨sl 45 [(0,.pv (.list 1 (ls.map Af))),(3,.row 3 ((cu 0 (ls.take (i))).map iM)),(11,.pv (.list 1 (ls.map Af))),(12,.pv (.int .i64 ls.length)),(13,.pv (.int .i64 i)),(39,.any)],[],[],none⟩) (fun i=>some (.normal,⟨sl 45 [(2,.any),(3,.row 3 ((cu 0 ls).map iM))],[],[],none⟩)) h (fun _=>rfl) (fun _=>by simp only [aG,dN,Nat.reduceMul,Nat.reduceBEq,Nat.reduceLT,Nat.reduceLeDiff,Nat.reduceAdd,decide_true,Zal,Zai]) ?_ ?_
 ·intro i rb hi ih
  have hlim:lim=1073741824:=rfl
  have hi1:=dV hi (by omega)
  have F1:((i:Int)<(ls.length:Int))=True:=eq_true (by omega)
  have hx:ls[i]?=some ls[i]:=ZZ hi
  have ht:=GV hi
  have hox:=ho _ (ZaD hi)
  have hrx:=hr _ (ZaD hi)
  have hli:(ls.take i).length=i:=by rw [Zam];omega
  have hp:=rQ (n:=100000) (ls.take i) 0 fun l hl=>hr l (List.mem_of_mem_take hl)
  rw [hli] at hp
  generalize ls[i]=l at *
  have hs:cu 0 (ls.take (i+1))=cu 0 (ls.take i)++fJ i l:=by rw [ht,AP,hli,Zaj]
  have hr0:fJ i ([]:List bH)=[]:=rfl
  simp only [Gh,F1,hx,Af,aB hi,zd,Zak,za,aC,Nat.reduceMul,Nat.reduceBEq,Nat.reduceLT,Nat.reduceLeDiff,reduceCtorEq,Nat.reduceEqDiff,Nat.reduceAdd,zb]
  rw [ail (l:=l) (pre:=cu 0 (ls.take i)) (v:=i) (q17:=.pv (.list 2 (l.map aZ))) rfl hox hrx (by omega)]
  rotate_left
  ·simp only [rO,hr0,ZaE,Af,aC,Nat.reduceMul,Nat.reduceBEq,Nat.reduceLT,Nat.reduceLeDiff,reduceCtorEq,Nat.reduceEqDiff,Nat.reduceAdd,zb]<;>rfl
  simp only [aC,Nat.reduceMul,Nat.reduceBEq,Nat.reduceLT,Nat.reduceLeDiff,reduceCtorEq,Nat.reduceEqDiff,Nat.reduceAdd,zb]
  rw [ih _ (by simp only [hi1,hs,Af,aC,Nat.reduceMul,Nat.reduceBEq,Nat.reduceLT,Nat.reduceLeDiff,reduceCtorEq,Nat.reduceEqDiff,Nat.reduceAdd,zb]<;>rfl)]
 ·intro rb
  simp only [Gh,ZaL,za,ZaW,aC,Nat.reduceMul,Nat.reduceBEq,Nat.reduceLT,Nat.reduceLeDiff,reduceCtorEq,Nat.reduceEqDiff,Nat.reduceAdd,zb]
def lH (ls:List (List bH)):List End:=rP (cu 0 ls)
theorem alO {ls:List (List bH)}(ho:∀ l∈ls,MH l)(hr:∀ l∈ls,l.length≤10000)(hl:ls.length≤2)(hsl:(lH ls).length=(cu 0 ls).length):cal env 257 [.list 1 (ls.map Af)]=some [(.list 3 ((lH ls).map iM),true)]:=by
 have hp:=rQ (n:=10000) ls 0 hr
 have hp2:(cu 0 ls).length≤1000000:=by
  have:2*10000*ls.length≤2*10000*2:=Nat.mul_le_mul_left _ hl
  omega
 have h1:=Ip (g:=275) (l:=cu 0 ls) hp2
 have h2:((rP (cu 0 ls)).map iM).length=((cu 0 ls).map iM).length:=by
  rw [za,za];exact hsl
 unfold lH
 have hcond:(0=0∧(cu 0 ls).length=((cu 0 ls).map iM).length∧((rP (cu 0 ls)).map iM).length=((cu 0 ls).map iM).length)=True:=eq_true ⟨rfl,by simp,h2⟩
 rw [ak akW rfl];simp only [P6,aG,Nat.reduceBEq,Nat.reduceLeDiff,Nat.reduceAdd,zc,ze]
 simp only [za,adr,h1,hsl,aC,Nat.reduceMul,Nat.reduceBEq,Nat.reduceLT,Nat.reduceLeDiff,reduceCtorEq,Nat.reduceEqDiff,Nat.reduceAdd,zb]
 rw [YT ho (fun l h=>by have:=hr l h;omega) (by omega) (by simp only [rO,cu,Zav,aC,Nat.reduceMul,Nat.reduceBEq,Nat.reduceLT,Nat.reduceLeDiff,reduceCtorEq,Nat.reduceEqDiff,Nat.reduceAdd,zb]<;>rfl)]
 simp only [h2,za,adr,h1,hsl,aC,Nat.reduceMul,Nat.reduceBEq,Nat.reduceLT,Nat.reduceLeDiff,reduceCtorEq,Nat.reduceEqDiff,Nat.reduceAdd,zb]
 rw [← hsl]
 unfold lH
 rw [Ah]
end Go.Proofs.YthccglceomoboaaGreatDoor.V
namespace Go.Proofs
open Go.Shelf
def Tryz.sortEnd_ren:Go.Shelf.Ren:=⟨fun|6=>274|15=>279|14=>280|28=>291|29=>292|20=>293|21=>294|22=>295|23=>296|24=>297|25=>298|26=>299|27=>300|46=>306|47=>302|48=>303|49=>307|50=>308|57=>310|n=>n,fun|22=>361|24=>365|25=>376|3=>3|39=>271|0=>0|53=>391|55=>193|4=>4|46=>384|45=>383|50=>388|5=>5|9=>9|66=>397|70=>401|76=>405|77=>152|n=>n,fun|n=>n⟩
theorem Tryz.sortEnd:Go.Proofs.SlLaysF0.n6 Tryz.prog Tryz.sortEnd_ren:={
 mixed:=by kernel_rfl
 f6:=⟨Tryz.f274.name,by decide,Tryz.func274.trans (congrArg some (by kernel_rfl))⟩
 f14:=⟨Tryz.f280.name,by decide,Tryz.func280.trans (congrArg some (by kernel_rfl))⟩
 f15:=Tryz.func279.trans (congrArg some (by kernel_rfl))
 f20:=⟨Tryz.f293.name,by decide,Tryz.func293.trans (congrArg some (by kernel_rfl))⟩
 f21:=⟨Tryz.f294.name,by decide,Tryz.func294.trans (congrArg some (by kernel_rfl))⟩
 f22:=⟨Tryz.f295.name,by decide,Tryz.func295.trans (congrArg some (by kernel_rfl))⟩
 f23:=⟨Tryz.f296.name,by decide,Tryz.func296.trans (congrArg some (by kernel_rfl))⟩
 f24:=⟨Tryz.f297.name,by decide,Tryz.func297.trans (congrArg some (by kernel_rfl))⟩
 f25:=⟨Tryz.f298.name,by decide,Tryz.func298.trans (congrArg some (by kernel_rfl))⟩
 f26:=⟨Tryz.f299.name,by decide,Tryz.func299.trans (congrArg some (by kernel_rfl))⟩
 f27:=⟨Tryz.f300.name,by decide,Tryz.func300.trans (congrArg some (by kernel_rfl))⟩
 f28:=Tryz.func291.trans (congrArg some (by kernel_rfl))
 f29:=Tryz.func292.trans (congrArg some (by kernel_rfl))
 f46:=⟨Tryz.f306.name,by decide,Tryz.func306.trans (congrArg some (by kernel_rfl))⟩
 f47:=Tryz.func302.trans (congrArg some (by kernel_rfl))
 f48:=Tryz.func303.trans (congrArg some (by kernel_rfl))
 f49:=⟨Tryz.f307.name,by decide,Tryz.func307.trans (congrArg some (by kernel_rfl))⟩
 f50:=⟨Tryz.f308.name,by decide,Tryz.func308.trans (congrArg some (by kernel_rfl))⟩
 f57:=⟨Tryz.f310.name,by decide,Tryz.func310.trans (congrArg some (by kernel_rfl))⟩
 t0:=Tryz.underlying0
 a0:=Tryz.isAgg0
 z0:=Tryz.sizeOf0
 v0:=Tryz.zeroValue0
 t3:=Tryz.underlying3
 a3:=Tryz.isAgg3
 z3:=Tryz.sizeOf3
 v3:=Tryz.zeroValue3
 t4:=Tryz.underlying4
 a4:=Tryz.isAgg4
 z4:=Tryz.sizeOf4
 v4:=Tryz.zeroValue4
 t5:=Tryz.underlying5
 a5:=Tryz.isAgg5
 z5:=Tryz.sizeOf5
 v5:=Tryz.zeroValue5
 t9:=Tryz.underlying9
 a9:=Tryz.isAgg9
 z9:=Tryz.sizeOf9
 v9:=Tryz.zeroValue9
 t22:=Tryz.underlying361
 a22:=Tryz.isAgg361
 z22:=Tryz.sizeOf361
 v22:=Tryz.zeroValue361
 t25:=Tryz.underlying376
 a25:=Tryz.isAgg376
 z25:=Tryz.sizeOf376
 v25:=Tryz.zeroValue376
 t39:=Tryz.underlying271
 a39:=Tryz.isAgg271
 z39:=Tryz.sizeOf271
 v39:=Tryz.zeroValue271
 t45:=Tryz.underlying383
 a45:=Tryz.isAgg383
 z45:=Tryz.sizeOf383
 v45:=Tryz.zeroValue383
 t46:=Tryz.underlying384
 a46:=Tryz.isAgg384
 z46:=Tryz.sizeOf384
 v46:=Tryz.zeroValue384
 t50:=Tryz.underlying388
 a50:=Tryz.isAgg388
 z50:=Tryz.sizeOf388
 v50:=Tryz.zeroValue388
 t53:=Tryz.underlying391
 a53:=Tryz.isAgg391
 z53:=Tryz.sizeOf391
 v53:=Tryz.zeroValue391
 t55:=Tryz.underlying193
 a55:=Tryz.isAgg193
 z55:=Tryz.sizeOf193
 v55:=Tryz.zeroValue193
 t66:=Tryz.underlying397
 a66:=Tryz.isAgg397
 z66:=Tryz.sizeOf397
 v66:=Tryz.zeroValue397
 t70:=Tryz.underlying401
 a70:=Tryz.isAgg401
 z70:=Tryz.sizeOf401
 v70:=Tryz.zeroValue401
 t76:=Tryz.underlying405
 a76:=Tryz.isAgg405
 z76:=Tryz.sizeOf405
 v76:=Tryz.zeroValue405
 t77:=Tryz.underlying152
 a77:=Tryz.isAgg152
 z77:=Tryz.sizeOf152
 v77:=Tryz.zeroValue152 }
def Tryz.cmpInt_ren:Go.Shelf.Ren:=⟨fun|5=>276|7=>281|n=>n,fun|22=>3|3=>3|4=>4|n=>n,fun|n=>n⟩
theorem Tryz.cmpInt:Go.Proofs.SlLaysC2.n5 Tryz.prog Tryz.cmpInt_ren:={
 mixed:=by kernel_rfl
 f5:=⟨Tryz.f276.name,by decide,Tryz.func276.trans (congrArg some (by kernel_rfl))⟩
 f7:=⟨Tryz.f281.name,by decide,Tryz.func281.trans (congrArg some (by kernel_rfl))⟩
 t3:=Tryz.underlying3
 a3:=Tryz.isAgg3
 z3:=Tryz.sizeOf3
 v3:=Tryz.zeroValue3
 t4:=Tryz.underlying4
 a4:=Tryz.isAgg4
 z4:=Tryz.sizeOf4
 v4:=Tryz.zeroValue4
 t22:=Tryz.underlying3
 a22:=Tryz.isAgg3
 z22:=Tryz.sizeOf3
 v22:=Tryz.zeroValue3 }
end Go.Proofs
