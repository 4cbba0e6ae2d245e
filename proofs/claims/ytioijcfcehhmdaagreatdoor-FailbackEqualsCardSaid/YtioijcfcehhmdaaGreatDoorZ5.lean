/-
  Part 5 of the texts that the statement stands on.
-/
import Derived.Test.YtioijcfcehhmdaaGreatDoorZ4
import Derived.Lib.TrailingZeros
set_option linter.all false
open And renaming intro → Zs
open Option renaming some → ZD, map_some → Zah, map_eq_some_iff → Zat
open List renaming getElem?_eq_getElem → ZS, length_map → Z2, getElem?_eq_some_iff → Z6, length_cons → za, getElem?_map → zb, length_nil → zd, drop_eq_getElem_cons → zw, all_eq_true → zE, getElem?_append_right → zP, getElem_mem → zR, length_append → Zaa, mem_of_getElem? → Zab, length_take → Zac, getElem?_append_left → Zad, mem_cons → Zaf, getD_eq_getElem?_getD → Zag, map_nil → Zai, map_cons → Zaj, replicate → Zal, getElem?_take → Zaq, range → Zar, not_mem_nil → Zas, mem_singleton → Zav, all_cons → Zaw, nodup_cons → Zax, append_assoc → Zay, nodup_nil → ZaB, append_nil → ZaE, head?_cons → ZaF, take_length → ZaI, tail_cons → ZaJ, map_append → ZaK, getElem?_drop → ZaP, mem_range → ZaS, drop_length → ZaT, all_nil → ZaU, mem_map → ZaY, cons_append → Za3, nil_append → Za4, drop_zero → Za5, mem_append → Zbb, length_drop → Zbe, filter_append → Zbg, filter_congr → Zbo, getElem?_replicate → Zbq, length_replicate → Zby, ext_getElem → ZbD, range_succ → ZbG, getElem_map → ZbM, filter_eq_nil_iff → ZbP, getElem_range → ZbS, take_add_one → Zb1, filter_cons_of_pos → Zb6, length_range → Zcb, map_toArray → Zcd, set_cons_zero → Zcr, set_append_right → ZcI, mem_filter → ZcO, range_add → Zc0, getElem_append_right → Zdd, getElem_append_left → Zdk, replicate_succ → ZdF
open Bool renaming and_eq_true → ZZ, false_eq_true → zg, true_and → zm, and_self → zt, not_eq_true' → ZaR, false_and → Za8, and_false → Zbi, not_eq_true → Zbr, not_false → ZbL, and_true → ZbY, not_true → ZbZ, eq_false_iff → Zcw
open Nat renaming beq → Z1, le_refl → ze, le_trans → zr, lt_of_lt_of_le → Zae, mul_le_mul_right → Zam, zero_add → Zan, add_mul → ZaC, zero_le → ZaM, add_zero → Za1, testBit_two_pow_mul_add → Zba, add_assoc → Zbs, min_eq_left → Zbv, sub_self → Zbz, min_eq_right → ZcE, lt_of_not_le → ZcF, mod_lt → ZcN, not_lt_zero → ZcS, testBit_succ → Zd1
open Array renaming getElem?_eq_some_iff → zz, length_toList → ZaA
open Int renaming lt_irrefl → Zap, toNat_natCast → ZaG, fdiv_eq_ediv_of_nonneg → Zch
open BitVec renaming ofInt → Zau, eq_of_toNat_eq → ZbW, getLsbD_ushiftRight → Zci, testBit_toNat → ZcR, allOnes → ZcZ, getLsbD_and → ZdP, getLsbD_or → ZdX, toNat_sub → Zd0
namespace Go.Proofs.YtioijcfcehhmdaaGreatDoor.V
def ext (p:Nat→Bool)(n:Nat):List cZ:=exts ((Zar n).filter p)
theorem UA (p:Nat→Bool):ext p 0=[]:=rfl
theorem og (p:Nat→Bool)(n:Nat):ext p (n+1)=if p n then wZ (ext p n) n else ext p n:=by
 unfold ext
 rw [ZbG,Zbg]
 cases h:p n
 ·simp [h]
 ·rw [Zb6 h,List.filter_nil,rG];rfl
theorem aiP {p:Nat→Bool}{n:Nat}(h:n=0∨p (n - 1)=false):wZ (ext p n) n=ext p n++[⟨(n:Int),1⟩]:=by
 unfold ext
 rcases jV ((Zar n).filter p) with h0|⟨l,j,h0⟩
 ·rw [h0];rfl
 ·obtain ⟨pre,⟨s,c⟩,e0,h1,h2,h3,h4⟩:=DY _ l rfl j
  have hmem:j∈(Zar n).filter p:=by rw [h0];simp
  obtain ⟨q1,q2⟩:=ZcO.1 hmem
  have hj:=ZaS.1 q1
  simp only at h1
  rw [h0,e0,iE,if_neg]
  intro hh
  simp only at hh
  have:j=n - 1:=by omega
  rcases h with h|h
  ·omega
  ·rw [← this,q2] at h;cases h
theorem y8 {p:Nat→Bool}{a:Nat}:∀ k,(∀ s,a≤s→s<a+k→p s=false)→ext p (a+k)=ext p a
 |0,_=>rfl
 |k+1,h=>by
  rw [← Zbs,og,h (a+k) (by omega) (by omega),if_neg (by simp)]
  exact y8 k fun s h1 h2=>h s h1 (by omega)
theorem Ji {p:Nat→Bool}{a:Nat}{pre:List cZ}{s0:Int}(h0:ext p a=pre++[⟨s0,a - s0⟩]):∀ k,(∀ s,a≤s→s<a+k→p s=true)→ext p (a+k)=pre++[⟨s0,((a+k:Nat):Int) - s0⟩]
 |0,_=>h0
 |k+1,h=>by
  rw [← Zbs,og,h (a+k) (by omega) (by omega),if_pos rfl,Ji h0 k fun s h1 h2=>h s h1 (by omega),iE,if_pos (by simp only;omega)]
  congr 2
  simp only [cZ.mk.injEq,true_and]
  omega
theorem abg {p:Nat→Bool}{a k:Nat}(hn:a=0∨p (a - 1)=false)(h:∀ s,a≤s→s<a+(k+1)→p s=true):ext p (a+(k+1))=ext p a++[⟨(a:Int),((a+(k+1):Nat):Int) - a⟩]:=by
 have h1:ext p (a+1)=ext p a++[⟨(a:Int),((a+1:Nat):Int) - a⟩]:=by
  rw [og,h a (ze _) (by omega),if_pos rfl,aiP hn]
  congr 2
  simp only [cZ.mk.injEq,true_and]
  omega
 have:=Ji (a:=a+1) h1 k fun s h2 h3=>h s (by omega) (by omega)
 rw [show a+(k+1)=a+1+k by omega]
 exact this
theorem rH {p q:Nat→Bool}{n:Nat}(h:∀ s,s<n→p s=q s):ext p n=ext q n:=by
 unfold ext
 rw [Zbo fun s hs=>h s (ZaS.1 hs)]
def dep (i:Nat)(s:Nat):List End→Int
 |[]=>0
 |x::l=>(if x.list=i∧x.pos≤s then x.step else 0)+dep i s l
def tot (i:Nat):List End→Int
 |[]=>0
 |x::l=>(if x.list=i then x.step else 0)+tot i l
theorem y9 (i s:Nat):∀ l m:List End,dep i s (l++m)=dep i s l+dep i s m
 |[],m=>by simp [dep]
 |x::l,m=>by simp only [Za3,dep,y9 i s l m];omega
theorem YM {i s:Nat}:∀ {l:List End},(∀ x∈l,x.pos≤s)→dep i s l=tot i l
 |[],_=>rfl
 |x::l,h=>by
  have h1:=h x (by simp)
  have ih:=YM (i:=i) (s:=s) (l:=l) fun y hy=>h y (by simp [hy])
  simp only [dep,tot,ih,h1,and_true]
theorem BX {i s:Nat}:∀ {l:List End},(∀ x∈l,s<x.pos)→dep i s l=0
 |[],_=>rfl
 |x::l,h=>by
  have h1:=h x (by simp)
  have ih:=BX (i:=i) (s:=s) (l:=l) fun y hy=>h y (by simp [hy])
  simp only [dep,ih]
  rw [if_neg (by omega)];rfl
theorem BZ (i:Nat):∀ l m:List End,tot i (l++m)=tot i l+tot i m
 |[],m=>by simp [tot]
 |x::l,m=>by simp only [Za3,tot,BZ i l m];omega
def lD (keep:Bool→Bool→Bool)(l:List End)(s:Nat):Bool:=keep (decide (dep 0 s l > 0)) (decide (dep 1 s l > 0))
def jX (x:End):List End→Bool
 |[]=>false
 |y::_=>decide (y.pos=x.pos)
def DZ (keep:Bool→Bool→Bool):List End→Int→Int→Int→Bool→List cZ
 |[],_,_,_,_=>[]
 |x::l,d0,d1,st,ins =>
  if jX x l then DZ keep l (if x.list=0 then d0+x.step else d0) (if x.list=1 then d1+x.step else d1) st ins
  else
   (if !keep (decide ((if x.list=0 then d0+x.step else d0) > 0)) (decide ((if x.list=1 then d1+x.step else d1) > 0))&&ins then [⟨st,x.pos - st⟩] else []) ++
   DZ keep l (if x.list=0 then d0+x.step else d0) (if x.list=1 then d1+x.step else d1)
    (if keep (decide ((if x.list=0 then d0+x.step else d0) > 0)) (decide ((if x.list=1 then d1+x.step else d1) > 0))&&!ins then x.pos else st)
    (keep (decide ((if x.list=0 then d0+x.step else d0) > 0)) (decide ((if x.list=1 then d1+x.step else d1) > 0)))
def Asc:List End→Prop
 |[]=>True
 |[_]=>True
 |x::y::l=>x.pos≤y.pos∧Asc (y::l)
theorem Asc.tail {x:End}{l:List End}(h:Asc (x::l)):Asc l:=by
 cases l with
 |nil=>trivial
 |cons y l=>exact h.2
theorem Asc.le {x:End}:∀ {l:List End},Asc (x::l)→∀ y∈l,x.pos≤y.pos
 |[],_,y,hy=>by cases hy
 |z::l,h,y,hy=>by
  rcases Zaf.1 hy with rfl|hy
  ·exact h.1
  ·exact zr h.1 (Asc.le h.2 y hy)
def atStart (N:Nat):List End→Nat→Prop
 |[],a=>a=N
 |x::_,a=>a=x.pos
theorem zf {keep:Bool→Bool→Bool}(hk:keep false false=false){L:List End}{N:Nat}(hN:∀ x∈L,x.pos≤N)(h0:tot 0 L=0)(h1:tot 1 L=0) :
  ∀ (R P:List End) (out:List cZ) (st:Int) (ins:Bool) (a:Nat),L=P++R→Asc R→(∀ x∈P,∀ y∈R,x.pos≤y.pos)→(∀ x∈P,x.pos≤a) →
   atStart N R a→ext (lD keep L) a=out++(if ins then [⟨st,a - st⟩] else [])→(a=0∨ins=true∨lD keep L (a - 1)=false)→(R=[]→ins=false)→(a=0→ins=false) →
   ext (lD keep L) N=out++DZ keep R (tot 0 P) (tot 1 P) st ins
 |[],P,out,st,ins,a,hL,_,_,_,ha,he,hi,hr,_=>by
  have ha:a=N:=ha
  rw [hr rfl] at he
  rw [ha] at he
  simpa [DZ] using he
 |x::l,P,out,st,ins,a,hL,hs,hP,hPa,ha,he,hi,_,hz=>by
  have ha:a=x.pos:=ha
  subst ha
  have hL2:L=(P++[x])++l:=by rw [hL];simp
  have t0:tot 0 (P++[x])=(if x.list=0 then tot 0 P+x.step else tot 0 P):=by
   rw [BZ];simp only [tot];split<;>omega
  have t1:tot 1 (P++[x])=(if x.list=1 then tot 1 P+x.step else tot 1 P):=by
   rw [BZ];simp only [tot];split<;>omega
  have hP2:∀ z∈P++[x],∀ y∈l,z.pos≤y.pos:=by
   intro z hz y hy
   rcases Zbb.1 hz with hz|hz
   ·exact hP z hz y (by simp [hy])
   ·simp only [Zav] at hz;rw [hz];exact hs.le y hy
  have hPx:∀ z∈P++[x],z.pos≤x.pos:=by
   intro z hz
   rcases Zbb.1 hz with hz|hz
   ·exact hP z hz x (by simp)
   ·simp only [Zav] at hz;rw [hz];exact ze _
  unfold DZ
  rw [← t0,← t1]
  by_cases hn:jX x l=true
  ·rw [if_pos hn]
   cases l with
   |nil=>simp [jX] at hn
   |cons y l =>
    have hy:y.pos=x.pos:=by simpa [jX] using hn
    exact zf hk hN h0 h1 (y::l) (P++[x]) out st ins x.pos hL2 hs.tail hP2 hPx hy.symm he hi (fun e=>by cases e) hz
  ·rw [if_neg hn]
   -- the next place
   obtain ⟨b,hb,hbl,hbx,hbm⟩:∃ b,x.pos≤b∧(∀ y∈l,b≤y.pos)∧(l≠[]→x.pos<b)∧atStart N l b:=by
    cases l with
    |nil=>exact ⟨N,hN x (by rw [hL];simp),fun y hy=>(by cases hy),fun h=>absurd rfl h,rfl⟩
    |cons y l =>
     have hy:y.pos≠x.pos:=by simpa [jX] using hn
     have:=hs.1
     exact ⟨y.pos,hs.1,fun z hz=>by
      rcases Zaf.1 hz with rfl|hz
      ·exact ze _
      ·exact hs.tail.le z hz,fun _=>by omega,rfl⟩
   have hconst:∀ s,x.pos≤s→s<b→lD keep L s=keep (decide (tot 0 (P++[x]) > 0)) (decide (tot 1 (P++[x]) > 0)):=by
    intro s hs1 hs2
    unfold lD
    have e:∀ i,dep i s L=tot i (P++[x]):=by
     intro i
     rw [hL2,y9,YM (fun z hz=>by have:=hPx z hz;omega),BX (fun z hz=>by have:=hbl z hz;omega)]
     omega
    rw [e 0,e 1]
   have hlast:l=[]→keep (decide (tot 0 (P++[x]) > 0)) (decide (tot 1 (P++[x]) > 0))=false:=by
    intro hl
    have e0:tot 0 (P++[x])=0:=by rw [← h0,hL2,hl,ZaE]
    have e1:tot 1 (P++[x])=0:=by rw [← h1,hL2,hl,ZaE]
    rw [e0,e1]
    exact hk
   have hPb:∀ z∈P++[x],z.pos≤b:=fun z hz=>zr (hPx z hz) hb
   obtain ⟨k,rfl⟩:∃ k,b=x.pos+k:=⟨b - x.pos,by omega⟩
   generalize keep (decide (tot 0 (P++[x]) > 0)) (decide (tot 1 (P++[x]) > 0))=now at *
   have akg:k≠0→lD keep L (x.pos+k - 1)=now:=fun hk0=>hconst _ (by omega) (by omega)
   cases now with
   |false =>
    have hf:=y8 (p:=lD keep L) (a:=x.pos) k fun s q1 q2=>hconst s q1 q2
    cases ins with
    |false =>
     simp only [ZbL,Zbi,zg,if_false,Za4,ZbY,Za8,ZaE,if_true] at he ⊢
     refine zf hk hN h0 h1 l (P++[x]) out _ false (x.pos+k) hL2 hs.tail hP2 hPb hbm ?_ ?_ (fun _=>rfl) (fun _=>rfl)
     ·rw [hf,he];simp
     ·by_cases hk0:k=0
      ·subst hk0
       rcases hi with hi|hi|hi
       ·exact .inl hi
       ·cases hi
       ·exact .inr (.inr hi)
      ·exact .inr (.inr (akg hk0))
    |true =>
     simp only [ZbL,zt,if_true,ZbZ,Zbi,Za8,zg,if_false] at he ⊢
     rw [← Zay]
     by_cases hk0:k=0
     ·subst hk0
      have hl:l=[]:=by
       cases l with
       |nil=>rfl
       |cons y l=>have:=hbx (by simp);omega
      subst hl
      have hb2:x.pos+0=N:=hbm
      simp only [DZ,ZaE]
      rw [← hb2]
      exact he
     ·refine zf hk hN h0 h1 l (P++[x]) _ _ false (x.pos+k) hL2 hs.tail hP2 hPb hbm ?_ (.inr (.inr (akg hk0))) (fun _=>rfl) (fun _=>rfl)
      rw [hf,he];simp
   |true =>
    have hl:l≠[]:=fun e=>by have:=hlast e;cases this
    have hk1:=hbx hl
    obtain ⟨j,rfl⟩:∃ j,k=j+1:=⟨k - 1,by omega⟩
    cases ins with
    |false =>
     simp only [ZbZ,Za8,zg,if_false,Za4,ZbL,zt,if_true,ZaE] at he ⊢
     refine zf hk hN h0 h1 l (P++[x]) out _ true (x.pos+(j+1)) hL2 hs.tail hP2 hPb hbm ?_ (.inr (.inl rfl)) (fun e=>absurd e hl) (fun e=>by omega)
     have hi2:x.pos=0∨lD keep L (x.pos - 1)=false:=by
      rcases hi with hi|hi|hi
      ·exact .inl hi
      ·cases hi
      ·exact .inr hi
     rw [abg hi2 fun s q1 q2=>hconst s q1 q2,he]
     simp
    |true =>
     simp only [ZbZ,Za8,zg,if_false,Za4,Zbi,if_true] at he ⊢
     refine zf hk hN h0 h1 l (P++[x]) out st true (x.pos+(j+1)) hL2 hs.tail hP2 hPb hbm ?_ (.inr (.inl rfl)) (fun e=>absurd e hl) (fun e=>by omega)
     rw [Ji he (j+1) fun s q1 q2=>hconst s q1 q2]
     simp
theorem aeW {keep:Bool→Bool→Bool}(hk:keep false false=false){L:List End}{N:Nat}(hs:Asc L)(hN:∀ x∈L,x.pos≤N)(h0:tot 0 L=0)(h1:tot 1 L=0) :
  DZ keep L 0 0 0 false=ext (lD keep L) N:=by
 cases L with
 |nil =>
  have:ext (lD keep ([]:List End)) (0+N)=ext (lD keep []) 0:=y8 N fun s _ _=>hk
  rw [Zan] at this
  rw [this];rfl
 |cons x l =>
  have hb:ext (lD keep (x::l)) (0+x.pos)=ext (lD keep (x::l)) 0:=y8 x.pos fun s _ h2=>by
   unfold lD
   have e:∀ i,dep i s (x::l)=0:=fun i=>BX fun y hy=>by
    rcases Zaf.1 hy with rfl|hy
    ·omega
    ·have:=hs.le y hy;omega
   rw [e 0,e 1]
   exact hk
  rw [Zan] at hb
  have:=zf hk hN h0 h1 (x::l) [] [] 0 false x.pos rfl hs (fun z hz=>by cases hz) (fun z hz=>by cases hz) rfl (by rw [hb];rfl) (by
   by_cases h:x.pos=0
   ·exact .inl h
   ·refine .inr (.inr ?_)
    unfold lD
    have e:∀ i,dep i (x.pos - 1) (x::l)=0:=fun i=>BX fun y hy=>by
     rcases Zaf.1 hy with rfl|hy
     ·omega
     ·have:=hs.le y hy;omega
    rw [e 0,e 1]
    exact hk) (fun e=>by cases e) (fun _=>rfl)
  rw [this];rfl
abbrev Wd:=BitVec 64
structure Bm where
 size:Int
 ws:List Wd
 deriving DecidableEq
def eW (w:Wd):PV:=.int .u64 (w.toNat:Int)
def jq (b:Bm):PV:=.agg [.int .i64 b.size,.list 1 (b.ws.map eW)]
def bit (ws:List Wd)(i:Nat):Bool:=(ws.getD (i / 64) 0).getLsbD (i % 64)
theorem P8 {ws:List Wd}{k:Nat}(h:k<ws.length){j:Nat}(hj:j<64):bit ws (64*k+j)=ws[k].getLsbD j:=by
 unfold bit
 have e1:(64*k+j) / 64=k:=by omega
 have e2:(64*k+j) % 64=j:=by omega
 rw [e1,e2];simp [h]
theorem Jj {ws:List Wd}{i:Nat}(h:i / 64<ws.length):bit ws i=ws[i / 64].getLsbD (i % 64):=by
 unfold bit;simp [h]
theorem Gv {ws:List Wd}{i:Nat}(h:64*ws.length≤i):bit ws i=false:=by
 unfold bit
 have:ws.length≤i / 64:=by omega
 rw [Zag,List.getElem?_eq_none this];simp
theorem aiQ (w:Wd):Zau 64 (w.toNat:Int)=w:=by
 apply ZbW
 have:=w.isLt
 rw [BitVec.toNat_ofInt]
 omega
theorem Jk (n:Int):IntKind.u64.wrap n=n % 2 ^ 64:=by
 simp only [IntKind.wrap,IntKind.bits,IntKind.signed,Za8,zg,if_false]
theorem aeX (w:Wd):IntKind.u64.wrap (w.toNat:Int)=(w.toNat:Int):=by
 have:=w.isLt
 simp only [IntKind.wrap,IntKind.bits,IntKind.signed,Za8,zg,if_false]
 omega
theorem apd (a b:Wd):IntKind.u64.wrap ((Zau IntKind.u64.bits (a.toNat:Int) ||| Zau IntKind.u64.bits (b.toNat:Int)).toNat:Int)=((a ||| b).toNat:Int):=by
 show IntKind.u64.wrap ((Zau 64 (a.toNat:Int) ||| Zau 64 (b.toNat:Int)).toNat:Int)=_
 rw [aiQ,aiQ,aeX]
theorem akh (a b:Wd):IntKind.u64.wrap ((Zau IntKind.u64.bits (a.toNat:Int) &&& Zau IntKind.u64.bits (b.toNat:Int)).toNat:Int)=((a &&& b).toNat:Int):=by
 show IntKind.u64.wrap ((Zau 64 (a.toNat:Int) &&& Zau 64 (b.toNat:Int)).toNat:Int)=_
 rw [aiQ,aiQ,aeX]
theorem aki (w:Wd){s:Int}{n:Nat}(hs:s=(n:Int)):(w.toNat:Int).fdiv (2 ^ (min s.toNat IntKind.u64.bits))=((w >>> n).toNat:Int):=by
 subst hs
 rw [BitVec.toNat_ushiftRight,Nat.shiftRight_eq_div_pow,ZaG]
 have hw:=w.isLt
 show (w.toNat:Int).fdiv (2 ^ (min n 64))=_
 by_cases h:n≤64
 ·have h2:(0:Int)≤2 ^ n:=by have:=Int.natCast_nonneg (2 ^ n);push_cast at this;exact this
  rw [Zbv h,Zch _ h2]
  push_cast
  rfl
 ·rw [ZcE (by omega),Zch _ (by decide)]
  have h1:w.toNat / 2 ^ n=0:=Nat.div_eq_of_lt (Zae hw (Nat.pow_le_pow_right (by decide) (by omega)))
  rw [h1]
  omega
theorem ape (w:Wd){s:Int}{n:Nat}(hs:s=(n:Int)):IntKind.u64.wrap ((w.toNat:Int)*2 ^ (min s.toNat IntKind.u64.bits))=((w <<< n).toNat:Int):=by
 subst hs
 rw [BitVec.toNat_shiftLeft,Nat.shiftLeft_eq,ZaG]
 have hw:=w.isLt
 rw [Jk]
 show ((w.toNat:Int)*2 ^ (min n 64)) % 2 ^ 64=_
 by_cases h:n≤64
 ·have e2:((2 ^ n:Nat):Int)=2 ^ n:=by push_cast;rfl
  have e3:((2 ^ 64:Nat):Int)=2 ^ 64:=by decide
  rw [Zbv h,Int.natCast_emod,Int.natCast_mul,e2,e3]
 ·rw [ZcE (by omega)]
  have e:2 ^ n=2 ^ 64*2 ^ (n - 64):=by rw [← Nat.pow_add];congr 1;omega
  have:w.toNat*2 ^ n % 2 ^ 64=0:=by
   rw [e,Nat.mul_left_comm];exact Nat.mul_mod_right _ _
  rw [this]
  exact Int.mul_emod_left _ _
theorem aph (a b:Wd):IntKind.u64.wrap ((a.toNat:Int) - (b.toNat:Int))=((a - b).toNat:Int):=by
 have h1:=a.isLt
 have h2:=b.isLt
 simp only [IntKind.wrap,IntKind.bits,IntKind.signed,Za8,zg,if_false]
 rw [Zd0]
 omega
theorem akj (a b:Wd):((a.toNat:Int)==(b.toNat:Int))=decide (a=b):=by
 by_cases h:a=b
 ·subst h;simp
 ·have:a.toNat≠b.toNat:=fun e=>h (ZbW e)
  simp [h];omega
def yh (k:Nat)(a b:Int):Wd :=
 if max (a - 64*(k:Int)) 0 ≥ min (b - 64*(k:Int)) 64 then 0
 else (ZcZ 64 >>> (64 - (min (b - 64*(k:Int)) 64 - max (a - 64*(k:Int)) 0)).toNat) <<< (max (a - 64*(k:Int)) 0).toNat
theorem UC (k:Nat)(a b:Int){j:Nat}(hj:j<64):(yh k a b).getLsbD j=decide (a≤64*(k:Int)+j∧64*(k:Int)+j<b):=by
 unfold yh
 split
 ·rename_i h
  rw [show (0:Wd).getLsbD j=false by simp]
  symm
  apply decide_eq_false
  omega
 ·rename_i h
  rw [BitVec.getLsbD_shiftLeft,Zci,BitVec.getLsbD_allOnes]
  rw [Bool.eq_iff_iff]
  simp only [ZZ,decide_eq_true_eq,ZaR,decide_eq_false_iff_not]
  omega
def bitsOf (w:Wd):List Nat:=(Zar 64).filter fun j=>w.getLsbD j
theorem abh:bitsOf 0=[]:=by
 unfold bitsOf
 rw [ZbP]
 intro j _
 simp
theorem YN {w:Wd}(h:w≠0):Lib.ctz 64 w.toNat<64∧(∀ j,j<Lib.ctz 64 w.toNat→w.getLsbD j=false)∧w.getLsbD (Lib.ctz 64 w.toNat)=true∧∀ j,j<64→(w &&& (w - 1)).getLsbD j=(w.getLsbD j&&decide (j≠Lib.ctz 64 w.toNat)):=by
 have h0:0<w.toNat:=by
  rcases Nat.eq_zero_or_pos w.toNat with e|e
  ·exact absurd (ZbW (by simpa using e)) h
  ·exact e
 have hl:Lib.ctz 64 w.toNat=Lib.ctzFrom 64 w.toNat:=by unfold Lib.ctz;rw [if_neg (by omega)]
 rw [hl]
 obtain ⟨m,h1,h2⟩:=Lib.ctzFrom_spec 64 w.toNat h0 w.isLt
 generalize Lib.ctzFrom 64 w.toNat=c at h1 h2
 have hbit:∀ j,w.getLsbD j=if j<c then false else (2*m+1).testBit (j - c):=fun j=>by
  rw [← ZcR,h1,Nat.testBit_two_pow_mul]
  by_cases hc:j<c
  ·rw [if_pos hc,decide_eq_false (by omega),Za8]
  ·rw [if_neg hc,decide_eq_true (by omega),zm]
 have hsub:(w - 1).toNat=2 ^ c*(2*m)+(2 ^ c - 1):=by
  have hp:0<2 ^ c:=Nat.pow_pos (by decide)
  rw [Zd0]
  have:=w.isLt
  have e1:(1:Wd).toNat=1:=rfl
  rw [e1,show 2 ^ 64 - 1+w.toNat=(w.toNat - 1)+2 ^ 64 by omega,Nat.add_mod_right,Nat.mod_eq_of_lt (by omega),h1,Nat.mul_add,Nat.mul_one]
  omega
 have apj:∀ j,(w - 1).getLsbD j=if j<c then true else (2*m).testBit (j - c):=fun j=>by
  rw [← ZcR,hsub]
  have hp:2 ^ c - 1<2 ^ c:=by have:0<2 ^ c:=Nat.pow_pos (by decide);omega
  by_cases hc:j<c
  ·rw [if_pos hc,Zba _ hp,if_pos hc,Nat.testBit_two_pow_sub_one]
   simp [hc]
  ·rw [if_neg hc,Zba _ hp,if_neg hc]
 refine ⟨h2,fun j hj=>by rw [hbit,if_pos hj],by rw [hbit,if_neg (Nat.lt_irrefl _),Zbz];simp,fun j hj=>?_⟩
 rw [ZdP,hbit,apj]
 by_cases hc:j<c
 ·simp [hc]
 ·rw [if_neg hc,if_neg hc]
  by_cases he:j=c
  ·subst he;simp
  ·obtain ⟨d,hd⟩:∃ d,j - c=d+1:=⟨j - c - 1,by omega⟩
   rw [hd,Zd1,Zd1,show (2*m+1) / 2=m by omega,show 2*m / 2=m by omega]
   simp [he]
theorem P9 {p q:Nat→Bool}{c n:Nat}(hc:c<n)(hlow:∀ j,j<c→p j=false)(hp:p c=true)(hq:∀ j,j<n→q j=(p j&&decide (j≠c))):(Zar n).filter p=c::(Zar n).filter q:=by
 have e:Zar n=Zar c++(c::(Zar (n - c - 1)).map (c+1+·)):=by
  apply ZbD
  ·simp;omega
  ·intro i h1 h2
   simp only [Zcb] at h1
   rw [ZbS,List.getElem_append]
   split
   ·simp
   ·rename_i h
    simp only [Zcb] at h ⊢
    obtain ⟨d,hd⟩:∃ d,i=c+d:=⟨i - c,by omega⟩
    subst hd
    cases d with
    |zero=>simp
    |succ d=>simp [show c+(d+1) - c=d+1 by omega];omega
 have hq':∀ j,j∈Zar n→q j=(p j&&decide (j≠c)):=fun j hj=>hq j (ZaS.1 hj)
 rw [Zbo hq',e,Zbg,Zbg]
 have h1:(Zar c).filter p=[]:=by
  rw [ZbP];intro j hj;rw [hlow j (ZaS.1 hj)];simp
 have h2:(Zar c).filter (fun j=>p j&&decide (j≠c))=[]:=by
  rw [ZbP];intro j hj;rw [hlow j (ZaS.1 hj)];simp
 rw [h1,h2,Za4,Za4,Zb6 hp,List.filter_cons_of_neg (by simp)]
 congr 1
 apply Zbo
 intro j hj
 obtain ⟨d,_,rfl⟩:=ZaY.1 hj
 simp;omega
theorem abj {w:Wd}(h:w≠0):bitsOf w=Lib.ctz 64 w.toNat::bitsOf (w &&& (w - 1)):=by
 obtain ⟨h1,h2,h3,h4⟩:=YN h
 exact P9 h1 h2 h3 h4
def yj (ws:List Wd)(a b:Int):List Nat:=(Zar (64*ws.length)).filter fun (i:Nat)=>bit ws i&&decide (a≤(i:Int)∧(i:Int)<b)
theorem range_add (n m:Nat):Zar (n+m)=Zar n++(Zar m).map (n+·):=Zc0
theorem XP {ws:List Wd}{k:Nat}(h:k<ws.length)(a b:Int):(Zar (64*(k+1))).filter (fun (i:Nat)=>bit ws i&&decide (a≤(i:Int)∧(i:Int)<b))
  = (Zar (64*k)).filter (fun (i:Nat)=>bit ws i&&decide (a≤(i:Int)∧(i:Int)<b))++(bitsOf (ws[k] &&& yh k a b)).map (64*k+·):=by
 rw [show 64*(k+1)=64*k+64 by omega,Zc0,Zbg,List.filter_map]
 congr 2
 unfold bitsOf
 apply Zbo
 intro j hj
 have hj:=ZaS.1 hj
 rw [ZdP,UC k a b hj]
 show (bit ws (64*k+j)&&_)=_
 rw [P8 h hj]
 push_cast
 rfl
def setW (ws:List Wd)(a b:Int):List Wd:=ws.mapIdx fun k w=>w ||| yh k a b
theorem YO {ws:List Wd}{a b:Int}{i:Nat}(h:i<64*ws.length):bit (setW ws a b) i=(bit ws i || decide (a≤(i:Int)∧(i:Int)<b)):=by
 have hk:i / 64<ws.length:=by omega
 have hk2:i / 64<(setW ws a b).length:=by simp [setW,hk]
 rw [Jj hk,Jj hk2]
 simp only [setW,List.getElem_mapIdx,ZdX]
 rw [UC _ _ _ (ZcN _ (by decide))]
 congr 2
 have:(64*((i / 64:Nat):Int))+((i % 64:Nat):Int)=(i:Int):=by omega
 rw [this]
def oh (f:Wd→Wd→Wd)(a b:List Wd):List Wd:=List.zipWith f a b
theorem aiR {f:Wd→Wd→Wd}{g:Bool→Bool→Bool}(hf:∀ x y j,j<64→(f x y).getLsbD j=g (x.getLsbD j) (y.getLsbD j)){a b:List Wd}(hl:a.length=b.length){i:Nat}(h:i<64*a.length):bit (oh f a b) i=g (bit a i) (bit b i):=by
 have hk:i / 64<a.length:=by omega
 have hk1:i / 64<b.length:=by omega
 have hk2:i / 64<(oh f a b).length:=by simp [oh];omega
 rw [Jj hk,Jj hk1,Jj hk2]
 simp only [oh,List.getElem_zipWith]
 rw [hf _ _ _ (ZcN _ (by decide))]
def nG (n:Int):Int:=(n+63) / 64
def okB (b:Bm):Bool:=decide (0≤b.size∧b.size≤4096∧(b.ws.length:Int)=nG b.size)&&(Zar (64*b.ws.length)).all fun (i:Nat)=>decide ((i:Int)<b.size) || !bit b.ws i
theorem kP {b:Bm}:okB b=true ↔ (0≤b.size∧b.size≤4096∧(b.ws.length:Int)=nG b.size)∧∀ i:Nat,b.size≤(i:Int)→bit b.ws i=false:=by
 unfold okB
 simp only [ZZ,decide_eq_true_eq,zE,ZaS,Bool.or_eq_true,ZaR]
 refine and_congr Iff.rfl ⟨fun h i hi=>?_,fun h i hi=>?_⟩
 ·by_cases c:i<64*b.ws.length
  ·exact (h i c).resolve_left (by omega)
  ·exact Gv (by omega)
 ·by_cases c:(i:Int)<b.size
  ·exact .inl c
  ·exact .inr (h i (by omega))
theorem jM {b:Bm}(h:okB b=true):0≤b.size∧b.size≤4096∧b.ws.length≤64∧b.size≤64*(b.ws.length:Int)∧64*(b.ws.length:Int)<b.size+64:=by
 have:=(kP.1 h).1
 unfold nG at this
 omega
theorem aeY {b:Bm}(h:0≤b.size∧b.size≤4096∧(b.ws.length:Int)=nG b.size):okB b=true ↔ (b.size % 64=0∨∀ (hw:b.ws.length - 1<b.ws.length),b.ws[b.ws.length - 1] >>> (b.size % 64).toNat=0):=by
 rw [kP]
 unfold nG at h ⊢
 constructor
 ·rintro ⟨_,h2⟩
  by_cases c:b.size % 64=0
  ·exact .inl c
  ·refine .inr fun hw=>?_
   apply BitVec.eq_of_getLsbD_eq
   intro j hj
   rw [Zci]
   by_cases cj:(b.size % 64).toNat+j<64
   ·rw [← P8 hw cj,h2 _ (by omega)];simp
   ·rw [BitVec.getLsbD_of_ge _ _ (by omega)];simp
 ·intro hr
  refine ⟨by omega,fun i hi=>?_⟩
  by_cases c:i<64*b.ws.length
  ·have hw:b.ws.length - 1<b.ws.length:=by omega
   have hk:i / 64=b.ws.length - 1:=by omega
   rcases hr with hr|hr
   ·omega
   ·have:=congrArg (fun w:Wd=>w.getLsbD (i % 64 - (b.size % 64).toNat)) (hr hw)
    simp only [Zci,BitVec.getLsbD_zero] at this
    rw [show (b.size % 64).toNat+(i % 64 - (b.size % 64).toNat)=i % 64 by omega] at this
    rw [show i=64*(b.ws.length - 1)+i % 64 by omega,P8 hw (ZcN _ (by decide))]
    simpa using this
  ·exact Gv (by omega)
def Qc (b:Bm):List cZ:=ext (bit b.ws) b.size.toNat
def KR (b:Bm):Int:=if okB b then 0 else 3
theorem aeZ {b:Bm}(h:okB b=true)(a:Int)(ha:a≤0):yj b.ws a b.size=(Zar b.size.toNat).filter (bit b.ws):=by
 unfold yj
 obtain ⟨h1,h2,h3,h4,h5⟩:=jM h
 rw [show 64*b.ws.length=b.size.toNat+(64*b.ws.length - b.size.toNat) by omega,Zc0,Zbg]
 have e:(((Zar (64*b.ws.length - b.size.toNat)).map (b.size.toNat+·)).filter fun (i:Nat)=>bit b.ws i&&decide (a≤(i:Int)∧(i:Int)<b.size))=[]:=by
  rw [ZbP]
  intro i hi
  obtain ⟨d,_,rfl⟩:=ZaY.1 hi
  rw [decide_eq_false (by omega)];simp
 rw [e,ZaE]
 apply Zbo
 intro i hi
 have hi:=ZaS.1 hi
 rw [decide_eq_true (by omega),ZbY]
theorem Ah {b:Bm}(h:okB b=true):KR b=0:=by unfold KR;rw [if_pos h]
theorem yu {b:Bm}(h:okB b=false):KR b=3:=by unfold KR;rw [if_neg (by rw [h];exact Bool.false_ne_true)]
theorem q64 {n:Int}(h:0≤n):(n+64 - 1).tdiv 64=nG n:=by
 unfold nG;rw [Int.tdiv_eq_ediv_of_nonneg (by omega)];congr 1;omega
theorem z64:((64:Int)=0)=False:=eq_false (by decide)
theorem ae0 {n:Int}(h:0≤n∧n≤4096):cal env 121 [.int .i64 n]=some [(.int .i64 (nG n),false)]:=by
 have W1:IntKind.i64.wrap (n+64)=n+64:=bn (by omega)
 have W2:IntKind.i64.wrap (n+64 - 1)=n+64 - 1:=bn (by omega)
 have W3:IntKind.i64.wrap (nG n)=nG n:=bn (by unfold nG;omega)
 rw [ah alF rfl];simp only [TV];simp only [start,aJ,aT,aH,aS,aB,aC,aI,aQ,Nat.reduceAdd,Nat.reduceSub]
 simp only [W1,W2,q64 h.1,W3,z64,bg,reduceCtorEq,Nat.reduceEqDiff,Nat.reduceAdd,Nat.reduceLT,Nat.reduceLeDiff,Z1]
theorem MR {b:Bm}:cal env 90 [jq b]=some [(.int .i64 (KR b),false)]:=by
 unfold jq
 have P:∀ x y:PV,part [x,y] 0 (some 2)=some (.agg [x,y]):=fun _ _=>rfl
 by_cases c0:b.size<0
 ·have hE:KR b=3:=yu (by rw [Zcw];intro h;have:=jM h;omega)
  rw [hE]
  rw [ah MO rfl];simp only [KQ];simp only [start,aJ,aT,aH,aS,aB,aC,aI,aQ,Nat.reduceAdd,Nat.reduceSub]
  simp only [c0,P,bg,reduceCtorEq,Nat.reduceEqDiff,Nat.reduceAdd,Nat.reduceLT,Nat.reduceLeDiff,Z1]
 ·by_cases c1:b.size > 4096
  ·have hE:KR b=3:=yu (by rw [Zcw];intro h;have:=jM h;omega)
   rw [hE]
   have F1:(b.size > 4096)=True:=eq_true c1
   rw [ah MO rfl];simp only [KQ];simp only [start,aJ,aT,aH,aS,aB,aC,aI,aQ,Nat.reduceAdd,Nat.reduceSub]
   simp only [c0,F1,P,bg,reduceCtorEq,Nat.reduceEqDiff,Nat.reduceAdd,Nat.reduceLT,Nat.reduceLeDiff,Z1]
  ·have F1:(b.size > 4096)=False:=eq_false c1
   have e1:=ae0 (n:=b.size) (by omega)
   by_cases c2:(b.ws.length:Int)=nG b.size
   ·have F2:((b.ws.length:Int) != nG b.size)=false:=by simp [c2]
    have hr:=aeY (b:=b) ⟨by omega,by omega,c2⟩
    have hw:=c2
    unfold nG at hw
    have M:b.size.tmod 64=b.size % 64:=Int.tmod_eq_emod_of_nonneg (by omega)
    by_cases c3:b.size % 64=0
    ·have hE:KR b=0:=Ah (hr.2 (.inl c3))
     rw [hE]
     have F3:(b.size % 64 > 0)=False:=eq_false (by omega)
     rw [ah MO rfl];simp only [KQ];simp only [start,aJ,aT,aH,aS,aB,aC,aI,aQ,Nat.reduceAdd,Nat.reduceSub]
     simp only [c0,F1,F2,F3,M,e1,z64,P,bg,reduceCtorEq,Nat.reduceEqDiff,Nat.reduceAdd,Nat.reduceLT,Nat.reduceLeDiff,Z1]
    ·have F3:(b.size % 64 > 0)=True:=eq_true (by omega)
     have hi:b.ws.length - 1<b.ws.length:=by omega
     have W:IntKind.i64.wrap ((b.ws.length:Int) - 1)=((b.ws.length - 1:Nat):Int):=by rw [bn (by omega)];omega
     have S0:(b.size % 64<0)=False:=eq_false (by omega)
     have S:=aki b.ws[b.ws.length - 1] (s:=b.size % 64) (n:=(b.size % 64).toNat) (by omega)
     have B:=akj (b.ws[b.ws.length - 1] >>> (b.size % 64).toNat) 0
     have B0:((0:Wd).toNat:Int)=0:=rfl
     rw [B0] at B
     have B':(((b.ws[b.ws.length - 1] >>> (b.size % 64).toNat).toNat:Int) != 0)=!decide (b.ws[b.ws.length - 1] >>> (b.size % 64).toNat=0):=by unfold bne;rw [B]
     by_cases c4:b.ws[b.ws.length - 1] >>> (b.size % 64).toNat=0
     ·have hE:KR b=0:=Ah (hr.2 (.inr fun _=>c4))
      rw [hE]
      rw [decide_eq_true c4] at B'
      rw [ah MO rfl];simp only [KQ];simp only [start,aJ,aT,aH,aS,aB,aC,aI,aQ,Nat.reduceAdd,Nat.reduceSub]
      simp only [c0,F1,F2,F3,M,e1,z64,P,W,S0,S,B',au hi,eW,zb,ZS hi,bg,reduceCtorEq,Nat.reduceEqDiff,Nat.reduceAdd,Nat.reduceLT,Nat.reduceLeDiff,Z1]
     ·have hE:KR b=3:=yu (by
       rw [Zcw];intro h
       rcases hr.1 h with h|h
       ·exact c3 h
       ·exact c4 (h hi))
      rw [hE]
      rw [decide_eq_false c4] at B'
      rw [ah MO rfl];simp only [KQ];simp only [start,aJ,aT,aH,aS,aB,aC,aI,aQ,Nat.reduceAdd,Nat.reduceSub]
      simp only [c0,F1,F2,F3,M,e1,z64,P,W,S0,S,B',au hi,eW,zb,ZS hi,bg,reduceCtorEq,Nat.reduceEqDiff,Nat.reduceAdd,Nat.reduceLT,Nat.reduceLeDiff,Z1]
   ·have F2:((b.ws.length:Int) != nG b.size)=true:=by simp [c2]
    have hE:KR b=3:=yu (by rw [Zcw];intro h;exact c2 (kP.1 h).1.2.2)
    rw [hE]
    rw [ah MO rfl];simp only [KQ];simp only [start,aJ,aT,aH,aS,aB,aC,aI,aQ,Nat.reduceAdd,Nat.reduceSub]
    simp only [c0,F1,F2,e1,P,bg,reduceCtorEq,Nat.reduceEqDiff,Nat.reduceAdd,Nat.reduceLT,Nat.reduceLeDiff,Z1]
theorem ae1 {k:Nat}{a b:Int}(hk:k≤100000)(ha:-1000000≤a∧a≤1000000)(hb':-1000000≤b∧b≤1000000):cal env 147 [.int .i64 (k:Nat),.int .i64 a,.int .i64 b]=some [(eW (yh k a b),false)]:=by
 have W0:IntKind.i64.wrap ((k:Int)*64)=64*(k:Int):=by rw [bn (by omega)];omega
 have W1:IntKind.i64.wrap (a - 64*(k:Int))=a - 64*(k:Int):=bn (by omega)
 have W2:IntKind.i64.wrap (b - 64*(k:Int))=b - 64*(k:Int):=bn (by omega)
 have X1:(if a - 64*(k:Int)<0 then 0 else a - 64*(k:Int))=max (a - 64*(k:Int)) 0:=by split<;>omega
 have X2:(if 64<b - 64*(k:Int) then 64 else b - 64*(k:Int))=min (b - 64*(k:Int)) 64:=by split<;>omega
 unfold yh eW
 generalize hf:max (a - 64*(k:Int)) 0=f at X1 ⊢
 generalize ht:min (b - 64*(k:Int)) 64=t at X2 ⊢
 by_cases c:f ≥ t
 ·have F1:(f ≥ t)=True:=eq_true c
  rw [if_pos c]
  have B0:((0:Wd).toNat:Int)=0:=rfl
  rw [B0]
  rw [ah aeL rfl];simp only [MN];simp only [start,aJ,aT,aH,aS,aB,aC,aI,aQ,Nat.reduceAdd,Nat.reduceSub]
  simp only [W0,W1,W2,X1,X2,F1,bg,reduceCtorEq,Nat.reduceEqDiff,Nat.reduceAdd,Nat.reduceLT,Nat.reduceLeDiff,Z1]
 ·have F1:(f ≥ t)=False:=eq_false c
  rw [if_neg c]
  have W3:IntKind.i64.wrap (t - f)=t - f:=bn (by omega)
  have W4:IntKind.i64.wrap (64 - (t - f))=64 - (t - f):=bn (by omega)
  have A:(18446744073709551615:Int)=((ZcZ 64).toNat:Int):=rfl
  have S0:(64 - (t - f)<0)=False:=eq_false (by omega)
  have S1:(f<0)=False:=eq_false (by omega)
  have S2:=aki (ZcZ 64) (s:=64 - (t - f)) (n:=(64 - (t - f)).toNat) (by omega)
  have S3:=ape (ZcZ 64 >>> (64 - (t - f)).toNat) (s:=f) (n:=f.toNat) (by omega)
  rw [← A] at S2
  rw [ah aeL rfl];simp only [MN];simp only [start,aJ,aT,aH,aS,aB,aC,aI,aQ,Nat.reduceAdd,Nat.reduceSub]
  simp only [W0,W1,W2,W3,W4,X1,X2,F1,S0,S1,S2,S3,bg,reduceCtorEq,Nat.reduceEqDiff,Nat.reduceAdd,Nat.reduceLT,Nat.reduceLeDiff,Z1]
def eB2 (b:Bm):List PV:=[.int .i64 b.size,.list 1 (b.ws.map eW)]
def tz (w:Wd):Nat:=Lib.ctz 64 w.toNat
theorem amd {w:Wd}:cal env 150 [.int .u64 (w.toNat:Int)]=some [(.int .i64 (tz w:Nat),false)]:=by
 rw [Gh alX]
 have:=w.isLt
 have e:tzX [.int .u64 (w.toNat:Int)]=if (0:Int)≤(w.toNat:Int)∧(w.toNat:Int)<18446744073709551616 then some [(.int .i64 (Lib.ctz 64 (w.toNat:Int).toNat:Nat),false)] else none:=rfl
 rw [e,if_pos (by omega),ZaG]
 rfl
theorem aiS {b:Bm}{a:Int}{k:Nat}{w0:Wd}{ys0:List (List PV)}(hk:k≤100000)
  {st:St} (h:st.head [0,1,2,4,5,10,11,12] st.boxes.length=some ⟨[.tq,.pv (.dM (eB2 b) 0),.pv (.dM [.int .i64 a] 0),.any,.pv (.int .i64 (k:Nat)),.pv (eW w0),.any,.any,.any,.any,.pv (.list 1 (b.ws.map eW)),.pv (.int .i64 b.ws.length),.pv (.int .i64 (k:Nat)),.any,.any,.any,.any,.any,.any,.any,.any,.any,.any,.any,.any,.any,.any,.any,.any,.any,.any,.any,.any,.any,.any,.any,.any,.any,.any],[],ys0,some none⟩) :
  den env I4 st=some (.normal,⟨[.tq,.pv (.dM (eB2 b) 0),.pv (.dM [.int .i64 a] 0),.any,.any,.any,.any,.any,.any,.any,.pv (.list 1 (b.ws.map eW)),.pv (.int .i64 b.ws.length),.pv (.int .i64 (k:Nat)),.any,.any,.any,.any,.any,.any,.any,.any,.any,.any,.any,.any,.any,.any,.any,.any,.any,.any,.any,.any,.any,.any,.any,.any,.any,.any],[],ys0++yI ((bitsOf w0).map (64*k+·)),some none⟩):=by
 unfold I4
 refine DL (env:=env) (fun p:Wd×List (List PV)=>⟨[.tq,.pv (.dM (eB2 b) 0),.pv (.dM [.int .i64 a] 0),.any,.pv (.int .i64 (k:Nat)),.pv (eW p.1),.any,.any,.any,.any,.pv (.list 1 (b.ws.map eW)),.pv (.int .i64 b.ws.length),.pv (.int .i64 (k:Nat)),.any,.any,.any,.any,.any,.any,.any,.any,.any,.any,.any,.any,.any,.any,.any,.any,.any,.any,.any,.any,.any,.any,.any,.any,.any,.any],[],p.2,some none⟩)
  (fun p=>some (.normal,⟨[.tq,.pv (.dM (eB2 b) 0),.pv (.dM [.int .i64 a] 0),.any,.any,.any,.any,.any,.any,.any,.pv (.list 1 (b.ws.map eW)),.pv (.int .i64 b.ws.length),.pv (.int .i64 (k:Nat)),.any,.any,.any,.any,.any,.any,.any,.any,.any,.any,.any,.any,.any,.any,.any,.any,.any,.any,.any,.any,.any,.any,.any,.any,.any,.any],[],p.2++yI ((bitsOf p.1).map (64*k+·)),some none⟩)) (fun _=>True) (fun p=>(bitsOf p.1).length) (w0,ys0) h trivial (fun _=>rfl) (fun _=>rfl) ?_
 rintro ⟨w,ys⟩ rb _ ih
 simp only [eW] at ih ⊢
 have B:=akj w 0
 have B0:((0:Wd).toNat:Int)=0:=rfl
 rw [B0] at B
 have B':((w.toNat:Int) != 0)=!decide (w=0):=by unfold bne;rw [B]
 by_cases c:w=0
 ·rw [decide_eq_true c] at B'
  subst c
  simp only [IZ,B',abh,Zai,bg,reduceCtorEq,Nat.reduceEqDiff,Nat.reduceAdd,Nat.reduceLT,Nat.reduceLeDiff,Z1]
  simp only [yI,Zai,ZaE]
  rfl
 ·rw [decide_eq_false c] at B'
  have e1:=amd (w:=w)
  have ht:=(YN c).1
  have W0:IntKind.i64.wrap ((k:Int)*64)=64*(k:Int):=by rw [bn (by omega)];omega
  have W1:IntKind.i64.wrap (64*(k:Int)+((tz w:Nat):Int))=((64*k+tz w:Nat):Int):=by unfold tz;rw [bn (by omega)];omega
  have W2:=aph w 1
  have W3:=akh w (w - 1)
  have B1:((1:Wd).toNat:Int)=1:=rfl
  rw [B1] at W2
  have hc:=abj c
  simp only [IZ,B',e1,W0,W1,W2,W3,bg,reduceCtorEq,Nat.reduceEqDiff,Nat.reduceAdd,Nat.reduceLT,Nat.reduceLeDiff,Z1]
  rw [ih (w &&& (w - 1),ys++[[.int .i64 ((64*k+tz w:Nat):Int)]]) (by simp only;rw [hc,za];omega) trivial _ rfl]
  rw [hc]
  simp only [yI,Zaj,Zay,Za3,Za4]
  rfl
theorem ae2 {b:Bm}{a:Int}(hb:b.ws.length≤64)(hs:0≤b.size∧b.size≤4096)(ha:-1000000≤a∧a≤1000000)
  {st:St} (h:st.head [0,1,2,10,11,12] st.boxes.length=some ⟨[.tq,.pv (.dM (eB2 b) 0),.pv (.dM [.int .i64 a] 0),.any,.any,.any,.any,.any,.any,.any,.pv (.list 1 (b.ws.map eW)),.pv (.int .i64 b.ws.length),.pv (.int .i64 (0:Nat)),.any,.any,.any,.any,.any,.any,.any,.any,.any,.any,.any,.any,.any,.any,.any,.any,.any,.any,.any,.any,.any,.any,.any,.any,.any,.any],[],[],some none⟩) :
  den env I7 st=some (.normal,⟨[.any,.any,.any,.any,.any,.any,.any,.any,.any,.any,.any,.any,.any,.any,.any,.any,.any,.any,.any,.any,.any,.any,.any,.any,.any,.any,.any,.any,.any,.any,.any,.any,.any,.any,.any,.any,.any,.any,.any],[],yI (yj b.ws a b.size),some none⟩):=by
 unfold I7
 refine bM (env:=env) b.ws.length (fun k=>⟨[.tq,.pv (.dM (eB2 b) 0),.pv (.dM [.int .i64 a] 0),.any,.any,.any,.any,.any,.any,.any,.pv (.list 1 (b.ws.map eW)),.pv (.int .i64 b.ws.length),.pv (.int .i64 k),.any,.any,.any,.any,.any,.any,.any,.any,.any,.any,.any,.any,.any,.any,.any,.any,.any,.any,.any,.any,.any,.any,.any,.any,.any,.any],[],yI ((Zar (64*k)).filter fun (i:Nat)=>bit b.ws i&&decide (a≤(i:Int)∧(i:Int)<b.size)),some none⟩)
  (fun _=>some (.normal,⟨[.any,.any,.any,.any,.any,.any,.any,.any,.any,.any,.any,.any,.any,.any,.any,.any,.any,.any,.any,.any,.any,.any,.any,.any,.any,.any,.any,.any,.any,.any,.any,.any,.any,.any,.any,.any,.any,.any,.any],[],yI (yj b.ws a b.size),some none⟩)) h (fun _=>rfl) (fun _=>rfl) ?_ ?_
 ·intro k rb hi ih
  have hi1:=bF hi (by unfold lim;omega)
  have F1:((k:Int)<(b.ws.length:Int))=True:=eq_true (by omega)
  have e1:=ae1 (k:=k) (a:=a) (b:=b.size) (by omega) ha (by omega)
  have W3:=akh b.ws[k] (yh k a b.size)
  rw [XP hi] at ih
  unfold eW at e1
  simp only [I5,F1,e1,W3,eB2,eW,au hi,zb,ZS hi,bg,reduceCtorEq,Nat.reduceEqDiff,Nat.reduceAdd,Nat.reduceLT,Nat.reduceLeDiff,Z1]
  rw [aiS (b:=b) (a:=a) (k:=k) (w0:=b.ws[k] &&& yh k a b.size) (ys0:=yI ((Zar (64*k)).filter fun (i:Nat)=>bit b.ws i&&decide (a≤(i:Int)∧(i:Int)<b.size))) (by omega)]
  rotate_left
  ·rfl
  simp only [bg,reduceCtorEq,Nat.reduceEqDiff,Nat.reduceAdd,Nat.reduceLT,Nat.reduceLeDiff,Z1]
  rw [ih _ (by simp only [hi1];simp only [yI,ZaK];rfl)]
 ·intro rb
  simp only [I5,Zap,bg,reduceCtorEq,Nat.reduceEqDiff,Nat.reduceAdd,Nat.reduceLT,Nat.reduceLeDiff,Z1]
  rfl
theorem aiT {b:Bm}{a:Int}(ha:-1000000≤a∧a≤1000000):iter env 149 [.dM (eB2 b) 0,.dM [.int .i64 a] 0] none=some (yI (if okB b then yj b.ws a b.size else [])):=by
 have P:part (eB2 b) 0 (some 2)=some (jq b):=rfl
 have e1:=MR (b:=b)
 rw [DW alW rfl rfl]
 simp only [Un,P6,aJ,aT,aH,aS,aB,aC,aI,aQ,Nat.reduceAdd,Nat.reduceSub]
 cases c:okB b with
 |false =>
  rw [yu c] at e1
  have Z:((3:Int) != 0)=true:=rfl
  simp only [P,e1,Z,FK,bg,reduceCtorEq,Nat.reduceEqDiff,Nat.reduceAdd,Nat.reduceLT,Nat.reduceLeDiff,Z1]
  rfl
 |true =>
  rw [Ah c] at e1
  have Z:((0:Int) != 0)=false:=rfl
  obtain ⟨h1,h2,h3,_⟩:=jM c
  have P2:part (eB2 b) 1 none=some (.list 1 (b.ws.map eW)):=rfl
  simp only [P,P2,e1,Z,Z2,FK,bg,reduceCtorEq,Nat.reduceEqDiff,Nat.reduceAdd,Nat.reduceLT,Nat.reduceLeDiff,Z1]
  rw [ae2 (a:=a) h3 ⟨h1,h2⟩ ha]
  rotate_left
  ·rfl
  ·rfl
theorem ame {b:Bm}{a:Int}:cal env 126 [jq b,.int .i64 a]=some [(.func 149 [.dM (eB2 b) 0,.dM [.int .i64 a] 0],false)]:=by
 unfold jq eB2
 rw [ah alI rfl];simp only [Ua];simp only [start,aJ,aT,aH,aS,aB,aC,aI,aQ,Nat.reduceAdd,Nat.reduceSub]
 simp only [bg,reduceCtorEq,Nat.reduceEqDiff,Nat.reduceAdd,Nat.reduceLT,Nat.reduceLeDiff,Z1]
end Go.Proofs.YtioijcfcehhmdaaGreatDoor.V
namespace Go.Proofs.YtioijcfcehhmdaaGreatDoor
def look:List (Nat×AV)→Nat→AV
 |[],_=>.any
 |(j,v)::l,i=>dX (Z1 i j) v (look l i)
def sl (n:Nat)(l:List (Nat×AV)):List AV:=(Zar n).map (look l)
def mapA (f:AV→AV):List (Nat×AV)→List (Nat×AV)
 |[]=>[]
 |(j,v)::l=>(j,f v)::mapA f l
def keepA (l:List (Nat×AV)):List Nat→List (Nat×AV)
 |[]=>[]
 |k::ks=>(k,look l k)::keepA l ks
def EZ:Nat→List PV→List (Nat×AV)
 |_,[]=>[]
 |k,v::l=>(k,.pv v)::EZ (k+1) l
def UD (nb:Nat):List (Nat×AV)→Bool
 |[]=>true
 |(_,v)::l=>AV.low nb v&&UD nb l
def XQ (n:Nat):List Nat→Bool
 |[]=>true
 |k::ks=>decide (k<n)&&XQ n ks
theorem ae3 (i:Nat)(v:AV)(l:List (Nat×AV)):look ((i,v)::l) i=v:=by
 show dX (Z1 i i) v _=v
 rw [Nat.beq_refl];rfl
theorem look_nil (i:Nat):look [] i=.any:=(rfl)
theorem ae4 (n:Nat)(l:List (Nat×AV)):(sl n l).length=n:=by simp [sl]
theorem amf {n i:Nat}{l:List (Nat×AV)}(h':i<n):(sl n l).getD i .any=look l i:=by
 simp [sl,Zag,h']
theorem YP {n i:Nat}{l:List (Nat×AV)}(h':i<n):(sl n l)[i]?=some (look l i):=by
 simp [sl,h']
theorem o7 (l:List (Nat×AV))(i j:Nat)(v:AV):look ((j,v)::l) i=if i=j then v else look l i:=by
 show dX (Z1 i j) v _=_
 by_cases h:i=j
 ·subst h;rw [Nat.beq_refl,if_pos rfl];rfl
 ·rw [if_neg h]
  have:Z1 i j=false:=by
   cases e:Z1 i j with
   |false=>rfl
   |true=>exact absurd (Nat.eq_of_beq_eq_true e) h
  rw [this];rfl
theorem amg (n i:Nat)(v:AV)(l:List (Nat×AV)):(sl n l).set i v=sl n ((i,v)::l):=by
 apply ZbD (by simp [sl])
 intro k h1 h2
 have hk:k<n:=by simpa [sl] using h2
 simp only [sl,List.getElem_set,ZbM,ZbS,o7]
 by_cases h:i=k
 ·subst h;simp
 ·rw [if_neg h,if_neg (fun e=>h e.symm)]
theorem abk {i j:Nat}{v:AV}{l:List (Nat×AV)}(h:(i==j)=false):look ((j,v)::l) i=look l i:=by
 rw [o7,if_neg (by simpa using h)]
theorem MS (f:AV→AV)(hf:f .any=.any):∀ (l:List (Nat×AV)) (i:Nat),look (mapA f l) i=f (look l i)
 |[],i=>hf.symm
 |(j,v)::l,i=>by
  show look ((j,f v)::mapA f l) i=_
  rw [o7,o7,MS f hf l i]
  split<;>rfl
theorem Qd {f:AV→AV}(hf:f .any=.any)(n:Nat)(l:List (Nat×AV)):(sl n l).map f=sl n (mapA f l):=by
 unfold sl
 rw [List.map_map]
 apply List.map_congr_left
 intro i _
 exact (MS f hf l i).symm
theorem aiU (n d:Nat)(l:List (Nat×AV)):(sl n l).map (AV.kill d)=sl n (mapA (AV.kill d) l):=Qd rfl n l
theorem ae5 (n d:Nat)(l:List (Nat×AV)):(sl n l).map (AV.dH d)=sl n (mapA (AV.dH d) l):=Qd rfl n l
theorem ae6 (n d y:Nat)(l:List (Nat×AV)):(sl n l).map (AV.iU d y)=sl n (mapA (AV.iU d y) l):=Qd rfl n l
theorem ae7 (n:Nat)(l:List (Nat×AV)):(sl n l).map AV.froze=sl n (mapA AV.froze l):=Qd rfl n l
theorem ae8 (f:AV→AV):mapA f []=[]:=(rfl)
theorem abl (f:AV→AV)(j:Nat)(v:AV)(l:List (Nat×AV)):mapA f ((j,v)::l)=(j,f v)::mapA f l:=(rfl)
theorem abm (l:List (Nat×AV)):keepA l []=[]:=(rfl)
theorem Ai (l:List (Nat×AV))(k:Nat)(ks:List Nat):keepA l (k::ks)=(k,look l k)::keepA l ks:=(rfl)
theorem ae9 (nb:Nat):UD nb []=true:=(rfl)
theorem MV (nb k:Nat)(v:AV)(l:List (Nat×AV)):UD nb ((k,v)::l)=(AV.low nb v&&UD nb l):=(rfl)
theorem afa (n:Nat):XQ n []=true:=(rfl)
theorem MW (n k:Nat)(l:List Nat):XQ n (k::l)=(decide (k<n)&&XQ n l):=(rfl)
theorem abn (k:Nat):EZ k []=[]:=(rfl)
theorem Jl (k:Nat)(v:PV)(l:List PV):EZ k (v::l)=(k,.pv v)::EZ (k+1) l:=(rfl)
theorem Aj (l:List (Nat×AV)):∀ (ks:List Nat) (i:Nat),look (keepA l ks) i=if ks.contains i then look l i else .any
 |[],i=>rfl
 |k::ks,i=>by
  rw [Ai,o7,Aj l ks i,List.contains_cons]
  by_cases h:i=k
  ·subst h;simp
  ·have:(i==k)=false:=by simpa using h
   rw [if_neg h,this,Bool.false_or]
theorem UE (nb n:Nat)(l:List (Nat×AV)):∀ ks:List Nat,XQ n ks=true→(UD nb (keepA l ks)=true ↔ ∀ k∈ks,(look l k).low nb=true)
 |[],_=>by simp [keepA,UD]
 |k::ks,h=>by
  rw [MW,ZZ] at h
  rw [Ai,MV,ZZ,UE nb n l ks h.2]
  simp
theorem YQ {n nb:Nat}{l:List (Nat×AV)}{keep:List Nat}{bx:List Box}{ys:List (List PV)}{sp:Option (Option Nat)}(h:XQ n keep=true)(hb:nb≤bx.length)(hl:UD nb (keepA l keep)=true) :
  St.head ⟨sl n l,bx,ys,sp⟩ keep nb=some ⟨sl n (keepA l keep),bx.take nb,ys,sp⟩:=by
 have e:((sl n l).zipIdx.map fun (v,i)=>if keep.contains i then v else AV.any)=sl n (keepA l keep):=by
  apply ZbD (by simp [sl])
  intro i h1 h2
  simp only [sl,ZbM,List.getElem_zipIdx,ZbS,Aj,Zan]
 unfold St.head
 simp only
 rw [e,if_pos]
 rw [ZZ,decide_eq_true_eq]
 refine ⟨?_,hb⟩
 rw [zE]
 intro v hv
 unfold sl at hv
 obtain ⟨i,hi,rfl⟩:=ZaY.1 hv
 rw [Aj]
 split
 ·rename_i hc
  exact (UE nb n l keep h).1 hl i (by simpa using hc)
 ·rfl
theorem afb {n nb:Nat}{e:Ex}{l:List (Nat×AV)}{keep:List Nat}{bx:List Box}{ys:List (List PV)}{sp:Option (Option Nat)}(h:XQ n keep=true)(hb:nb≤bx.length)(hl:UD nb (keepA l keep)=true) :
  nZ keep nb (e,⟨sl n l,bx,ys,sp⟩)=some (e,⟨sl n (keepA l keep),bx.take nb,ys,sp⟩):=by
 unfold nZ
 simp only
 rw [YQ h hb hl]
 rfl
theorem Jm:∀ (l:List PV) (k i:Nat),look (EZ k l) i=if k≤i then ((l[i - k]?).map AV.pv).getD .any else .any:=by
 intro l
 induction l with
 |nil=>intro k i;simp [EZ,look]
 |cons v l ih =>
  intro k i
  rw [Jl,o7,ih]
  by_cases h1:i=k
  ·subst h1;simp
  ·rw [if_neg h1]
   by_cases h2:k≤i
   ·rw [if_pos (by omega),if_pos h2,show i - k=(i - (k+1))+1 by omega,List.getElem?_cons_succ]
   ·rw [if_neg (by omega),if_neg h2]
theorem abo {n:Nat}{x:mg}{args:List PV}(hn:args.length+1≤n):adl n x args=⟨sl n ((0,x.av)::EZ 1 args),x.boxes,[],none⟩:=by
 unfold adl
 congr 1
 apply ZbD (by simp [sl];omega)
 intro i h1 h2
 simp only [sl,ZbM,ZbS,o7,Jm]
 cases i with
 |zero=>simp
 |succ i =>
  rw [List.getElem_cons_succ,if_neg (by omega),if_pos (by omega),show i+1 - 1=i by omega]
  by_cases hi:i<args.length
  ·rw [Zdk (by simpa using hi)]
   simp [hi]
  ·rw [Zdd (by simp;omega)]
   simp [hi]
theorem afc {n:Nat}{args:List PV}(hn:args.length≤n):start n args=⟨sl n (EZ 0 args),[],[],none⟩:=by
 have key:=Jm
 unfold start
 congr 1
 apply ZbD (by simp [sl];omega)
 intro i h1 h2
 simp only [sl,ZbM,ZbS,key,ZaM,if_true,Nat.sub_zero]
 by_cases hi:i<args.length
 ·rw [Zdk (by simpa using hi)]
  simp [hi]
 ·rw [Zdd (by simp;omega)]
  simp [hi]
theorem amh (nb:Nat)(v:PV):AV.low nb (.pv v)=true:=(rfl)
theorem aiV (nb:Nat):AV.low nb .any=true:=(rfl)
theorem aiW (nb:Nat):AV.low nb .tq=true:=(rfl)
theorem aiX (nb sz:Nat)(es:List PV):AV.low nb (.row sz es)=true:=(rfl)
theorem afd (nb o j:Nat):AV.low nb (.aO o j)=decide (o<nb):=(rfl)
theorem afe (nb t off len:Nat):AV.low nb (.ref (.slot t) off len)=true:=(rfl)
theorem aff (nb o j off len:Nat):AV.low nb (.ref (.cell o j) off len)=decide (o<nb):=(rfl)
theorem afg (nb t i j:Nat):AV.low nb (.qx (.slot t) i j)=true:=(rfl)
theorem afh (nb o q i j:Nat):AV.low nb (.qx (.cell o q) i j)=decide (o<nb):=(rfl)
theorem ami (nb f:Nat)(caps:List AV):AV.low nb (.fn f caps)=caps.all fun c=>match c with
  |.pv _=>true
  |.aO o _=>o<nb
  |_=>false:=(rfl)
def aG:=Zs @ae3 (Zs @abk (Zs @look_nil (Zs @amf (Zs @YP (Zs @amg (Zs @aiU (Zs (Zs @ae5 @ae6) (Zs @ae7 (Zs @ae8 (Zs @abl (Zs @abm (Zs @Ai (Zs @ae9 (Zs @MV (Zs @afa (Zs @MW (Zs @abn (Zs @Jl (Zs @YQ (Zs @afb (Zs @afc (Zs @abo (Zs @amh (Zs @aiV (Zs @aiW (Zs @aiX (Zs @afd (Zs @afe (Zs @aff (Zs @afg (Zs @afh (@ami))))))))))))))))))))))))))))))))
def aF:=Zs @aG (Zs @bJ (Zs @aeM @oW))
end Go.Proofs.YtioijcfcehhmdaaGreatDoor
namespace Go.Proofs.YtioijcfcehhmdaaGreatDoor.V
def vC (l:List PV)(z:PV)(i:Nat):List PV:=l.take i++Zal (l.length - i) z
theorem abp {l:List PV}{z:PV}{i:Nat}(h:i≤l.length):(vC l z i).length=l.length:=by simp [vC];omega
theorem abq {l:List PV}{z:PV}{i:Nat}(h:i<l.length):(vC l z i)[i]?=some z:=by
 unfold vC
 have e:(l.take i).length=i:=by simp;omega
 rw [zP (by omega),e,Zbz,Zbq,if_pos (by omega)]
theorem abr {l:List PV}{z x:PV}{i:Nat}(h:i<l.length)(hx:l[i]?=some x):(vC l z i).set i x=vC l z (i+1):=by
 unfold vC
 have e:(l.take i).length=i:=by simp;omega
 rw [ZcI _ _ (by omega),e,Zbz,show l.length - i=(l.length - (i+1))+1 by omega,ZdF,Zcr,Zb1,hx,Option.toList,Zay]
 rfl
theorem XR (l:List PV)(z:PV):vC l z 0=Zal l.length z:=by simp [vC]
theorem abt (l:List PV)(z:PV):vC l z l.length=l:=by simp [vC]
theorem Jo:jq ⟨0,[]⟩=.agg [.int .i64 0,.list 1 []]:=rfl
def qm (a b:Bm):Int:=if okB a=false then 3 else if okB b=false then 3 else if a.size≠b.size then 22 else 0
def yw (f:Wd→Wd→Wd)(a b:Bm):Bm:=if qm a b=0 then ⟨a.size,oh f a.ws b.ws⟩ else ⟨0,[]⟩
theorem both_ok {a b:Bm}(h:qm a b=0):okB a=true∧okB b=true∧a.size=b.size∧a.ws.length=b.ws.length:=by
 unfold qm at h
 split at h
 ·omega
 ·split at h
  ·omega
  ·split at h
   ·omega
   ·rename_i c1 c2 c3
    have c1:okB a=true:=by cases h:okB a<;>simp_all
    have c2:okB b=true:=by cases h:okB b<;>simp_all
    have e:a.size=b.size:=Classical.not_not.1 c3
    have h1:=(kP.1 c1).1.2.2
    have h2:=(kP.1 c2).1.2.2
    exact ⟨c1,c2,e,by rw [e] at h1;omega⟩
theorem Jp {f:Wd→Wd→Wd}{a b:List Wd}(h:a.length=b.length):(oh f a b).length=a.length:=by simp [oh,h]
theorem afi {f:Wd→Wd→Wd}{a b:List Wd}{i:Nat}(h1:i<a.length)(h2:i<b.length):(oh f a b)[i]?=some (f a[i] b[i]):=by
 have h:i<(oh f a b).length:=by simp [oh];omega
 rw [ZS h]
 simp [oh]
set_option maxRecDepth 20000 in
theorem aiY {a b:Bm}{f:Wd→Wd→Wd}{gf:Nat}(hf:∀ x y,cal env gf [eW x,eW y]=some [(eW (f x y),false)])(hl:a.ws.length=b.ws.length)(hm:a.ws.length≤64){st:St}(h:st.head [2,3,4,6,10,33,35,36] st.boxes.length=some ⟨sl 59 [(2,.pv (.func gf [])),(3,.aO 0 0),(4,.aO 1 0),(6,.aO 2 0),(10,.row 1 (vC ((oh f a.ws b.ws).map eW) (.int .u64 0) ((0:Nat)))),(33,.any),(35,.pv (.int .i64 a.ws.length)),(36,.pv (.int .i64 (0:Nat)))],[⟨false,[.pv (.int .i64 a.size),.pv (.list 1 (a.ws.map eW))]⟩,⟨false,[.pv (.int .i64 b.size),.pv (.list 1 (b.ws.map eW))]⟩,⟨false,[.pv (.int .i64 0),.row 1 []]⟩],[],none⟩) :
  den env Jb st=some (.normal,⟨sl 59 [(3,.aO 0 0),(6,.aO 2 0),(7,.any),(10,.row 1 ((oh f a.ws b.ws).map eW))],[⟨false,[.pv (.int .i64 a.size),.pv (.list 1 (a.ws.map eW))]⟩,⟨false,[.pv (.int .i64 b.size),.pv (.list 1 (b.ws.map eW))]⟩,⟨false,[.pv (.int .i64 0),.row 1 []]⟩],[],none⟩):=by
 unfold Jb
 refine bM (env:=env) (nb:=3) (a.ws.length) (fun i=>⟨sl 59 [(2,.pv (.func gf [])),(3,.aO 0 0),(4,.aO 1 0),(6,.aO 2 0),(10,.row 1 (vC ((oh f a.ws b.ws).map eW) (.int .u64 0) (i))),(33,.any),(35,.pv (.int .i64 a.ws.length)),(36,.pv (.int .i64 i))],[⟨false,[.pv (.int .i64 a.size),.pv (.list 1 (a.ws.map eW))]⟩,⟨false,[.pv (.int .i64 b.size),.pv (.list 1 (b.ws.map eW))]⟩,⟨false,[.pv (.int .i64 0),.row 1 []]⟩],[],none⟩) (fun i=>some (.normal,⟨sl 59 [(3,.aO 0 0),(6,.aO 2 0),(7,.any),(10,.row 1 ((oh f a.ws b.ws).map eW))],[⟨false,[.pv (.int .i64 a.size),.pv (.list 1 (a.ws.map eW))]⟩,⟨false,[.pv (.int .i64 b.size),.pv (.list 1 (b.ws.map eW))]⟩,⟨false,[.pv (.int .i64 0),.row 1 []]⟩],[],none⟩)) h (fun _=>rfl) (fun _=>by simp only [aG,bJ,Nat.reduceMul,Nat.reduceBEq,Nat.reduceLT,Nat.reduceLeDiff,Nat.reduceAdd,decide_true,zt,zm]) ?_ ?_
 ·intro i rb hi ih
  have hi1:=bF hi (by unfold lim;omega)
  have hj:i<b.ws.length:=by omega
  have F1:((i:Int)<(a.ws.length:Int))=True:=eq_true (by omega)
  have zl:((oh f a.ws b.ws).map eW).length=a.ws.length:=by rw [Z2,Jp hl]
  have f1:=abp (l:=(oh f a.ws b.ws).map eW) (z:=.int .u64 0) (i:=i) (by omega)
  have f2:=abq (l:=(oh f a.ws b.ws).map eW) (z:=.int .u64 0) (i:=i) (by omega)
  have f3:=abr (l:=(oh f a.ws b.ws).map eW) (z:=.int .u64 0) (i:=i) (x:=eW (f a.ws[i] b.ws[i])) (by omega) (by rw [zb,afi hi hj];rfl)
  have e1:=hf a.ws[i] b.ws[i]
  rw [zl] at f1
  unfold eW at e1 f1 f2 f3 ih ⊢
  simp only [Ja,F1,e1,f1,f2,f3,au hi,au hj,zb,ZS hi,ZS hj,Zah,Z2,aF,Nat.reduceMul,Nat.reduceBEq,Nat.reduceLT,Nat.reduceLeDiff,reduceCtorEq,Nat.reduceEqDiff,Nat.reduceAdd,Z1]
  rw [ih _ (by simp only [hi1,aF,Nat.reduceMul,Nat.reduceBEq,Nat.reduceLT,Nat.reduceLeDiff,reduceCtorEq,Nat.reduceEqDiff,Nat.reduceAdd,Z1]<;>rfl)]
 ·intro rb
  have zl:((oh f a.ws b.ws).map eW).length=a.ws.length:=by rw [Z2,Jp hl]
  have f4:=abt ((oh f a.ws b.ws).map eW) (.int .u64 0)
  rw [zl] at f4
  rw [f4]
  simp only [Ja,Zap,aF,Nat.reduceMul,Nat.reduceBEq,Nat.reduceLT,Nat.reduceLeDiff,reduceCtorEq,Nat.reduceEqDiff,Nat.reduceAdd,Z1]
theorem amj {a b:Bm}{f:Wd→Wd→Wd}{gf:Nat}(hf:∀ x y,cal env gf [eW x,eW y]=some [(eW (f x y),false)]) :
  cal env 152 [jq a,jq b,.func gf []]=some [(jq (yw f a b),false),(.int .i64 (qm a b),false)]:=by
 have P:∀ b:Bm,part [PV.int .i64 b.size,.list 1 (b.ws.map eW)] 0 (some 2)=some (jq b):=fun _=>rfl
 have e1:=MR (b:=a)
 have e2:=MR (b:=b)
 have Z0:((0:Int) != 0)=false:=rfl
 have Z3:((3:Int) != 0)=true:=rfl
 have hz:=Jo
 unfold yw
 cases c1:okB a with
 |false =>
  have hE:qm a b=3:=by unfold qm;rw [if_pos c1]
  rw [hE,if_neg (by decide),hz]
  rw [yu c1] at e1
  have eA:jq a=.agg [.int .i64 a.size,.list 1 (a.ws.map eW)]:=rfl
  have eB:jq b=.agg [.int .i64 b.size,.list 1 (b.ws.map eW)]:=rfl
  rw [eA] at e1 ⊢;rw [eB]
  rw [ah PZ rfl];simp only [EY,aG,Nat.reduceBEq,Nat.reduceLeDiff,Nat.reduceAdd,za,zd]
  simp only [e1,Z3,DU,DT,Ip,aF,Nat.reduceMul,Nat.reduceBEq,Nat.reduceLT,Nat.reduceLeDiff,reduceCtorEq,Nat.reduceEqDiff,Nat.reduceAdd,Z1]
 |true =>
  rw [Ah c1] at e1
  cases c2:okB b with
  |false =>
   have hE:qm a b=3:=by unfold qm;rw [if_neg (by rw [c1];decide),if_pos c2]
   rw [hE,if_neg (by decide),hz]
   rw [yu c2] at e2
   have eA:jq a=.agg [.int .i64 a.size,.list 1 (a.ws.map eW)]:=rfl
   have eB:jq b=.agg [.int .i64 b.size,.list 1 (b.ws.map eW)]:=rfl
   rw [eA] at e1 ⊢;rw [eB] at e2 ⊢
   rw [ah PZ rfl];simp only [EY,aG,Nat.reduceBEq,Nat.reduceLeDiff,Nat.reduceAdd,za,zd]
   simp only [e1,e2,Z3,Z0,aF,Nat.reduceMul,Nat.reduceBEq,Nat.reduceLT,Nat.reduceLeDiff,reduceCtorEq,Nat.reduceEqDiff,Nat.reduceAdd,Z1]
  |true =>
   rw [Ah c2] at e2
   by_cases c3:a.size=b.size
   ·have hE:qm a b=0:=by unfold qm;rw [if_neg (by rw [c1];decide),if_neg (by rw [c2];decide),if_neg (by simpa using c3)]
    obtain ⟨_,_,_,hl⟩:=both_ok hE
    have hm:=(jM c1).2.2.1
    have G:(a.size != b.size)=false:=by simp [c3]
    have F3:((0:Int)≤(a.ws.length:Int))=True:=eq_true (by omega)
    have F4:((a.ws.length:Int)≤(lim:Int))=True:=eq_true (by unfold lim;omega)
    rw [hE,if_pos rfl]
    have eA:jq a=.agg [.int .i64 a.size,.list 1 (a.ws.map eW)]:=rfl
    have eB:jq b=.agg [.int .i64 b.size,.list 1 (b.ws.map eW)]:=rfl
    rw [eA] at e1 ⊢;rw [eB] at e2 ⊢
    rw [ah PZ rfl];simp only [EY,aG,Nat.reduceBEq,Nat.reduceLeDiff,Nat.reduceAdd,za,zd]
    simp only [e1,e2,Z0,G,F3,F4,ZaG,Z2,Zby,aF,Nat.reduceMul,Nat.reduceBEq,Nat.reduceLT,Nat.reduceLeDiff,reduceCtorEq,Nat.reduceEqDiff,Nat.reduceAdd,Z1]
    rw [aiY hf hl hm]
    rotate_left
    ·have zl:((oh f a.ws b.ws).map eW).length=a.ws.length:=by rw [Z2,Jp hl]
     rw [XR,zl]
     simp only [aG,bJ,Nat.reduceMul,Nat.reduceBEq,Nat.reduceLT,Nat.reduceLeDiff,Nat.reduceAdd,decide_true,zt,zm]<;>rfl
    ·simp only [e1,e2,Z0,G,F3,F4,ZaG,Z2,Zby,aF,Nat.reduceMul,Nat.reduceBEq,Nat.reduceLT,Nat.reduceLeDiff,reduceCtorEq,Nat.reduceEqDiff,Nat.reduceAdd,Z1]
     rfl
   ·have hE:qm a b=22:=by unfold qm;rw [if_neg (by rw [c1];decide),if_neg (by rw [c2];decide),if_pos (by simpa using c3)]
    have G:(a.size != b.size)=true:=by simp [c3]
    rw [hE,if_neg (by decide),hz]
    have eA:jq a=.agg [.int .i64 a.size,.list 1 (a.ws.map eW)]:=rfl
    have eB:jq b=.agg [.int .i64 b.size,.list 1 (b.ws.map eW)]:=rfl
    rw [eA] at e1 ⊢;rw [eB] at e2 ⊢
    rw [ah PZ rfl];simp only [EY,aG,Nat.reduceBEq,Nat.reduceLeDiff,Nat.reduceAdd,za,zd]
    simp only [e1,e2,Z0,G,aF,Nat.reduceMul,Nat.reduceBEq,Nat.reduceLT,Nat.reduceLeDiff,reduceCtorEq,Nat.reduceEqDiff,Nat.reduceAdd,Z1]
theorem amk (x y:Wd):cal env 153 [eW x,eW y]=some [(eW (x ||| y),false)]:=by
 have W:=apd x y
 unfold eW
 rw [ah alZ rfl];simp only [Ur];simp only [start,aJ,aT,aH,aS,aB,aC,aI,aQ,Nat.reduceAdd,Nat.reduceSub]
 simp only [W,bg,reduceCtorEq,Nat.reduceEqDiff,Nat.reduceAdd,Nat.reduceLT,Nat.reduceLeDiff,Z1]
def D5 (x y:Wd):Wd:=x ||| y
theorem aml {a b:Bm}:cal env 136 [jq a,jq b]=some [(jq (yw D5 a b),false),(.int .i64 (qm a b),false)]:=by
 have e1:=amj (a:=a) (b:=b) (f:=D5) (gf:=153) amk
 have eA:∀ a:Bm,jq a=.agg [.int .i64 a.size,.list 1 (a.ws.map eW)]:=fun _=>rfl
 rw [eA,eA,eA] at e1 ⊢
 rw [ah alQ rfl];simp only [Ui];simp only [start,aJ,aT,aH,aS,aB,aC,aI,aQ,Nat.reduceAdd,Nat.reduceSub]
 simp only [e1,bg,reduceCtorEq,Nat.reduceEqDiff,Nat.reduceAdd,Nat.reduceLT,Nat.reduceLeDiff,Z1]
theorem sorted_at {l:List Nat}(hs:l.Pairwise (·<·)){j i:Nat}(h:l[j]?=some i):j≤i∧∀ k∈l.take j,k<i:=by
 obtain ⟨hj,rfl⟩:=Z6.1 h
 have hp:=List.pairwise_iff_getElem.1 hs
 refine ⟨?_,fun k hk=>?_⟩
 ·clear h
  induction j with
  |zero=>exact ZaM _
  |succ j ih =>
   have h1:=ih (by omega)
   have h2:=hp j (j+1) (by omega) hj (by omega)
   omega
 ·obtain ⟨m,hm,rfl⟩:=List.mem_iff_getElem.1 hk
  rw [List.getElem_take]
  simp only [Zac] at hm
  exact hp m j (by omega) hj (by omega)
def Jq (b:Bm):List Nat:=if okB b then yj b.ws 0 b.size else []
theorem aiZ {b:Bm}{j i:Nat}(h:(Jq b)[j]?=some i):i<4096∧j≤i∧∀ k∈(Jq b).take j,k<i:=by
 unfold Jq at h ⊢
 split at h
 ·rename_i c
  rw [if_pos c]
  have hs:(yj b.ws 0 b.size).Pairwise (·<·):=List.pairwise_lt_range.filter _
  have hm:=Zab h
  simp only [yj,ZcO,ZaS,ZZ,decide_eq_true_eq] at hm
  have:=jM c
  exact ⟨by omega,sorted_at hs h⟩
 ·simp at h
def bmX (b:Bm):List cZ:=if okB b then Qc b else []
theorem amm (b:Bm):exts (Jq b)=bmX b:=by
 unfold Jq bmX Qc ext
 split
 ·rename_i c;rw [aeZ c 0 (by omega)]
 ·rfl
theorem akk {b:Bm}:cal env 94 [jq b]=some [(.list 2 ((bmX b).map cO),true)]:=by
 have e1:=ame (b:=b) (a:=0)
 have eA:∀ a:Bm,jq a=.agg [.int .i64 a.size,.list 1 (a.ws.map eW)]:=fun _=>rfl
 rw [eA] at e1 ⊢
 rw [ah ao4 rfl];simp only [aex];simp only [start,aJ,aT,aH,aS,aB,aC,aI,aQ,Nat.reduceAdd,Nat.reduceSub]
 simp only [e1,bg,reduceCtorEq,Nat.reduceEqDiff,Nat.reduceAdd,Nat.reduceLT,Nat.reduceLeDiff,Z1]
 rw [P7 (env:=env) (fun j=>[⟨false,[.pv (.int .i64 b.size),.pv (.list 1 (b.ws.map eW))]⟩,⟨false,[.row 2 ((exts ((Jq b).take j)).map cO)]⟩]) (xs:=yI (Jq b)) rfl (by have:=aiT (b:=b) (a:=0) (by omega);exact this) rfl ?_]
 ·simp only [yI,Z2,ZaI,FK,bg,reduceCtorEq,Nat.reduceEqDiff,Nat.reduceAdd,Nat.reduceLT,Nat.reduceLeDiff,Z1]
  rw [amm]
 ·intro j x hx sl0
  simp only [yI,zb,Zat] at hx
  obtain ⟨i,hi,rfl⟩:=hx
  obtain ⟨k1,k2,k3⟩:=aiZ hi
  have hlim:lim=1073741824:=rfl
  have hj:=(Z6.1 hi).1
  have ht:(Jq b).take (j+1)=(Jq b).take j++[i]:=by rw [Zb1,hi];rfl
  have hlen:((Jq b).take j).length=j:=by simp;omega
  rw [ht]
  rcases jV ((Jq b).take j) with h0|⟨p,q,h0⟩
  ·have F2:(((0:Nat):Int) > 0)=False:=eq_false (by omega)
   have F3:(0+1≤lim)=True:=eq_true (by omega)
   have e0:exts ([]:List Nat)=[]:=rfl
   have e2:exts [i]=[⟨i,1⟩]:=rfl
   refine ⟨?_,?_⟩
   rotate_left
   ·simp only [h0,Za4,Gs,Gt,F2,F3,e0,e2,cO,Zai,Zaj,FK,bg,reduceCtorEq,Nat.reduceEqDiff,Nat.reduceAdd,Nat.reduceLT,Nat.reduceLeDiff,Z1]
    rfl
  ·obtain ⟨pre,⟨s,c⟩,e0,h1,h2,h3,h4⟩:=DY _ p rfl q
   have hqi:q<i:=k3 q (by rw [h0];simp)
   simp only at h1 h2 h3
   have hpl:p.length+1=j:=by rw [h0] at hlen;simpa using hlen
   have F2:(((pre.length+1:Nat):Int) > 0)=True:=eq_true (by omega)
   have F3:=MQ (n:=pre.length) (by omega)
   have F4:IntKind.i64.wrap (s+c)=s+c:=bn (by omega)
   have F5:IntKind.i64.wrap (c+1)=c+1:=bn (by omega)
   have F6:(pre.length+1+1≤lim)=True:=eq_true (by omega)
   have F7:index (.int .i64 (pre.length:Int)) (pre.length+1)=some pre.length:=au (by omega)
   by_cases hc:s+c=(i:Int)
   ·have F8:(s+c==(i:Int))=true:=by simpa using hc
    have e2:exts (p++[q]++[i])=pre++[⟨s,c+1⟩]:=by rw [rG,e0,iE,if_pos hc]
    refine ⟨?_,?_⟩
    rotate_left
    ·simp only [h0,Gs,Gt,e0,e2,F2,F3,F4,F5,F6,F7,F8,cO,ZaK,Zaj,Zai,FK,bg,reduceCtorEq,Nat.reduceEqDiff,Nat.reduceAdd,Nat.reduceLT,Nat.reduceLeDiff,Z1]
     rfl
   ·have F8:(s+c==(i:Int))=false:=by simpa using hc
    have e2:exts (p++[q]++[i])=pre++[⟨s,c⟩]++[⟨i,1⟩]:=by rw [rG,e0,iE,if_neg hc]
    refine ⟨?_,?_⟩
    rotate_left
    ·simp only [h0,Gs,Gt,e0,e2,F2,F3,F4,F5,F6,F7,F8,cO,ZaK,Zaj,Zai,FK,bg,reduceCtorEq,Nat.reduceEqDiff,Nat.reduceAdd,Nat.reduceLT,Nat.reduceLeDiff,Z1]
     rfl
structure zh where
 epoch:Int
 fr:Int
 to:Int
 deriving DecidableEq
def jY (x:zh):PV:=.agg [.int .i64 x.epoch,.int .i64 x.fr,.int .i64 x.to]
def FN (x:zh):List BV:=[.pv (.int .i64 x.epoch),.pv (.int .i64 x.fr),.pv (.int .i64 x.to)]
def kY (p x:zh):Bool:=decide (x.fr=p.to+1)&&(decide (x.fr≤x.to)&&(decide (x.to≤1073741824)&&(decide (x.epoch≤1073741824)&&decide (p.epoch<x.epoch))))
def z0:zh:=⟨0,0,0⟩
def linGo:zh→List zh→Bool
 |_,[]=>true
 |p,x::l=>kY p x&&linGo x l
def qJ (l:List zh):Bool:=linGo z0 l
def lastOf (l:List zh)(j:Nat):zh:=if j=0 then z0 else l.getD (j - 1) z0
def MX (p:zh):Prop:=0≤p.epoch∧p.epoch≤1073741824∧0≤p.to∧p.to≤1073741824
theorem yx {l:List zh}{i:Nat}(h:i<l.length):lastOf l (i+1)=l[i]:=by
 simp [lastOf,Zag,ZS h]
theorem UF {p x:zh}(h:kY p x=true)(hp:MX p):MX x∧x.fr=p.to+1∧x.fr≤x.to∧p.epoch<x.epoch:=by
 simp only [kY,ZZ,decide_eq_true_eq] at h
 unfold MX at *
 omega
def kT (p:zh):List zh→Bool×zh
 |[]=>(true,p)
 |x::r=>if kY p x=true then kT x r else (false,p)
theorem MZ:∀ (l:List zh) (p:zh),(kT p l).1=linGo p l
 |[],_=>rfl
 |x::l,p=>by
  unfold kT linGo
  by_cases h:kY p x=true
  ·simp only [h,if_true,zm];exact MZ l x
  ·simp only [h,if_false,Zbr] at *;simp [h]
theorem akl {n low:Int}:cal env 92 [.int .i64 n,.int .i64 low]=some [(.bool (decide (n ≥ low)&&decide (n≤1073741824)),false)]:=by
 rw [ah ao2 rfl];simp only [aev];simp only [start,aJ,aT,aH,aS,aB,aC,aI,aQ,Nat.reduceAdd,Nat.reduceSub]
 by_cases h:n ≥ low
 ·have G:(n ≥ low)=True:=eq_true h
  simp only [G,bg,reduceCtorEq,Nat.reduceEqDiff,Nat.reduceAdd,Nat.reduceLT,Nat.reduceLeDiff,Z1]
 ·have G:(n ≥ low)=False:=eq_false h
  simp only [G,bg,reduceCtorEq,Nat.reduceEqDiff,Nat.reduceAdd,Nat.reduceLT,Nat.reduceLeDiff,Z1]
theorem amn {l:List zh}(hl:l.length≤lim)
  {st:St} (h:st.head [0,3,7,8,9] st.boxes.length=some ⟨[.pv (.list 3 (l.map jY)),.any,.any,.aO 0 0,.any,.any,.any,.pv (.list 3 (l.map jY)),.pv (.int .i64 l.length),.pv (.int .i64 (0:Nat)),.any,.any,.any,.any,.any,.any,.any,.any,.any,.any,.any,.any,.any,.any,.any,.any,.any,.any,.any,.any,.any,.any,.any,.any,.any,.any,.any,.any,.any,.any,.any,.any,.any,.any,.any,.any],[⟨false,FN z0⟩],[],none⟩) :
  den env PW st=match kT z0 l with
   |(true,p)=>some (.normal,⟨[.any,.any,.any,.any,.any,.any,.any,.any,.any,.any,.any,.any,.any,.any,.any,.any,.any,.any,.any,.any,.any,.any,.any,.any,.any,.any,.any,.any,.any,.any,.any,.any,.any,.any,.any,.any,.any,.any,.any,.any,.any,.any,.any,.any,.any,.any],[⟨false,FN p⟩],[],none⟩)
   |(false,p)=>some (.ret,⟨[.any,.any,.pv (.bool false),.any,.any,.any,.any,.any,.any,.any,.any,.any,.any,.any,.any,.any,.any,.any,.any,.any,.any,.any,.any,.any,.any,.any,.any,.any,.any,.any,.any,.any,.any,.any,.any,.any,.any,.any,.any,.any,.any,.any,.any,.any,.any,.any],[⟨false,FN p⟩],[],none⟩):=by
 unfold PW
 refine DX (env:=env) l.length (fun i=>MX (lastOf l i)) (fun i=>⟨[.pv (.list 3 (l.map jY)),.any,.any,.aO 0 0,.any,.any,.any,.pv (.list 3 (l.map jY)),.pv (.int .i64 l.length),.pv (.int .i64 i),.any,.any,.any,.any,.any,.any,.any,.any,.any,.any,.any,.any,.any,.any,.any,.any,.any,.any,.any,.any,.any,.any,.any,.any,.any,.any,.any,.any,.any,.any,.any,.any,.any,.any,.any,.any],[⟨false,FN (lastOf l i)⟩],[],none⟩)
  (fun i=>match kT (lastOf l i) (l.drop i) with
   |(true,p)=>some (.normal,⟨[.any,.any,.any,.any,.any,.any,.any,.any,.any,.any,.any,.any,.any,.any,.any,.any,.any,.any,.any,.any,.any,.any,.any,.any,.any,.any,.any,.any,.any,.any,.any,.any,.any,.any,.any,.any,.any,.any,.any,.any,.any,.any,.any,.any,.any,.any],[⟨false,FN p⟩],[],none⟩)
   |(false,p)=>some (.ret,⟨[.any,.any,.pv (.bool false),.any,.any,.any,.any,.any,.any,.any,.any,.any,.any,.any,.any,.any,.any,.any,.any,.any,.any,.any,.any,.any,.any,.any,.any,.any,.any,.any,.any,.any,.any,.any,.any,.any,.any,.any,.any,.any,.any,.any,.any,.any,.any,.any],[⟨false,FN p⟩],[],none⟩)) h (by simp [lastOf,MX,z0]) (fun _=>rfl) (fun _=>rfl) ?_ ?_
 ·intro i rb hi hf ih
  have hi1:=bF hi hl
  have F1:((i:Int)<(l.length:Int))=True:=eq_true (by omega)
  have hk:l[i]?=some l[i]:=ZS hi
  rw [yx hi] at ih
  rw [zw hi]
  unfold kT
  generalize lastOf l i=p at *
  generalize l[i]=x at *
  obtain ⟨pe,pf,pt⟩:=p
  obtain ⟨xe,xf,xt⟩:=x
  have hf':=hf
  simp only [MX] at hf
  have F2:IntKind.i64.wrap (pt+1)=pt+1:=bn (by omega)
  by_cases c1:xf=pt+1
  rotate_left
  ·have G1:(xf != pt+1)=true:=by simpa using c1
   have hn:kY ⟨pe,pf,pt⟩ ⟨xe,xf,xt⟩=false:=by simp [kY,c1]
   simp only [G1,ug,F1,F2,hk,FN,jY,au hi,zb,Zah,bg,reduceCtorEq,Nat.reduceEqDiff,Nat.reduceAdd,Nat.reduceLT,Nat.reduceLeDiff,Z1]
   simp only [hn]
   rfl
  have G1:(xf != pt+1)=false:=by simpa using c1
  by_cases c2:xt<xf
  ·have G2:(xt<xf)=True:=eq_true c2
   have hn:kY ⟨pe,pf,pt⟩ ⟨xe,xf,xt⟩=false:=by simp [kY];omega
   simp only [G1,G2,ug,F1,F2,hk,FN,jY,au hi,zb,Zah,bg,reduceCtorEq,Nat.reduceEqDiff,Nat.reduceAdd,Nat.reduceLT,Nat.reduceLeDiff,Z1]
   simp only [hn]
   rfl
  have G2:(xt<xf)=False:=eq_false c2
  by_cases c3:xt > 1073741824
  ·have G3:(xt > 1073741824)=True:=eq_true c3
   have hn:kY ⟨pe,pf,pt⟩ ⟨xe,xf,xt⟩=false:=by simp [kY];omega
   simp only [G1,G2,G3,ug,F1,F2,hk,FN,jY,au hi,zb,Zah,bg,reduceCtorEq,Nat.reduceEqDiff,Nat.reduceAdd,Nat.reduceLT,Nat.reduceLeDiff,Z1]
   simp only [hn]
   rfl
  have G3:(xt > 1073741824)=False:=eq_false c3
  have e1:=akl (n:=xe) (low:=1)
  by_cases c4:1≤xe∧xe≤1073741824
  rotate_left
  ·have G4:(decide (xe ≥ 1)&&decide (xe≤1073741824))=false:=by
    rw [← Zbr];simp;omega
   rw [G4] at e1
   have hn:kY ⟨pe,pf,pt⟩ ⟨xe,xf,xt⟩=false:=by simp [kY];omega
   simp only [G1,G2,G3,e1,ug,F1,F2,hk,FN,jY,au hi,zb,Zah,bg,reduceCtorEq,Nat.reduceEqDiff,Nat.reduceAdd,Nat.reduceLT,Nat.reduceLeDiff,Z1]
   simp only [hn]
   rfl
  have G4:(decide (xe ≥ 1)&&decide (xe≤1073741824))=true:=by simp;omega
  rw [G4] at e1
  by_cases c5:xe≤pe
  ·have G5:(xe≤pe)=True:=eq_true c5
   have hn:kY ⟨pe,pf,pt⟩ ⟨xe,xf,xt⟩=false:=by simp [kY];omega
   simp only [G1,G2,G3,e1,G5,ug,F1,F2,hk,FN,jY,au hi,zb,Zah,bg,reduceCtorEq,Nat.reduceEqDiff,Nat.reduceAdd,Nat.reduceLT,Nat.reduceLeDiff,Z1]
   simp only [hn]
   rfl
  have G5:(xe≤pe)=False:=eq_false c5
  have hn:kY ⟨pe,pf,pt⟩ ⟨xe,xf,xt⟩=true:=by simp [kY];omega
  have hfx:=(UF hn hf').1
  simp only [G1,G2,G3,e1,G5,ug,F1,F2,hk,FN,jY,au hi,zb,Zah,bg,reduceCtorEq,Nat.reduceEqDiff,Nat.reduceAdd,Nat.reduceLT,Nat.reduceLeDiff,Z1]
  rw [ih hfx _ (by simp only [hi1];rfl)]
  simp only [hn,if_true]
  rfl
 ·intro rb hf
  simp only [ug,Zap,bg,reduceCtorEq,Nat.reduceEqDiff,Nat.reduceAdd,Nat.reduceLT,Nat.reduceLeDiff,Z1]
  rw [ZaT]
  rfl
theorem afj {l:List zh}(hl:l.length≤lim):cal env 93 [.list 3 (l.map jY)]=some [(.bool (qJ l),false)]:=by
 rw [ah ao3 rfl];simp only [aew];simp only [start,aJ,aT,aH,aS,aB,aC,aI,aQ,Nat.reduceAdd,Nat.reduceSub]
 simp only [bg,reduceCtorEq,Nat.reduceEqDiff,Nat.reduceAdd,Nat.reduceLT,Nat.reduceLeDiff,Z1]
 rw [amn hl]
 rotate_left
 ·rfl
 ·have:=MZ l z0
  cases h:kT z0 l with
  |mk t p =>
   rw [h] at this
   cases t with
   |true=>simp only [qJ,← this,bg,reduceCtorEq,Nat.reduceEqDiff,Nat.reduceAdd,Nat.reduceLT,Nat.reduceLeDiff,Z1]
   |false=>simp only [qJ,← this,bg,reduceCtorEq,Nat.reduceEqDiff,Nat.reduceAdd,Nat.reduceLT,Nat.reduceLeDiff,Z1]
structure Pt where
 site:Int
 lin:List zh
 dirty:List Bm
 img:fG
def FP (p:Pt):PV:=.agg [.int .i64 p.site,.list 3 (p.lin.map jY),.list 2 (p.dirty.map jq),.list 1 (p.img.map aX)]
def qU (p:Pt):List BV:=[.pv (.int .i64 p.site),.pv (.list 3 (p.lin.map jY)),.pv (.list 2 (p.dirty.map jq)),.pv (.list 1 (p.img.map aX))]
theorem aZ (p:Pt):qU p=[.pv (.int .i64 p.site),.pv (.list 3 (p.lin.map jY)),.pv (.list 2 (p.dirty.map jq)),.pv (.list 1 (p.img.map aX))]:=rfl
theorem gJ (p:Pt):FP p=.agg [.int .i64 p.site,.list 3 (p.lin.map jY),.list 2 (p.dirty.map jq),.list 1 (p.img.map aX)]:=rfl
def Cb (p:Pt):Prop:=p.lin.length≤lim∧p.dirty.length≤lim∧p.img.length≤lim
def yA:List Bm→fG→Int
 |b::bs,v::vs=>if KR b≠0 then KR b else if b.size≠(v.length:Int) then 22 else yA bs vs
 |_,_=>0
def gU (p:Pt):Int :=
 if p.site<0∨1073741824<p.site then 2
 else if qJ p.lin=false then 3
 else if bY p.img≠0 then bY p.img
 else if p.dirty.length≠p.img.length then 6
 else yA p.dirty p.img
def resD (n:Nat)(e:Int)(bx:List Box):Option (Ex×St):=if e=0 then some (.normal,⟨sl n [(2,.any)],bx,[],none⟩) else some (.ret,⟨sl n [(2,.pv (.int .i64 e))],bx,[],none⟩)
theorem abu {bs:List Bm}{vs:fG}{i:Nat}(h1:i<bs.length)(h2:i<vs.length):yA (bs.drop i) (vs.drop i)=if KR bs[i]≠0 then KR bs[i] else if bs[i].size≠(vs[i].length:Int) then 22 else yA (bs.drop (i+1)) (vs.drop (i+1)):=by
 rw [zw h1,zw h2,yA]
theorem amo {p:Pt}(hl:p.dirty.length≤lim)(hq:p.dirty.length=p.img.length){st:St}(h:st.head [1,31,32,33] st.boxes.length=some ⟨sl 53 [(1,.aO 0 0),(31,.pv (.list 2 (p.dirty.map jq))),(32,.pv (.int .i64 p.dirty.length)),(33,.pv (.int .i64 (0:Nat)))],[⟨false,qU p⟩],[],none⟩) :
  den env Pm st=resD 53 (yA (p.dirty.drop ((0:Nat))) (p.img.drop ((0:Nat)))) [⟨false,qU p⟩]:=by
 unfold Pm
 refine bM (env:=env) (nb:=1) (p.dirty.length) (fun i=>⟨sl 53 [(1,.aO 0 0),(31,.pv (.list 2 (p.dirty.map jq))),(32,.pv (.int .i64 p.dirty.length)),(33,.pv (.int .i64 i))],[⟨false,qU p⟩],[],none⟩) (fun i=>resD 53 (yA (p.dirty.drop (i)) (p.img.drop (i))) [⟨false,qU p⟩]) h (fun _=>rfl) (fun _=>by simp only [aG,bJ,Nat.reduceMul,Nat.reduceBEq,Nat.reduceLT,Nat.reduceLeDiff,Nat.reduceAdd,decide_true,zt,zm]) ?_ ?_
 ·intro i rb hi ih
  have hi1:=bF hi hl
  have hj:i<p.img.length:=by omega
  have F1:((i:Int)<(p.dirty.length:Int))=True:=eq_true (by omega)
  have P2:∀ a b:PV,part [a,b] 0 (some 2)=some (.agg [a,b]):=fun _ _=>rfl
  have eA:∀ b:Bm,jq b=.agg [.int .i64 b.size,.list 1 (b.ws.map eW)]:=fun _=>rfl
  have eV:∀ v:List fE,aX v=.list 8 (v.map je):=fun _=>rfl
  have hx:(p.dirty.map jq)[i]?=some (jq p.dirty[i]):=by rw [zb,ZS hi];rfl
  have hy:(p.img.map aX)[i]?=some (aX p.img[i]):=by rw [zb,ZS hj];rfl
  have e1:=MR (b:=p.dirty[i])
  have hD:=abu hi hj
  rw [eA] at hx e1
  rw [eV] at hy
  by_cases c1:KR p.dirty[i]=0
  ·have G1:((0:Int) != 0)=false:=rfl
   rw [c1] at e1
   rw [if_neg (show ¬ KR p.dirty[i]≠0 from fun h=>h c1)] at hD
   by_cases c2:p.dirty[i].size=(p.img[i].length:Int)
   ·have G2:(p.dirty[i].size != (p.img[i].length:Int))=false:=by simpa using c2
    rw [if_neg (show ¬ p.dirty[i].size≠(p.img[i].length:Int) from fun h=>h c2)] at hD
    rw [hD]
    simp only [BN,F1,hx,hy,e1,P2,G1,G2,aZ,au hi,au hj,Z2,aF,Nat.reduceMul,Nat.reduceBEq,Nat.reduceLT,Nat.reduceLeDiff,reduceCtorEq,Nat.reduceEqDiff,Nat.reduceAdd,Z1]
    rw [ih _ (by simp only [hi1,aZ,aF,Nat.reduceMul,Nat.reduceBEq,Nat.reduceLT,Nat.reduceLeDiff,reduceCtorEq,Nat.reduceEqDiff,Nat.reduceAdd,Z1]<;>rfl)]
    all_goals rfl
   ·have G2:(p.dirty[i].size != (p.img[i].length:Int))=true:=by simpa using c2
    rw [if_pos c2] at hD
    rw [hD]
    unfold resD
    rw [if_neg (by decide)]
    simp only [BN,F1,hx,hy,e1,P2,G1,G2,aZ,au hi,au hj,Z2,aF,Nat.reduceMul,Nat.reduceBEq,Nat.reduceLT,Nat.reduceLeDiff,reduceCtorEq,Nat.reduceEqDiff,Nat.reduceAdd,Z1]
  ·have G1:(KR p.dirty[i] != 0)=true:=by simpa using c1
   rw [if_pos c1] at hD
   rw [hD]
   unfold resD
   rw [if_neg c1]
   simp only [BN,F1,hx,hy,e1,P2,G1,aZ,au hi,au hj,Z2,aF,Nat.reduceMul,Nat.reduceBEq,Nat.reduceLT,Nat.reduceLeDiff,reduceCtorEq,Nat.reduceEqDiff,Nat.reduceAdd,Z1]
 ·intro rb
  rw [ZaT,hq,ZaT]
  unfold yA resD
  rw [if_pos rfl]
  simp only [BN,Zap,aZ,hq,Z2,aF,Nat.reduceMul,Nat.reduceBEq,Nat.reduceLT,Nat.reduceLeDiff,reduceCtorEq,Nat.reduceEqDiff,Nat.reduceAdd,Z1]
theorem afk {p:Pt}(h:Cb p):cal env 50 [FP p]=some [(.int .i64 (gU p),false)]:=by
 obtain ⟨h1,h2,h3⟩:=h
 have e0:=akl (n:=p.site) (low:=0)
 have e1:=afj (l:=p.lin) h1
 have e2:=YK (im:=p.img) h3
 have Z:((0:Int) != 0)=false:=rfl
 unfold gU
 rw [gJ]
 by_cases c1:p.site<0∨1073741824<p.site
 ·have G1:(decide (p.site ≥ 0)&&decide (p.site≤1073741824))=false:=by simp;omega
  rw [G1] at e0
  rw [if_pos c1]
  rw [ah Us rfl];simp only [Pn,aG,Nat.reduceBEq,Nat.reduceLeDiff,Nat.reduceAdd,za,zd]
  simp only [e0,aF,Nat.reduceMul,Nat.reduceBEq,Nat.reduceLT,Nat.reduceLeDiff,reduceCtorEq,Nat.reduceEqDiff,Nat.reduceAdd,Z1]
 ·have G1:(decide (p.site ≥ 0)&&decide (p.site≤1073741824))=true:=by simp;omega
  rw [G1] at e0
  rw [if_neg c1]
  cases c3:qJ p.lin with
  |false =>
   rw [c3] at e1
   rw [if_pos rfl]
   rw [ah Us rfl];simp only [Pn,aG,Nat.reduceBEq,Nat.reduceLeDiff,Nat.reduceAdd,za,zd]
   simp only [e0,e1,aF,Nat.reduceMul,Nat.reduceBEq,Nat.reduceLT,Nat.reduceLeDiff,reduceCtorEq,Nat.reduceEqDiff,Nat.reduceAdd,Z1]
  |true =>
   rw [c3] at e1
   rw [if_neg (by decide)]
   by_cases c4:bY p.img=0
   ·rw [c4] at e2
    rw [if_neg (by rw [c4];decide)]
    by_cases c5:p.dirty.length=p.img.length
    ·have G5:((p.dirty.length:Int) != (p.img.length:Int))=false:=by simp [c5]
     rw [if_neg (by simpa using c5)]
     rw [ah Us rfl];simp only [Pn,aG,Nat.reduceBEq,Nat.reduceLeDiff,Nat.reduceAdd,za,zd]
     simp only [e0,e1,e2,Z,G5,Z2,aF,Nat.reduceMul,Nat.reduceBEq,Nat.reduceLT,Nat.reduceLeDiff,reduceCtorEq,Nat.reduceEqDiff,Nat.reduceAdd,Z1]
     rw [amo (p:=p) h2 c5]
     rotate_left
     ·rw [aZ]
      simp only [aG,bJ,Nat.reduceMul,Nat.reduceBEq,Nat.reduceLT,Nat.reduceLeDiff,Nat.reduceAdd,decide_true,zt,zm]<;>rfl
     ·rw [Za5,Za5]
      unfold resD
      split
      ·rename_i c6
       rw [c6]
       simp only [e0,e1,e2,Z,G5,Z2,aF,Nat.reduceMul,Nat.reduceBEq,Nat.reduceLT,Nat.reduceLeDiff,reduceCtorEq,Nat.reduceEqDiff,Nat.reduceAdd,Z1]
      ·simp only [e0,e1,e2,Z,G5,Z2,aF,Nat.reduceMul,Nat.reduceBEq,Nat.reduceLT,Nat.reduceLeDiff,reduceCtorEq,Nat.reduceEqDiff,Nat.reduceAdd,Z1]
    ·have G5:((p.dirty.length:Int) != (p.img.length:Int))=true:=by simp;omega
     rw [if_pos c5]
     rw [ah Us rfl];simp only [Pn,aG,Nat.reduceBEq,Nat.reduceLeDiff,Nat.reduceAdd,za,zd]
     simp only [e0,e1,e2,Z,G5,Z2,aF,Nat.reduceMul,Nat.reduceBEq,Nat.reduceLT,Nat.reduceLeDiff,reduceCtorEq,Nat.reduceEqDiff,Nat.reduceAdd,Z1]
   ·have G4:(bY p.img != 0)=true:=by simpa using c4
    rw [if_pos c4]
    rw [ah Us rfl];simp only [Pn,aG,Nat.reduceBEq,Nat.reduceLeDiff,Nat.reduceAdd,za,zd]
    simp only [e0,e1,e2,G4,Z2,aF,Nat.reduceMul,Nat.reduceBEq,Nat.reduceLT,Nat.reduceLeDiff,reduceCtorEq,Nat.reduceEqDiff,Nat.reduceAdd,Z1]
end Go.Proofs.YtioijcfcehhmdaaGreatDoor.V
namespace Go.Proofs.YtioijcfcehhmdaaGreatDoor
open Go.RowKit
def RV (w:World)(rs:List nC)(v:Value):Prop :=
 ∃ arr:Array Value,arr.size=rs.length∧v=(if arr.size=1 then arr.getD 0 undef else .tuple arr)∧∀ (i:Nat) (r:nC) (u:Value),rs[i]?=some r→arr[i]?=some u→aA (fun b=>b<w.heap.size) w r.1 u
theorem UG {T:Tags}{w:World}{r:Root}{sz:Nat}{es:List PV}{v:Value}(h:aW T w r sz es v){ok:Nat→Prop}(hk:∀ b,(T b=.ro∨T b=.row r)→b<w.heap.size→ok b):aA ok w (.list sz es) v:=by
 rcases h with ⟨rfl,a,rfl⟩|⟨b,c,arr,E,rfl,h1,h2,h3,h4,h5,h6,h7⟩
 ·exact .nil _ _
 ·have hb:b<w.heap.size:=(zz.1 h2).1
  refine .list sz es b 0 c (fun i j=>arr[i*sz+j]?.getD undef) (hk b (.inr h1) hb) ⟨_,_,_,h2⟩ h4 h5 h6 (fun i e j x he hx=>?_) (fun i e j x he hx=>?_)
  ·obtain ⟨u,g1,g2,g3⟩:=h7 i e j x he hx
   rw [g1,Zan,cell_of_row w b (i*sz+j) arr E (0,0) h2]
   exact ⟨g1,g2⟩
  ·obtain ⟨u,g1,g2,g3⟩:=h7 i e j x he hx
   rw [g1]
   exact g3.frame fun b e hb=>⟨hk b (.inl e) hb,rfl⟩
theorem su.below {w w':World}(h:su w)(hB:Below w.heap.size w w'):su w':=h.frame fun b _ hb=>⟨if_pos (Zae hb hB.size),hB.block b hb⟩
theorem D6 {P:Program}{env:Env}{f:Nat}{args:List PV}{rs:List nC}{vs:List Value}{w:World}(hE:tY P env)(h:cal env f args=some rs)(hr:Ib w args vs)(hG:su w)(hf:∀ r∈rs,r.2=false∨∃ sz es,r.1=.list sz es) :
  Calls P f vs.toArray w (fun e w'=>∃ v,e=.returned v∧Below w.heap.size w w'∧RV w' rs v):=by
 obtain ⟨n,hn⟩:=lN h
 have hC:=(uZ hE hn).2 (fun b=>if b<w.heap.size then .ro else .other) w vs (fun b=>by
  by_cases hb:b<w.heap.size
  ·exact .inl (if_pos hb)
  ·exact .inr (if_neg hb)) (fun b hb=>if_neg (by omega)) hr.get.1 (fun i x v hx hv=>(hr.get.2 i x v hx hv).frame fun b hb _=>⟨if_pos hb,rfl⟩) hG
 refine hC.mono ?_
 rintro e w' ⟨v,T',rfl,h1,t1,t2,arr,s1,s2,h2⟩
 have hlt:∀ b,(T' b=.ro∨∃ r,T' b=.row r)→b<w'.heap.size:=fun b hb=>by
  refine ZcF fun hle=>?_
  rw [t2 b hle] at hb
  rcases hb with hb|⟨r,hb⟩<;>cases hb
 refine ⟨v,rfl,h1,arr,s1,s2,fun i r u hr hu=>?_⟩
 have h3:=h2 i r u hr hu
 obtain ⟨x,fl⟩:=r
 have hor:=hf _ (Zab hr)
 cases fl with
 |false =>
  have h4:aA (fun b=>T' b=.ro) w' x u:=by
   unfold R1 at h3
   split at h3
   ·rename_i q;cases q
   ·rename_i q;cases q
   ·rename_i q;cases q;exact h3
  exact h4.frame fun b hb _=>⟨hlt b (.inl hb),rfl⟩
 |true =>
  rcases hor with hor|⟨sz,es,hor⟩
  ·cases hor
  ·have hor:x=.list sz es:=hor
   subst hor
   have h4:aW T' w' (.part 0 i) sz es u:=h3
   exact UG h4 fun b hb hl=>hl
theorem arr1 {α:Type}{arr:Array α}(h:arr.size=1):∃ a,arr=#[a]:=by
 obtain ⟨l⟩:=arr
 match l,h with
 |[a],_=>exact ⟨a,rfl⟩
theorem Bh {α:Type}{arr:Array α}(h:arr.size=2):∃ a b,arr=#[a,b]:=by
 obtain ⟨l⟩:=arr
 match l,h with
 |[a,b],_=>exact ⟨a,b,rfl⟩
theorem apk {α:Type}{arr:Array α}(h:arr.size=3):∃ a b c,arr=#[a,b,c]:=by
 obtain ⟨l⟩:=arr
 match l,h with
 |[a,b,c],_=>exact ⟨a,b,c,rfl⟩
theorem apl {α:Type}{arr:Array α}(h:arr.size=4):∃ a b c d,arr=#[a,b,c,d]:=by
 obtain ⟨l⟩:=arr
 match l,h with
 |[a,b,c,d],_=>exact ⟨a,b,c,d,rfl⟩
theorem KT {α:Type}{arr:Array α}(h:arr.size=8):∃ a b c d e f g i,arr=#[a,b,c,d,e,f,g,i]:=by
 obtain ⟨l⟩:=arr
 match l,h with
 |[a,b,c,d,e,f,g,i],_=>exact ⟨a,b,c,d,e,f,g,i,rfl⟩
theorem RV.one {w:World}{r:nC}{v:Value}(h:RV w [r] v):aA (fun b=>b<w.heap.size) w r.1 v:=by
 obtain ⟨arr,h1,rfl,h3⟩:=h
 obtain ⟨a,rfl⟩:=arr1 h1
 exact h3 0 _ _ rfl rfl
theorem RV.two {w:World}{r s:nC}{v:Value}(h:RV w [r,s] v):∃ a b,v=.tuple #[a,b]∧aA (fun b=>b<w.heap.size) w r.1 a∧aA (fun b=>b<w.heap.size) w s.1 b:=by
 obtain ⟨arr,h1,rfl,h3⟩:=h
 obtain ⟨a,b,rfl⟩:=Bh h1
 exact ⟨a,b,rfl,h3 0 _ _ rfl rfl,h3 1 _ _ rfl rfl⟩
theorem RV.three {w:World}{r s t:nC}{v:Value}(h:RV w [r,s,t] v):∃ a b c,v=.tuple #[a,b,c]∧aA (fun b=>b<w.heap.size) w r.1 a∧aA (fun b=>b<w.heap.size) w s.1 b∧aA (fun b=>b<w.heap.size) w t.1 c:=by
 obtain ⟨arr,h1,rfl,h3⟩:=h
 obtain ⟨a,b,c,rfl⟩:=apk h1
 exact ⟨a,b,c,rfl,h3 0 _ _ rfl rfl,h3 1 _ _ rfl rfl,h3 2 _ _ rfl rfl⟩
theorem aA.up {w w':World}{x:PV}{v:Value}(h:aA (fun b=>b<w.heap.size) w x v)(hB:Below w.heap.size w w'):aA (fun b=>b<w'.heap.size) w' x v:=h.frame fun b hb _=>⟨Zae hb hB.size,hB.block b hb⟩
theorem aA.cell1 {ok:Nat→Prop}{w:World}{sz:Nat}{es:List PV}{v:Value}(h:aA ok w (.list sz es) v):v.oneCell'=true:=by
 obtain ⟨x,c,rfl,_⟩:=h.gq
 rfl
open V in
structure PtR (w:World)(p:Pt)(v1 v2 v3:Value):Prop where
 l:aA (fun b=>b<w.heap.size) w (.list 3 (p.lin.map jY)) v1
 d:aA (fun b=>b<w.heap.size) w (.list 2 (p.dirty.map jq)) v2
 i:aA (fun b=>b<w.heap.size) w (.list 1 (p.img.map aX)) v3
open V in
theorem PtR.below {w w':World}{p:Pt}{v1 v2 v3:Value}(h:PtR w p v1 v2 v3)(hB:Below w.heap.size w w'):PtR w' p v1 v2 v3:=⟨h.l.up hB,h.d.up hB,h.i.up hB⟩
end Go.Proofs.YtioijcfcehhmdaaGreatDoor
namespace Go.Proofs.YtioijcfcehhmdaaGreatDoor.V
theorem afl:∀ a b:fG,eqF (fun x y:List fE=>decide (x.length=y.length)) a b=decide (aj a=aj b)
 |[],[]=>rfl
 |[],y::b=>by simp [eqF,aj]
 |x::a,[]=>by simp [eqF,aj]
 |x::a,y::b=>by
  have ih:=afl a b
  unfold eqF at ih ⊢
  have e0:decide (aj (x::a)=aj (y::b))=(decide (x.length=y.length)&&decide (aj a=aj b)):=by
   rw [← Bool.decide_and]
   exact decide_eq_decide.2 (by simp only [aj,Zaj,List.cons.injEq];exact and_congr Int.ofNat_inj Iff.rfl)
  rw [e0,← ih]
  simp only [za,List.zip_cons_cons,Zaw]
  have e2:decide (a.length+1=b.length+1)=decide (a.length=b.length):=decide_eq_decide.2 (by omega)
  rw [e2]
  cases decide (x.length=y.length)<;>cases decide (a.length=b.length)<;>simp
theorem amq {x y:List fE}:cal env 135 [aX x,aX y]=some [(.bool (decide (x.length=y.length)),false)]:=by
 have eV:∀ v:List fE,aX v=.list 8 (v.map je):=fun _=>rfl
 rw [eV,eV]
 by_cases c:x.length=y.length
 ·have G:((x.length:Int)==(y.length:Int))=true:=by simp [c]
  rw [decide_eq_true c]
  rw [ah aeJ rfl];simp only [ML,aG,Nat.reduceBEq,Nat.reduceLeDiff,Nat.reduceAdd,za,zd]
  simp only [G,Z2,aF,Nat.reduceMul,Nat.reduceBEq,Nat.reduceLT,Nat.reduceLeDiff,reduceCtorEq,Nat.reduceEqDiff,Nat.reduceAdd,Z1]
 ·have G:((x.length:Int)==(y.length:Int))=false:=by simp;omega
  rw [decide_eq_false c]
  rw [ah aeJ rfl];simp only [ML,aG,Nat.reduceBEq,Nat.reduceLeDiff,Nat.reduceAdd,za,zd]
  simp only [G,Z2,aF,Nat.reduceMul,Nat.reduceBEq,Nat.reduceLT,Nat.reduceLeDiff,reduceCtorEq,Nat.reduceEqDiff,Nat.reduceAdd,Z1]
theorem amr {a b:fG}(hl:a.length≤lim):cal env 111 [.list 1 (a.map aX),.list 1 (b.map aX)]=some [(.bool (decide (aj a=aj b)),false)]:=by
 have e1:=ake (enc:=aX) (enc2:=aX) (eq:=fun x y:List fE=>decide (x.length=y.length)) (l:=a) (m:=b) (gf:=135) (caps:=[]) (fun x _ y _=>amq) (fun _=>rfl) (fun _=>rfl) hl
 rw [afl] at e1
 rw [ah alx rfl];simp only [TI,aG,Nat.reduceBEq,Nat.reduceLeDiff,Nat.reduceAdd,za,zd]
 simp only [e1,aF,Nat.reduceMul,Nat.reduceBEq,Nat.reduceLT,Nat.reduceLeDiff,reduceCtorEq,Nat.reduceEqDiff,Nat.reduceAdd,Z1]
def sF:List Pt→Int
 |[]=>0
 |p::l=>if gU p=0 then sF l else gU p
theorem Na {l:List Pt}{i:Nat}(h:i<l.length):sF (l.drop i)=if gU l[i]=0 then sF (l.drop (i+1)) else gU l[i]:=by
 rw [zw h,sF]
def ai0 (b:Bm)(s:Int):Bool:=okB b&&(decide (0≤s)&&(decide (s<b.size)&&bit b.ws s.toNat))
def dir (a:Pt)(v:Nat):Bm:=a.dirty.getD v ⟨0,[]⟩
def mk2 (a b:Pt)(v k:Nat):Bool:=ai0 (dir a v) (k:Int) || ai0 (dir b v) (k:Int)
theorem afm {a:Pt}{v:Nat}(h:v<a.dirty.length):(a.dirty.map jq)[v]?=some (jq (dir a v)):=by
 rw [zb,ZS h]
 unfold dir
 rw [Zag,ZS h]
 rfl
def D7 (a:Pt)(i:Nat):Nat:=(a.img.getD i []).length
def Qe (a b:Pt)(n:Nat):List (List cZ):=(Zar n).map fun i=>ext (mk2 a b i) (D7 a i)
theorem afn (a b:Pt)(n:Nat):Qe a b (n+1)=Qe a b n++[ext (mk2 a b n) (D7 a n)]:=by
 unfold Qe;rw [ZbG,ZaK];rfl
theorem lY (a b:Pt)(n:Nat):(Qe a b n).length=n:=by simp [Qe]
def wH (l:List cZ):PV:=.list 2 (l.map cO)
end Go.Proofs.YtioijcfcehhmdaaGreatDoor.V
namespace Go.Proofs.YtioijcfcehhmdaaGreatDoor
open Go.RowKit
def okN (ok:Nat→Prop)(w w':World)(b:Nat):Prop:=ok b∨(w.heap.size≤b∧b<w'.heap.size)
def zJ (ok:Nat→Prop)(w:World):Prop:=∀ p∈globs,aA ok w (.dM p.2 0) (.pointer (some ⟨p.1,0,none⟩))
theorem zJ.frame {ok ok':Nat→Prop}{w w':World}(h:zJ ok w)(hf:∀ b,ok b→b<w.heap.size→ok' b∧w'.heap[b]?=w.heap[b]?):zJ ok' w':=fun p hp=>(h p hp).frame hf
theorem su.toK {w:World}(h:su w):zJ (fun b=>b<w.heap.size) w:=fun p hp=>(h p hp).frame fun b hb hl=>⟨hl,rfl⟩
def ai1 (ok:Nat→Prop)(w:World):List PV→List Value→Prop
 |[],[]=>True
 |x::xs,v::vs=>aA ok w x v∧ai1 ok w xs vs
 |_,_=>False
theorem ai1.get {ok:Nat→Prop}{w:World}:∀ {xs:List PV} {vs:List Value},ai1 ok w xs vs→vs.length=xs.length∧∀ (i:Nat) x v,xs[i]?=some x→vs[i]?=some v→aA ok w x v
 |[],[],_=>⟨rfl,fun i x v hx=>by simp at hx⟩
 |x::xs,v::vs,h=>by
  obtain ⟨h1,h2⟩:=h
  obtain ⟨k1,k2⟩:=h2.get
  refine ⟨by simp [k1],fun i y u hy hu=>?_⟩
  cases i with
  |zero=>cases hy;cases hu;exact h1
  |succ i=>exact k2 i y u hy hu
 |[],v::vs,h=>h.elim
 |x::xs,[],h=>h.elim
def ai2 (ok:Nat→Prop)(B:Nat)(w:World)(sz:Nat)(es:List PV)(v:Value):Prop :=
 (es=[]∧∃ a,v=.slice a 0 0) ∨
 ∃ b c arr E,v=.slice (some ⟨b,0,none⟩) es.length c∧B≤b∧w.heap[b]?=some (.cells arr E (0,0))∧arr.size=c*sz∧es.length≤c∧c≤maxLen∧(∀ e∈es,e.cells.length=sz) ∧
  ∀ i e j x,es[i]?=some e→e.cells[j]?=some x→∃ u,arr[i*sz+j]?=some u∧u.oneCell'=true∧aA (fun k=>ok k∧k≠b) w x u
def RVK (ok:Nat→Prop)(B:Nat)(w:World)(rs:List nC)(v:Value):Prop :=
 ∃ arr:Array Value,arr.size=rs.length∧v=(if arr.size=1 then arr.getD 0 undef else .tuple arr)∧∀ (i:Nat) (r:nC) (u:Value),rs[i]?=some r→arr[i]?=some u→aA ok w r.1 u∧∀ sz es,r=(.list sz es,true)→ai2 ok B w sz es u
open Classical in
theorem o8 {P:Program}{env:Env}{f:Nat}{args:List PV}{rs:List nC}{vs:List Value}{w:World}{ok:Nat→Prop}(hlt:∀ b,ok b→b<w.heap.size)(hE:tY P env)(h:cal env f args=some rs)(hr:ai1 ok w args vs)(hG:zJ ok w)(hf:∀ r∈rs,r.2=false∨∃ sz es,r.1=.list sz es) :
  Calls P f vs.toArray w (fun e w'=>∃ v,e=.returned v∧Below w.heap.size w w'∧RVK (okN ok w w') w.heap.size w' rs v):=by
 obtain ⟨n,hn⟩:=lN h
 have hC:=(uZ hE hn).2 (fun b=>if ok b then .ro else .other) w vs (fun b=>by
  by_cases hb:ok b
  ·exact .inl (if_pos hb)
  ·exact .inr (if_neg hb)) (fun b hb=>if_neg fun e=>by have:=hlt b e;omega) hr.get.1 (fun i x v hx hv=>(hr.get.2 i x v hx hv).frame fun b hb _=>⟨if_pos hb,rfl⟩) (fun p hp=>(hG p hp).frame fun b hb _=>⟨if_pos hb,rfl⟩)
 refine hC.mono ?_
 rintro e w' ⟨v,T',rfl,h1,t1,t2,arr,s1,s2,h2⟩
 have hlt':∀ b,(T' b=.ro∨∃ r,T' b=.row r)→b<w'.heap.size:=fun b hb=>by
  refine ZcF fun hle=>?_
  rw [t2 b hle] at hb
  rcases hb with hb|⟨r,hb⟩<;>cases hb
 have hro:∀ b,T' b=.ro→okN ok w w' b:=fun b hb=>by
  by_cases hs:b<w.heap.size
  ·rw [t1 b hs] at hb
   by_cases ho:ok b
   ·exact .inl ho
   ·rw [if_neg ho] at hb;cases hb
  ·exact .inr ⟨by omega,hlt' b (.inl hb)⟩
 have hrow:∀ b r,T' b=.row r→w.heap.size≤b∧b<w'.heap.size:=fun b r hb=>by
  refine ⟨?_,hlt' b (.inr ⟨r,hb⟩)⟩
  refine Nat.le_of_not_lt fun hs=>?_
  rw [t1 b hs] at hb
  by_cases ho:ok b
  ·rw [if_pos ho] at hb;cases hb
  ·rw [if_neg ho] at hb;cases hb
 refine ⟨v,rfl,h1,arr,s1,s2,fun i r u hr hu=>?_⟩
 have h3:=h2 i r u hr hu
 obtain ⟨x,fl⟩:=r
 have hor:=hf _ (Zab hr)
 cases fl with
 |false =>
  have h4:aA (fun b=>T' b=.ro) w' x u:=by
   unfold R1 at h3
   split at h3
   ·rename_i q;cases q
   ·rename_i q;cases q
   ·rename_i q;cases q;exact h3
  exact ⟨h4.frame fun b hb _=>⟨hro b hb,rfl⟩,fun sz es e=>by cases e⟩
 |true =>
  rcases hor with hor|⟨sz,es,hor⟩
  ·cases hor
  ·have hor:x=.list sz es:=hor
   subst hor
   have h4:aW T' w' (.part 0 i) sz es u:=h3
   refine ⟨UG h4 fun b hb hl=>?_,fun sz' es' e=>?_⟩
   ·rcases hb with hb|hb
    ·exact hro b hb
    ·exact .inr (hrow b _ hb)
   ·cases e
    rcases h4 with h4|⟨b,c,arr,E,rfl,k1,k2,k3,k4,k5,k6,k7⟩
    ·exact .inl h4
    ·refine .inr ⟨b,c,arr,E,rfl,(hrow b _ k1).1,k2,k3,k4,k5,k6,fun i e j x he hx=>?_⟩
     obtain ⟨u,g1,g2,g3⟩:=k7 i e j x he hx
     exact ⟨u,g1,g2,g3.frame fun k hk _=>⟨⟨hro k hk,fun e=>by rw [e,k1] at hk;cases hk⟩,rfl⟩⟩
theorem RVK.one {ok:Nat→Prop}{B:Nat}{w:World}{r:nC}{v:Value}(h:RVK ok B w [r] v):aA ok w r.1 v∧∀ sz es,r=(.list sz es,true)→ai2 ok B w sz es v:=by
 obtain ⟨arr,h1,rfl,h3⟩:=h
 obtain ⟨a,rfl⟩:=arr1 h1
 exact h3 0 _ _ rfl rfl
theorem RVK.two {ok:Nat→Prop}{B:Nat}{w:World}{r s:nC}{v:Value}(h:RVK ok B w [r,s] v):∃ a b,v=.tuple #[a,b]∧(aA ok w r.1 a∧∀ sz es,r=(.list sz es,true)→ai2 ok B w sz es a)∧aA ok w s.1 b:=by
 obtain ⟨arr,h1,rfl,h3⟩:=h
 obtain ⟨a,b,rfl⟩:=Bh h1
 exact ⟨a,b,rfl,h3 0 _ _ rfl rfl,(h3 1 _ _ rfl rfl).1⟩
theorem RVK.three {ok:Nat→Prop}{B:Nat}{w:World}{r s t:nC}{v:Value}(h:RVK ok B w [r,s,t] v):∃ a b c,v=.tuple #[a,b,c]∧aA ok w r.1 a∧aA ok w s.1 b∧aA ok w t.1 c:=by
 obtain ⟨arr,h1,rfl,h3⟩:=h
 obtain ⟨a,b,c,rfl⟩:=apk h1
 exact ⟨a,b,c,rfl,(h3 0 _ _ rfl rfl).1,(h3 1 _ _ rfl rfl).1,(h3 2 _ _ rfl rfl).1⟩
theorem aA.keep {ok ok':Nat→Prop}{w w':World}{x:PV}{v:Value}(h:aA ok w x v)(hok:∀ b,ok b→ok' b)(hw:∀ b,ok b→b<w.heap.size→w'.heap[b]?=w.heap[b]?):aA ok' w' x v:=h.frame fun b hb hl=>⟨hok b hb,hw b hb hl⟩
structure Cc (w w':World)(g q:Nat):Prop where
 other:∀ b,b≠g→b<w.heap.size→w'.heap[b]?=w.heap[b]?
 cells:∃ arr arr' E E',w.heap[g]?=some (.cells arr E (0,0))∧w'.heap[g]?=some (.cells arr' E' (0,0))∧∀ k,k≠q→arr'[k]?=arr[k]?
 here:∃ b o n c k,w.cell? ⟨g,q,none⟩=some (.slice (some ⟨b,o,none⟩) n c)∧1≤n∧w.cell? ⟨b,o,none⟩=some (.int .u64 k)
theorem Cc.cell {w w':World}{g q:Nat}(h:Cc w w' g q){b k:Nat}(hl:b<w.heap.size)(hb:b=g→k≠q):w'.cell? ⟨b,k,none⟩=w.cell? ⟨b,k,none⟩:=by
 by_cases e:b=g
 ·subst e
  obtain ⟨arr,arr',E,E',h1,h2,h3⟩:=h.cells
  rw [cell_of_row w b k arr E (0,0) h1,cell_of_row w' b k arr' E' (0,0) h2]
  exact h3 k (hb rfl)
 ·exact World.cell?_of_block (a:=⟨b,k,none⟩) (h.other b e hl)
theorem Cc.yS {w w':World}{g q:Nat}(h:Cc w w' g q){b:Nat}(hb:dD w b):dD w' b:=by
 by_cases e:b=g
 ·subst e
  obtain ⟨arr,arr',E,E',h1,h2,h3⟩:=h.cells
  exact ⟨_,_,_,h2⟩
 ·exact hb.same (h.other b e hb.lt)
inductive NoW:PV→Prop
 |int (k:IntKind) (n:Int):k≠.u64→NoW (.int k n)
 |agg (cs:List PV):(∀ x∈cs,NoW x)→NoW (.agg cs)
 |list (sz:Nat) (es:List PV):1≤sz→(∀ e∈es,∀ x∈e.cells,NoW x)→NoW (.list sz es)
theorem NoW.words {ok:Nat→Prop}{w:World}{x:PV}{v:Value}(hx:NoW x)(h:aA ok w x v){b o n c:Nat}{k:Int}(hv:v=.slice (some ⟨b,o,none⟩) n c)(hn:1≤n)(hc:w.cell? ⟨b,o,none⟩=some (.int .u64 k)):False:=by
 cases hx with
 |int k n _=>cases h;cases hv
 |agg cs _=>cases h;cases hv
 |list sz es hs hes =>
  cases h with
  |nil sz a=>cases hv;omega
  |list sz es b' off c' cv h1 h2 h3 h4 h6 h7 h8 =>
   cases hv
   have he:es[0]?=some es[0]:=ZS hn
   have hw:=h6 _ (zR hn)
   have hx0:es[0].cells[0]?=some (es[0].cells[0]'(by omega)):=ZS (by omega)
   have g1:=(h7 0 _ 0 _ he hx0).1
   have g2:=h8 0 _ 0 _ he hx0
   simp only [Nat.zero_mul,Za1] at g1
   rw [hc] at g1
   rw [← ZD.inj g1] at g2
   have g3:=hes _ (zR hn) _ (zR (show 0<es[0].cells.length by omega))
   generalize es[0].cells[0]'(by omega)=y at g2 g3
   cases g3 with
   |int k' n' hk=>cases g2;exact hk rfl
   |agg cs _=>cases g2
   |list sz es _ _=>cases g2
theorem Cc.keep {w w':World}{g q:Nat}(h:Cc w w' g q){ok ok':Nat→Prop}(hok:∀ b,ok b→ok' b){x:PV}{v:Value}(hp:aA ok w x v)(hx:NoW x):aA ok' w' x v:=by
 induction hp with
 |int k n=>exact .int k n
 |bool b=>exact .bool b
 |str s=>exact .str s
 |uw=>exact .uw
 |void v hv=>exact .void v hv
 |nil sz a=>exact .nil sz a
 |l9 sz a=>exact .l9 sz a
 |list sz es b off c cv h1 h2 h3 h4 h6 h7 h8 ih =>
  cases hx with
  |list _ _ hs hes =>
   refine .list sz es b off c cv (hok b h1) (h.yS h2) h3 h4 h6 (fun i e j x hi hj=>?_) (fun i e j x hi hj=>ih i e j x hi hj (hes e (Zab hi) x (Zab hj)))
   rw [h.cell h2.lt (fun e' hq=>?_)]
   ·exact h7 i e j x hi hj
   ·subst e'
    obtain ⟨b2,o2,n2,c2,k2,p1,p2,p3⟩:=h.here
    have g1:=(h7 i e j x hi hj).1
    rw [hq,p1] at g1
    exact (hes e (Zab hi) x (Zab hj)).words (h8 i e j x hi hj) (ZD.inj g1).symm p2 p3
 |agg cs arr h1 h2 h3 ih =>
  cases hx with
  |agg _ hcs=>exact .agg cs arr h1 h2 fun j x v hx hv=>ih j x v hx hv (hcs x (Zab hx))
 |func f caps arr h1 h2 ih=>cases hx
 |dM cs j b off cv h1 h2 h3 h4 ih=>cases hx
open V in
theorem afo (l:List (List cZ)):NoW (.list 1 (l.map wH)):=by
 refine .list _ _ (ze _) fun e he x hx=>?_
 obtain ⟨y,-,rfl⟩:=ZaY.1 he
 have hx:x=.list 2 (y.map cO):=Zav.1 (show x∈[PV.list 2 (y.map cO)] from hx)
 subst hx
 refine .list _ _ (by decide) fun e he x hx=>?_
 obtain ⟨z,-,rfl⟩:=ZaY.1 he
 have hx:x∈[PV.int .i64 z.start,PV.int .i64 z.count]:=hx
 rcases Zaf.1 hx with rfl|hx
 ·exact .int _ _ (by decide)
 ·rw [Zav.1 hx];exact .int _ _ (by decide)
end Go.Proofs.YtioijcfcehhmdaaGreatDoor
namespace Go.Proofs.YtioijcfcehhmdaaGreatDoor
section
variable {P:Program}{ops:Array Oper}{S:World→Prop}{Q:Act→World→Prop}{f:Nat}
end
end Go.Proofs.YtioijcfcehhmdaaGreatDoor
namespace Go.Proofs.YtioijcfcehhmdaaGreatDoor
open Go.RowKit
theorem vF {w:World}{a:Addr}{v:Value}(h:w.cell? a=some v):∀ x:Later w,x.w.cell? a=some v:=fun x=>(x.below.cell (World.block_lt_of_cell? w a h)).trans h
structure uK (W:World)(g:Nat) where
 w:World
 grown:W.grownBy w (some g)
instance (W:World) (g:Nat):Nonempty (uK W g):=⟨⟨W,World.grownBy.refl _ _⟩⟩
theorem uK.of {W w:World}{g:Nat}(h:W.grownBy w (some g)):∃ x:uK W g,w=x.w:=⟨⟨w,h⟩,rfl⟩
theorem grown_drew (W:World)(row:Option Nat):W.grownBy W.drew row:=⟨rfl,rfl,rfl,ze _,fun _ _ _=>rfl⟩
theorem uK.drew (W:World)(g:Nat):∃ x:uK W g,W.drew=x.w:=uK.of (grown_drew _ _)
theorem wI {w:World}{g:Nat}{a:Addr}{v:Value}(h:w.cell? a=some v)(hne:a.block≠g):∀ x:uK w g,x.w.cell? a=some v:=fun x =>
 x.grown.cell h fun e=>hne (ZD.inj e)
theorem yB {a b c:World}{row:Option Nat}(h:a.grownBy b row)(k:b.grownBy c row):a.grownBy c row :=
 ⟨k.os.trans h.os,k.tape.trans h.tape,k.output.trans h.output,zr h.size k.size,fun i hi hr=>(k.block i (Zae hi h.size) hr).trans (h.block i hi hr)⟩
theorem abv {w w':World}{row:Option Nat}(h:w.grownBy w' none):w.grownBy w' row:=⟨h.os,h.tape,h.output,h.size,fun k hk _=>h.block k hk (by simp)⟩
theorem grown_below {B:Nat}{w w':World}{row:Option Nat}(h:w.grownBy w' row)(hB:B≤w.heap.size)(hr:∀ k,row=some k→B≤k):Below B w w':=(Below.refl B w).grown h hB hr
theorem below_grown {w w':World}(h:Below w.heap.size w w'):w.grownBy w' none:=⟨h.os,h.tape,h.output,h.size,fun k hk _=>h.block k hk⟩
theorem Qg {w w1:World}{cs:Array Value}{T:TypeId}(hb:Below (w.alloc (.cells cs T)).heap.size (w.alloc (.cells cs T)) w1){j:Nat}{v:Value}(h:cs[j]?=some v):w1.cell? ⟨w.heap.size,j,none⟩=some v:=by
 rw [hb.cell (p:=⟨w.heap.size,j,none⟩) (by simp),World.cell?_alloc_mark w cs T (0,0) j,h]
theorem UH (w:World)(E:TypeId)(cs:Array Value):∀ j u,cs.toList[j]?=some u→(w.alloc (.cells cs E)).cell? ((⟨w.heap.size,0,none⟩:Addr).add j)=some u:=fun j u hu=>by
 rw [Addr.add_lit,Zan,World.cell?_alloc_mark w cs E (0,0) j]
 simpa using hu
theorem afp {α:Type}{r:Rep α}{ok:Nat→Prop}{w w':World}{cs:List Value}{x:α}(h:r.rd ok w cs x)(hb:Below w.heap.size w w'):r.rd ok w' cs x :=
 r.mono (fun _ hb=>hb.1) (r.frame (fun b hb'=>hb.block b hb'.2) (r.live h))
theorem UJ {α:Type}{r:Rep α}{ok:Nat→Prop}{w:World}{cs:List Value}{x:α}(h:r.rd ok w cs x){o:Obj}:r.rd ok (w.alloc o) cs x:=afp h ((Below.refl _ _).alloc (ze _) _)
def dP {α:Type}(r:Rep α)(tag:Nat→Nat)(ok:Nat→Prop)(w:World):Nat→List Value→List α→Prop
 |_,xs,[]=>xs=[]
 |i,xs,x::l=>∃ c rest,xs=c++rest∧r.rd (fun b=>ok b∧tag b=i) w c x∧dP r tag ok w (i+1) rest l
section
variable {α:Type}{r:Rep α}{tag tag':Nat→Nat}{ok ok':Nat→Prop}{w w':World}
theorem dP.mono (hk:∀ b,ok b→ok' b):∀ {l:List α} {i:Nat} {xs:List Value},dP r tag ok w i xs l→dP r tag ok' w i xs l
 |[],_,_,h=>h
 |_::_,_,_,⟨c,rest,e,h1,h2⟩=>⟨c,rest,e,r.mono (fun b hb=>⟨hk b hb.1,hb.2⟩) h1,h2.mono hk⟩
theorem dP.retag (hk:∀ b,ok b→tag' b=tag b):∀ {l:List α} {i:Nat} {xs:List Value},dP r tag ok w i xs l→dP r tag' ok w i xs l
 |[],_,_,h=>h
 |_::_,_,_,⟨c,rest,e,h1,h2⟩=>⟨c,rest,e,r.mono (fun b hb=>⟨hb.1,by rw [hk b hb.1];exact hb.2⟩) h1,h2.retag hk⟩
theorem dP.live:∀ {l:List α} {i:Nat} {xs:List Value},dP r tag ok w i xs l→dP r tag (fun b=>ok b∧b<w.heap.size) w i xs l
 |[],_,_,h=>h
 |_::_,_,_,⟨c,rest,e,h1,h2⟩=>⟨c,rest,e,r.mono (fun b hb=>⟨⟨hb.1.1,hb.2⟩,hb.1.2⟩) (r.live h1),h2.live⟩
theorem dP.frame (hf:∀ b,ok b→w'.heap[b]?=w.heap[b]?):∀ {l:List α} {i:Nat} {xs:List Value},dP r tag ok w i xs l→dP r tag ok w' i xs l
 |[],_,_,h=>h
 |_::_,_,_,⟨c,rest,e,h1,h2⟩=>⟨c,rest,e,r.frame (fun b hb=>hf b hb.1) h1,h2.frame hf⟩
theorem dP.chunks:∀ {l:List α} {i:Nat} {xs:List Value},dP r tag ok w i xs l→Chunks r ok w xs l
 |[],_,_,h=>h
 |_::_,_,_,⟨c,rest,e,h1,h2⟩=>⟨c,rest,e,r.mono (fun b hb=>hb.1) h1,h2.chunks⟩
theorem dP.snoc {c:List Value}{x:α}:∀ {l:List α} {i:Nat} {xs:List Value},dP r tag ok w i xs l→r.rd (fun b=>ok b∧tag b=i+l.length) w c x→dP r tag ok w i (xs++c) (l++[x])
 |[],i,xs,h,hc=>by
  simp only [dP] at h
  subst h
  exact ⟨c,[],by simp,by simpa using hc,rfl⟩
 |y::l,i,xs,⟨d,rest,e,h1,h2⟩,hc=>⟨d,rest++c,by rw [e,Zay],h1,h2.snoc (by rw [za] at hc;rw [show i+1+l.length=i+(l.length+1) by omega];exact hc)⟩
theorem dP.pick:∀ {l:List α} {i:Nat} {xs:List Value},dP r tag ok w i xs l→∀ {k:Nat} {x:α},l[k]?=some x →
  ∃ c,(∀ j,j<r.sz→xs[k*r.sz+j]?=c[j]?)∧r.rd (fun b=>ok b∧tag b=i+k) w c x ∧
   ∀ (w':World) (x':α),(∀ b,ok b→tag b≠i+k→w'.heap[b]?=w.heap[b]?)→r.rd (fun b=>ok b∧tag b=i+k) w' c x'→dP r tag ok w' i xs (l.set k x')
 |[],_,_,_,k,x,hx=>by simp at hx
 |y::l,i,xs,⟨c,rest,e,h1,h2⟩,0,x,hx=>by
  simp only [List.getElem?_cons_zero,ZD.injEq] at hx
  subst hx
  refine ⟨c,fun j hj=>by rw [e,Nat.zero_mul,Zan,Zad (by rw [r.len h1];exact hj)],h1,fun w' x' hf hr=>?_⟩
  refine ⟨c,rest,e,hr,?_⟩
  -- the tail's elements bear other tags
  have:∀ {l:List α} {m:Nat} {xs:List Value},i<m→dP r tag ok w m xs l→dP r tag ok w' m xs l:=by
   intro l
   induction l with
   |nil=>intro m xs _ h;exact h
   |cons z l ih =>
    intro m xs hm h
    obtain ⟨d,rs,e',h3,h4⟩:=h
    exact ⟨d,rs,e',r.frame (fun b hb=>hf b hb.1 (by rw [hb.2];omega)) h3,ih (by omega) h4⟩
  exact this (Nat.lt_succ_self _) h2
 |y::l,i,xs,⟨c,rest,e,h1,h2⟩,k+1,x,hx=>by
  obtain ⟨d,h3,h4,h5⟩:=h2.pick (k:=k) (x:=x) (by simpa using hx)
  have ei:i+1+k=i+(k+1):=by omega
  refine ⟨d,fun j hj=>?_,by rw [← ei];exact h4,fun w' x' hf hr=>?_⟩
  ·rw [e,zP (by rw [r.len h1,ZaC];omega),r.len h1,← h3 j hj]
   congr 1
   rw [ZaC];omega
  ·refine ⟨c,rest,e,r.frame (fun b hb=>hf b hb.1 (by rw [hb.2];omega)) h1,?_⟩
   exact h5 w' x' (fun b hb hne=>hf b hb (by rw [← ei];exact hne)) (by rw [ei];exact hr)
end
def lQ {α:Type}(r:Rep α)(B F:Nat)(E:TypeId)(w:World)(v:Value)(l:List α):Prop :=
 ∃ tag xs,w.ownsRow B E r.sz v l.length xs∧dP r tag (fun b=>B≤b∧b<F∧ZD b≠v.ownBlock) w 0 xs l
section
variable {α:Type}{r:Rep α}{B F:Nat}{E:TypeId}{w w':World}{v:Value}{l:List α}
theorem lQ.nil (r:Rep α)(B F:Nat)(E:TypeId)(w:World):lQ r B F E w (.slice none 0 0) []:=⟨fun _=>0,[],World.ownsRow_nil _ _ _ _,rfl⟩
theorem lQ.up {F':Nat}(h:lQ r B F E w v l)(hF:F≤F'):lQ r B F' E w v l :=
 let ⟨tag,xs,h1,h2⟩:=h;⟨tag,xs,h1,h2.mono fun _ hb=>⟨hb.1,Zae hb.2.1 hF,hb.2.2⟩⟩
theorem lQ.live (h:lQ r B F E w v l):lQ r B w.heap.size E w v l :=
 let ⟨tag,xs,h1,h2⟩:=h;⟨tag,xs,h1,h2.live.mono fun _ hb=>⟨hb.1.1,hb.2,hb.1.2.2⟩⟩
theorem lQ.lt (h:lQ r B F E w v l):∀ k,v.ownBlock=some k→B≤k∧k<w.heap.size:=let ⟨_,_,h1,_⟩:=h;h1.lt
theorem lQ.below (h:lQ r B F E w v l)(hb:Below w.heap.size w w'):lQ r B F E w' v l:=by
 obtain ⟨tag,xs,h1,h2⟩:=h
 exact ⟨tag,xs,h1.kept (below_grown hb) (by cases v.ownBlock<;>simp),(dP.frame (fun b hb'=>hb.block b hb'.2) h2.live).mono fun b hb=>hb.1⟩
theorem lQ.own (h:lQ r B F E w v l):Own r B E (B≤·) w v l :=
 let ⟨_,xs,h1,h2⟩:=h;⟨xs,h1,h2.chunks.mono fun _ hb=>⟨hb.1,hb.2.2⟩⟩
theorem lQ.sl (h:lQ r B F E w v l):∃ a n c,v=.slice a n c∧Sl r (B≤·) w a n c l :=
 let ⟨a,n,c,e,h⟩:=h.own.sl;⟨a,n,c,e,h.mono fun _ hb=>hb.elim id id⟩
theorem E5 {P:Program}{ops:Array Oper}{rest:List Oper}{o:Oper}{a:Act}{Q:Exit→Act→World→Prop}{T bytes:Nat}{z:Value}(ht:uq P T E r.sz bytes z)(hgd:o.guard=none)(s x:Operand)
  (ho:o.op=.call { callee:=.builtin .append,args:=#[s,x],argTypes:=#[T,T] }) (hs:a.eval s=v) (h:lQ r B F E w v l) {ad:Addr} {c:Nat} (hx:a.eval x=.slice (some ad) 1 c)
  {y:α} {news:List Value} (hnews:∀ j u,news[j]?=some u→w.cell? (ad.add j)=some u) (hrd:r.rd (F≤·) w news y) (hown:∀ k,v.ownBlock=some k→k<F)
  (h63:l.length+1≤maxLen) (hby:(l.length+1)*bytes≤140737488355328) (hB:B≤F) (hF:F≤w.heap.size)
  (hk:∀ v' w',lQ r B w'.heap.size E w' v' (l++[y])→w.grownBy w' v.ownBlock→(v'.ownBlock=v.ownBlock∨v'.ownBlock=some w.heap.size)→wpList P ops Q rest (a.put o.dst v') w'):wpList P ops Q (o::rest) a w:=by
 refine wpList_plain hgd fun K hK=>?_
 obtain ⟨i,hi,hz0,hz1,hz2⟩:=info_parts ht.i
 obtain ⟨tag,xs,h1,h2⟩:=h
 obtain ⟨v',w',hr,h3,h4,_,h6⟩:=run_append_own_at (P:=P) w B T o.type E i z r.sz bytes ht.u hi hz0 hz1 hz2 ht.zs ht.pos v l.length xs h1 ad 1 c news (by rw [r.len hrd];simp) hnews (r.one hrd) h63 hby (by omega)
 unfold Oper.wp execOp
 simp only [ho,resolve,invoke,builtin,Sem.run_bind,Sem.run_pure,Result.andThen_ok,Zcd,Zaj,Zai,hs,hx,hr]
 refine hK _ _ (hk v' w' ?_ h4 h6)
 refine ⟨fun b=>if F≤b then l.length else tag b,xs++news,by rw [Zaa];exact h3,?_⟩
 have hne:∀ b,b<w.heap.size→ZD b≠v.ownBlock→ZD b≠v'.ownBlock:=fun b hb hn=>by
  rcases h6 with h6|h6
  ·rw [h6];exact hn
  ·rw [h6];intro e;have:=ZD.inj e;omega
 refine dP.snoc ?_ ?_
 ·have e1:dP r (fun b=>if F≤b then l.length else tag b) (fun b=>B≤b∧b<F∧ZD b≠v.ownBlock) w 0 xs l:=h2.retag fun b hb=>by
   show (if F≤b then l.length else tag b)=tag b
   rw [if_neg (by omega)]
  refine (dP.frame (fun b hb=>h4.block b (by omega) hb.2.2) e1).mono fun b hb=>⟨hb.1,Zae hb.2.1 (zr hF h4.size),hne b (by omega) hb.2.2⟩
 ·have hno:∀ b,F≤b→ZD b≠v.ownBlock:=fun b hb e=>by have:=hown b e.symm;omega
  refine r.mono (fun b hb=>⟨⟨by omega,Zae hb.2 h4.size,hne b hb.2 (hno b hb.1)⟩,?_⟩) (r.frame (fun b hb=>h4.block b hb.2 (hno b hb.1)) (r.live hrd))
  show (if F≤b then l.length else tag b)=0+l.length
  rw [if_pos hb.1,Zan]
def afq {α:Type}(r:Rep α)(ok:Nat→Prop)(w:World)(l:List α)(err:Int):Ending→World→Prop:=fun e w' =>
 ∃ a n c,e=.returned (.tuple #[.slice a n c,.int .i64 err])∧Sl r ok w' a n c l∧Below w.heap.size w w'
theorem afq.mk {α:Type}{r:Rep α}{ok:Nat→Prop}{w w':World}{l:List α}{err err':Int}{a:Option Addr}{n c:Nat}(he:err'=err)(h:Sl r ok w' a n c l)(hB:Below w.heap.size w w') :
  afq r ok w l err (.returned (.tuple #[.slice a n c,.int .i64 err'])) w':=⟨a,n,c,by rw [he],h,hB⟩
theorem Sl.nil0 {α:Type}(r:Rep α)(ok:Nat→Prop)(w:World):Sl r ok w none 0 0 []:=⟨rfl,ze _,ZaM _,fun _=>rfl,.inl rfl⟩
def Flat {α:Type}(r:Rep α):Prop:=∀ {ok ok':Nat→Prop} {w w':World} {cs:List Value} {x:α},r.rd ok w cs x→r.rd ok' w' cs x
theorem Flat.int:Flat xE:=fun h=>h
theorem Flat.sec:Flat AL:=fun h=>h
theorem Flat.u8:Flat u8R:=fun h=>h
theorem Flat.u64:Flat arw:=fun h=>h
theorem Flat.bool:Flat anW:=fun h=>h
theorem Chunks.flat {α:Type}{r:Rep α}(hf:Flat r){ok ok':Nat→Prop}{w w':World}:∀ {l:List α} {xs:List Value},Chunks r ok w xs l→Chunks r ok' w' xs l
 |[],_,h=>h
 |_::_,_,⟨c,rest,e,h1,h2⟩=>⟨c,rest,e,hf h1,h2.flat hf⟩
theorem Src.flat {α:Type}{r:Rep α}(hf:Flat r){ok ok':Nat→Prop}{w:World}{ao:Option Addr}{m c:Nat}{ys:List α}(h:Src r ok w ao m c ys):Src r ok' w ao m c ys :=
 let ⟨h1,h2,news,h3,h4⟩:=h;⟨h1,h2,news,h3,h4.flat hf⟩
theorem Own.amu {α:Type}(r:Rep α){B:Nat}{E:TypeId}{ok:Nat→Prop}{w:World}(hB:B≤w.heap.size):Own r B E ok (w.alloc (.cells #[] E)) (.slice (some ⟨w.heap.size,0,none⟩) 0 0) [] :=
 ⟨[],World.ownsRow_lit w #[] 0 hB (ZaM _) (by simp),rfl⟩
theorem lQ.at (h:lQ r B F E w v l){k:Nat}{x:α}(hx:l[k]?=some x) :
  ∃ g cap c,∃ okk:Nat→Prop,v=.slice (some ⟨g,0,none⟩) l.length cap∧B≤g∧g<w.heap.size∧(∀ j,j<r.sz→w.cell? ⟨g,k*r.sz+j,none⟩=c[j]?)∧r.rd okk w c x∧(∀ b,okk b→B≤b∧b<F∧b≠g) ∧
   ∀ (w':World) (x':α),(∀ b,b<w.heap.size→¬ okk b→w'.heap[b]?=w.heap[b]?)→w'.os=w.os→w'.tape=w.tape→w'.output=w.output→w.heap.size≤w'.heap.size→r.rd okk w' c x'→lQ r B F E w' v (l.set k x'):=by
 obtain ⟨tag,xs,h1,h2⟩:=h
 have hk:=(Z6.1 hx).1
 obtain ⟨g,cap,rfl,hBg,hg⟩:∃ g cap,v=.slice (some ⟨g,0,none⟩) l.length cap∧B≤g∧g<w.heap.size:=by
  rcases h1.2 with ⟨_,h0⟩|⟨g,cap,cur,hv,hb,hg,_⟩
  ·omega
  ·exact ⟨g,cap,hv,hb,(zz.1 hg).1⟩
 obtain ⟨c,h3,h4,h5⟩:=h2.live.pick hx
 refine ⟨g,cap,c,_,rfl,hBg,hg,fun j hj=>?_,h4,fun b hb=>⟨hb.1.1.1,hb.1.1.2.1,fun e=>hb.1.1.2.2 (by rw [e];rfl)⟩,fun w' x' hf hos htp hout hsz hr=>?_⟩
 ·rw [← h3 j hj,h1.cellAt]
  calc k*r.sz+j<k*r.sz+r.sz:=by omega
   _=(k+1)*r.sz:=by rw [ZaC];omega
   _≤l.length*r.sz:=Zam _ (by omega)
 ·have h6:=h5 w' x' (fun b hb hne=>hf b hb.2 fun e=>hne (by simpa using e.2)) hr
  refine ⟨tag,xs,?_,h6.mono fun b hb=>hb.1⟩
  rw [List.length_set]
  have hgk:w'.heap[g]?=w.heap[g]?:=hf g hg fun e=>e.1.1.2.2 rfl
  obtain ⟨hl,⟨hv,h0⟩|⟨g',cap',cur,hv,r1,r2,r3⟩⟩:=h1
  ·cases hv
  ·cases hv
   exact ⟨hl,.inr ⟨g,cap,cur,rfl,r1,by rw [hgk];exact r2,r3⟩⟩
end
def jG {α:Type}(r:Rep α)(E:TypeId):Rep (List α) where
 sz:=1
 rd ok w cs l:=∃ v,cs=[v]∧(∀ b,v.ownBlock=some b→ok b)∧Own r 0 E (fun _=>False) w v l∧(l=[]→v=.slice none 0 0∨∃ g c,v=.slice (some ⟨g,0,none⟩) 0 c)
 len h:=by obtain ⟨v,rfl,_⟩:=h;rfl
 mono hk h:=let ⟨v,e,h1,h2⟩:=h;⟨v,e,fun b hb=>hk b (h1 b hb),h2⟩
 live h:=let ⟨v,e,h1,h2,h3⟩:=h;⟨v,e,fun b hb=>⟨h1 b hb,(h2.lt b hb).2⟩,h2,h3⟩
 frame hf h:=by
  obtain ⟨v,e,h1,⟨xs,h2,h3⟩,h4⟩:=h
  refine ⟨v,e,h1,⟨xs,⟨h2.1,?_⟩,(Chunks.frame (fun b hb=>hb.1.elim) h3)⟩,h4⟩
  rcases h2.2 with h0|⟨g,cap,cur,hv,hb,hg,rest⟩
  ·exact .inl h0
  ·refine .inr ⟨g,cap,cur,hv,hb,?_,rest⟩
   rw [hf g (h1 g (by rw [hv];rfl))];exact hg
 one h:=by
  obtain ⟨v,rfl,_,⟨xs,h2,_⟩,_⟩:=h
  intro u hu
  cases Zav.1 hu
  rcases h2.2 with ⟨rfl,_⟩|⟨g,cap,cur,rfl,_⟩<;>rfl
theorem jG.sl {α:Type}{r:Rep α}{E:TypeId}{ok:Nat→Prop}{w:World}{v:Value}{l:List α}(hf:Flat r)(h:(jG r E).rd ok w [v] l):∃ a n c,v=.slice a n c∧Sl r ok w a n c l:=by
 obtain ⟨_,e,h1,h2,_⟩:=h
 cases e
 obtain ⟨a,n,c,rfl,h3⟩:=h2.sl
 refine ⟨a,n,c,rfl,h3.len,h3.cap,h3.bnd,h3.nil,h3.cells.imp id fun ⟨b,off,e,_,hb,hc⟩=>⟨b,off,e,h1 b (by rw [e];rfl),hb,fun i x hx=>let ⟨cs,g1,g2⟩:=hc i x hx;⟨cs,g1,hf g2⟩⟩⟩
theorem jG.mk {α:Type}{r:Rep α}{B:Nat}{E:TypeId}{w:World}{v:Value}{l:List α}(h:Own r B E (fun _=>False) w v l)(hv:l=[]→v=.slice none 0 0∨∃ g c,v=.slice (some ⟨g,0,none⟩) 0 c):(jG r E).rd (B≤·) w [v] l:=by
 refine ⟨v,rfl,fun b hb=>(h.lt b hb).1,?_,hv⟩
 obtain ⟨xs,h1,h2⟩:=h
 refine ⟨xs,⟨h1.1,h1.2.imp id fun ⟨g,cap,cur,a1,a2,a3⟩=>⟨g,cap,cur,a1,ZaM _,a3⟩⟩,h2⟩
section
variable {P:Program}{ops:Array Oper}{rest:List Oper}{o:Oper}{a:Act}{Q:Exit→Act→World→Prop}{α:Type}{r:Rep α}{B:Nat}{E:TypeId}{w:World}
theorem Ce {T bytes:Nat}{z:Value}(ht:uq P T E r.sz bytes z)(hg:o.guard=none)(l c:Operand)(hop:o.op=Op.makeSlice T l c)
  {kl kc:IntKind} {n:Nat} (hl:a.eval l=.int kl 0) (hc:a.eval c=.int kc (n:Int)) (b2:bytes*n≤281474976710656) (b3:n≤maxLen) (b4:B≤w.heap.size)
  (hK:∀ w',(∀ F,lQ r B F E w' (.slice (some ⟨w.heap.size,0,none⟩) 0 n) [])→Below w.heap.size w w'→wpList P ops Q rest (a.put o.dst (.slice (some ⟨w.heap.size,0,none⟩) 0 n)) w'):wpList P ops Q (o::rest) a w:=by
 obtain ⟨i,hi,hz0,hz1,hz2⟩:=info_parts ht.i
 refine wpList_make_own w hg l c T hop B E i z r.sz ht.u hi hz0 hz1 kl kc (n:Int) n hl hc rfl (by rw [hz2];exact b2) b3 b4 fun w' h1 h2=>hK w' (fun F=>⟨fun _=>0,[],h1,rfl⟩) (grown_below h2 (ze _) (fun k e=>by cases e))
end
section
variable {P:Program}{α:Type}{r:Rep α}{B:Nat}{E:TypeId}{w:World}{g cap:Nat}{l:List α}
theorem Qh (h:Own r B E (fun _=>False) w (.slice (some ⟨g,0,none⟩) l.length cap) l){s:Nat}{ys:List α}{news:List Value}(hn:Chunks r (fun _=>False) w news ys)(hs:s+ys.length≤l.length)(hne:l≠[]∨ys≠[]) :
  ∃ w',(storeCells ⟨g,s*r.sz,none⟩ news).run P w=.ok () w'∧Own r B E (fun _=>False) w' (.slice (some ⟨g,0,none⟩) l.length cap) (l.take s++ys++l.drop (s+ys.length))∧w.grownBy w' (some g)∧w'.heap.size=w.heap.size:=by
 obtain ⟨xs,h1,h2⟩:=h
 obtain ⟨hx,⟨hv,_⟩|⟨g',cap',cur,hv,hb,hg,hnc,hcm,hcs,ht⟩⟩:=h1
 ·cases hv
 ·cases hv
  have hnl:=hn.length
  have hxl:=h2.length
  have hfit:s*r.sz+0+news.length≤cur.size:=by
   rw [hcs,hnl,Za1,← ZaC]
   exact Zam _ (by omega)
  have hrun:=run_storeCells_at P g (s*r.sz) E news 0 cur w hg hfit hn.one
  rw [Za1] at hrun
  refine ⟨_,hrun,?_,⟨rfl,rfl,rfl,by simp,fun k _ hk=>setRow_other w g k _ (fun e=>hk (by simp [e]))⟩,by simp⟩
  have hlen':(l.take s++ys++l.drop (s+ys.length)).length=l.length:=by simp;omega
  have hcell:∀ i,(xs.take (s*r.sz)++news++xs.drop (s*r.sz+news.length))[i]?=if i<s*r.sz then xs[i]? else if i<s*r.sz+news.length then news[i - s*r.sz]? else xs[i]?:=by
   intro i
   have hs1:s*r.sz≤xs.length:=by rw [hxl];exact Zam _ (by omega)
   have e1:(xs.take (s*r.sz)).length=s*r.sz:=by rw [Zac];omega
   by_cases hi:i<s*r.sz
   ·rw [if_pos hi,Zay,Zad (by rw [e1];exact hi),Zaq,if_pos hi]
   ·rw [if_neg hi]
    by_cases hi2:i<s*r.sz+news.length
    ·rw [if_pos hi2,Zad (by rw [Zaa,e1];exact hi2),zP (by rw [e1];omega),e1]
    ·rw [if_neg hi2,zP (by rw [Zaa,e1];omega),Zaa,e1,ZaP]
     congr 1;omega
  refine ⟨xs.take (s*r.sz)++news++xs.drop (s*r.sz+news.length),⟨?_,.inr ⟨g,cap,_,by rw [hlen'],hb,setRow_heap w g cur _ E _ hg,by rw [hlen'];exact hnc,hcm,?_,?_⟩⟩,?_⟩
  ·rw [hlen',Zaa,Zaa,Zac,Zbe,hxl,hnl]
   have:(s+ys.length)*r.sz≤l.length*r.sz:=Zam _ hs
   rw [ZaC] at this
   omega
  ·rw [List.size_toArray,Zaa,Zaa,Zac,Zbe,ZaA]
   omega
  ·rw [hlen',← ht]
   have hA:s*r.sz+news.length≤l.length*r.sz:=by rw [hnl,← ZaC];exact Zam _ hs
   have hB2:l.length*r.sz≤cur.size:=by rw [hcs];exact Zam _ hnc
   apply List.ext_getElem?
   intro i
   have e1:(cur.toList.take (s*r.sz)).length=s*r.sz:=by rw [Zac,ZaA];omega
   have e2:((cur.toList.take (l.length*r.sz)).take (s*r.sz)).length=s*r.sz:=by simp only [Zac,ZaA];omega
   by_cases hi:i<s*r.sz
   ·rw [Zaq,if_pos (by omega),Zay,Zad (by rw [e1];exact hi),Zay,Zad (by rw [e2];exact hi),Zaq,if_pos hi,Zaq,if_pos hi,Zaq,if_pos (by omega)]
   ·by_cases hi2:i<s*r.sz+news.length
    ·rw [Zaq,if_pos (by omega),Zad (by rw [Zaa,e1];exact hi2),zP (by rw [e1];omega),e1,
      Zad (by rw [Zaa,e2];exact hi2),zP (by rw [e2];omega),e2]
    ·rw [Zaq,zP (by rw [Zaa,e1];omega),zP (by rw [Zaa,e2];omega),Zaa,Zaa,e1,e2,ZaP,ZaP,Zaq]
     have:s*r.sz+news.length+(i - (s*r.sz+news.length))=i:=by omega
     rw [this]
  ·-- the elements
   have:=Chunks.acd (r:=r) (ok:=fun b=>False∧ZD b≠(Value.slice (some ⟨g,0,none⟩) l.length cap).ownBlock) (w:=w.setRow g (cur.toList.take (s*r.sz)++news++cur.toList.drop (s*r.sz+news.length)).toArray) (xs:=xs.take (s*r.sz)++news++xs.drop (s*r.sz+news.length)) (l:=l.take s++ys++l.drop (s+ys.length)) 0 (by
     rw [hlen',Zaa,Zaa,Zac,Zbe,hxl,hnl]
     have:(s+ys.length)*r.sz≤l.length*r.sz:=Zam _ hs
     rw [ZaC] at this
     omega) (fun i x hx=>by
     have key:∃ c w0,(∀ j,j<r.sz→(xs.take (s*r.sz)++news++xs.drop (s*r.sz+news.length))[i*r.sz+j]?=c[j]?)∧r.rd (fun _=>False) w0 c x:=by
      have es:(l.take s).length=s:=by rw [Zac];omega
      by_cases hi:i<s
      ·rw [Zay,Zad (by rw [es];exact hi),Zaq,if_pos hi] at hx
       obtain ⟨c,h3,h4⟩:=h2.at hx
       refine ⟨c,w,fun j hj=>?_,r.mono (fun b hb=>hb.1) h4⟩
       rw [hcell,if_pos,h3 j hj]
       calc i*r.sz+j<i*r.sz+r.sz:=by omega
        _=(i+1)*r.sz:=by rw [ZaC];omega
        _≤s*r.sz:=Zam _ (by omega)
      ·by_cases hi2:i<s+ys.length
       ·rw [Zad (by rw [Zaa,es];exact hi2),zP (by rw [es];omega),es] at hx
        obtain ⟨c,h3,h4⟩:=hn.at hx
        refine ⟨c,w,fun j hj=>?_,h4⟩
        have e3:s*r.sz≤i*r.sz:=Zam _ (by omega)
        have e4:(i+1)*r.sz≤(s+ys.length)*r.sz:=Zam _ (by omega)
        rw [ZaC,ZaC] at e4
        rw [hcell,if_neg (by omega),if_pos (by rw [hnl];omega),← h3 j hj]
        congr 1
        rw [Nat.sub_mul];omega
       ·rw [zP (by rw [Zaa,es];omega),Zaa,es,ZaP,show s+ys.length+(i - (s+ys.length))=i by omega] at hx
        obtain ⟨c,h3,h4⟩:=h2.at hx
        refine ⟨c,w,fun j hj=>?_,r.mono (fun b hb=>hb.1) h4⟩
        have e3:(s+ys.length)*r.sz≤i*r.sz:=Zam _ (by omega)
        rw [ZaC] at e3
        rw [hcell,if_neg (by omega),if_neg (by rw [hnl];omega),h3 j hj]
     obtain ⟨c,w0,h3,h4⟩:=key
     exact ⟨c,fun j hj=>by rw [Zan];exact h3 j hj,r.mono (fun b hb=>hb.elim) (r.frame (fun b hb=>hb.elim) h4)⟩)
   simpa using this
end
def wJ (a:Option Addr)(c lo sz:Nat):Option Addr:=if c=lo then a else a.map (·.add (lo*sz))
theorem UK {P:Program}{T E sz:Nat}(hT:P.underlying T=some (.slice E))(hi:(P.info? E).map (·.size)=some sz)(a:Option Addr)(n c s:Nat)(h:s≤n)(w:World) :
  (Instr.sliceAt T (.slice a n c) (some (.int .i64 (s:Int))) none none).run P w=.ok (.slice (wJ a c s sz) (n - s) (c - s)) w:=by
 have he:P.elem T=E:=by simp [Program.elem,hT]
 have hT':P.underlying T=some (.slice (P.elem T)):=by rw [he];exact hT
 have hz:(sizeOf (P.elem T)).run P w=.ok sz w:=by
  obtain ⟨i,hi,hs⟩:=Zat.1 hi
  rw [he];simp [sizeOf,typeInfo,hi,hs]
 rw [run_sliceAt_slice w T _ _ _ _ hT',run_slice_l w T a n c hT' .i64 s (by omega) (by omega),hz,Result.andThen_ok]
 simp only [sliced,wJ,ZaG]
theorem Sl.sub {α:Type}{r:Rep α}{ok:Nat→Prop}{w:World}{a:Option Addr}{n c:Nat}{l:List α}(h:Sl r ok w a n c l){s k:Nat}(hk:s+k≤n):Sl r ok w (wJ a c s r.sz) k (c - s) ((l.drop s).take k):=by
 have h1:=h.len
 have h2:=h.cap
 refine ⟨by simp;omega,by omega,zr (Nat.sub_le _ _) h.bnd,fun e=>?_,?_⟩
 ·unfold wJ at e
  split at e
  ·omega
  ·have:a=none:=by simpa using e
   have:=h.nil this
   omega
 ·rcases h.cells with h0|⟨b,off,rfl,hb,hlt,hc⟩
  ·left;omega
  ·by_cases hk0:k=0
   ·exact .inl hk0
   ·refine .inr ⟨b,off+s*r.sz,?_,hb,hlt,fun i x hx=>?_⟩
    ·unfold wJ
     rw [if_neg (by omega)]
     simp [Addr.add_lit]
    ·have hik:i<k:=by have:=(Z6.1 hx).1;simp at this;omega
     rw [Zaq,if_pos hik,ZaP] at hx
     obtain ⟨cs,g1,g2⟩:=hc (s+i) x hx
     refine ⟨cs,fun j hj=>?_,g2⟩
     rw [← g1 j hj,ZaC,Zbs off]
section
variable {P:Program}{ops:Array Oper}{rest:List Oper}{o:Oper}{a:Act}{Q:Exit→Act→World→Prop}{α:Type}{r:Rep α}{B:Nat}{E:TypeId}{w:World}{g cap:Nat}{l:List α}
theorem Jr {T bytes:Nat}{z:Value}(ht:uq P T E r.sz bytes z)(hfl:Flat r)(hgd:o.guard=none)(d x:Operand)
  (ho:o.op=.call { callee:=.builtin .copy,args:=#[d,x],argTypes:=#[T,T] }) {s dl dc:Nat} (hd:a.eval d=.slice (some ⟨g,s*r.sz,none⟩) dl dc) {ao:Option Addr} {m c:Nat} (hx:a.eval x=.slice ao m c)
  (h:Own r B E (fun _=>False) w (.slice (some ⟨g,0,none⟩) l.length cap) l) {ok:Nat→Prop} {ys:List α} (hs:Sl r ok w ao m c ys) (hle:s+m≤l.length) (hm:0<m) (hdl:m≤dl)
  (hk:∀ w',Own r B E (fun _=>False) w' (.slice (some ⟨g,0,none⟩) l.length cap) (l.take s++ys++l.drop (s+ys.length))→w.grownBy w' (some g)→w'.heap.size=w.heap.size→wpList P ops Q rest (a.put o.dst (.int .i64 m)) w'):wpList P ops Q (o::rest) a w:=by
 refine wpList_plain hgd fun K hK=>?_
 obtain ⟨i,hi,_,hz1,_⟩:=info_parts ht.i
 obtain ⟨hlen,hnil,news,hnews,hch⟩:=Src.Ym hs
 obtain ⟨ad,rfl⟩:∃ ad,ao=some ad:=by
  cases ao with
  |some ad=>exact ⟨ad,rfl⟩
  |none=>have:=(hnil rfl).1;omega
 have hnl:=hch.length
 obtain ⟨w',hst,h1,h2,h3⟩:=Qh (P:=P) h (s:=s) (ys:=ys) (hch.flat hfl) (by omega) (.inr (by intro e;rw [e] at hlen;simp at hlen;omega))
 have hld:=run_loadCells_list (P:=P) (w:=w) ad news (hnews ad rfl)
 have hmin:Nat.min m dl=m:=Zbv hdl
 rw [hnl,hlen] at hld
 unfold Oper.wp execOp
 have hrun:(Builtin.copy_ #[T,T] o.type #[.slice (some ⟨g,s*r.sz,none⟩) dl dc,.slice (some ad) m c]).run P w=.ok (goInt m) w':=by
  simp [Builtin.copy_,run_underlying ht.u,Builtin.lenOf,Builtin.firstCells,sizeOf,typeInfo,hi,hz1,hmin,hld,hst]
 simp only [ho,resolve,invoke,builtin,Sem.run_bind,Sem.run_pure,Result.andThen_ok,Zcd,Zaj,Zai,hd,hx,hrun]
 exact hK _ _ (hk w' h1 h2 h3)
end
section
variable {ok:Nat→Prop}{w:World}{n c:Nat}
theorem Sl.wr {b off:Nat}{l:List (Int×Int×List fE)}(h:Sl (QW xE (QW xE (Yl AL))) ok w (some ⟨b,off,none⟩) n c l){k:Nat}{v s:Int}{d:List fE}(hx:l[k]?=some (v,s,d)) :
  ∃ a' n' c',w.cell? ⟨b,off+k*3,none⟩=some (.int .i64 v)∧w.cell? ⟨b,off+k*3+1,none⟩=some (.int .i64 s)∧w.cell? ⟨b,off+k*3+2,none⟩=some (.slice a' n' c')∧pR v∧pR s∧Sl AL ok w a' n' c' d:=by
 obtain ⟨cs,h1,c1,c2,rfl,⟨rfl,hv⟩,c3,c4,rfl,⟨rfl,hs⟩,a',n',c',rfl,hd⟩:=h.at hx
 refine ⟨a',n',c',?_,?_,?_,hv,hs,hd⟩
 ·exact h1 0 (by show 0<3;omega)
 ·exact h1 1 (by show 1<3;omega)
 ·exact h1 2 (by show 2<3;omega)
theorem Sl.ext {b off:Nat}{l:List (Int×Int)}(h:Sl (QW xE xE) ok w (some ⟨b,off,none⟩) n c l){k:Nat}{s m:Int}(hx:l[k]?=some (s,m)) :
  w.cell? ⟨b,off+k*2,none⟩=some (.int .i64 s)∧w.cell? ⟨b,off+k*2+1,none⟩=some (.int .i64 m)∧pR s∧pR m:=by
 obtain ⟨cs,h1,c1,c2,rfl,⟨rfl,hv⟩,⟨rfl,hs⟩⟩:=h.at hx
 exact ⟨h1 0 (by show 0<2;omega),h1 1 (by show 1<2;omega),hv,hs⟩
end
end Go.Proofs.YtioijcfcehhmdaaGreatDoor
namespace Go.Proofs.YtioijcfcehhmdaaGreatDoor
open Go.RowKit V
theorem Ci (w:World)(o:Obj):(w.alloc o).heap[w.heap.size]?=some o:=Array.getElem?_push_size
theorem qK (w:World)(o:Obj):(w.alloc o).heap.size=w.heap.size+1:=Array.size_push _
theorem arV (w:World)(o:Obj){k:Nat}(h:k<w.heap.size):(w.alloc o).heap[k]?=w.heap[k]?:=Below.heap_alloc w o k h
theorem ltQ {w:World}{b:Nat}{o:Obj}(h:w.heap[b]?=some o):b<w.heap.size:=(zz.1 h).1
theorem dL {w w':World}{b:Nat}{o:Obj}(h:w.heap[b]?=some o)(hB:Below w.heap.size w w'):w'.heap[b]?=some o:=(hB.block b (ltQ h)).trans h
theorem Js {w:World}{b:Nat}{o:Obj}(p:Obj)(h:w.heap[b]?=some o):(w.alloc p).heap[b]?=some o:=(arV w p (ltQ h)).trans h
theorem lS {w:World}{b j:Nat}{arr:Array Value}{E:TypeId}{v:Value}(h:w.heap[b]?=some (.cells arr E (0,0)))(hj:arr[j]?=some v):w.cell? ⟨b,j,none⟩=some v:=by rw [cell_of_row _ _ _ _ _ (0,0) h];exact hj
def apn:List zh:=[⟨1,1,7⟩]
def afs:List zh:=[⟨1,1,5⟩,⟨2,6,9⟩]
theorem aft {fn:Func}{t:Tmp}{ty:TypeId}{P:Program}{w:World}{tmps:Array Value}{ad:Addr}{v:Value}(h:fn.results=#[.cell t ty])(hp:tmps[t]?.getD undef=.pointer (some ad))(hl:(loadVar ty ad).run P w=.ok v w) :
  (results fn tmps).run P w=.ok v w:=by
 unfold results
 rw [h]
 simp [hp,asAddr,hl]
theorem abw {fn:Func}{t s u:Tmp}{ty:TypeId}{P:Program}{w:World}{tmps:Array Value}{ad bd:Addr}{v x y:Value}(h:fn.results=#[.cell t ty,.cell s ty,.tmp u])(hp:tmps[t]?.getD undef=.pointer (some ad))(hq:tmps[s]?.getD undef=.pointer (some bd))(hu:tmps[u]?.getD undef=y)(hl:(loadVar ty ad).run P w=.ok v w)(hl2:(loadVar ty bd).run P w=.ok x w) :
  (results fn tmps).run P w=.ok (.tuple #[v,x,y]) w:=by
 unfold results
 rw [h]
 simp [hp,hq,hu,asAddr,hl,hl2]
theorem Tryz.Qi {w:World}{b:Nat}{x:Int}{u1 u2 u3:Value}(h:w.heap[b]?=some (.cells #[.int .i64 x,u1,u2,u3] 29 (0,0))):(loadVar 29 ⟨b,0,none⟩).run Tryz.prog w=.ok (.agg #[.int .i64 x,u1,u2,u3]) w :=
 EC (cs:=[.int .i64 x,u1,u2,u3]) Tryz.underlying29 rfl (by kernel_rfl) fun j hj=>by
  rw [Addr.add_lit,Zan,cell_of_row _ _ _ _ _ (0,0) h]
  show (#[Value.int .i64 x,u1,u2,u3]:Array Value)[j]?=_
  rw [← Array.getElem?_toList]
set_option maxRecDepth 100000 in
set_option maxHeartbeats 4000000 in
theorem UL {w:World}{ix dx:Option Addr}{n1 c1 n2 c2:Nat} :
  Calls Tryz.prog 45 #[.slice ix n1 c1,.slice dx n2 c2] w (fun e w'=>∃ la,e=.returned (.agg #[.int .i64 1,.slice la 2 2,.slice dx n2 c2,.slice ix n1 c1])∧Below w.heap.size w w'∧aA (fun k=>w.heap.size≤k∧k<w'.heap.size) w' (.list 3 (afs.map jY)) (.slice la 2 2)):=by
 go_enter Tryz.func45,Tryz.ntmps45
 go_wp2_with fail
 obtain ⟨w1,hw1⟩:∃ w1,w.alloc (.cells #[.int .i64 1,.slice (some ⟨w.heap.size+1,0,none⟩) 2 2,.slice dx n2 c2,.slice ix n1 c1] 29)=w1:=⟨_,rfl⟩
 have h0:=Ci w (.cells #[.int .i64 1,.slice (some ⟨w.heap.size+1,0,none⟩) 2 2,.slice dx n2 c2,.slice ix n1 c1] 29)
 have z0:=qK w (.cells #[.int .i64 1,.slice (some ⟨w.heap.size+1,0,none⟩) 2 2,.slice dx n2 c2,.slice ix n1 c1] 29)
 have b0:Below w.heap.size w w1:=by rw [← hw1];exact (Below.refl _ _).alloc (ze _) _
 rw [hw1] at h0 z0
 change bodyPost _ _ _ _ _ ((w.alloc (.cells #[.int .i64 1,.slice (some ⟨w.heap.size+1,0,none⟩) 2 2,.slice dx n2 c2,.slice ix n1 c1] 29)).alloc (.cells #[.int .i64 1,.int .i64 1,.int .i64 5,.int .i64 2,.int .i64 6,.int .i64 9] 147))
 rw [hw1]
 have h1:=Ci w1 (.cells #[.int .i64 1,.int .i64 1,.int .i64 5,.int .i64 2,.int .i64 6,.int .i64 9] 147)
 have h2:=Js (.cells #[.int .i64 1,.int .i64 1,.int .i64 5,.int .i64 2,.int .i64 6,.int .i64 9] 147) h0
 have z1:=qK w1 (.cells #[.int .i64 1,.int .i64 1,.int .i64 5,.int .i64 2,.int .i64 6,.int .i64 9] 147)
 have b1:=b0.alloc b0.size (.cells #[.int .i64 1,.int .i64 1,.int .i64 5,.int .i64 2,.int .i64 6,.int .i64 9] 147)
 generalize w1.alloc (.cells #[.int .i64 1,.int .i64 1,.int .i64 5,.int .i64 2,.int .i64 6,.int .i64 9] 147)=w2 at *
 rw [z0] at h1 z1
 refine bodyPost_ret (aft rfl rfl (Tryz.Qi h2)) rfl ?_
 refine ⟨_,rfl,b1,?_⟩
 have hc:∀ (k:Nat) (v:Value),(#[Value.int .i64 1,.int .i64 1,.int .i64 5,.int .i64 2,.int .i64 6,.int .i64 9]:Array Value)[k]?=some v→w2.cell? ⟨w.heap.size+1,k,none⟩=some v:=fun k v hv=>lS h1 hv
 refine .list 3 (afs.map jY) (w.heap.size+1) 0 2 (fun i j=>(#[Value.int .i64 1,.int .i64 1,.int .i64 5,.int .i64 2,.int .i64 6,.int .i64 9]:Array Value).getD (i*3+j) undef) ⟨by omega,by omega⟩ ⟨_,_,_,h1⟩ (ze 2) (by decide) (fun e he=>?_) (fun i e j x hi hj=>?_) (fun i e j x hi hj=>?_)
 ·obtain ⟨s,-,rfl⟩:=ZaY.1 he
  rfl
 ·match i,hi with
  |0,hi =>
   cases hi
   match j,hj with
   |0,hj=>exact ⟨hc _ _ rfl,rfl⟩
   |1,hj=>exact ⟨hc _ _ rfl,rfl⟩
   |2,hj=>exact ⟨hc _ _ rfl,rfl⟩
   |j+3,hj=>cases hj
  |1,hi =>
   cases hi
   match j,hj with
   |0,hj=>exact ⟨hc _ _ rfl,rfl⟩
   |1,hj=>exact ⟨hc _ _ rfl,rfl⟩
   |2,hj=>exact ⟨hc _ _ rfl,rfl⟩
   |j+3,hj=>cases hj
  |i+2,hi=>cases hi
 ·match i,hi with
  |0,hi =>
   cases hi
   match j,hj with
   |0,hj=>cases hj;exact .int _ _
   |1,hj=>cases hj;exact .int _ _
   |2,hj=>cases hj;exact .int _ _
   |j+3,hj=>cases hj
  |1,hi =>
   cases hi
   match j,hj with
   |0,hj=>cases hj;exact .int _ _
   |1,hj=>cases hj;exact .int _ _
   |2,hj=>cases hj;exact .int _ _
   |j+3,hj=>cases hj
  |i+2,hi=>cases hi
end Go.Proofs.YtioijcfcehhmdaaGreatDoor
namespace Go.Proofs.YtioijcfcehhmdaaGreatDoor.V
def kH (l:List zh):zh:=lastOf l l.length
theorem amv {a b:Bm}(ha:okB a=true)(hb:okB b=true)(hs:a.size=b.size):qm a b=0∧okB (yw D5 a b)=true∧(yw D5 a b).size=a.size∧∀ s:Nat,(s:Int)<a.size→bit (yw D5 a b).ws s=(bit a.ws s || bit b.ws s):=by
 have hE:qm a b=0:=by unfold qm;rw [if_neg (by rw [ha];decide),if_neg (by rw [hb];decide),if_neg (by simpa using hs)]
 obtain ⟨_,_,_,hl⟩:=both_ok hE
 have hO:yw D5 a b=⟨a.size,oh D5 a.ws b.ws⟩:=by unfold yw;rw [if_pos hE]
 have hz:(oh D5 a.ws b.ws).length=a.ws.length:=by simp [oh,hl]
 have hbit:∀ {i:Nat},i<64*a.ws.length→bit (oh D5 a.ws b.ws) i=(bit a.ws i || bit b.ws i):=fun hi=>aiR (g:=fun x y=>x || y) (fun x y j _=>ZdX) hl hi
 have h1:=jM ha
 rw [hO]
 refine ⟨hE,kP.2 ⟨⟨h1.1,h1.2.1,?_⟩,fun i hi=>?_⟩,rfl,fun s hlt=>hbit (by omega)⟩
 ·show ((oh D5 a.ws b.ws).length:Int)=_
  rw [hz];exact (kP.1 ha).1.2.2
 ·have hi:a.size≤(i:Int):=hi
  by_cases c:i<64*a.ws.length
  ·show bit (oh D5 a.ws b.ws) i=false
   rw [hbit c,(kP.1 ha).2 i hi,(kP.1 hb).2 i (by omega)]
   rfl
  ·exact Gv (by show 64*(oh D5 a.ws b.ws).length≤i;rw [hz];omega)
theorem extC {p q:Nat→Bool}{m:Nat}(h:∀ t,t<m→p t=q t):ext p m=ext q m:=by
 unfold ext
 congr 1
 apply Zbo
 intro t ht
 exact h t (ZaS.1 ht)
theorem Jt:∀ {bs:List Bm} {vs:fG},yA bs vs=0→∀ i (h1:i<bs.length) (h2:i<vs.length),okB bs[i]=true∧bs[i].size=(vs[i].length:Int)
 |[],_,_,i,h1,_=>absurd h1 (ZcS _)
 |_::_,[],_,i,_,h2=>absurd h2 (ZcS _)
 |b::bs,v::vs,h,i,h1,h2=>by
  unfold yA at h
  split at h
  ·rename_i c;exact absurd h c
  ·rename_i c
   split at h
   ·cases h
   ·rename_i c2
    match i with
    |0 =>
     refine ⟨?_,by simpa using c2⟩
     cases hb:okB b with
     |true=>exact hb
     |false=>unfold KR at c;rw [hb] at c;exact absurd (by decide) c
    |i+1=>exact Jt h i (by simpa using h1) (by simpa using h2)
theorem lZ {p:Pt}(h:gU p=0):qJ p.lin=true∧bY p.img=0∧p.dirty.length=p.img.length∧yA p.dirty p.img=0:=by
 unfold gU at h
 split at h
 ·cases h
 ·split at h
  ·cases h
  ·rename_i c
   split at h
   ·rename_i c2;exact absurd h c2
   ·rename_i c2
    split at h
    ·cases h
    ·rename_i c3
     exact ⟨by simpa using c,by simpa using c2,by simpa using c3,h⟩
theorem abx {a b:Pt}(h:aj a.img=aj b.img)(i:Nat):D7 a i=D7 b i:=by
 have e:∀ p:Pt,((aj p.img).getD i 0)=(D7 p i:Int):=fun p=>by
  unfold aj D7
  rw [Zag,Zag,zb]
  cases p.img[i]?<;>rfl
 have:=e a
 rw [h,e b] at this
 omega
theorem UM {a b:Pt}(h:aj a.img=aj b.img):a.img.length=b.img.length:=by
 have:=congrArg List.length h
 simpa [aj] using this
theorem afu {p:Pt}(h:gU p=0){v:Nat}(hv:v<p.img.length):okB (dir p v)=true∧(dir p v).size=(D7 p v:Int):=by
 obtain ⟨_,_,h3,h4⟩:=lZ h
 have:=Jt h4 v (by omega) hv
 unfold dir D7
 rw [Zag,ZS (by omega),Zag,ZS hv]
 exact this
theorem Gw {b:Bm}(h:okB b=true){k:Nat}(hk:(k:Int)<b.size):ai0 b (k:Int)=bit b.ws k:=by
 unfold ai0
 rw [h,zm,decide_eq_true (by omega),zm,decide_eq_true hk,zm,ZaG]
theorem amw {a b:Pt}(ha:gU a=0)(hb:gU b=0)(hs:aj a.img=aj b.img){v:Nat}(hv:v<a.img.length):qm (dir a v) (dir b v)=0∧bmX (yw D5 (dir a v) (dir b v))=ext (mk2 a b v) (D7 a v):=by
 have hv2:v<b.img.length:=by rw [← UM hs];exact hv
 obtain ⟨a1,a2⟩:=afu ha hv
 obtain ⟨b1,b2⟩:=afu hb hv2
 have hL:=abx hs v
 obtain ⟨g1,g2,g3,g4⟩:=amv a1 b1 (by rw [a2,b2,hL])
 refine ⟨g1,?_⟩
 unfold bmX Qc
 rw [if_pos g2,g3,a2,ZaG]
 apply extC
 intro t ht
 rw [g4 t (by omega)]
 unfold mk2
 rw [Gw a1 (by omega),Gw b1 (by omega)]
def yC (a b:Pt)(n i:Nat):List PV:=(Qe a b i).map wH++Zal (n - i) (PV.list 0 [])
theorem afv {a b:Pt}{n i:Nat}(h:i≤n):(yC a b n i).length=n:=by
 unfold yC
 rw [Zaa,Z2,lY,Zby]
 omega
theorem afw {a b:Pt}{n i:Nat}(h:i<n):(yC a b n i)[i]?=some (PV.list 0 []):=by
 unfold yC
 have hl:((Qe a b i).map wH).length=i:=by rw [Z2,lY]
 rw [zP (by omega),hl,Zbz,Zbq,if_pos (by omega)]
theorem afx {a b:Pt}{n i:Nat}(h:i<n):(yC a b n i).set i (PV.list 2 ((ext (mk2 a b i) (D7 a i)).map cO))=yC a b n (i+1):=by
 unfold yC
 have hl:((Qe a b i).map wH).length=i:=by rw [Z2,lY]
 rw [ZcI _ _ (by omega),hl,Zbz,show n - i=(n - (i+1))+1 by omega,ZdF,Zcr,afn,ZaK,Zay]
 rfl
theorem aby (a b:Pt)(n:Nat):yC a b n 0=Zal n (PV.list 0 []):=by
 unfold yC Qe
 simp
theorem afy (a b:Pt)(n:Nat):yC a b n n=(Qe a b n).map wH:=by
 unfold yC
 rw [Zbz]
 simp
set_option maxRecDepth 20000 in
theorem ai3 {a b:Pt}(ha:gU a=0)(hb:gU b=0)(hs:aj a.img=aj b.img)(hl:a.img.length≤lim){st:St}(h:st.head [2,3,5,12,14,15] st.boxes.length=some ⟨sl 39 [(2,.aO 0 0),(3,.aO 1 0),(5,.row 1 (yC a b a.img.length ((0:Nat)))),(12,.any),(14,.pv (.int .i64 a.img.length)),(15,.pv (.int .i64 (0:Nat)))],[⟨false,qU a⟩,⟨false,qU b⟩],[],none⟩) :
  den env Iy st=some (.normal,⟨sl 39 [(4,.any),(5,.row 1 (yC a b a.img.length a.img.length))],[⟨false,qU a⟩,⟨false,qU b⟩],[],none⟩):=by
 unfold Iy
 refine bM (env:=env) (nb:=2) (a.img.length) (fun i=>⟨sl 39 [(2,.aO 0 0),(3,.aO 1 0),(5,.row 1 (yC a b a.img.length (i))),(12,.any),(14,.pv (.int .i64 a.img.length)),(15,.pv (.int .i64 i))],[⟨false,qU a⟩,⟨false,qU b⟩],[],none⟩) (fun i=>some (.normal,⟨sl 39 [(4,.any),(5,.row 1 (yC a b a.img.length a.img.length))],[⟨false,qU a⟩,⟨false,qU b⟩],[],none⟩)) h (fun _=>rfl) (fun _=>by simp only [aG,bJ,Nat.reduceMul,Nat.reduceBEq,Nat.reduceLT,Nat.reduceLeDiff,Nat.reduceAdd,decide_true,zt,zm]) ?_ ?_
 ·intro i rb hi ih
  have hi1:=bF hi hl
  have F1:((i:Int)<(a.img.length:Int))=True:=eq_true (by omega)
  have h1:i<a.dirty.length:=by have:=(lZ ha).2.2.1;omega
  have h2:i<b.dirty.length:=by have:=(lZ hb).2.2.1;have:=UM hs;omega
  have P2:∀ a b:PV,part [a,b] 0 (some 2)=some (.agg [a,b]):=fun _ _=>rfl
  have eA:∀ b:Bm,jq b=.agg [.int .i64 b.size,.list 1 (b.ws.map eW)]:=fun _=>rfl
  obtain ⟨m1,m2⟩:=amw ha hb hs hi
  have hx:=afm h1
  have hy:=afm h2
  have e1:=aml (a:=dir a i) (b:=dir b i)
  have e2:=akk (b:=yw D5 (dir a i) (dir b i))
  rw [m1] at e1
  rw [m2] at e2
  generalize yw D5 (dir a i) (dir b i)=o at *
  rw [eA,eA,eA] at e1
  rw [eA] at e2 hx hy
  have z1:=afv (a:=a) (b:=b) (n:=a.img.length) (i:=i) (by omega)
  have z2:=afw (a:=a) (b:=b) hi
  have z3:=afx (a:=a) (b:=b) hi
  have I1:index (.int .i64 (i:Int)) (yC a b a.img.length i).length=some i:=by rw [z1];exact au hi
  rw [← z3] at ih
  generalize yC a b a.img.length i=z at *
  generalize (ext (mk2 a b i) (D7 a i)).map cO=x at *
  simp only [Iw,F1,P2,hx,hy,e1,e2,z2,I1,aZ,au h1,au h2,Z2,aF,Nat.reduceMul,Nat.reduceBEq,Nat.reduceLT,Nat.reduceLeDiff,reduceCtorEq,Nat.reduceEqDiff,Nat.reduceAdd,Z1]
  rw [ih _ (by simp only [hi1,aZ,aF,Nat.reduceMul,Nat.reduceBEq,Nat.reduceLT,Nat.reduceLeDiff,reduceCtorEq,Nat.reduceEqDiff,Nat.reduceAdd,Z1]<;>rfl)]
  all_goals rfl
 ·intro rb
  simp only [Iw,Zap,aZ,Z2,aF,Nat.reduceMul,Nat.reduceBEq,Nat.reduceLT,Nat.reduceLeDiff,reduceCtorEq,Nat.reduceEqDiff,Nat.reduceAdd,Z1]
theorem amx {a b:Pt}(ha:gU a=0)(hb:gU b=0)(hs:aj a.img=aj b.img)(hl:a.img.length≤lim):cal env 112 [FP a,FP b]=some [(.list 1 ((Qe a b a.img.length).map wH),true)]:=by
 have hd:=(lZ ha).2.2.1
 have hlim:lim=1073741824:=rfl
 have K1:(0≤(a.dirty.length:Int))=True:=eq_true (by omega)
 have K2:((a.dirty.length:Int)≤(lim:Int))=True:=eq_true (by omega)
 have K3:((a.dirty.length:Int)≤(a.dirty.length:Int))=True:=eq_true (Int.le_refl _)
 have K4:((a.dirty.length:Int)).toNat=a.dirty.length:=by omega
 rw [gJ,gJ]
 rw [ah aly rfl];simp only [TJ,aG,Nat.reduceBEq,Nat.reduceLeDiff,Nat.reduceAdd,za,zd]
 simp only [K1,K2,K3,K4,Z2,Zby,aF,Nat.reduceMul,Nat.reduceBEq,Nat.reduceLT,Nat.reduceLeDiff,reduceCtorEq,Nat.reduceEqDiff,Nat.reduceAdd,Z1]
 rw [ai3 (a:=a) (b:=b) ha hb hs hl]
 rotate_left
 ·rw [aby,aZ,aZ,← hd]
  simp only [aG,bJ,Nat.reduceMul,Nat.reduceBEq,Nat.reduceLT,Nat.reduceLeDiff,Nat.reduceAdd,decide_true,zt,zm]<;>rfl
 ·rw [afy]
  simp only [ZaI,aF,Nat.reduceMul,Nat.reduceBEq,Nat.reduceLT,Nat.reduceLeDiff,reduceCtorEq,Nat.reduceEqDiff,Nat.reduceAdd,Z1]
def btE (a b:Pt):Int:=if gU a=0 then if gU b=0 then if aj a.img=aj b.img then 0 else 22 else gU b else gU a
def btO (a b:Pt):List (List cZ):=if btE a b=0 then Qe a b a.img.length else []
def resT (n:Nat)(a b:Pt)(e:Int):Option (Ex×St):=if e=0 then some (.normal,⟨sl n [(2,.aO 0 0),(3,.aO 1 0),(4,.any),(5,.any)],[⟨false,qU a⟩,⟨false,qU b⟩],[],none⟩) else some (.ret,⟨sl n [(2,.aO 0 0),(3,.aO 1 0),(4,.row 1 []),(5,.pv (.int .i64 e))],[⟨false,qU a⟩,⟨false,qU b⟩],[],none⟩)
theorem amy {a b:Pt}(hf:∀ p∈[a,b],Cb p){st:St}(h:st.head [2,3,11,12,13] st.boxes.length=some ⟨sl 32 [(2,.aO 0 0),(3,.aO 1 0),(11,.row 4 ([a,b].map FP)),(12,.pv (.int .i64 [a,b].length)),(13,.pv (.int .i64 (0:Nat)))],[⟨false,qU a⟩,⟨false,qU b⟩],[],none⟩) :
  den env PE st=resT 32 a b (sF ([a,b].drop ((0:Nat)))):=by
 unfold PE
 refine bM (env:=env) (nb:=2) ([a,b].length) (fun i=>⟨sl 32 [(2,.aO 0 0),(3,.aO 1 0),(11,.row 4 ([a,b].map FP)),(12,.pv (.int .i64 [a,b].length)),(13,.pv (.int .i64 i))],[⟨false,qU a⟩,⟨false,qU b⟩],[],none⟩) (fun i=>resT 32 a b (sF ([a,b].drop (i)))) h (fun _=>rfl) (fun _=>by simp only [aG,bJ,Nat.reduceMul,Nat.reduceBEq,Nat.reduceLT,Nat.reduceLeDiff,Nat.reduceAdd,decide_true,zt,zm]) ?_ ?_
 ·intro i rb hi ih
  have hi1:=bF hi (by unfold lim;simp)
  have F1:((i:Int)<([a,b].length:Int))=True:=eq_true (by omega)
  generalize [a,b]=l at *
  have e1:=afk (p:=l[i]) (hf _ (zR hi))
  have hx:(l.map FP)[i]?=some (FP l[i]):=by rw [zb,ZS hi];rfl
  have P4:∀ a b c d:PV,part [a,b,c,d] 0 (some 4)=some (.agg [a,b,c,d]):=fun _ _ _ _=>rfl
  rw [Na hi]
  rw [gJ] at e1 hx
  by_cases c:gU l[i]=0
  ·have G:((0:Int) != 0)=false:=rfl
   rw [if_pos c]
   rw [c] at e1
   simp only [Gm,F1,hx,e1,G,P4,aZ,au hi,Z2,aF,Nat.reduceMul,Nat.reduceBEq,Nat.reduceLT,Nat.reduceLeDiff,reduceCtorEq,Nat.reduceEqDiff,Nat.reduceAdd,Z1]
   rw [ih _ (by simp only [hi1,aZ,aF,Nat.reduceMul,Nat.reduceBEq,Nat.reduceLT,Nat.reduceLeDiff,reduceCtorEq,Nat.reduceEqDiff,Nat.reduceAdd,Z1]<;>rfl)]
   all_goals rfl
  ·have G:(gU l[i] != 0)=true:=by simpa using c
   rw [if_neg c]
   unfold resT
   rw [if_neg c]
   simp only [Gm,F1,hx,e1,G,P4,aZ,au hi,Z2,aF,Nat.reduceMul,Nat.reduceBEq,Nat.reduceLT,Nat.reduceLeDiff,reduceCtorEq,Nat.reduceEqDiff,Nat.reduceAdd,Z1]
 ·intro rb
  rw [ZaT]
  unfold sF resT
  rw [if_pos rfl]
  simp only [Gm,Zap,aZ,Z2,aF,Nat.reduceMul,Nat.reduceBEq,Nat.reduceLT,Nat.reduceLeDiff,reduceCtorEq,Nat.reduceEqDiff,Nat.reduceAdd,Z1]
theorem apq {a b:Pt}(ha:Cb a)(hb:Cb b):cal env 69 [FP a,FP b]=some [(.list 1 ((btO a b).map wH),true),(.int .i64 (btE a b),false)]:=by
 have e3:=amr (a:=a.img) (b:=b.img) ha.2.2
 have P4:∀ a b c d:PV,part [a,b,c,d] 0 (some 4)=some (.agg [a,b,c,d]):=fun _ _ _ _=>rfl
 have hF:sF [a,b]=if gU a=0 then gU b else gU a:=by
  unfold sF sF sF
  by_cases c:gU b=0
  ·simp [c]
  ·simp [c]
 have hf:∀ p∈[a,b],Cb p:=by simp;exact ⟨ha,hb⟩
 rw [gJ,gJ]
 rw [ah aoQ rfl];simp only [aeh,aG,Nat.reduceBEq,Nat.reduceLeDiff,Nat.reduceAdd,za,zd]
 simp only [P4,Z2,aF,Nat.reduceMul,Nat.reduceBEq,Nat.reduceLT,Nat.reduceLeDiff,reduceCtorEq,Nat.reduceEqDiff,Nat.reduceAdd,Z1]
 rw [amy (a:=a) (b:=b) hf]
 rotate_left
 ·rw [aZ,aZ]
  simp only [aG,bJ,Nat.reduceMul,Nat.reduceBEq,Nat.reduceLT,Nat.reduceLeDiff,Nat.reduceAdd,decide_true,zt,zm]<;>rfl
 ·rw [Za5,hF]
  unfold resT btO btE
  by_cases c1:gU a=0
  ·rw [if_pos c1,if_pos c1]
   by_cases c2:gU b=0
   ·rw [if_pos c2,if_pos c2]
    by_cases c3:aj a.img=aj b.img
    ·rw [decide_eq_true c3] at e3
     have e4:=amx (a:=a) (b:=b) c1 c2 c3 ha.2.2
     rw [gJ,gJ] at e4
     rw [if_pos c3,if_pos rfl]
     simp only [e3,e4,P4,aZ,Z2,aF,Nat.reduceMul,Nat.reduceBEq,Nat.reduceLT,Nat.reduceLeDiff,reduceCtorEq,Nat.reduceEqDiff,Nat.reduceAdd,Z1]
    ·rw [decide_eq_false c3] at e3
     rw [if_neg c3,if_neg (by decide)]
     simp only [e3,P4,aZ,Z2,Zai,aF,Nat.reduceMul,Nat.reduceBEq,Nat.reduceLT,Nat.reduceLeDiff,reduceCtorEq,Nat.reduceEqDiff,Nat.reduceAdd,Z1]
   ·simp only [if_neg c2]
    simp only [aZ,Z2,Zai,aF,Nat.reduceMul,Nat.reduceBEq,Nat.reduceLT,Nat.reduceLeDiff,reduceCtorEq,Nat.reduceEqDiff,Nat.reduceAdd,Z1]
  ·simp only [if_neg c1]
   simp only [aZ,Z2,Zai,aF,Nat.reduceMul,Nat.reduceBEq,Nat.reduceLT,Nat.reduceLeDiff,reduceCtorEq,Nat.reduceEqDiff,Nat.reduceAdd,Z1]
structure sS where
 kind:Int
 uj:Int
 to:Int
 step:Int
 ep:Int
 ng:Int
 done:Bool
 failed:Bool
def Ju (p:sS):PV:=.agg [.int .i64 p.kind,.int .i64 p.uj,.int .i64 p.to,.int .i64 p.step,.int .i64 p.ep,.int .i64 p.ng,.bool p.done,.bool p.failed]
theorem dw (p:sS):Ju p=.agg [.int .i64 p.kind,.int .i64 p.uj,.int .i64 p.to,.int .i64 p.step,.int .i64 p.ep,.int .i64 p.ng,.bool p.done,.bool p.failed]:=rfl
def gK (n:Int):Bool:=decide (0≤n)&&decide (n<4)
--+
theorem Nb {n:Int}:cal env 70 [.int .i64 n]=some [(.bool (gK n),false)]:=by
 unfold gK
 by_cases h:0≤n
 ·have F1:(n ≥ 0)=True:=eq_true h
  have F2:(0≤n)=True:=eq_true h
  rw [ah aj9 rfl];simp only [aa1,aG,Nat.reduceBEq,Nat.reduceLeDiff,Nat.reduceAdd,za,zd]
  simp only [F1,F2,aF,Nat.reduceMul,Nat.reduceBEq,Nat.reduceLT,Nat.reduceLeDiff,reduceCtorEq,Nat.reduceEqDiff,Nat.reduceAdd,Z1]
 ·have F1:(n ≥ 0)=False:=eq_false h
  have F2:(0≤n)=False:=eq_false h
  rw [ah aj9 rfl];simp only [aa1,aG,Nat.reduceBEq,Nat.reduceLeDiff,Nat.reduceAdd,za,zd]
  simp only [F1,F2,aF,Nat.reduceMul,Nat.reduceBEq,Nat.reduceLT,Nat.reduceLeDiff,reduceCtorEq,Nat.reduceEqDiff,Nat.reduceAdd,Z1]
--+
theorem Ak (n:Int):thrown env 51 [.bool true,.int .i64 n]=some none:=Ii aeF
theorem D8 (n:Int):thrown env 51 [.bool false,.int .i64 n]=some (some (148,n)):=Ii aeF
theorem Jv (n:Int):cal env 51 [.bool true,.int .i64 n]=some []:=ahM aeF rfl
theorem afz:thrown env 49 [.int .i64 0]=some none:=by
 have d1:=Ak
 have d2:=Jv
 have F1:((0:Int)==0)=true:=rfl
 rw [dN aeE rfl rfl];simp only [XF,aG,Nat.reduceBEq,Nat.reduceLeDiff,Nat.reduceAdd,za,zd]
 simp only [d1,d2,F1,aF,Nat.reduceMul,Nat.reduceBEq,Nat.reduceLT,Nat.reduceLeDiff,reduceCtorEq,Nat.reduceEqDiff,Nat.reduceAdd,Z1]
theorem YR {e:Int}(h:e≠0):thrown env 49 [.int .i64 e]=some (some (148,e)):=by
 have d1:=D8
 have F1:(e==0)=false:=by simp [h]
 rw [dN aeE rfl rfl];simp only [XF,aG,Nat.reduceBEq,Nat.reduceLeDiff,Nat.reduceAdd,za,zd]
 simp only [d1,F1,aF,Nat.reduceMul,Nat.reduceBEq,Nat.reduceLT,Nat.reduceLeDiff,reduceCtorEq,Nat.reduceEqDiff,Nat.reduceAdd,Z1]
theorem afA:cal env 49 [.int .i64 0]=some []:=by
 have d1:=Ak
 have d2:=Jv
 have F1:((0:Int)==0)=true:=rfl
 rw [ah aeE rfl];simp only [XF,aG,Nat.reduceBEq,Nat.reduceLeDiff,Nat.reduceAdd,za,zd]
 simp only [d1,d2,F1,aF,Nat.reduceMul,Nat.reduceBEq,Nat.reduceLT,Nat.reduceLeDiff,reduceCtorEq,Nat.reduceEqDiff,Nat.reduceAdd,Z1]
def jZ (p:sS):Int:=if p.kind=3 then (if gK p.uj=true then (if gK p.to=true then (if p.uj≠p.to then (if 0≤p.step then (if p.step≤4096 then (if 1≤p.ep then (if p.ep≤1073741824 then (if 0≤p.ng then (if p.ng≤1073741824 then (if p.failed=false then (if p.done=true then (if 1≤p.step then 0 else 12) else 0) else 12) else 2) else 2) else 2) else 2) else 2) else 2) else 2) else 2) else 2) else 1
set_option maxHeartbeats 2000000 in
theorem apr {p:sS}:thrown env 48 [Ju p]=some (if jZ p=0 then none else some (148,jZ p)):=by
 have d1:=Ak
 have d2:=Jv
 have d3:=D8
 have s1:=Nb (n:=p.uj)
 have s2:=Nb (n:=p.to)
 rw [dw]
 by_cases c0:p.kind=3
 rotate_left
 ·have wK:(p.kind==3)=false:=by first|(simp;omega)|(simp [c0])
  have wL:(p.kind=3)=False:=eq_false (by omega)
  have wM:(p.kind != 3)=true:=by first|(simp;omega)|(simp [c0])
  have hE:jZ p=1:=by unfold jZ;rw [if_neg c0]
  rw [hE,if_neg (by decide)]
  rw [dN qI rfl rfl];simp only [vw,aG,Nat.reduceBEq,Nat.reduceLeDiff,Nat.reduceAdd,za,zd]
  simp only [wK,wL,wM,d1,d2,d3,s1,s2,aF,Nat.reduceMul,Nat.reduceBEq,Nat.reduceLT,Nat.reduceLeDiff,reduceCtorEq,Nat.reduceEqDiff,Nat.reduceAdd,Z1]
 have wK:(p.kind==3)=true:=by first|(simp;omega)|(simp [c0])
 have wL:(p.kind=3)=True:=eq_true (by omega)
 have wM:(p.kind != 3)=false:=by first|(simp;omega)|(simp [c0])
 by_cases c1:gK p.uj=true
 rotate_left
 ·have xu:gK p.uj=false:=by simpa using c1
  have hE:jZ p=2:=by unfold jZ;rw [if_pos c0,if_neg c1]
  rw [hE,if_neg (by decide)]
  rw [dN qI rfl rfl];simp only [vw,aG,Nat.reduceBEq,Nat.reduceLeDiff,Nat.reduceAdd,za,zd]
  simp only [wK,wL,wM,xu,d1,d2,d3,s1,s2,aF,Nat.reduceMul,Nat.reduceBEq,Nat.reduceLT,Nat.reduceLeDiff,reduceCtorEq,Nat.reduceEqDiff,Nat.reduceAdd,Z1]
 have xu:gK p.uj=true:=c1
 by_cases c2:gK p.to=true
 rotate_left
 ·have yD:gK p.to=false:=by simpa using c2
  have hE:jZ p=2:=by unfold jZ;rw [if_pos c0,if_pos c1,if_neg c2]
  rw [hE,if_neg (by decide)]
  rw [dN qI rfl rfl];simp only [vw,aG,Nat.reduceBEq,Nat.reduceLeDiff,Nat.reduceAdd,za,zd]
  simp only [wK,wL,wM,xu,yD,d1,d2,d3,s1,s2,aF,Nat.reduceMul,Nat.reduceBEq,Nat.reduceLT,Nat.reduceLeDiff,reduceCtorEq,Nat.reduceEqDiff,Nat.reduceAdd,Z1]
 have yD:gK p.to=true:=c2
 by_cases c3:p.uj≠p.to
 rotate_left
 ·have zA:(p.uj != p.to)=false:=by first|(simp;omega)|(simp [c3])
  have zB:(p.uj=p.to)=True:=eq_true (by omega)
  have zC:(p.uj==p.to)=true:=by first|(simp;omega)|(simp [c3])
  have hE:jZ p=2:=by unfold jZ;rw [if_pos c0,if_pos c1,if_pos c2,if_neg c3]
  rw [hE,if_neg (by decide)]
  rw [dN qI rfl rfl];simp only [vw,aG,Nat.reduceBEq,Nat.reduceLeDiff,Nat.reduceAdd,za,zd]
  simp only [wK,wL,wM,xu,yD,zA,zB,zC,d1,d2,d3,s1,s2,aF,Nat.reduceMul,Nat.reduceBEq,Nat.reduceLT,Nat.reduceLeDiff,reduceCtorEq,Nat.reduceEqDiff,Nat.reduceAdd,Z1]
 have zA:(p.uj != p.to)=true:=by first|(simp;omega)|(simp [c3])
 have zB:(p.uj=p.to)=False:=eq_false (by omega)
 have zC:(p.uj==p.to)=false:=by first|(simp;omega)|(simp [c3])
 by_cases c4:0≤p.step
 rotate_left
 ·have Am:(p.step ≥ 0)=False:=eq_false (by omega)
  have Ap:(0≤p.step)=False:=eq_false (by omega)
  have Aq:(p.step<0)=True:=eq_true (by omega)
  have hE:jZ p=2:=by unfold jZ;rw [if_pos c0,if_pos c1,if_pos c2,if_pos c3,if_neg c4]
  rw [hE,if_neg (by decide)]
  rw [dN qI rfl rfl];simp only [vw,aG,Nat.reduceBEq,Nat.reduceLeDiff,Nat.reduceAdd,za,zd]
  simp only [wK,wL,wM,xu,yD,zA,zB,zC,Am,Ap,Aq,d1,d2,d3,s1,s2,aF,Nat.reduceMul,Nat.reduceBEq,Nat.reduceLT,Nat.reduceLeDiff,reduceCtorEq,Nat.reduceEqDiff,Nat.reduceAdd,Z1]
 have Am:(p.step ≥ 0)=True:=eq_true (by omega)
 have Ap:(0≤p.step)=True:=eq_true (by omega)
 have Aq:(p.step<0)=False:=eq_false (by omega)
 by_cases c5:p.step≤4096
 rotate_left
 ·have Cj:(p.step≤4096)=False:=eq_false (by omega)
  have Cm:(p.step > 4096)=True:=eq_true (by omega)
  have hE:jZ p=2:=by unfold jZ;rw [if_pos c0,if_pos c1,if_pos c2,if_pos c3,if_pos c4,if_neg c5]
  rw [hE,if_neg (by decide)]
  rw [dN qI rfl rfl];simp only [vw,aG,Nat.reduceBEq,Nat.reduceLeDiff,Nat.reduceAdd,za,zd]
  simp only [wK,wL,wM,xu,yD,zA,zB,zC,Am,Ap,Aq,Cj,Cm,d1,d2,d3,s1,s2,aF,Nat.reduceMul,Nat.reduceBEq,Nat.reduceLT,Nat.reduceLeDiff,reduceCtorEq,Nat.reduceEqDiff,Nat.reduceAdd,Z1]
 have Cj:(p.step≤4096)=True:=eq_true (by omega)
 have Cm:(p.step > 4096)=False:=eq_false (by omega)
 by_cases c6:1≤p.ep
 rotate_left
 ·have D9:(p.ep ≥ 1)=False:=eq_false (by omega)
  have Ea:(1≤p.ep)=False:=eq_false (by omega)
  have Eb:(p.ep<1)=True:=eq_true (by omega)
  have hE:jZ p=2:=by unfold jZ;rw [if_pos c0,if_pos c1,if_pos c2,if_pos c3,if_pos c4,if_pos c5,if_neg c6]
  rw [hE,if_neg (by decide)]
  rw [dN qI rfl rfl];simp only [vw,aG,Nat.reduceBEq,Nat.reduceLeDiff,Nat.reduceAdd,za,zd]
  simp only [wK,wL,wM,xu,yD,zA,zB,zC,Am,Ap,Aq,Cj,Cm,D9,Ea,Eb,d1,d2,d3,s1,s2,aF,Nat.reduceMul,Nat.reduceBEq,Nat.reduceLT,Nat.reduceLeDiff,reduceCtorEq,Nat.reduceEqDiff,Nat.reduceAdd,Z1]
 have D9:(p.ep ≥ 1)=True:=eq_true (by omega)
 have Ea:(1≤p.ep)=True:=eq_true (by omega)
 have Eb:(p.ep<1)=False:=eq_false (by omega)
 by_cases c7:p.ep≤1073741824
 rotate_left
 ·have FQ:(p.ep≤1073741824)=False:=eq_false (by omega)
  have FT:(p.ep > 1073741824)=True:=eq_true (by omega)
  have hE:jZ p=2:=by unfold jZ;rw [if_pos c0,if_pos c1,if_pos c2,if_pos c3,if_pos c4,if_pos c5,if_pos c6,if_neg c7]
  rw [hE,if_neg (by decide)]
  rw [dN qI rfl rfl];simp only [vw,aG,Nat.reduceBEq,Nat.reduceLeDiff,Nat.reduceAdd,za,zd]
  simp only [wK,wL,wM,xu,yD,zA,zB,zC,Am,Ap,Aq,Cj,Cm,D9,Ea,Eb,FQ,FT,d1,d2,d3,s1,s2,aF,Nat.reduceMul,Nat.reduceBEq,Nat.reduceLT,Nat.reduceLeDiff,reduceCtorEq,Nat.reduceEqDiff,Nat.reduceAdd,Z1]
 have FQ:(p.ep≤1073741824)=True:=eq_true (by omega)
 have FT:(p.ep > 1073741824)=False:=eq_false (by omega)
 by_cases c8:0≤p.ng
 rotate_left
 ·have Jw:(p.ng ≥ 0)=False:=eq_false (by omega)
  have Jy:(0≤p.ng)=False:=eq_false (by omega)
  have Jz:(p.ng<0)=True:=eq_true (by omega)
  have hE:jZ p=2:=by unfold jZ;rw [if_pos c0,if_pos c1,if_pos c2,if_pos c3,if_pos c4,if_pos c5,if_pos c6,if_pos c7,if_neg c8]
  rw [hE,if_neg (by decide)]
  rw [dN qI rfl rfl];simp only [vw,aG,Nat.reduceBEq,Nat.reduceLeDiff,Nat.reduceAdd,za,zd]
  simp only [wK,wL,wM,xu,yD,zA,zB,zC,Am,Ap,Aq,Cj,Cm,D9,Ea,Eb,FQ,FT,Jw,Jy,Jz,d1,d2,d3,s1,s2,aF,Nat.reduceMul,Nat.reduceBEq,Nat.reduceLT,Nat.reduceLeDiff,reduceCtorEq,Nat.reduceEqDiff,Nat.reduceAdd,Z1]
 have Jw:(p.ng ≥ 0)=True:=eq_true (by omega)
 have Jy:(0≤p.ng)=True:=eq_true (by omega)
 have Jz:(p.ng<0)=False:=eq_false (by omega)
 by_cases c9:p.ng≤1073741824
 rotate_left
 ·have KU:(p.ng≤1073741824)=False:=eq_false (by omega)
  have KW:(p.ng > 1073741824)=True:=eq_true (by omega)
  have hE:jZ p=2:=by unfold jZ;rw [if_pos c0,if_pos c1,if_pos c2,if_pos c3,if_pos c4,if_pos c5,if_pos c6,if_pos c7,if_pos c8,if_neg c9]
  rw [hE,if_neg (by decide)]
  rw [dN qI rfl rfl];simp only [vw,aG,Nat.reduceBEq,Nat.reduceLeDiff,Nat.reduceAdd,za,zd]
  simp only [wK,wL,wM,xu,yD,zA,zB,zC,Am,Ap,Aq,Cj,Cm,D9,Ea,Eb,FQ,FT,Jw,Jy,Jz,KU,KW,d1,d2,d3,s1,s2,aF,Nat.reduceMul,Nat.reduceBEq,Nat.reduceLT,Nat.reduceLeDiff,reduceCtorEq,Nat.reduceEqDiff,Nat.reduceAdd,Z1]
 have KU:(p.ng≤1073741824)=True:=eq_true (by omega)
 have KW:(p.ng > 1073741824)=False:=eq_false (by omega)
 by_cases c10:p.failed=false
 rotate_left
 ·have CB:p.failed=true:=by simpa using c10
  have hE:jZ p=12:=by unfold jZ;rw [if_pos c0,if_pos c1,if_pos c2,if_pos c3,if_pos c4,if_pos c5,if_pos c6,if_pos c7,if_pos c8,if_pos c9,if_neg c10]
  rw [hE,if_neg (by decide)]
  rw [dN qI rfl rfl];simp only [vw,aG,Nat.reduceBEq,Nat.reduceLeDiff,Nat.reduceAdd,za,zd]
  simp only [wK,wL,wM,xu,yD,zA,zB,zC,Am,Ap,Aq,Cj,Cm,D9,Ea,Eb,FQ,FT,Jw,Jy,Jz,KU,KW,CB,d1,d2,d3,s1,s2,aF,Nat.reduceMul,Nat.reduceBEq,Nat.reduceLT,Nat.reduceLeDiff,reduceCtorEq,Nat.reduceEqDiff,Nat.reduceAdd,Z1]
 have CB:p.failed=false:=c10
 by_cases c11:p.done=true
 rotate_left
 ·have E8:p.done=false:=by simpa using c11
  have hE:jZ p=0:=by unfold jZ;rw [if_pos c0,if_pos c1,if_pos c2,if_pos c3,if_pos c4,if_pos c5,if_pos c6,if_pos c7,if_pos c8,if_pos c9,if_pos c10,if_neg c11]
  rw [hE,if_pos rfl]
  rw [dN qI rfl rfl];simp only [vw,aG,Nat.reduceBEq,Nat.reduceLeDiff,Nat.reduceAdd,za,zd]
  simp only [wK,wL,wM,xu,yD,zA,zB,zC,Am,Ap,Aq,Cj,Cm,D9,Ea,Eb,FQ,FT,Jw,Jy,Jz,KU,KW,CB,E8,d1,d2,d3,s1,s2,aF,Nat.reduceMul,Nat.reduceBEq,Nat.reduceLT,Nat.reduceLeDiff,reduceCtorEq,Nat.reduceEqDiff,Nat.reduceAdd,Z1]
 have E8:p.done=true:=c11
 by_cases c12:1≤p.step
 rotate_left
 ·have Nc:(p.step ≥ 1)=False:=eq_false (by omega)
  have Nh:(1≤p.step)=False:=eq_false (by omega)
  have Nj:(p.step<1)=True:=eq_true (by omega)
  have hE:jZ p=12:=by unfold jZ;rw [if_pos c0,if_pos c1,if_pos c2,if_pos c3,if_pos c4,if_pos c5,if_pos c6,if_pos c7,if_pos c8,if_pos c9,if_pos c10,if_pos c11,if_neg c12]
  rw [hE,if_neg (by decide)]
  rw [dN qI rfl rfl];simp only [vw,aG,Nat.reduceBEq,Nat.reduceLeDiff,Nat.reduceAdd,za,zd]
  simp only [wK,wL,wM,xu,yD,zA,zB,zC,Am,Ap,Aq,Cj,Cm,D9,Ea,Eb,FQ,FT,Jw,Jy,Jz,KU,KW,CB,E8,Nc,Nh,Nj,d1,d2,d3,s1,s2,aF,Nat.reduceMul,Nat.reduceBEq,Nat.reduceLT,Nat.reduceLeDiff,reduceCtorEq,Nat.reduceEqDiff,Nat.reduceAdd,Z1]
 have Nc:(p.step ≥ 1)=True:=eq_true (by omega)
 have Nh:(1≤p.step)=True:=eq_true (by omega)
 have Nj:(p.step<1)=False:=eq_false (by omega)
 have hE:jZ p=0:=by unfold jZ;rw [if_pos c0,if_pos c1,if_pos c2,if_pos c3,if_pos c4,if_pos c5,if_pos c6,if_pos c7,if_pos c8,if_pos c9,if_pos c10,if_pos c11,if_pos c12]
 rw [hE,if_pos rfl]
 rw [dN qI rfl rfl];simp only [vw,aG,Nat.reduceBEq,Nat.reduceLeDiff,Nat.reduceAdd,za,zd]
 simp only [wK,wL,wM,xu,yD,zA,zB,zC,Am,Ap,Aq,Cj,Cm,D9,Ea,Eb,FQ,FT,Jw,Jy,Jz,KU,KW,CB,E8,Nc,Nh,Nj,d1,d2,d3,s1,s2,aF,Nat.reduceMul,Nat.reduceBEq,Nat.reduceLT,Nat.reduceLeDiff,reduceCtorEq,Nat.reduceEqDiff,Nat.reduceAdd,Z1]
theorem akn {p:sS}(h:jZ p=0):cal env 48 [Ju p]=some []:=by
 have d1:=Ak
 have d2:=Jv
 have d3:=D8
 have s1:=Nb (n:=p.uj)
 have s2:=Nb (n:=p.to)
 rw [dw]
 by_cases c0:p.kind=3
 rotate_left
 ·have wK:(p.kind==3)=false:=by first|(simp;omega)|(simp [c0])
  have wL:(p.kind=3)=False:=eq_false (by omega)
  have wM:(p.kind != 3)=true:=by first|(simp;omega)|(simp [c0])
  have hE:jZ p=1:=by unfold jZ;rw [if_neg c0]
  rw [hE] at h;exact absurd h (by decide)
 have wK:(p.kind==3)=true:=by first|(simp;omega)|(simp [c0])
 have wL:(p.kind=3)=True:=eq_true (by omega)
 have wM:(p.kind != 3)=false:=by first|(simp;omega)|(simp [c0])
 by_cases c1:gK p.uj=true
 rotate_left
 ·have xu:gK p.uj=false:=by simpa using c1
  have hE:jZ p=2:=by unfold jZ;rw [if_pos c0,if_neg c1]
  rw [hE] at h;exact absurd h (by decide)
 have xu:gK p.uj=true:=c1
 by_cases c2:gK p.to=true
 rotate_left
 ·have yD:gK p.to=false:=by simpa using c2
  have hE:jZ p=2:=by unfold jZ;rw [if_pos c0,if_pos c1,if_neg c2]
  rw [hE] at h;exact absurd h (by decide)
 have yD:gK p.to=true:=c2
 by_cases c3:p.uj≠p.to
 rotate_left
 ·have zA:(p.uj != p.to)=false:=by first|(simp;omega)|(simp [c3])
  have zB:(p.uj=p.to)=True:=eq_true (by omega)
  have zC:(p.uj==p.to)=true:=by first|(simp;omega)|(simp [c3])
  have hE:jZ p=2:=by unfold jZ;rw [if_pos c0,if_pos c1,if_pos c2,if_neg c3]
  rw [hE] at h;exact absurd h (by decide)
 have zA:(p.uj != p.to)=true:=by first|(simp;omega)|(simp [c3])
 have zB:(p.uj=p.to)=False:=eq_false (by omega)
 have zC:(p.uj==p.to)=false:=by first|(simp;omega)|(simp [c3])
 by_cases c4:0≤p.step
 rotate_left
 ·have Am:(p.step ≥ 0)=False:=eq_false (by omega)
  have Ap:(0≤p.step)=False:=eq_false (by omega)
  have Aq:(p.step<0)=True:=eq_true (by omega)
  have hE:jZ p=2:=by unfold jZ;rw [if_pos c0,if_pos c1,if_pos c2,if_pos c3,if_neg c4]
  rw [hE] at h;exact absurd h (by decide)
 have Am:(p.step ≥ 0)=True:=eq_true (by omega)
 have Ap:(0≤p.step)=True:=eq_true (by omega)
 have Aq:(p.step<0)=False:=eq_false (by omega)
 by_cases c5:p.step≤4096
 rotate_left
 ·have Cj:(p.step≤4096)=False:=eq_false (by omega)
  have Cm:(p.step > 4096)=True:=eq_true (by omega)
  have hE:jZ p=2:=by unfold jZ;rw [if_pos c0,if_pos c1,if_pos c2,if_pos c3,if_pos c4,if_neg c5]
  rw [hE] at h;exact absurd h (by decide)
 have Cj:(p.step≤4096)=True:=eq_true (by omega)
 have Cm:(p.step > 4096)=False:=eq_false (by omega)
 by_cases c6:1≤p.ep
 rotate_left
 ·have D9:(p.ep ≥ 1)=False:=eq_false (by omega)
  have Ea:(1≤p.ep)=False:=eq_false (by omega)
  have Eb:(p.ep<1)=True:=eq_true (by omega)
  have hE:jZ p=2:=by unfold jZ;rw [if_pos c0,if_pos c1,if_pos c2,if_pos c3,if_pos c4,if_pos c5,if_neg c6]
  rw [hE] at h;exact absurd h (by decide)
 have D9:(p.ep ≥ 1)=True:=eq_true (by omega)
 have Ea:(1≤p.ep)=True:=eq_true (by omega)
 have Eb:(p.ep<1)=False:=eq_false (by omega)
 by_cases c7:p.ep≤1073741824
 rotate_left
 ·have FQ:(p.ep≤1073741824)=False:=eq_false (by omega)
  have FT:(p.ep > 1073741824)=True:=eq_true (by omega)
  have hE:jZ p=2:=by unfold jZ;rw [if_pos c0,if_pos c1,if_pos c2,if_pos c3,if_pos c4,if_pos c5,if_pos c6,if_neg c7]
  rw [hE] at h;exact absurd h (by decide)
 have FQ:(p.ep≤1073741824)=True:=eq_true (by omega)
 have FT:(p.ep > 1073741824)=False:=eq_false (by omega)
 by_cases c8:0≤p.ng
 rotate_left
 ·have Jw:(p.ng ≥ 0)=False:=eq_false (by omega)
  have Jy:(0≤p.ng)=False:=eq_false (by omega)
  have Jz:(p.ng<0)=True:=eq_true (by omega)
  have hE:jZ p=2:=by unfold jZ;rw [if_pos c0,if_pos c1,if_pos c2,if_pos c3,if_pos c4,if_pos c5,if_pos c6,if_pos c7,if_neg c8]
  rw [hE] at h;exact absurd h (by decide)
 have Jw:(p.ng ≥ 0)=True:=eq_true (by omega)
 have Jy:(0≤p.ng)=True:=eq_true (by omega)
 have Jz:(p.ng<0)=False:=eq_false (by omega)
 by_cases c9:p.ng≤1073741824
 rotate_left
 ·have KU:(p.ng≤1073741824)=False:=eq_false (by omega)
  have KW:(p.ng > 1073741824)=True:=eq_true (by omega)
  have hE:jZ p=2:=by unfold jZ;rw [if_pos c0,if_pos c1,if_pos c2,if_pos c3,if_pos c4,if_pos c5,if_pos c6,if_pos c7,if_pos c8,if_neg c9]
  rw [hE] at h;exact absurd h (by decide)
 have KU:(p.ng≤1073741824)=True:=eq_true (by omega)
 have KW:(p.ng > 1073741824)=False:=eq_false (by omega)
 by_cases c10:p.failed=false
 rotate_left
 ·have CB:p.failed=true:=by simpa using c10
  have hE:jZ p=12:=by unfold jZ;rw [if_pos c0,if_pos c1,if_pos c2,if_pos c3,if_pos c4,if_pos c5,if_pos c6,if_pos c7,if_pos c8,if_pos c9,if_neg c10]
  rw [hE] at h;exact absurd h (by decide)
 have CB:p.failed=false:=c10
 by_cases c11:p.done=true
 rotate_left
 ·have E8:p.done=false:=by simpa using c11
  have hE:jZ p=0:=by unfold jZ;rw [if_pos c0,if_pos c1,if_pos c2,if_pos c3,if_pos c4,if_pos c5,if_pos c6,if_pos c7,if_pos c8,if_pos c9,if_pos c10,if_neg c11]
  rw [ah qI rfl];simp only [vw,aG,Nat.reduceBEq,Nat.reduceLeDiff,Nat.reduceAdd,za,zd]
  simp only [wK,wL,wM,xu,yD,zA,zB,zC,Am,Ap,Aq,Cj,Cm,D9,Ea,Eb,FQ,FT,Jw,Jy,Jz,KU,KW,CB,E8,d1,d2,d3,s1,s2,aF,Nat.reduceMul,Nat.reduceBEq,Nat.reduceLT,Nat.reduceLeDiff,reduceCtorEq,Nat.reduceEqDiff,Nat.reduceAdd,Z1]
 have E8:p.done=true:=c11
 by_cases c12:1≤p.step
 rotate_left
 ·have Nc:(p.step ≥ 1)=False:=eq_false (by omega)
  have Nh:(1≤p.step)=False:=eq_false (by omega)
  have Nj:(p.step<1)=True:=eq_true (by omega)
  have hE:jZ p=12:=by unfold jZ;rw [if_pos c0,if_pos c1,if_pos c2,if_pos c3,if_pos c4,if_pos c5,if_pos c6,if_pos c7,if_pos c8,if_pos c9,if_pos c10,if_pos c11,if_neg c12]
  rw [hE] at h;exact absurd h (by decide)
 have Nc:(p.step ≥ 1)=True:=eq_true (by omega)
 have Nh:(1≤p.step)=True:=eq_true (by omega)
 have Nj:(p.step<1)=False:=eq_false (by omega)
 have hE:jZ p=0:=by unfold jZ;rw [if_pos c0,if_pos c1,if_pos c2,if_pos c3,if_pos c4,if_pos c5,if_pos c6,if_pos c7,if_pos c8,if_pos c9,if_pos c10,if_pos c11,if_pos c12]
 rw [ah qI rfl];simp only [vw,aG,Nat.reduceBEq,Nat.reduceLeDiff,Nat.reduceAdd,za,zd]
 simp only [wK,wL,wM,xu,yD,zA,zB,zC,Am,Ap,Aq,Cj,Cm,D9,Ea,Eb,FQ,FT,Jw,Jy,Jz,KU,KW,CB,E8,Nc,Nh,Nj,d1,d2,d3,s1,s2,aF,Nat.reduceMul,Nat.reduceBEq,Nat.reduceLT,Nat.reduceLeDiff,reduceCtorEq,Nat.reduceEqDiff,Nat.reduceAdd,Z1]
--+
theorem afB {l:List zh}(hl:l.length≤lim):cal env 52 [.list 3 (l.map jY)]=some [(.int .i64 (kH l).epoch,false),(.int .i64 (kH l).to,false)]:=by
 by_cases h0:l.length=0
 ·obtain rfl:=List.eq_nil_of_length_eq_zero h0
  have F1:(((0:Nat):Int)==0)=true:=rfl
  rw [ah aj8 rfl];simp only [aa0,aG,Nat.reduceBEq,Nat.reduceLeDiff,Nat.reduceAdd,za,zd]
  simp only [F1,zd,Zai,aF,Nat.reduceMul,Nat.reduceBEq,Nat.reduceLT,Nat.reduceLeDiff,reduceCtorEq,Nat.reduceEqDiff,Nat.reduceAdd,Z1]
  rfl
 ·obtain ⟨k,hk⟩:∃ k,l.length=k+1:=⟨l.length - 1,by omega⟩
  have hkl:k<l.length:=by omega
  have hx:l[k]?=some l[k]:=ZS hkl
  have he:kH l=l[k]:=by rw [kH,hk,yx hkl]
  have hl':=hl
  unfold lim at hl'
  have F1:((l.length:Int)==0)=false:=by simpa using h0
  have F2:IntKind.i64.wrap ((l.length:Int) - 1)=(k:Int):=by rw [bn (by omega)];omega
  have P0:∀ a b c:PV,part [a,b,c] 0 (some 3)=some (.agg [a,b,c]):=fun _ _ _=>rfl
  rw [he]
  generalize l[k]=x at *
  obtain ⟨xe,xf,xt⟩:=x
  rw [ah aj8 rfl];simp only [aa0,aG,Nat.reduceBEq,Nat.reduceLeDiff,Nat.reduceAdd,za,zd]
  simp only [F1,F2,hx,jY,au hkl,zb,Zah,P0,Z2,aF,Nat.reduceMul,Nat.reduceBEq,Nat.reduceLT,Nat.reduceLeDiff,reduceCtorEq,Nat.reduceEqDiff,Nat.reduceAdd,Z1]
--+
def xw (p:sS):List BV:=[.pv (.int .i64 p.kind),.pv (.int .i64 p.uj),.pv (.int .i64 p.to),.pv (.int .i64 p.step),.pv (.int .i64 p.ep),.pv (.int .i64 p.ng),.pv (.bool p.done),.pv (.bool p.failed)]
theorem bQ (p:sS):xw p=[.pv (.int .i64 p.kind),.pv (.int .i64 p.uj),.pv (.int .i64 p.to),.pv (.int .i64 p.step),.pv (.int .i64 p.ep),.pv (.int .i64 p.ng),.pv (.bool p.done),.pv (.bool p.failed)]:=rfl
def fM:sS:=⟨0,0,0,0,0,0,false,false⟩
def qE (p:sS)(a b:Pt):Int :=
 if jZ p=0 then (if sF [a,b]=0 then (if a.site=p.to then (if b.site=p.uj then (if p.done=false then (if 0<p.step then (if a.img=b.img then 0 else 22) else 12) else 12) else 1) else 1) else sF [a,b]) else jZ p
def uM (p:sS)(a b:Pt):sS:=if qE p a b=0 then { p with done:=true } else fM
theorem afC {p:sS}(h:jZ p=0):0≤p.step:=by
 unfold jZ at h
 by_cases c:0≤p.step
 ·exact c
 ·rw [if_neg c] at h
  exfalso
  split at h
  ·split at h
   ·split at h
    ·split at h
     ·exact absurd h (by decide)
     ·exact absurd h (by decide)
    ·exact absurd h (by decide)
   ·exact absurd h (by decide)
  ·exact absurd h (by decide)
def Qj (p:sS)(a b:Pt):List Box:=[⟨false,xw p⟩,⟨false,qU a⟩,⟨false,qU b⟩,⟨false,xw fM⟩,⟨false,[.pv (.int .i64 0)]⟩,⟨false,xw p⟩]
def JA (x:Ex)(p:sS)(a b:Pt):Option (Ex×St):=some (x,⟨sl 64 [(4,.aO 1 0),(5,.aO 2 0),(6,.aO 3 0),(7,.aO 4 0),(8,.aO 5 0)],Qj p a b,[],none⟩)
def UN (e:Int):Ex:=if e=0 then .normal else .nJ 148 e
theorem amA {p:sS}{a b:Pt}{l:List Pt}(hlab:l=[a,b])(hl:l.length≤lim)(hf:∀ x∈l,Cb x){st:St}(h:st.head [4,5,6,7,8,18,19,20] st.boxes.length=some ⟨sl 64 [(4,.aO 1 0),(5,.aO 2 0),(6,.aO 3 0),(7,.aO 4 0),(8,.aO 5 0),(18,.row 4 (l.map FP)),(19,.pv (.int .i64 l.length)),(20,.pv (.int .i64 (0:Nat)))],[⟨false,xw p⟩,⟨false,qU a⟩,⟨false,qU b⟩,⟨false,xw fM⟩,⟨false,[.pv (.int .i64 0)]⟩,⟨false,xw p⟩],[],none⟩) :
  den env OH st=JA (UN (sF (l.drop ((0:Nat))))) p a b:=by
 unfold OH
 refine bM (env:=env) (nb:=6) (l.length) (fun i=>⟨sl 64 [(4,.aO 1 0),(5,.aO 2 0),(6,.aO 3 0),(7,.aO 4 0),(8,.aO 5 0),(18,.row 4 (l.map FP)),(19,.pv (.int .i64 l.length)),(20,.pv (.int .i64 i))],[⟨false,xw p⟩,⟨false,qU a⟩,⟨false,qU b⟩,⟨false,xw fM⟩,⟨false,[.pv (.int .i64 0)]⟩,⟨false,xw p⟩],[],none⟩) (fun i=>JA (UN (sF (l.drop (i)))) p a b) h (fun _=>rfl) (fun _=>by simp only [aG,bJ,Nat.reduceMul,Nat.reduceBEq,Nat.reduceLT,Nat.reduceLeDiff,Nat.reduceAdd,decide_true,zt,zm]) ?_ ?_
 ·intro i rb hi ih
  have hi1:=bF hi hl
  have F1:((i:Int)<(l.length:Int))=True:=eq_true (by omega)
  have hx:(l.map FP)[i]?=some (FP l[i]):=by rw [zb,ZS hi];rfl
  have P4:∀ a b c d:PV,part [a,b,c,d] 0 (some 4)=some (.agg [a,b,c,d]):=fun _ _ _ _=>rfl
  have e1:=afk (p:=l[i]) (hf _ (zR hi))
  rw [Na hi]
  rw [gJ] at hx e1
  try unfold Qj
  by_cases c:gU l[i]=0
  ·rw [if_pos c]
   rw [c] at e1
   have k1:=afz
   have k2:=afA
   simp only [Gi,F1,hx,P4,e1,k1,k2,aZ,bQ,au hi,Z2,aF,Nat.reduceMul,Nat.reduceBEq,Nat.reduceLT,Nat.reduceLeDiff,reduceCtorEq,Nat.reduceEqDiff,Nat.reduceAdd,Z1]
   rw [ih _ (by simp only [hi1,Qj,aZ,bQ,aF,Nat.reduceMul,Nat.reduceBEq,Nat.reduceLT,Nat.reduceLeDiff,reduceCtorEq,Nat.reduceEqDiff,Nat.reduceAdd,Z1]<;>rfl)]
  ·rw [if_neg c]
   have k1:=YR c
   unfold JA UN
   rw [if_neg c]
   simp only [Gi,F1,hx,P4,e1,k1,aZ,bQ,Qj,au hi,Z2,aF,Nat.reduceMul,Nat.reduceBEq,Nat.reduceLT,Nat.reduceLeDiff,reduceCtorEq,Nat.reduceEqDiff,Nat.reduceAdd,Z1]
 ·intro rb
  rw [ZaT]
  unfold JA UN sF
  rw [if_pos rfl]
  simp only [Gi,Zap,aZ,bQ,Qj,aF,Nat.reduceMul,Nat.reduceBEq,Nat.reduceLT,Nat.reduceLeDiff,reduceCtorEq,Nat.reduceEqDiff,Nat.reduceAdd,Z1]
theorem afD {p:sS}{a b:Pt}(ha:Cb a)(hb:Cb b)(hv:∀ v∈a.img,v.length≤lim):cal env 15 [Ju p,FP a,FP b]=some [(Ju (uM p a b),false),(.int .i64 (qE p a b),false)]:=by
 have d1:=apr (p:=p)
 rw [dw] at d1
 have hloop:=fun st h=>amA (st:=st) (p:=p) (a:=a) (b:=b) (l:=[a,b]) rfl (by show 2≤lim;unfold lim;omega) (fun x hx=>by
  rcases Zaf.1 hx with rfl|hx
  ·exact ha
  ·rw [Zav.1 hx];exact hb) h
 simp only [Za5] at hloop
 have e1:=aeQ (a:=a.img) (b:=b.img) ha.2.2 hv
 have q1:=Ak
 have q2:=Jv
 have q3:=D8
 rw [dw,gJ,gJ,Oy aoA rfl]
 by_cases c0:jZ p=0
 rotate_left
 ·rw [if_neg c0] at d1
  have Z:(jZ p=0)=False:=eq_false c0
  have hE:qE p a b=jZ p:=by unfold qE;rw [if_neg c0]
  have hO:uM p a b=fM:=by unfold uM;rw [hE,if_neg c0]
  rw [hE,hO,dw]
  simp only [FH,aG,Nat.reduceBEq,Nat.reduceLeDiff,Nat.reduceAdd,za,zd]
  simp only [d1,Z,q1,q2,q3,fM,aZ,bQ,aU,oJ.begun,fJ,varOf,dY,dR,fH,jy,St.setVar,St.bV,St.eP,PV.gG,Zaw,ZaU,ZaF,ZaJ,and_true,true_and,Zax,Zaf,Zas,or_false,not_false_eq_true,ZaB,ZD.injEq,Nat.reduceEqDiff,Int.reduceEq,if_true,if_false,aF,Nat.reduceMul,Nat.reduceBEq,Nat.reduceLT,Nat.reduceLeDiff,reduceCtorEq,Nat.reduceAdd,Z1]
 rw [if_pos c0] at d1
 have d2:=akn (p:=p) c0
 rw [dw] at d2
 by_cases c1:sF [a,b]=0
 rotate_left
 ·have T:UN (sF [a,b])=.nJ 148 (sF [a,b]):=by unfold UN;rw [if_neg c1]
  have Z:(sF [a,b]=0)=False:=eq_false c1
  have hE:qE p a b=sF [a,b]:=by unfold qE;rw [if_pos c0,if_neg c1]
  have hO:uM p a b=fM:=by unfold uM;rw [hE,if_neg c1]
  rw [hE,hO,dw]
  simp only [FH,aG,Nat.reduceBEq,Nat.reduceLeDiff,Nat.reduceAdd,za,zd]
  simp only [d1,d2,aZ,bQ,aU,oJ.begun,aF,Nat.reduceMul,Nat.reduceBEq,Nat.reduceLT,Nat.reduceLeDiff,reduceCtorEq,Nat.reduceEqDiff,Nat.reduceAdd,Z1]
  rw [hloop _ (by simp only [Qj,fM,aZ,bQ,za,zd,Zaj,Zai,gJ];simp only [aG,bJ,Nat.reduceMul,Nat.reduceBEq,Nat.reduceLT,Nat.reduceLeDiff,Nat.reduceAdd,decide_true,zt,zm]<;>rfl)]
  simp only [JA,Qj,d1,d2,T,Z,q1,q2,q3,fM,aZ,bQ,aU,oJ.begun,fJ,varOf,dY,dR,fH,jy,St.setVar,St.bV,St.eP,PV.gG,Zaw,ZaU,ZaF,ZaJ,and_true,true_and,Zax,Zaf,Zas,or_false,not_false_eq_true,ZaB,ZD.injEq,Nat.reduceEqDiff,Int.reduceEq,if_true,if_false,aF,Nat.reduceMul,Nat.reduceBEq,Nat.reduceLT,Nat.reduceLeDiff,reduceCtorEq,Nat.reduceAdd,Z1]
 have T:UN (sF [a,b])=.normal:=by unfold UN;rw [if_pos c1]
 by_cases c2:a.site=p.to
 rotate_left
 ·have F2:(a.site==p.to)=false:=by simp [c2]
  have hE:qE p a b=1:=by unfold qE;rw [if_pos c0,if_pos c1,if_neg c2]
  have hO:uM p a b=fM:=by unfold uM;rw [hE,if_neg (by decide)]
  rw [hE,hO,dw]
  simp only [FH,aG,Nat.reduceBEq,Nat.reduceLeDiff,Nat.reduceAdd,za,zd]
  simp only [d1,d2,aZ,bQ,aU,oJ.begun,aF,Nat.reduceMul,Nat.reduceBEq,Nat.reduceLT,Nat.reduceLeDiff,reduceCtorEq,Nat.reduceEqDiff,Nat.reduceAdd,Z1]
  rw [hloop _ (by simp only [Qj,fM,aZ,bQ,za,zd,Zaj,Zai,gJ];simp only [aG,bJ,Nat.reduceMul,Nat.reduceBEq,Nat.reduceLT,Nat.reduceLeDiff,Nat.reduceAdd,decide_true,zt,zm]<;>rfl)]
  simp only [JA,Qj,d1,d2,T,F2,q1,q2,q3,fM,aZ,bQ,aU,oJ.begun,fJ,varOf,dY,dR,fH,jy,St.setVar,St.bV,St.eP,PV.gG,Zaw,ZaU,ZaF,ZaJ,and_true,true_and,Zax,Zaf,Zas,or_false,not_false_eq_true,ZaB,ZD.injEq,Nat.reduceEqDiff,Int.reduceEq,if_true,if_false,aF,Nat.reduceMul,Nat.reduceBEq,Nat.reduceLT,Nat.reduceLeDiff,reduceCtorEq,Nat.reduceAdd,Z1]
 have F2:(a.site==p.to)=true:=by simp [c2]
 by_cases c3:b.site=p.uj
 rotate_left
 ·have F3:(b.site==p.uj)=false:=by simp [c3]
  have hE:qE p a b=1:=by unfold qE;rw [if_pos c0,if_pos c1,if_pos c2,if_neg c3]
  have hO:uM p a b=fM:=by unfold uM;rw [hE,if_neg (by decide)]
  rw [hE,hO,dw]
  simp only [FH,aG,Nat.reduceBEq,Nat.reduceLeDiff,Nat.reduceAdd,za,zd]
  simp only [d1,d2,aZ,bQ,aU,oJ.begun,aF,Nat.reduceMul,Nat.reduceBEq,Nat.reduceLT,Nat.reduceLeDiff,reduceCtorEq,Nat.reduceEqDiff,Nat.reduceAdd,Z1]
  rw [hloop _ (by simp only [Qj,fM,aZ,bQ,za,zd,Zaj,Zai,gJ];simp only [aG,bJ,Nat.reduceMul,Nat.reduceBEq,Nat.reduceLT,Nat.reduceLeDiff,Nat.reduceAdd,decide_true,zt,zm]<;>rfl)]
  simp only [JA,Qj,d1,d2,T,F2,F3,q1,q2,q3,fM,aZ,bQ,aU,oJ.begun,fJ,varOf,dY,dR,fH,jy,St.setVar,St.bV,St.eP,PV.gG,Zaw,ZaU,ZaF,ZaJ,and_true,true_and,Zax,Zaf,Zas,or_false,not_false_eq_true,ZaB,ZD.injEq,Nat.reduceEqDiff,Int.reduceEq,if_true,if_false,aF,Nat.reduceMul,Nat.reduceBEq,Nat.reduceLT,Nat.reduceLeDiff,reduceCtorEq,Nat.reduceAdd,Z1]
 have F3:(b.site==p.uj)=true:=by simp [c3]
 by_cases c4:p.done=false
 rotate_left
 ·have F4:p.done=true:=by simpa using c4
  have hE:qE p a b=12:=by unfold qE;rw [if_pos c0,if_pos c1,if_pos c2,if_pos c3,if_neg c4]
  have hO:uM p a b=fM:=by unfold uM;rw [hE,if_neg (by decide)]
  rw [hE,hO,dw]
  simp only [FH,aG,Nat.reduceBEq,Nat.reduceLeDiff,Nat.reduceAdd,za,zd]
  simp only [d1,d2,aZ,bQ,aU,oJ.begun,aF,Nat.reduceMul,Nat.reduceBEq,Nat.reduceLT,Nat.reduceLeDiff,reduceCtorEq,Nat.reduceEqDiff,Nat.reduceAdd,Z1]
  rw [hloop _ (by simp only [Qj,fM,aZ,bQ,za,zd,Zaj,Zai,gJ];simp only [aG,bJ,Nat.reduceMul,Nat.reduceBEq,Nat.reduceLT,Nat.reduceLeDiff,Nat.reduceAdd,decide_true,zt,zm]<;>rfl)]
  simp only [JA,Qj,d1,d2,T,F2,F3,F4,q1,q2,q3,fM,aZ,bQ,aU,oJ.begun,fJ,varOf,dY,dR,fH,jy,St.setVar,St.bV,St.eP,PV.gG,Zaw,ZaU,ZaF,ZaJ,and_true,true_and,Zax,Zaf,Zas,or_false,not_false_eq_true,ZaB,ZD.injEq,Nat.reduceEqDiff,Int.reduceEq,if_true,if_false,aF,Nat.reduceMul,Nat.reduceBEq,Nat.reduceLT,Nat.reduceLeDiff,reduceCtorEq,Nat.reduceAdd,Z1]
 have F4:p.done=false:=by simpa using c4
 by_cases c5:0<p.step
 rotate_left
 ·have F5:(p.step > 0)=False:=eq_false c5
  have hE:qE p a b=12:=by unfold qE;rw [if_pos c0,if_pos c1,if_pos c2,if_pos c3,if_pos c4,if_neg c5]
  have hO:uM p a b=fM:=by unfold uM;rw [hE,if_neg (by decide)]
  rw [hE,hO,dw]
  simp only [FH,aG,Nat.reduceBEq,Nat.reduceLeDiff,Nat.reduceAdd,za,zd]
  simp only [d1,d2,aZ,bQ,aU,oJ.begun,aF,Nat.reduceMul,Nat.reduceBEq,Nat.reduceLT,Nat.reduceLeDiff,reduceCtorEq,Nat.reduceEqDiff,Nat.reduceAdd,Z1]
  rw [hloop _ (by simp only [Qj,fM,aZ,bQ,za,zd,Zaj,Zai,gJ];simp only [aG,bJ,Nat.reduceMul,Nat.reduceBEq,Nat.reduceLT,Nat.reduceLeDiff,Nat.reduceAdd,decide_true,zt,zm]<;>rfl)]
  simp only [JA,Qj,d1,d2,T,F2,F3,F4,F5,q1,q2,q3,fM,aZ,bQ,aU,oJ.begun,fJ,varOf,dY,dR,fH,jy,St.setVar,St.bV,St.eP,PV.gG,Zaw,ZaU,ZaF,ZaJ,and_true,true_and,Zax,Zaf,Zas,or_false,not_false_eq_true,ZaB,ZD.injEq,Nat.reduceEqDiff,Int.reduceEq,if_true,if_false,aF,Nat.reduceMul,Nat.reduceBEq,Nat.reduceLT,Nat.reduceLeDiff,reduceCtorEq,Nat.reduceAdd,Z1]
 have F5:(p.step > 0)=True:=eq_true c5
 by_cases c6:a.img=b.img
 rotate_left
 ·rw [decide_eq_false c6] at e1
  have hE:qE p a b=22:=by unfold qE;rw [if_pos c0,if_pos c1,if_pos c2,if_pos c3,if_pos c4,if_pos c5,if_neg c6]
  have hO:uM p a b=fM:=by unfold uM;rw [hE,if_neg (by decide)]
  rw [hE,hO,dw]
  simp only [FH,aG,Nat.reduceBEq,Nat.reduceLeDiff,Nat.reduceAdd,za,zd]
  simp only [d1,d2,aZ,bQ,aU,oJ.begun,aF,Nat.reduceMul,Nat.reduceBEq,Nat.reduceLT,Nat.reduceLeDiff,reduceCtorEq,Nat.reduceEqDiff,Nat.reduceAdd,Z1]
  rw [hloop _ (by simp only [Qj,fM,aZ,bQ,za,zd,Zaj,Zai,gJ];simp only [aG,bJ,Nat.reduceMul,Nat.reduceBEq,Nat.reduceLT,Nat.reduceLeDiff,Nat.reduceAdd,decide_true,zt,zm]<;>rfl)]
  simp only [JA,Qj,d1,d2,T,F2,F3,F4,F5,e1,q1,q2,q3,fM,aZ,bQ,aU,oJ.begun,fJ,varOf,dY,dR,fH,jy,St.setVar,St.bV,St.eP,PV.gG,Zaw,ZaU,ZaF,ZaJ,and_true,true_and,Zax,Zaf,Zas,or_false,not_false_eq_true,ZaB,ZD.injEq,Nat.reduceEqDiff,Int.reduceEq,if_true,if_false,aF,Nat.reduceMul,Nat.reduceBEq,Nat.reduceLT,Nat.reduceLeDiff,reduceCtorEq,Nat.reduceAdd,Z1]
 rw [decide_eq_true c6] at e1
 have hE:qE p a b=0:=by unfold qE;rw [if_pos c0,if_pos c1,if_pos c2,if_pos c3,if_pos c4,if_pos c5,if_pos c6]
 have hO:uM p a b={ p with done:=true }:=by unfold uM;rw [hE,if_pos rfl]
 rw [hE,hO,dw]
 simp only [FH,aG,Nat.reduceBEq,Nat.reduceLeDiff,Nat.reduceAdd,za,zd]
 simp only [d1,d2,aZ,bQ,aU,oJ.begun,aF,Nat.reduceMul,Nat.reduceBEq,Nat.reduceLT,Nat.reduceLeDiff,reduceCtorEq,Nat.reduceEqDiff,Nat.reduceAdd,Z1]
 rw [hloop _ (by simp only [Qj,fM,aZ,bQ,za,zd,Zaj,Zai,gJ];simp only [aG,bJ,Nat.reduceMul,Nat.reduceBEq,Nat.reduceLT,Nat.reduceLeDiff,Nat.reduceAdd,decide_true,zt,zm]<;>rfl)]
 simp only [JA,Qj,d1,d2,T,F2,F3,F4,F5,e1,q1,q2,q3,fM,aZ,bQ,aU,oJ.begun,fJ,varOf,dY,dR,fH,jy,St.setVar,St.bV,St.eP,PV.gG,Zaw,ZaU,ZaF,ZaJ,and_true,true_and,Zax,Zaf,Zas,or_false,not_false_eq_true,ZaB,ZD.injEq,Nat.reduceEqDiff,Int.reduceEq,if_true,if_false,aF,Nat.reduceMul,Nat.reduceBEq,Nat.reduceLT,Nat.reduceLeDiff,reduceCtorEq,Nat.reduceAdd,Z1]
def abz (p:zh):List zh→List zh→Bool×Int×Int
 |x::a,y::b=>if x.epoch=y.epoch then (if x.to=y.to then abz x a b else (true,if y.to<x.to then y.to else x.to,x.epoch)) else (true,p.to,p.epoch)
 |_,_=>(false,p.to,p.epoch)
def afE (a b:List zh):Int×Int:=if (qJ a&&qJ b)=true then (abz z0 a b).2 else (0,0)
set_option maxHeartbeats 2000000 in
theorem amB {a b:List zh}(ha:a.length≤lim)(hb:b.length≤lim)
  {st:St} (h:st.head [0,1,6,7,8] st.boxes.length=some ⟨[.pv (.list 3 (a.map jY)),.pv (.list 3 (b.map jY)),.any,.any,.any,.any,.pv (.int .i64 0),.pv (.int .i64 0),.pv (.int .i64 (0:Nat)),.any,.any,.any,.any,.any,.any,.any,.any,.any,.any,.any,.any,.any,.any,.any,.any,.any,.any,.any,.any,.any,.any,.any,.any,.any,.any,.any,.any,.any,.any,.any,.any,.any,.any,.any,.any,.any,.any,.any,.any,.any,.any,.any,.any,.any,.any,.any,.any,.any,.any,.any,.any,.any,.any,.any,.any,.any,.any,.any],[],[],none⟩) :
  den env PG st=match abz z0 a b with
   |(false,c,e)=>some (.normal,⟨[.any,.any,.any,.any,.any,.any,.pv (.int .i64 c),.pv (.int .i64 e),.any,.any,.any,.any,.any,.any,.any,.any,.any,.any,.any,.any,.any,.any,.any,.any,.any,.any,.any,.any,.any,.any,.any,.any,.any,.any,.any,.any,.any,.any,.any,.any,.any,.any,.any,.any,.any,.any,.any,.any,.any,.any,.any,.any,.any,.any,.any,.any,.any,.any,.any,.any,.any,.any,.any,.any,.any,.any,.any,.any],[],[],none⟩)
   |(true,c,e)=>some (.normal,⟨[.any,.any,.any,.any,.any,.any,.pv (.int .i64 c),.pv (.int .i64 e),.any,.any,.any,.any,.any,.any,.any,.any,.any,.any,.any,.any,.any,.any,.any,.any,.any,.any,.any,.any,.any,.any,.any,.any,.any,.any,.any,.any,.any,.any,.any,.any,.any,.any,.any,.any,.any,.any,.any,.any,.any,.any,.any,.any,.any,.any,.any,.any,.any,.any,.any,.any,.any,.any,.any,.any,.any,.any,.any,.any],[],[],none⟩):=by
 unfold PG
 refine DX (env:=env) (min a.length b.length) (fun _=>True) (fun i=>⟨[.pv (.list 3 (a.map jY)),.pv (.list 3 (b.map jY)),.any,.any,.any,.any,.pv (.int .i64 (lastOf a i).to),.pv (.int .i64 (lastOf a i).epoch),.pv (.int .i64 i),.any,.any,.any,.any,.any,.any,.any,.any,.any,.any,.any,.any,.any,.any,.any,.any,.any,.any,.any,.any,.any,.any,.any,.any,.any,.any,.any,.any,.any,.any,.any,.any,.any,.any,.any,.any,.any,.any,.any,.any,.any,.any,.any,.any,.any,.any,.any,.any,.any,.any,.any,.any,.any,.any,.any,.any,.any,.any,.any],[],[],none⟩)
  (fun i=>match abz (lastOf a i) (a.drop i) (b.drop i) with
   |(false,c,e)=>some (.normal,⟨[.any,.any,.any,.any,.any,.any,.pv (.int .i64 c),.pv (.int .i64 e),.any,.any,.any,.any,.any,.any,.any,.any,.any,.any,.any,.any,.any,.any,.any,.any,.any,.any,.any,.any,.any,.any,.any,.any,.any,.any,.any,.any,.any,.any,.any,.any,.any,.any,.any,.any,.any,.any,.any,.any,.any,.any,.any,.any,.any,.any,.any,.any,.any,.any,.any,.any,.any,.any,.any,.any,.any,.any,.any,.any],[],[],none⟩)
   |(true,c,e)=>some (.normal,⟨[.any,.any,.any,.any,.any,.any,.pv (.int .i64 c),.pv (.int .i64 e),.any,.any,.any,.any,.any,.any,.any,.any,.any,.any,.any,.any,.any,.any,.any,.any,.any,.any,.any,.any,.any,.any,.any,.any,.any,.any,.any,.any,.any,.any,.any,.any,.any,.any,.any,.any,.any,.any,.any,.any,.any,.any,.any,.any,.any,.any,.any,.any,.any,.any,.any,.any,.any,.any,.any,.any,.any,.any,.any,.any],[],[],none⟩)) h trivial (fun _=>rfl) (fun _=>rfl) ?_ ?_
 ·intro i rb hi _ ih
  have hia:i<a.length:=by omega
  have hib:i<b.length:=by omega
  have hi1:=bF hia ha
  have F1:((i:Int)<(if (b.length:Int)<(a.length:Int) then (b.length:Int) else (a.length:Int)))=True:=eq_true (by split<;>omega)
  have hx:a[i]?=some a[i]:=ZS hia
  have hy:b[i]?=some b[i]:=ZS hib
  rw [yx hia] at ih
  rw [zw hia,zw hib]
  unfold abz
  generalize lastOf a i=p at *
  generalize a[i]=x at *
  generalize b[i]=y at *
  obtain ⟨pe,pf,pt⟩:=p
  obtain ⟨xe,xf,xt⟩:=x
  obtain ⟨ye,yf,yt⟩:=y
  by_cases c1:xe=ye
  rotate_left
  ·have G1:(xe==ye)=false:=by simpa using c1
   have G0:(xe=ye)=False:=eq_false c1
   simp only [G1,G0,if_false,BP,F1,hx,hy,jY,au hia,au hib,zb,Zah,bg,reduceCtorEq,Nat.reduceEqDiff,Nat.reduceAdd,Nat.reduceLT,Nat.reduceLeDiff,Z1]<;>rfl
  have G1:(xe==ye)=true:=by simpa using c1
  by_cases c2:xt=yt
  rotate_left
  ·have G2:(xt != yt)=true:=by simpa using c2
   have G0:(xt=yt)=False:=eq_false c2
   simp only [G1,G2,c1,G0,if_false,if_true,BP,F1,hx,hy,jY,au hia,au hib,zb,Zah,bg,reduceCtorEq,Nat.reduceEqDiff,Nat.reduceAdd,Nat.reduceLT,Nat.reduceLeDiff,Z1]<;>rfl
  subst c1 c2
  have G1:(xe==xe)=true:=by simp
  have G2:(xt != xt)=false:=by simp
  simp only [G1,G2,Zap,if_false,if_true,BP,F1,hx,hy,jY,au hia,au hib,zb,Zah,bg,reduceCtorEq,Nat.reduceEqDiff,Nat.reduceAdd,Nat.reduceLT,Nat.reduceLeDiff,Z1]
  rw [ih trivial _ (by simp only [hi1];rfl)]
 ·intro rb _
  have F1:(((min a.length b.length:Nat):Int)<(if (b.length:Int)<(a.length:Int) then (b.length:Int) else (a.length:Int)))=False:=eq_false (by split<;>omega)
  simp only [BP,F1,bg,reduceCtorEq,Nat.reduceEqDiff,Nat.reduceAdd,Nat.reduceLT,Nat.reduceLeDiff,Z1]
  by_cases h1:a.length≤b.length
  ·have e:min a.length b.length=a.length:=by omega
   rw [e,ZaT]
   rfl
  ·have e:min a.length b.length=b.length:=by omega
   rw [e,ZaT]
   cases a.drop b.length<;>rfl
theorem aps {a b:List zh}(ha:a.length≤lim)(hb:b.length≤lim):cal env 71 [.list 3 (a.map jY),.list 3 (b.map jY)]=some [(.int .i64 (afE a b).1,false),(.int .i64 (afE a b).2,false)]:=by
 have e1:=afj ha
 have e2:=afj hb
 unfold afE
 cases h1:qJ a with
 |false =>
  rw [h1] at e1
  rw [ah aeG rfl];simp only [XG];simp only [start,aJ,aT,aH,aS,aB,aC,aI,aQ,Nat.reduceAdd,Nat.reduceSub]
  simp only [e1,Za8,zg,if_false,bg,reduceCtorEq,Nat.reduceEqDiff,Nat.reduceAdd,Nat.reduceLT,Nat.reduceLeDiff,Z1]
 |true =>
  rw [h1] at e1
  cases h2:qJ b with
  |false =>
   rw [h2] at e2
   rw [ah aeG rfl];simp only [XG];simp only [start,aJ,aT,aH,aS,aB,aC,aI,aQ,Nat.reduceAdd,Nat.reduceSub]
   simp only [e1,e2,Zbi,zg,if_false,bg,reduceCtorEq,Nat.reduceEqDiff,Nat.reduceAdd,Nat.reduceLT,Nat.reduceLeDiff,Z1]
  |true =>
   rw [h2] at e2
   rw [ah aeG rfl];simp only [XG];simp only [start,aJ,aT,aH,aS,aB,aC,aI,aQ,Nat.reduceAdd,Nat.reduceSub]
   simp only [e1,e2,zt,if_true,bg,reduceCtorEq,Nat.reduceEqDiff,Nat.reduceAdd,Nat.reduceLT,Nat.reduceLeDiff,Z1]
   rw [amB ha hb]
   rotate_left
   ·rfl
   ·cases h:abz z0 a b with
    |mk t q =>
     obtain ⟨c,e⟩:=q
     cases t with
     |true=>simp only [bg,reduceCtorEq,Nat.reduceEqDiff,Nat.reduceAdd,Nat.reduceLT,Nat.reduceLeDiff,Z1]
     |false=>simp only [bg,reduceCtorEq,Nat.reduceEqDiff,Nat.reduceAdd,Nat.reduceLT,Nat.reduceLeDiff,Z1]
def uN (a b:Pt)(ep:Int):Int:=(if btE a b=0 then (if gK a.site=true then (if gK b.site=true then (if a.site≠b.site then (if (kH a.lin).epoch<ep then (if (kH b.lin).epoch<ep then (if ep≤1073741824 then 0 else 2) else 13) else 13) else 1) else 2) else 2) else btE a b)
def wO (a b:Pt)(ep:Int):sS:=if uN a b ep=0 then ⟨3,b.site,a.site,0,ep,(afE a.lin b.lin).1,false,false⟩ else fM
def qo (a b:Pt)(ep:Int):List (List cZ):=if uN a b ep=0 then btO a b else []
theorem ni:([]:List (List cZ)).map wH=[]:=rfl
theorem apt {a b:Pt}{ep:Int}(ha:Cb a)(hb:Cb b):cal env 24 [FP a,FP b,.int .i64 ep]=some [(Ju (wO a b ep),false),(.list 1 ((qo a b ep).map wH),false),(.int .i64 (uN a b ep),false)]:=by
 have d1:=apq ha hb
 have s1:=Nb (n:=a.site)
 have s2:=Nb (n:=b.site)
 have h1:=afB (l:=a.lin) ha.1
 have h2:=afB (l:=b.lin) hb.1
 have an:=aps (a:=a.lin) (b:=b.lin) ha.1 hb.1
 rw [gJ,gJ] at d1
 have k1:=afz
 have k2:=afA
 have q1:=Ak
 have q2:=Jv
 have q3:=D8
 rw [gJ,gJ,Oy aoC rfl]
 by_cases c0:btE a b=0
 rotate_left
 ·have k3:=YR c0
  have Z:(btE a b=0)=False:=eq_false c0
  have hE:uN a b ep=btE a b:=by unfold uN;rw [if_neg c0]
  have hO:wO a b ep=fM:=by unfold wO;rw [hE,if_neg c0]
  have hL:qo a b ep=[]:=by unfold qo;rw [hE,if_neg c0]
  rw [hE,hO,hL,dw]
  simp only [FI,aG,Nat.reduceBEq,Nat.reduceLeDiff,Nat.reduceAdd,za,zd]
  simp only [h1,h2,an,d1,k3,Z,q1,q2,q3,fM,aZ,bQ,ni,aU,oJ.begun,fJ,varOf,dY,dR,fH,jy,St.setVar,St.bV,St.eP,PV.gG,Zaw,ZaU,ZaF,ZaJ,and_true,true_and,Zax,Zaf,Zas,or_false,not_false_eq_true,ZaB,ZD.injEq,Nat.reduceEqDiff,Int.reduceEq,if_true,if_false,aF,Nat.reduceMul,Nat.reduceBEq,Nat.reduceLT,Nat.reduceLeDiff,reduceCtorEq,Nat.reduceAdd,Z1]
 rw [c0] at d1
 by_cases c1:gK a.site=true
 rotate_left
 ·have F1:gK a.site=false:=by simpa using c1
  have hE:uN a b ep=2:=by unfold uN;rw [if_pos c0,if_neg c1]
  have hO:wO a b ep=fM:=by unfold wO;rw [hE,if_neg (by decide)]
  have hL:qo a b ep=[]:=by unfold qo;rw [hE,if_neg (by decide)]
  rw [hE,hO,hL,dw]
  simp only [FI,aG,Nat.reduceBEq,Nat.reduceLeDiff,Nat.reduceAdd,za,zd]
  simp only [h1,h2,an,d1,k1,k2,s1,F1,q1,q2,q3,fM,aZ,bQ,ni,aU,oJ.begun,fJ,varOf,dY,dR,fH,jy,St.setVar,St.bV,St.eP,PV.gG,Zaw,ZaU,ZaF,ZaJ,and_true,true_and,Zax,Zaf,Zas,or_false,not_false_eq_true,ZaB,ZD.injEq,Nat.reduceEqDiff,Int.reduceEq,if_true,if_false,aF,Nat.reduceMul,Nat.reduceBEq,Nat.reduceLT,Nat.reduceLeDiff,reduceCtorEq,Nat.reduceAdd,Z1]
 have F1:gK a.site=true:=by simpa using c1
 by_cases c2:gK b.site=true
 rotate_left
 ·have F2:gK b.site=false:=by simpa using c2
  have hE:uN a b ep=2:=by unfold uN;rw [if_pos c0,if_pos c1,if_neg c2]
  have hO:wO a b ep=fM:=by unfold wO;rw [hE,if_neg (by decide)]
  have hL:qo a b ep=[]:=by unfold qo;rw [hE,if_neg (by decide)]
  rw [hE,hO,hL,dw]
  simp only [FI,aG,Nat.reduceBEq,Nat.reduceLeDiff,Nat.reduceAdd,za,zd]
  simp only [h1,h2,an,d1,k1,k2,s1,F1,s2,F2,q1,q2,q3,fM,aZ,bQ,ni,aU,oJ.begun,fJ,varOf,dY,dR,fH,jy,St.setVar,St.bV,St.eP,PV.gG,Zaw,ZaU,ZaF,ZaJ,and_true,true_and,Zax,Zaf,Zas,or_false,not_false_eq_true,ZaB,ZD.injEq,Nat.reduceEqDiff,Int.reduceEq,if_true,if_false,aF,Nat.reduceMul,Nat.reduceBEq,Nat.reduceLT,Nat.reduceLeDiff,reduceCtorEq,Nat.reduceAdd,Z1]
 have F2:gK b.site=true:=by simpa using c2
 by_cases c3:a.site≠b.site
 rotate_left
 ·have F3:(a.site != b.site)=false:=by simpa using c3
  have hE:uN a b ep=1:=by unfold uN;rw [if_pos c0,if_pos c1,if_pos c2,if_neg c3]
  have hO:wO a b ep=fM:=by unfold wO;rw [hE,if_neg (by decide)]
  have hL:qo a b ep=[]:=by unfold qo;rw [hE,if_neg (by decide)]
  rw [hE,hO,hL,dw]
  simp only [FI,aG,Nat.reduceBEq,Nat.reduceLeDiff,Nat.reduceAdd,za,zd]
  simp only [h1,h2,an,d1,k1,k2,s1,F1,s2,F2,F3,q1,q2,q3,fM,aZ,bQ,ni,aU,oJ.begun,fJ,varOf,dY,dR,fH,jy,St.setVar,St.bV,St.eP,PV.gG,Zaw,ZaU,ZaF,ZaJ,and_true,true_and,Zax,Zaf,Zas,or_false,not_false_eq_true,ZaB,ZD.injEq,Nat.reduceEqDiff,Int.reduceEq,if_true,if_false,aF,Nat.reduceMul,Nat.reduceBEq,Nat.reduceLT,Nat.reduceLeDiff,reduceCtorEq,Nat.reduceAdd,Z1]
 have F3:(a.site != b.site)=true:=by simpa using c3
 by_cases c4:(kH a.lin).epoch<ep
 rotate_left
 ·have F4:(ep > (kH a.lin).epoch)=False:=eq_false c4
  have hE:uN a b ep=13:=by unfold uN;rw [if_pos c0,if_pos c1,if_pos c2,if_pos c3,if_neg c4]
  have hO:wO a b ep=fM:=by unfold wO;rw [hE,if_neg (by decide)]
  have hL:qo a b ep=[]:=by unfold qo;rw [hE,if_neg (by decide)]
  rw [hE,hO,hL,dw]
  simp only [FI,aG,Nat.reduceBEq,Nat.reduceLeDiff,Nat.reduceAdd,za,zd]
  simp only [h1,h2,an,d1,k1,k2,s1,F1,s2,F2,F3,F4,q1,q2,q3,fM,aZ,bQ,ni,aU,oJ.begun,fJ,varOf,dY,dR,fH,jy,St.setVar,St.bV,St.eP,PV.gG,Zaw,ZaU,ZaF,ZaJ,and_true,true_and,Zax,Zaf,Zas,or_false,not_false_eq_true,ZaB,ZD.injEq,Nat.reduceEqDiff,Int.reduceEq,if_true,if_false,aF,Nat.reduceMul,Nat.reduceBEq,Nat.reduceLT,Nat.reduceLeDiff,reduceCtorEq,Nat.reduceAdd,Z1]
 have F4:(ep > (kH a.lin).epoch)=True:=eq_true c4
 by_cases c5:(kH b.lin).epoch<ep
 rotate_left
 ·have F5:(ep > (kH b.lin).epoch)=False:=eq_false c5
  have hE:uN a b ep=13:=by unfold uN;rw [if_pos c0,if_pos c1,if_pos c2,if_pos c3,if_pos c4,if_neg c5]
  have hO:wO a b ep=fM:=by unfold wO;rw [hE,if_neg (by decide)]
  have hL:qo a b ep=[]:=by unfold qo;rw [hE,if_neg (by decide)]
  rw [hE,hO,hL,dw]
  simp only [FI,aG,Nat.reduceBEq,Nat.reduceLeDiff,Nat.reduceAdd,za,zd]
  simp only [h1,h2,an,d1,k1,k2,s1,F1,s2,F2,F3,F4,F5,q1,q2,q3,fM,aZ,bQ,ni,aU,oJ.begun,fJ,varOf,dY,dR,fH,jy,St.setVar,St.bV,St.eP,PV.gG,Zaw,ZaU,ZaF,ZaJ,and_true,true_and,Zax,Zaf,Zas,or_false,not_false_eq_true,ZaB,ZD.injEq,Nat.reduceEqDiff,Int.reduceEq,if_true,if_false,aF,Nat.reduceMul,Nat.reduceBEq,Nat.reduceLT,Nat.reduceLeDiff,reduceCtorEq,Nat.reduceAdd,Z1]
 have F5:(ep > (kH b.lin).epoch)=True:=eq_true c5
 by_cases c6:ep≤1073741824
 rotate_left
 ·have F6:(ep≤1073741824)=False:=eq_false c6
  have hE:uN a b ep=2:=by unfold uN;rw [if_pos c0,if_pos c1,if_pos c2,if_pos c3,if_pos c4,if_pos c5,if_neg c6]
  have hO:wO a b ep=fM:=by unfold wO;rw [hE,if_neg (by decide)]
  have hL:qo a b ep=[]:=by unfold qo;rw [hE,if_neg (by decide)]
  rw [hE,hO,hL,dw]
  simp only [FI,aG,Nat.reduceBEq,Nat.reduceLeDiff,Nat.reduceAdd,za,zd]
  simp only [h1,h2,an,d1,k1,k2,s1,F1,s2,F2,F3,F4,F5,F6,q1,q2,q3,fM,aZ,bQ,ni,aU,oJ.begun,fJ,varOf,dY,dR,fH,jy,St.setVar,St.bV,St.eP,PV.gG,Zaw,ZaU,ZaF,ZaJ,and_true,true_and,Zax,Zaf,Zas,or_false,not_false_eq_true,ZaB,ZD.injEq,Nat.reduceEqDiff,Int.reduceEq,if_true,if_false,aF,Nat.reduceMul,Nat.reduceBEq,Nat.reduceLT,Nat.reduceLeDiff,reduceCtorEq,Nat.reduceAdd,Z1]
 have F6:(ep≤1073741824)=True:=eq_true c6
 have hE:uN a b ep=0:=by unfold uN;rw [if_pos c0,if_pos c1,if_pos c2,if_pos c3,if_pos c4,if_pos c5,if_pos c6]
 have hO:wO a b ep=⟨3,b.site,a.site,0,ep,(afE a.lin b.lin).1,false,false⟩:=by unfold wO;rw [hE,if_pos rfl]
 have hL:qo a b ep=btO a b:=by unfold qo;rw [hE,if_pos rfl]
 rw [hE,hO,hL,dw]
 simp only [FI,aG,Nat.reduceBEq,Nat.reduceLeDiff,Nat.reduceAdd,za,zd]
 simp only [h1,h2,an,d1,k1,k2,s1,F1,s2,F2,F3,F4,F5,F6,q1,q2,q3,fM,aZ,bQ,ni,aU,oJ.begun,fJ,varOf,dY,dR,fH,jy,St.setVar,St.bV,St.eP,PV.gG,Zaw,ZaU,ZaF,ZaJ,and_true,true_and,Zax,Zaf,Zas,or_false,not_false_eq_true,ZaB,ZD.injEq,Nat.reduceEqDiff,Int.reduceEq,if_true,if_false,aF,Nat.reduceMul,Nat.reduceBEq,Nat.reduceLT,Nat.reduceLeDiff,reduceCtorEq,Nat.reduceAdd,Z1]
end Go.Proofs.YtioijcfcehhmdaaGreatDoor.V
