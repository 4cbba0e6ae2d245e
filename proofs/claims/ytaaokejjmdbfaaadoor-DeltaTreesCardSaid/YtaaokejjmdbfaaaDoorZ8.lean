/-
  Part 8 of the texts that the statement stands on.
-/
import Derived.Test.YtaaokejjmdbfaaaDoorZ7
set_option linter.all false
namespace Go.Proofs.YtaaokejjmdbfaaaDoor.V
def pI (f:List Nat) (i:Nat):Nat:=f.getD i 0
def nJ (f:List Nat):Nat→Nat→Nat
 |0,k=>k
 |t+1,k=>pI f (nJ f t k)
def vX (f:List Nat) (r:Nat):Nat→Nat→Nat
 |0,_=>0
 |t+1,k=>if k==r then 0 else vX f r t (pI f k)+1
theorem Em (f:List Nat):∀ t k,nJ f t (pI f k)=pI f (nJ f t k)
 |0,_=>rfl
 |t+1,k=>by
  show pI f (nJ f t (pI f k))=_
  rw [Em f t k];rfl
theorem En (f:List Nat) (r:Nat):∀ t k,vX f r t k≤t
 |0,_=>Nat.le_refl _
 |t+1,k=>by
  have:=En f r t (pI f k)
  unfold vX
  split<;>omega
theorem RN (f:List Nat) (r:Nat):∀ t k u,u<vX f r t k→nJ f u k≠r
 |0,_,_,h=>absurd h (Nat.not_lt_zero _)
 |t+1,k,u,h=>by
  unfold vX at h
  split at h
  ·exact absurd h (Nat.not_lt_zero _)
  ·rename_i c
   cases u with
   |zero=>show k≠r;simpa using c
   |succ u =>
    have:=RN f r t (pI f k) u (by omega)
    rw [Em] at this
    exact this
theorem TV (f:List Nat) (r:Nat):∀ t k,nJ f (vX f r t k) k=r∨vX f r t k=t
 |0,_=>.inr rfl
 |t+1,k=>by
  unfold vX
  split
  ·rename_i c
   exact .inl (show k=r by simpa using c)
  ·rcases TV f r t (pI f k) with h|h
   ·rw [Em] at h
    exact .inl h
   ·exact .inr (by omega)
theorem RP {f:List Nat} {n:Nat} (h:∀ i,i<n→pI f i<n) {k:Nat} (hk:k<n):∀ t,nJ f t k<n
 |0=>hk
 |t+1=>h _ (RP h hk t)
def rch (f:List Nat) (r n k:Nat):Bool:=nJ f (vX f r (n+1) k) k==r
def Eo (f:List Nat) (r n:Nat):Bool:=(List.range n).all (rch f r n)
def lst (m:Nat):Nat→List (List Nat)
 |0=>[[]]
 |k+1=>(List.range m).flatMap fun a=>(lst m k).map (a :: ·)
theorem Kq {m:Nat}:∀ {l:List Nat},(∀ x∈l,x<m)→l∈lst m l.length
 |[],_=>List.mem_singleton.2 rfl
 |a :: l,h=>List.mem_flatMap.2 ⟨a,List.mem_range.2 (h a List.mem_cons_self),List.mem_map.2 ⟨l,Kq fun x hx=>h x (List.mem_cons_of_mem _ hx),rfl⟩⟩
def sZ (r:Nat) (q:List Nat) (a:Nat):Bool:=a==r || q.contains a
def okQ (n r:Nat):List Nat→Bool
 |[]=>true
 |k :: q=>decide (k<n)&&(!sZ r q k&&okQ n r q)
def crs (f:List Nat) (r:Nat) (q:List Nat) (s:Nat):Bool:=sZ r q s != sZ r q (pI f s)
def okS (f:List Nat) (r:Nat):List Nat→List Nat→Bool
 |[],[]=>true
 |_ :: q,s :: z=>crs f r q s&&okS f r q z
 |_,_=>false
def okP (f:List Nat) (r:Nat):List Nat→Bool
 |[]=>true
 |k :: q=>sZ r q (pI f k)&&okP f r q
def oth (n r:Nat):List Nat:=(List.range n).filter fun i=>i != r
def qsN (n r:Nat):List (List Nat):=(lst n (n - 1)).filter (okQ n r)
def Xi (n:Nat):Bool:=(List.range n).all fun r=>(qsN n r).all fun q=>q.isPerm (oth n r)&&(lst n n).all fun f=>(!okP f r q || Eo f r n)&&(!Eo f r n || (qsN n r).any fun z=>okS f r q z)
theorem aeb:Xi 1=true∧Xi 2=true∧Xi 3=true∧Xi 4=true:=by
 refine ⟨by kernel_rfl,by kernel_rfl,by kernel_rfl,by kernel_rfl⟩
theorem aa7 {n r:Nat}:∀ {q:List Nat},okQ n r q=true→∀ x∈q,x<n
 |[],_,x,hx=>by cases hx
 |k :: q,h,x,hx=>by
  unfold okQ at h
  simp only [Bool.and_eq_true,decide_eq_true_eq] at h
  rcases List.mem_cons.1 hx with rfl|hx
  ·exact h.1
  ·exact aa7 h.2.2 x hx
theorem aec {n r:Nat} (h1:1≤n) (h4:n≤4) (hr:r<n) {q:List Nat} (hq:okQ n r q=true) (hl:q.length=n - 1):q.Perm (oth n r)∧∀ f:List Nat,f.length=n→(∀ x∈f,x<n)→(okP f r q=true→Eo f r n=true)∧(Eo f r n=true→∃ z,z.Perm (oth n r)∧okS f r q z=true):=by
 have hc:Xi n=true:=by
  obtain ⟨c1,c2,c3,c4⟩:=aeb
  match n,h1,h4 with
  |1,_,_=>exact c1
  |2,_,_=>exact c2
  |3,_,_=>exact c3
  |4,_,_=>exact c4
 unfold Xi at hc
 have hm:q∈qsN n r:=List.mem_filter.2 ⟨by have h:=Kq (aa7 hq);rwa [hl] at h,hq⟩
 have hc2:=List.all_eq_true.1 hc r (List.mem_range.2 hr)
 have hcq:=List.all_eq_true.1 hc2 q hm
 rw [Bool.and_eq_true] at hcq
 refine ⟨List.isPerm_iff.1 hcq.1,fun f hf hx=>?_⟩
 have hfm:f∈lst n n:=by
  have h:=Kq hx
  rwa [hf] at h
 have:=List.all_eq_true.1 hcq.2 f hfm
 rw [Bool.and_eq_true,Bool.or_eq_true,Bool.or_eq_true,Bool.not_eq_true',Bool.not_eq_true'] at this
 refine ⟨fun h=>?_,fun h=>?_⟩
 ·rcases this.1 with c|c
  ·rw [h] at c;cases c
  ·exact c
 ·rcases this.2 with c|c
  ·rw [h] at c;cases c
  ·obtain ⟨z,z1,z2⟩:=List.any_eq_true.1 c
   have z3:=List.all_eq_true.1 hc2 z z1
   rw [Bool.and_eq_true] at z3
   exact ⟨z,List.isPerm_iff.1 z3.1,z2⟩
theorem Oi {g:Nat→Int}:∀ {l m:List Nat},l.Perm m→(l.map g).sum=(m.map g).sum:=fun h=>by
 induction h with
 |nil=>rfl
 |cons x _ ih=>simp [ih]
 |swap x y l=>simp;omega
 |trans _ _ ih1 ih2=>exact ih1.trans ih2
def pU (w:Nat→Nat→Nat) (n:Nat) (s:Prm):Nat→List Nat
 |0=>[]
 |j+1=>(tu w n (dQ w n s j).ins).2.1.toNat :: pU w n s j
theorem TW (w:Nat→Nat→Nat) {n r:Nat} (hr:r<n) {M:Nat} (hM:∀ i k,w i k≤M) (hw:∀ i k,i<n→k<n→w i k=w k i):∀ j,j<n →
  (∀ i,fZ (dQ w n (dw n r) j).ins i=true ↔ i<n∧sZ r (pU w n (dw n r) j) i=true)∧okQ n r (pU w n (dw n r) j)=true∧(pU w n (dw n r) j).length=j ∧
  (∀ f:List Nat,(∀ x∈pU w n (dw n r) j,(dQ w n (dw n r) j).par[x]?=some ((pI f x:Nat):Int))→okP f r (pU w n (dw n r) j)=true∧(dQ w n (dw n r) j).sum=((pU w n (dw n r) j).map fun x=>((w x (pI f x):Nat):Int)).sum) ∧
  (∀ (f:List Nat) (z:List Nat),(∀ x∈z,x<n∧pI f x<n)→okS f r (pU w n (dw n r) j) z=true→(dQ w n (dw n r) j).sum≤(z.map fun x=>((w x (pI f x):Nat):Int)).sum) ∧
  (∀ x,x<n→sZ r (pU w n (dw n r) j) x=true→x≠r→∃ y:Nat,y<n∧(dQ w n (dw n r) j).par[x]?=some (y:Int))∧(dQ w n (dw n r) j).par[r]?=some (-1)
 |0,h=>by
  have hz:∀ k,fZ (List.replicate n false) k=false:=fun k=>by
   unfold fZ
   rw [List.getD_eq_getElem?_getD,List.getElem?_replicate]
   split<;>rfl
  refine ⟨fun i=>?_,rfl,rfl,fun f _=>⟨rfl,rfl⟩,fun f z _ hz=>?_,fun x hx hm hxr=>?_,?_⟩
  ·show fZ ((List.replicate n false).set r true) i=true ↔ _
   rw [rD (by simp [hr])]
   unfold sZ pU
   by_cases c:i=r
   ·subst c;simp [h]
    exact hr
   ·rw [if_neg c,hz];simp [c]
  ·cases z with
   |nil=>exact Int.le_refl _
   |cons a z=>cases hz
  ·unfold sZ pU at hm
   simp at hm
   exact absurd hm hxr
  ·show ((List.replicate n (0:Int)).set r (-1))[r]?=_
   rw [List.getElem?_set_self (by simp [hr])]
 |j+1,h=>by
  obtain ⟨h1,h2,h3,h4,h5,h6,h7⟩:=TW w hr hM hw j (by omega)
  obtain ⟨o1,o2,o3,o4,_,_⟩:=yY w hr hM j (by omega)
  obtain ⟨_,⟨i,k,g1,g2,g3,g4,g5⟩,g6⟩:=Eh (w:=w) (n:=n) (ins:=(dQ w n (dw n r) j).ins) ⟨r,hr,o4⟩ (sW (by omega))
  have hs:=Oh g5
  have hk:sZ r (pU w n (dw n r) j) k=false:=by
   cases c:sZ r (pU w n (dw n r) j) k with
   |false=>rfl
   |true=>rw [(h1 k).2 ⟨g2,c⟩] at g4;cases g4
  have hi:=((h1 i).1 g3).2
  have he:pU w n (dw n r) (j+1)=k :: pU w n (dw n r) j:=by
   show (tu w n (dQ w n (dw n r) j).ins).2.1.toNat :: _=_
   rw [g5];simp
  have hmem:∀ a,sZ r (k :: pU w n (dw n r) j) a=(decide (a=k) || sZ r (pU w n (dw n r) j) a):=fun a=>by
   unfold sZ
   rw [List.contains_cons]
   by_cases c:a=k
   ·subst c;simp
   ·have:(a==k)=false:=by simpa using c
    rw [this,Bool.false_or,decide_eq_false c,Bool.false_or]
  have hkr:k≠r:=fun e=>by subst e;unfold sZ at hk;simp at hk
  rw [he,hs]
  refine ⟨fun a=>?_,?_,by rw [List.length_cons,h3],fun f hf=>?_,fun f z hz hok=>?_,fun x hx hm hxr=>?_,?_⟩
  ·rw [rD (by omega),hmem]
   by_cases c:a=k
   ·subst c;simp [g2]
   ·rw [if_neg c,decide_eq_false c,Bool.false_or];exact h1 a
  ·unfold okQ
   rw [decide_eq_true g2,hk,h2];rfl
  ·have hne:∀ x∈pU w n (dw n r) j,x≠k:=fun x hx e=>by
    subst e
    unfold sZ at hk
    rw [Bool.or_eq_false_iff,List.contains_eq_mem] at hk
    simp [hx] at hk
   obtain ⟨q1,q2⟩:=h4 f fun x hx=>by
    have:=hf x (List.mem_cons_of_mem _ hx)
    rwa [List.getElem?_set_ne (fun e=>hne x hx e.symm)] at this
   have hfk:=hf k List.mem_cons_self
   rw [List.getElem?_set_self (by omega)] at hfk
   have hfk:i=pI f k:=by have:=Option.some.inj hfk;omega
   refine ⟨?_,?_⟩
   ·unfold okP
    rw [← hfk,hi,q1];rfl
   ·show (dQ w n (dw n r) j).sum+((w i k:Nat):Int)=_
    rw [List.map_cons,List.sum_cons,q2,← hfk,hw k i g2 g1,Int.add_comm]
  ·cases z with
   |nil=>cases hok
   |cons s z =>
    unfold okS at hok
    rw [Bool.and_eq_true] at hok
    have hle:=h5 f z (fun x hx=>hz x (List.mem_cons_of_mem _ hx)) hok.2
    obtain ⟨z1,z2⟩:=hz s List.mem_cons_self
    have hmin:w i k≤w s (pI f s):=by
     have hcr:=hok.1
     unfold crs at hcr
     cases c1:sZ r (pU w n (dw n r) j) s with
     |true =>
      cases c2:sZ r (pU w n (dw n r) j) (pI f s) with
      |true=>rw [c1,c2] at hcr;cases hcr
      |false =>
       have a1:=(h1 s).2 ⟨z1,c1⟩
       have a2:fZ (dQ w n (dw n r) j).ins (pI f s)=false:=by
        cases c:fZ (dQ w n (dw n r) j).ins (pI f s) with
        |false=>rfl
        |true=>rw [((h1 _).1 c).2] at c2;cases c2
       have:=g6 s (pI f s) z1 z2 a1 a2
       rw [g5] at this
       unfold vW at this
       simp only at this
       omega
     |false =>
      cases c2:sZ r (pU w n (dw n r) j) (pI f s) with
      |false=>rw [c1,c2] at hcr;cases hcr
      |true =>
       have a1:=(h1 (pI f s)).2 ⟨z2,c2⟩
       have a2:fZ (dQ w n (dw n r) j).ins s=false:=by
        cases c:fZ (dQ w n (dw n r) j).ins s with
        |false=>rfl
        |true=>rw [((h1 _).1 c).2] at c1;cases c1
       have:=g6 (pI f s) s z2 z1 a1 a2
       rw [g5] at this
       unfold vW at this
       simp only at this
       rw [hw s (pI f s) z1 z2]
       omega
    rw [List.map_cons,List.sum_cons]
    show _+_≤_
    omega
  ·rw [hmem] at hm
   by_cases c:x=k
   ·subst c
    exact ⟨i,g1,by rw [List.getElem?_set_self (by omega)]⟩
   ·rw [decide_eq_false c,Bool.false_or] at hm
    rw [List.getElem?_set_ne (fun e=>c e.symm)]
    exact h6 x hx hm hxr
  ·rw [List.getElem?_set_ne (fun e=>hkr e)]
   exact h7
end Go.Proofs.YtaaokejjmdbfaaaDoor.V

namespace Go.Proofs.YtaaokejjmdbfaaaDoor
theorem aa8 {env:Env} (d:Nat) (ks:List Nat) (l:List gq) (st:St) {sz:Nat} {es:List PV} (h:st.slots[d]?=some (.row sz es)) (hs:st.stop=none):den env (.lend d ks l) st=((CX env l (st.freeze (.slot d))).bind (st.je d ks sz es)).map fun st=>(.normal,st):=by
 rw [kG]
 simp only [step]
 rw [h]
 simp only [hs]
 rfl
theorem aed {n d k sz:Nat} {es:List PV} {v:PV} {l l2:List (Nat × AV)} {bx bx2:List Box} {ys ys2:List (List PV)} {sp sp2:Option (Option Nat)} (h:look l k=.pv v) (hk:k<n) (hd:d<n) (hdk:k≠d) (hb:bx2.all (fun b=>!b.fz&&b.cs.all BV.flat)=true) :
  (⟨sl n l,bx,ys,sp⟩:St).je d [k] sz es ⟨sl n l2,bx2,ys2,sp2⟩=some ⟨sl n ((d,.row sz es) :: (k,.pv v) :: mapA AV.flat l2),bx2,ys2,sp2⟩:=by
 unfold St.je
 rw [if_pos hb]
 congr 2
 apply List.ext_getElem
 ·simp [sl]
 ·intro i h1 h2
  have hi:i<n:=by simpa [sl] using h2
  rw [List.getElem_mapIdx]
  simp only [sl,List.getElem_map,List.getElem_range,kQ,zG AV.flat rfl]
  unfold Hu
  by_cases c:i=d
  ·subst c;rw [if_pos rfl,if_pos rfl]
  ·rw [if_neg c,if_neg c]
   by_cases c2:i=k
   ·subst c2
    rw [if_pos (by simp),if_pos rfl]
    have:(List.map (look l) (List.range n))[i]?=some (.pv v):=by rw [show List.map (look l) (List.range n)=sl n l from rfl,Tf hi,h]
    simp only [this]
   ·rw [if_neg (by simpa using c2),if_neg c2]
theorem agV (v:PV):AV.flat (.pv v)=if v.scalar then .pv v else .any:=(rfl)
theorem aee (sz:Nat) (es:List PV):AV.flat (.row sz es)=if es.all PV.scalar then .row sz es else .any:=(rfl)
theorem aa9 (o j:Nat):AV.flat (.aA o j)=.aA o j:=(rfl)
theorem aef:AV.flat .any=.any:=(rfl)
theorem agW (f:Nat) (l:List AV):AV.flat (.fn f l)=.any:=(rfl)
theorem aeg (r:Root) (i j:Nat):AV.flat (.ref r i j)=.any:=(rfl)
theorem aeh (k:Bool) (l:List AV):AV.flat (.jO k l)=.any:=(rfl)
theorem aei (r:Root) (i j:Nat):AV.flat (.nI r i j)=.any:=(rfl)
theorem aej (v:PV):BV.flat (.pv v)=v.scalar:=(rfl)
def flatAll:=And.intro @agV (And.intro @aee (And.intro @aa9 (And.intro @aef (And.intro @agW (And.intro @aeg (And.intro @aeh (And.intro @aei @aej)))))))
end Go.Proofs.YtaaokejjmdbfaaaDoor

namespace Go.Proofs.YtaaokejjmdbfaaaDoor.V
theorem ai8 {pts ins:List PV}:cal env 68 [.list 4 pts,.list 1 ins]=some [(.func 91 [.bQ [.list 4 pts] 0,.bQ [.list 1 ins] 0],false)]:=by
 rw [au ah9 rfl];simp only [ZC,aG,Nat.reduceBEq,Nat.reduceLeDiff,Nat.reduceAdd,List.length_cons,List.length_nil]
 simp only [aB,Nat.reduceMul,Nat.reduceBEq,Nat.reduceLT,Nat.reduceLeDiff,reduceCtorEq,Nat.reduceEqDiff,Nat.reduceAdd,Nat.beq]
def BJ (l:List vV):List (List PV):=l.map fun e=>[Ee e]
theorem abb (l:List vV) (e:vV):BJ (l++[e])=BJ l++[[Ee e]]:=by simp [BJ]
theorem aek (l m:List vV):BJ (l++m)=BJ l++BJ m:=by simp [BJ]
def kT (l:List Pt) (i k:Nat):Nat:=qL (l.getD i ⟨0,[],[],[]⟩) (l.getD k ⟨0,[],[],[]⟩) (l.getD i ⟨0,[],[],[]⟩).img.length
set_option maxRecDepth 20000 in
theorem agX {l:List Pt} {ins:List Bool} {u:Nat} {Y0:List (List PV)} (hu:u<l.length) (hl:l.length≤1000) (hn:ins.length=l.length) (hw:∀ i k (h1:i<l.length) (h2:k<l.length),cal env 92 [eP l[i],eP l[k]]=some [(.int .i64 (kT l i k:Nat),false)]) {st:St} (h:st.head [0,1,2,4,7,8,12,13] st.boxes.length=some ⟨sl 46 [(0,.pK),(1,.pv (.bQ [.list 4 (l.map eP)] 0)),(2,.pv (.bQ [.list 1 (ins.map eB)] 0)),(4,.pv (.int .i64 u)),(7,.pv (.int .i64 l.length)),(8,.pv (.int .i64 u)),(12,.pv (.int .i64 l.length)),(13,.pv (.int .i64 (0:Nat)))],[],Y0++BJ (TS (kT l) ins u ((0:Nat))),some none⟩) :
  den env Jt st=some (.normal,⟨sl 46 [(0,.pK),(1,.pv (.bQ [.list 4 (l.map eP)] 0)),(2,.pv (.bQ [.list 1 (ins.map eB)] 0)),(7,.pv (.int .i64 l.length)),(8,.pv (.int .i64 u))],[],Y0++BJ (TS (kT l) ins u l.length),some none⟩):=by
 unfold Jt
 refine bJ (env:=env) (nb:=0) (l.length) (fun i=>⟨sl 46 [(0,.pK),(1,.pv (.bQ [.list 4 (l.map eP)] 0)),(2,.pv (.bQ [.list 1 (ins.map eB)] 0)),(4,.pv (.int .i64 u)),(7,.pv (.int .i64 l.length)),(8,.pv (.int .i64 u)),(12,.pv (.int .i64 l.length)),(13,.pv (.int .i64 i))],[],Y0++BJ (TS (kT l) ins u (i)),some none⟩) (fun i=>some (.normal,⟨sl 46 [(0,.pK),(1,.pv (.bQ [.list 4 (l.map eP)] 0)),(2,.pv (.bQ [.list 1 (ins.map eB)] 0)),(7,.pv (.int .i64 l.length)),(8,.pv (.int .i64 u))],[],Y0++BJ (TS (kT l) ins u l.length),some none⟩)) h (fun _=>rfl) (fun _=>by simp only [aG,bD,Nat.reduceMul,Nat.reduceBEq,Nat.reduceLT,Nat.reduceLeDiff,Nat.reduceAdd,decide_true,Bool.and_self,Bool.true_and]) ?_ ?_
 ·intro i rb hi ih
  have hlim:lim=1073741824:=rfl
  have hi1:=bP hi (by omega)
  have F1:((i:Int)<(l.length:Int))=True:=eq_true (by omega)
  have hu2:u<ins.length:=by omega
  have hi2:i<ins.length:=by omega
  have hx:(l.map eP)[u]?=some (eP l[u]):=by rw [List.getElem?_map,List.getElem?_eq_getElem hu];rfl
  have hy:(l.map eP)[i]?=some (eP l[i]):=by rw [List.getElem?_map,List.getElem?_eq_getElem hi];rfl
  have bx:(ins.map eB)[u]?=some (.bool (fZ ins u)):=by rw [List.getElem?_map,List.getElem?_eq_getElem hu2];unfold fZ;rw [List.getD_eq_getElem?_getD,List.getElem?_eq_getElem hu2];rfl
  have bY:(ins.map eB)[i]?=some (.bool (fZ ins i)):=by rw [List.getElem?_map,List.getElem?_eq_getElem hi2];unfold fZ;rw [List.getD_eq_getElem?_getD,List.getElem?_eq_getElem hi2];rfl
  have e1:=hw u i hu hi
  have P4:∀ a b c d:PV,part [a,b,c,d] 0 (some 4)=some (.agg [a,b,c,d]):=fun _ _ _ _=>rfl
  have hs:=aa6 (kT l) ins u i
  have X1:=ah (k:=.i64) hu
  have X2:=ah (k:=.i64) hi
  have X3:=ah (k:=.i64) hu2
  have X4:=ah (k:=.i64) hi2
  rw [gK] at hx hy
  rw [gK,gK] at e1
  cases c1:fZ ins u with
  |false =>
   rw [c1] at bx
   rw [c1,Bool.false_and,if_neg (by decide)] at hs
   simp only [yC,F1,bx,bY,X1,X2,X3,X4,List.length_map,aB,Nat.reduceMul,Nat.reduceBEq,Nat.reduceLT,Nat.reduceLeDiff,reduceCtorEq,Nat.reduceEqDiff,Nat.reduceAdd,Nat.beq]
   rw [ih _ (by simp only [hi1,hs];simp only [aB,Nat.reduceMul,Nat.reduceBEq,Nat.reduceLT,Nat.reduceLeDiff,reduceCtorEq,Nat.reduceEqDiff,Nat.reduceAdd,Nat.beq]<;>rfl)]
  |true =>
   rw [c1] at bx
   cases c2:fZ ins i with
   |true =>
    rw [c2] at bY
    rw [c1,c2,if_neg (by decide)] at hs
    simp only [yC,F1,bx,bY,X1,X2,X3,X4,List.length_map,aB,Nat.reduceMul,Nat.reduceBEq,Nat.reduceLT,Nat.reduceLeDiff,reduceCtorEq,Nat.reduceEqDiff,Nat.reduceAdd,Nat.beq]
    rw [ih _ (by simp only [hi1,hs];simp only [aB,Nat.reduceMul,Nat.reduceBEq,Nat.reduceLT,Nat.reduceLeDiff,reduceCtorEq,Nat.reduceEqDiff,Nat.reduceAdd,Nat.beq]<;>rfl)]
   |false =>
    rw [c2] at bY
    rw [c1,c2,if_pos (show (true&&!false)=true from rfl)] at hs
    simp only [yC,F1,bx,bY,hx,hy,e1,P4,X1,X2,X3,X4,List.length_map,aB,Nat.reduceMul,Nat.reduceBEq,Nat.reduceLT,Nat.reduceLeDiff,reduceCtorEq,Nat.reduceEqDiff,Nat.reduceAdd,Nat.beq]
    rw [ih _ (by simp only [hi1,hs,abb,qM,← List.append_assoc];simp only [aB,Nat.reduceMul,Nat.reduceBEq,Nat.reduceLT,Nat.reduceLeDiff,reduceCtorEq,Nat.reduceEqDiff,Nat.reduceAdd,Nat.beq]<;>rfl)]
 ·intro rb
  simp only [yC,Int.lt_irrefl,List.length_map,aB,Nat.reduceMul,Nat.reduceBEq,Nat.reduceLT,Nat.reduceLeDiff,reduceCtorEq,Nat.reduceEqDiff,Nat.reduceAdd,Nat.beq]
set_option maxRecDepth 20000 in
theorem abd {l:List Pt} {ins:List Bool} (hl:l.length≤1000) (hn:ins.length=l.length) (hw:∀ i k (h1:i<l.length) (h2:k<l.length),cal env 92 [eP l[i],eP l[k]]=some [(.int .i64 (kT l i k:Nat),false)]) {st:St} (h:st.head [0,1,2,7,8] st.boxes.length=some ⟨sl 46 [(0,.pK),(1,.pv (.bQ [.list 4 (l.map eP)] 0)),(2,.pv (.bQ [.list 1 (ins.map eB)] 0)),(7,.pv (.int .i64 l.length)),(8,.pv (.int .i64 (0:Nat)))],[],BJ (Kw (kT l) ins l.length ((0:Nat))),some none⟩) :
  den env Jv st=some (.normal,⟨sl 46 [],[],BJ (Kw (kT l) ins l.length l.length),some none⟩):=by
 unfold Jv
 refine bJ (env:=env) (nb:=0) (l.length) (fun i=>⟨sl 46 [(0,.pK),(1,.pv (.bQ [.list 4 (l.map eP)] 0)),(2,.pv (.bQ [.list 1 (ins.map eB)] 0)),(7,.pv (.int .i64 l.length)),(8,.pv (.int .i64 i))],[],BJ (Kw (kT l) ins l.length (i)),some none⟩) (fun i=>some (.normal,⟨sl 46 [],[],BJ (Kw (kT l) ins l.length l.length),some none⟩)) h (fun _=>rfl) (fun _=>by simp only [aG,bD,Nat.reduceMul,Nat.reduceBEq,Nat.reduceLT,Nat.reduceLeDiff,Nat.reduceAdd,decide_true,Bool.and_self,Bool.true_and]) ?_ ?_
 ·intro i rb hi ih
  have hi1:=bP hi (Nat.le_trans hl (by decide))
  have F1:((i:Int)<(l.length:Int))=True:=eq_true (by omega)
  have hL:=fun (st:St)=>agX (st:=st) (u:=i) (Y0:=BJ (Kw (kT l) ins l.length i)) hi hl hn hw
  rw [show BJ (TS (kT l) ins i 0)=[] from rfl,List.append_nil] at hL
  have hs:=Og (kT l) ins l.length i
  simp only [Ju,F1,List.length_map,aB,Nat.reduceMul,Nat.reduceBEq,Nat.reduceLT,Nat.reduceLeDiff,reduceCtorEq,Nat.reduceEqDiff,Nat.reduceAdd,Nat.beq]
  rw [hL _ (by simp only [aG,bD,Nat.reduceMul,Nat.reduceBEq,Nat.reduceLT,Nat.reduceLeDiff,Nat.reduceAdd,decide_true,Bool.and_self,Bool.true_and]<;>rfl)]
  simp only [List.length_map,aB,Nat.reduceMul,Nat.reduceBEq,Nat.reduceLT,Nat.reduceLeDiff,reduceCtorEq,Nat.reduceEqDiff,Nat.reduceAdd,Nat.beq]
  rw [ih _ (by simp only [hi1,hs,aek];simp only [aB,Nat.reduceMul,Nat.reduceBEq,Nat.reduceLT,Nat.reduceLeDiff,reduceCtorEq,Nat.reduceEqDiff,Nat.reduceAdd,Nat.beq]<;>rfl)]
 ·intro rb
  simp only [Ju,Int.lt_irrefl,List.length_map,aB,Nat.reduceMul,Nat.reduceBEq,Nat.reduceLT,Nat.reduceLeDiff,reduceCtorEq,Nat.reduceEqDiff,Nat.reduceAdd,Nat.beq]
theorem agY {l:List Pt} {ins:List Bool} (hl:l.length≤1000) (hn:ins.length=l.length) (hw:∀ i k (h1:i<l.length) (h2:k<l.length),cal env 92 [eP l[i],eP l[k]]=some [(.int .i64 (kT l i k:Nat),false)]) :
  iter env 91 [.bQ [.list 4 (l.map eP)] 0,.bQ [.list 1 (ins.map eB)] 0] none=some (BJ (Kw (kT l) ins l.length l.length)):=by
 have hL:=fun (st:St)=>abd (st:=st) hl hn hw
 rw [show BJ (Kw (kT l) ins l.length 0)=[] from rfl] at hL
 rw [Gy aio rfl rfl]
 have hy:QX 46 [.bQ [.list 4 (l.map eP)] 0,.bQ [.list 1 (ins.map eB)] 0] none=⟨sl 46 [(0,.pK),(1,.pv (.bQ [.list 4 (l.map eP)] 0)),(2,.pv (.bQ [.list 1 (ins.map eB)] 0))],[],[],some none⟩:=rfl
 simp only [ZO]
 rw [hy]
 simp only [List.length_map,aB,Nat.reduceMul,Nat.reduceBEq,Nat.reduceLT,Nat.reduceLeDiff,reduceCtorEq,Nat.reduceEqDiff,Nat.reduceAdd,Nat.beq]
 rw [hL _ (by simp only [aG,bD,Nat.reduceMul,Nat.reduceBEq,Nat.reduceLT,Nat.reduceLeDiff,Nat.reduceAdd,decide_true,Bool.and_self,Bool.true_and]<;>rfl)]
 rfl
theorem ai9 {g:Nat} {caps:List PV} {l:List vV} (hi:iter env g caps none=some (BJ l)) (hl:l.length≤1000000):cal env 90 [.jV 3,.func g caps]=some [(.list 3 (l.map Ee),true)]:=by
 have hlim:lim=1073741824:=rfl
 rw [au ain rfl];simp only [ZN];simp only [start,aP,aX,aN,aW,aI,aJ,aO,aT,Nat.reduceAdd,Nat.reduceSub]
 simp only [dK,reduceCtorEq,Nat.reduceEqDiff,Nat.reduceAdd,Nat.reduceLT,Nat.reduceLeDiff,Nat.beq]
 rw [S9 (env:=env) (fun j=>[⟨false,[.row 3 ((l.take j).map Ee)]⟩]) (xs:=BJ l) rfl hi rfl ?_]
 ·simp only [BJ,List.length_map,List.take_length,ND,dK,reduceCtorEq,Nat.reduceEqDiff,Nat.reduceAdd,Nat.reduceLT,Nat.reduceLeDiff,Nat.beq]
 ·intro j x hx sl0
  simp only [BJ,List.getElem?_map,Option.map_eq_some_iff] at hx
  obtain ⟨e,he,rfl⟩:=hx
  have hj:=(List.getElem?_eq_some_iff.1 he).1
  have F3:((l.take j).length+1≤lim)=True:=eq_true (by rw [List.length_take];omega)
  have ht:l.take (j+1)=l.take j++[e]:=by rw [List.take_add_one,he];rfl
  have P3:∀ a b c:PV,part [a,b,c] 0 (some 3)=some (.agg [a,b,c]):=fun _ _ _=>rfl
  rw [ht]
  refine ⟨?_,?_⟩
  rotate_left
  ·simp only [SN,SQ,F3,P3,qM,List.map_append,List.map_cons,List.map_nil,ND,dK,reduceCtorEq,Nat.reduceEqDiff,Nat.reduceAdd,Nat.reduceLT,Nat.reduceLeDiff,Nat.beq]
   rfl
theorem aja {g:Nat} {caps:List PV} {l:List vV} (hi:iter env g caps none=some (BJ l)) (hl:l.length≤1000000):cal env 67 [.func g caps]=some [(.list 3 (l.map Ee),true)]:=by
 have e1:=ai9 hi hl
 rw [au ah8 rfl];simp only [ZB];simp only [start,aP,aX,aN,aW,aI,aJ,aO,aT,Nat.reduceAdd,Nat.reduceSub]
 simp only [e1,dK,reduceCtorEq,Nat.reduceEqDiff,Nat.reduceAdd,Nat.reduceLT,Nat.reduceLeDiff,Nat.beq]
end Go.Proofs.YtaaokejjmdbfaaaDoor.V

namespace Go.Proofs.YtaaokejjmdbfaaaDoor.V
theorem scI (l:List Int):(l.map eI).all PV.scalar=true:=by
 rw [List.all_eq_true]
 intro x hx
 obtain ⟨y,_,rfl⟩:=List.mem_map.1 hx
 rfl
def ajb (l:List Pt):Prop:=(∀ i k (h1:i<l.length) (h2:k<l.length),cal env 92 [eP l[i],eP l[k]]=some [(.int .i64 (kT l i k:Nat),false)])∧∀ i k,kT l i k≤1000000
set_option maxRecDepth 20000 in
theorem agZ {l:List Pt} {r:Nat} {Q:Nat→Prm} (hQ:∀ k,Q k=dQ (kT l) l.length (dw l.length r) k) (hr:r<l.length) (hl:l.length≤1000) (hw:ajb l) {st:St} (h:st.head [0,8,9,10,27,30,39,40] st.boxes.length=some ⟨sl 64 [(0,.pv (.list 4 (l.map eP))),(8,.row 1 ((Q ((0:Nat))).par.map eI)),(9,.row 1 ((Q ((0:Nat))).ins.map eB)),(10,.pv (.int .i64 (Q ((0:Nat))).sum)),(27,.any),(30,.any),(39,.pv (.int .i64 ((l.length - 1:Nat):Int))),(40,.pv (.int .i64 (0:Nat)))],[],[],none⟩) :
  den env I7 st=some (.normal,⟨sl 64 [(4,.any),(5,.any),(6,.any),(8,.row 1 ((Q (l.length - 1)).par.map eI)),(10,.pv (.int .i64 (Q (l.length - 1)).sum))],[],[],none⟩):=by
 unfold I7
 refine bJ (env:=env) (nb:=0) (l.length - 1) (fun i=>⟨sl 64 [(0,.pv (.list 4 (l.map eP))),(8,.row 1 ((Q (i)).par.map eI)),(9,.row 1 ((Q (i)).ins.map eB)),(10,.pv (.int .i64 (Q (i)).sum)),(27,.any),(30,.any),(39,.pv (.int .i64 ((l.length - 1:Nat):Int))),(40,.pv (.int .i64 i))],[],[],none⟩) (fun i=>some (.normal,⟨sl 64 [(4,.any),(5,.any),(6,.any),(8,.row 1 ((Q (l.length - 1)).par.map eI)),(10,.pv (.int .i64 (Q (l.length - 1)).sum))],[],[],none⟩)) h (fun _=>rfl) (fun _=>by simp only [aG,bD,Nat.reduceMul,Nat.reduceBEq,Nat.reduceLT,Nat.reduceLeDiff,Nat.reduceAdd,decide_true,Bool.and_self,Bool.true_and]) ?_ ?_
 ·intro i rb hi ih
  have hlim:lim=1073741824:=rfl
  have hi1:=bP hi (by omega)
  have F1:((i:Int)<((l.length - 1:Nat):Int))=True:=eq_true (by omega)
  have ho:=yY (kT l) hr hw.2 i (by omega)
  rw [← hQ i] at ho
  obtain ⟨h1,h2,h3,h4,h5,h6⟩:=ho
  obtain ⟨⟨x,m,q1,q2⟩,⟨j,k,g1,g2,g3,g4,g5⟩,_⟩:=Eh (w:=kT l) (n:=l.length) (ins:=(Q i).ins) ⟨r,hr,h4⟩ (sW (by omega))
  have hs:=hQ (i+1)
  rw [Ej (by rw [← hQ i];exact g5),← hQ i] at hs
  have amn:=hw.2 j k
  have h6':(Q i).sum≤1000 * 1000000:=Int.le_trans h6 (Int.mul_le_mul_of_nonneg_right (by omega) (by decide))
  have e1:=ai8 (pts:=l.map eP) (ins:=(Q i).ins.map eB)
  have e2:=aja (agY hl h2 hw.1) (by have h:=J9 (kT l) (Q i).ins l.length l.length;have h':=Nat.mul_le_mul hl hl;omega)
  have hml:(Kw (kT l) (Q i).ins l.length l.length).length≤1000000:=by have h:=J9 (kT l) (Q i).ins l.length l.length;have h':=Nat.mul_le_mul hl hl;omega
  rw [q1] at e2 hml
  have e3:=ai6 (x:=x) (l:=m) (by rw [List.length_cons] at hml;omega)
  rw [← q2,g5,qM] at e3
  simp only at e3
  have P3:∀ a b c:PV,part [a,b,c] 0 (some 3)=some (.agg [a,b,c]):=fun _ _ _=>rfl
  have X1:index (.int .i64 (k:Int)) ((Q i).par.map eI).length=some k:=by rw [List.length_map];exact ah (by omega)
  have X2:index (.int .i64 (k:Int)) ((Q i).ins.map eB).length=some k:=by rw [List.length_map];exact ah (by omega)
  obtain ⟨y1,p1⟩:∃ y,((Q i).par.map eI)[k]?=some (.int .i64 y):=⟨(Q i).par[k]'(by omega),by rw [List.getElem?_map,List.getElem?_eq_getElem (by omega)];rfl⟩
  obtain ⟨y2,p2⟩:∃ y,((Q i).ins.map eB)[k]?=some (.bool y):=⟨(Q i).ins[k]'(by omega),by rw [List.getElem?_map,List.getElem?_eq_getElem (by omega)];rfl⟩
  have s1:((Q i).par.map eI).set k (.int .i64 (j:Int))=(Q (i+1)).par.map eI:=by rw [hs,List.map_set];rfl
  have s2:((Q i).ins.map eB).set k (.bool true)=(Q (i+1)).ins.map eB:=by rw [hs,List.map_set];rfl
  have s3:IntKind.i64.wrap ((Q i).sum+((kT l j k:Nat):Int))=(Q (i+1)).sum:=by rw [hs];exact bF (by omega)
  have hS:=scI (Q i).par
  have hsc:∀ a b c:Int,(PV.agg [.int .i64 a,.int .i64 b,.int .i64 c]).scalar=true:=fun _ _ _=>rfl
  have hb:∀ a b c:Int,([⟨false,[.pv (.int .i64 a),.pv (.int .i64 b),.pv (.int .i64 c)]⟩]:List Box).all (fun b=>!b.fz&&b.cs.all BV.flat)=true:=fun _ _ _=>rfl
  generalize (Q i).par.map eI=PA at *
  generalize (Q i).ins.map eB=IN at *
  generalize (x :: m).map Ee=L at *
  generalize hPL:l.map eP=PL at *
  generalize (Q (i+1)).par.map eI=PA2 at *
  generalize (Q (i+1)).ins.map eB=IN2 at *
  generalize (Q (i+1)).sum=SU2 at *
  simp only [I5,F1,aB,Nat.reduceMul,Nat.reduceBEq,Nat.reduceLT,Nat.reduceLeDiff,reduceCtorEq,Nat.reduceEqDiff,Nat.reduceAdd,Nat.beq]
  rw [aa8 9 [0] _ _ (sz:=1) (es:=IN) (by simp only [aB,Nat.reduceMul,Nat.reduceBEq,Nat.reduceLT,Nat.reduceLeDiff,reduceCtorEq,Nat.reduceEqDiff,Nat.reduceAdd,Nat.beq]) rfl]
  simp only [e1,e2,e3,P3,hsc,aB,Nat.reduceMul,Nat.reduceBEq,Nat.reduceLT,Nat.reduceLeDiff,reduceCtorEq,Nat.reduceEqDiff,Nat.reduceAdd,Nat.beq]
  rw [aed (v:=.list 4 PL) (by simp only [aG,bD,Nat.reduceMul,Nat.reduceBEq,Nat.reduceLT,Nat.reduceLeDiff]) (by decide) (by decide) (by decide) (hb _ _ _)]
  simp only [flatAll,hsc,hS,p1,p2,X1,X2,s1,s2,s3,P3,aB,Nat.reduceMul,Nat.reduceBEq,Nat.reduceLT,Nat.reduceLeDiff,reduceCtorEq,Nat.reduceEqDiff,Nat.reduceAdd,Nat.beq]
  rw [ih _ (by simp only [hi1];simp only [aB,Nat.reduceMul,Nat.reduceBEq,Nat.reduceLT,Nat.reduceLeDiff,reduceCtorEq,Nat.reduceEqDiff,Nat.reduceAdd,Nat.beq]<;>rfl)]
  all_goals rfl
 ·intro rb
  simp only [I5,Int.lt_irrefl,List.length_map,aB,Nat.reduceMul,Nat.reduceBEq,Nat.reduceLT,Nat.reduceLeDiff,reduceCtorEq,Nat.reduceEqDiff,Nat.reduceAdd,Nat.beq]
def Xj (l:List Pt) (r:Int):Int:=if o7 l=0 then if r<0∨(l.length:Int)≤r then 7 else 0 else o7 l
def Ep (l:List Pt) (r:Int):Prm:=if Xj l r=0 then dQ (kT l) l.length (dw l.length r.toNat) (l.length - 1) else ⟨[],[],0⟩
theorem Es {l:List Pt} (h:o7 l=0):ajb l:=by
 obtain ⟨g1,g2,g3,g4⟩:=uQ h
 refine ⟨fun i k h1 h2=>?_,fun i k=>?_⟩
 ·have m1:=List.getElem_mem h1
  have m2:=List.getElem_mem h2
  have e:=ai3 (g1 _ m1) (g1 _ m2) (g4 _ m1 _ m2)
  unfold kT
  rw [List.getD_eq_getElem?_getD,List.getD_eq_getElem?_getD,List.getElem?_eq_getElem h1,List.getElem?_eq_getElem h2]
  exact e
 ·unfold kT
  by_cases hi:i<l.length
  ·have m1:=List.getElem_mem hi
   have q:=oh (g1 _ m1)
   have q2:=(mO q.2.1).1
   rw [List.getD_eq_getElem?_getD,List.getElem?_eq_getElem hi]
   have:=JL (a:=l[i]) (l.getD k ⟨0,[],[],[]⟩) (fun v=>Ed q.2.1 v) l[i].img.length
   show qL l[i] _ l[i].img.length≤_
   omega
  ·rw [List.getD_eq_getElem?_getD,List.getElem?_eq_none (by omega)]
   exact Nat.zero_le _
theorem Xk (n r:Nat):(dw n r).par.map eI=(List.replicate n (PV.int .i64 0)).set r (.int .i64 (-1)):=by
 unfold dw
 rw [List.map_set,List.map_replicate];rfl
theorem Xl (n r:Nat):(dw n r).ins.map eB=(List.replicate n (PV.bool false)).set r (.bool true):=by
 unfold dw
 rw [List.map_set,List.map_replicate];rfl
set_option maxRecDepth 20000 in
theorem ajc {l:List Pt} {r:Int} (hl:l.length≤lim) (hf:∀ p∈l,WG p):cal env 24 [.list 4 (l.map eP),.int .i64 r]=some [(.list 1 ((Ep l r).par.map eI),true),(.int .i64 (Ep l r).sum,false),(.int .i64 (Xj l r),false)]:=by
 have hlim:lim=1073741824:=rfl
 have e1:=aiI hl hf
 unfold Ep Xj
 by_cases c1:o7 l=0
 ·have hw:=Es c1
  obtain ⟨g1,g2,g3,g4⟩:=uQ c1
  rw [c1] at e1
  rw [if_pos c1]
  have Z:((0:Int) != 0)=false:=rfl
  by_cases c2:r<0
  ·have G1:=eq_true c2
   rw [if_pos (Or.inl c2),if_neg (by decide)]
   rw [au SS rfl];simp only [MW,aG,Nat.reduceBEq,Nat.reduceLeDiff,Nat.reduceAdd,List.length_cons,List.length_nil]
   simp only [e1,Z,G1,List.length_map,aB,Nat.reduceMul,Nat.reduceBEq,Nat.reduceLT,Nat.reduceLeDiff,reduceCtorEq,Nat.reduceEqDiff,Nat.reduceAdd,Nat.beq]
  ·have G1:=eq_false c2
   by_cases c3:(l.length:Int)≤r
   ·have G2:=eq_true c3
    have G3:(r ≥ (l.length:Int))=True:=eq_true c3
    rw [if_pos (Or.inr c3),if_neg (by decide)]
    rw [au SS rfl];simp only [MW,aG,Nat.reduceBEq,Nat.reduceLeDiff,Nat.reduceAdd,List.length_cons,List.length_nil]
    simp only [e1,Z,G1,G2,G3,List.length_map,aB,Nat.reduceMul,Nat.reduceBEq,Nat.reduceLT,Nat.reduceLeDiff,reduceCtorEq,Nat.reduceEqDiff,Nat.reduceAdd,Nat.beq]
   ·have G2:=eq_false c3
    have G3:(r ≥ (l.length:Int))=False:=eq_false c3
    rw [if_neg (show ¬ (r<0∨(l.length:Int)≤r) by omega),if_pos rfl]
    obtain ⟨u,rfl⟩:∃ u:Nat,r=(u:Int):=⟨r.toNat,by omega⟩
    rw [Int.toNat_natCast]
    have hu:u<l.length:=by omega
    have hL:=fun (st:St)=>agZ (st:=st) (l:=l) (r:=u) (Q:=dQ (kT l) l.length (dw l.length u)) (fun _=>rfl) hu (by omega) hw
    rw [show dQ (kT l) l.length (dw l.length u) 0=dw l.length u from rfl,Xk,Xl,show (dw l.length u).sum=0 from rfl] at hL
    have X1:index (.int .i64 (u:Int)) (List.replicate l.length (PV.int .i64 0)).length=some u:=by rw [List.length_replicate];exact ah hu
    have X2:index (.int .i64 (u:Int)) (List.replicate l.length (PV.bool false)).length=some u:=by rw [List.length_replicate];exact ah hu
    have p1:(List.replicate l.length (PV.int .i64 0))[u]?=some (.int .i64 0):=by rw [List.getElem?_replicate,if_pos hu]
    have p2:(List.replicate l.length (PV.bool false))[u]?=some (.bool false):=by rw [List.getElem?_replicate,if_pos hu]
    have W1:IntKind.i64.wrap ((l.length:Int) - 1)=((l.length - 1:Nat):Int):=by rw [bF (by omega)];omega
    have K1:(0≤(l.length:Int))=True:=eq_true (by omega)
    have K2:((l.length:Int)≤(lim:Int))=True:=eq_true (by omega)
    have K3:((l.length:Int)≤(l.length:Int))=True:=eq_true (Int.le_refl _)
    have K4:((l.length:Int)).toNat=l.length:=by omega
    generalize dQ (kT l) l.length (dw l.length u) (l.length - 1)=QE at *
    rw [au SS rfl];simp only [MW,aG,Nat.reduceBEq,Nat.reduceLeDiff,Nat.reduceAdd,List.length_cons,List.length_nil]
    simp only [e1,Z,G1,G2,G3,K1,K2,K3,K4,X1,X2,p1,p2,W1,List.length_map,aB,Nat.reduceMul,Nat.reduceBEq,Nat.reduceLT,Nat.reduceLeDiff,reduceCtorEq,Nat.reduceEqDiff,Nat.reduceAdd,Nat.beq]
    rw [hL _ (by simp only [aG,bD,Nat.reduceMul,Nat.reduceBEq,Nat.reduceLT,Nat.reduceLeDiff,Nat.reduceAdd,decide_true,Bool.and_self,Bool.true_and]<;>rfl)]
    simp only [e1,Z,G1,G2,G3,K1,K2,K3,K4,X1,X2,p1,p2,W1,List.length_map,aB,Nat.reduceMul,Nat.reduceBEq,Nat.reduceLT,Nat.reduceLeDiff,reduceCtorEq,Nat.reduceEqDiff,Nat.reduceAdd,Nat.beq]
 ·have Z:(o7 l != 0)=true:=by simp [c1]
  rw [if_neg c1,if_neg c1]
  rw [au SS rfl];simp only [MW,aG,Nat.reduceBEq,Nat.reduceLeDiff,Nat.reduceAdd,List.length_cons,List.length_nil]
  simp only [e1,Z,List.length_map,aB,Nat.reduceMul,Nat.reduceBEq,Nat.reduceLT,Nat.reduceLeDiff,reduceCtorEq,Nat.reduceEqDiff,Nat.reduceAdd,Nat.beq]
end Go.Proofs.YtaaokejjmdbfaaaDoor.V

namespace Go.Proofs.YtaaokejjmdbfaaaDoor.V
def okO (o:List Int) (f:List Nat) (n r:Nat):Prop:=o.length=n∧f.length=n∧(∀ i,i<n→pI f i<n)∧∀ i,i<n→i≠r→o[i]?=some ((pI f i:Nat):Int)
theorem RQ {o:List Int} {f:List Nat} {n r i:Nat} (h:okO o f n r) (hi:i<n) (hr:i≠r):(o.map eI)[i]?=some (.int .i64 ((pI f i:Nat):Int)):=by
 rw [List.getElem?_map,h.2.2.2 i hi hr];rfl
set_option maxRecDepth 20000 in
theorem ag0 {o:List Int} {f:List Nat} {n r u:Nat} {L:List PV} {tot:Int} (ho:okO o f n r) (hn:n≤1000) (hr:r<n) (hu:u<n) {st:St} (h:st.head [0,1,2,3,7,8,9,10,11,12] st.boxes.length=some ⟨sl 65 [(0,.pv (.list 1 (o.map eI))),(1,.pv (.bQ [.int .i64 n] 0)),(2,.pv (.bQ [.int .i64 r] 0)),(3,.pv (.bQ [.list 4 L] 0)),(7,.pv (.int .i64 tot)),(8,.pv (.int .i64 u)),(9,.pv (.int .i64 (nJ f ((0:Nat)) u:Nat))),(10,.pv (.int .i64 (0:Nat))),(11,.pv (.int .i64 n)),(12,.pv (.int .i64 u))],[],[],none⟩) :
  den env Jb st=some (.normal,⟨sl 65 [(0,.pv (.list 1 (o.map eI))),(1,.pv (.bQ [.int .i64 n] 0)),(2,.pv (.bQ [.int .i64 r] 0)),(3,.pv (.bQ [.list 4 L] 0)),(5,.any),(6,.any),(7,.pv (.int .i64 tot)),(8,.pv (.int .i64 u)),(9,.pv (.int .i64 (nJ f (vX f r (n+1) u) u:Nat))),(11,.pv (.int .i64 n)),(12,.pv (.int .i64 u))],[],[],none⟩):=by
 unfold Jb
 refine bJ (env:=env) (nb:=0) (vX f r (n+1) u) (fun i=>⟨sl 65 [(0,.pv (.list 1 (o.map eI))),(1,.pv (.bQ [.int .i64 n] 0)),(2,.pv (.bQ [.int .i64 r] 0)),(3,.pv (.bQ [.list 4 L] 0)),(7,.pv (.int .i64 tot)),(8,.pv (.int .i64 u)),(9,.pv (.int .i64 (nJ f (i) u:Nat))),(10,.pv (.int .i64 i)),(11,.pv (.int .i64 n)),(12,.pv (.int .i64 u))],[],[],none⟩) (fun i=>some (.normal,⟨sl 65 [(0,.pv (.list 1 (o.map eI))),(1,.pv (.bQ [.int .i64 n] 0)),(2,.pv (.bQ [.int .i64 r] 0)),(3,.pv (.bQ [.list 4 L] 0)),(5,.any),(6,.any),(7,.pv (.int .i64 tot)),(8,.pv (.int .i64 u)),(9,.pv (.int .i64 (nJ f (vX f r (n+1) u) u:Nat))),(11,.pv (.int .i64 n)),(12,.pv (.int .i64 u))],[],[],none⟩)) h (fun _=>rfl) (fun _=>by simp only [aG,bD,Nat.reduceMul,Nat.reduceBEq,Nat.reduceLT,Nat.reduceLeDiff,Nat.reduceAdd,decide_true,Bool.and_self,Bool.true_and]) ?_ ?_
 ·intro i rb hi ih
  have hlim:lim=1073741824:=rfl
  have hd:=En f r (n+1) u
  have hi1:=bP hi (by omega)
  have hne:=RN f r (n+1) u i hi
  have hlt:=RP ho.2.2.1 hu i
  have hx:=RQ ho hlt hne
  have hfl:=ho.2.2.1 _ hlt
  have hsu:nJ f (i+1) u=pI f (nJ f i u):=rfl
  have hol:(o.map eI).length=n:=by rw [List.length_map];exact ho.1
  rw [← hsu] at hx hfl
  have X1:index (.int .i64 ((nJ f i u:Nat):Int)) (o.map eI).length=some (nJ f i u):=by rw [hol];exact ah hlt
  generalize nJ f (i+1) u=k2 at *
  generalize nJ f i u=k at *
  have G1:(((k:Nat):Int) != ((r:Nat):Int))=true:=by simp;omega
  have F1:((i:Int)≤(n:Int))=True:=eq_true (by omega)
  have F2:(((k2:Nat):Int)<0)=False:=eq_false (by omega)
  have F3:(((k2:Nat):Int) ≥ (n:Int))=False:=eq_false (by omega)
  have F4:((n:Int)≤((k2:Nat):Int))=False:=eq_false (by omega)
  generalize o.map eI=O at *
  simp only [yA,G1,F1,F2,F3,F4,hx,X1,List.length_map,aB,Nat.reduceMul,Nat.reduceBEq,Nat.reduceLT,Nat.reduceLeDiff,reduceCtorEq,Nat.reduceEqDiff,Nat.reduceAdd,Nat.beq]
  rw [ih _ (by simp only [hi1];simp only [aB,Nat.reduceMul,Nat.reduceBEq,Nat.reduceLT,Nat.reduceLeDiff,reduceCtorEq,Nat.reduceEqDiff,Nat.reduceAdd,Nat.beq]<;>rfl)]
 ·intro rb
  have hd:=En f r (n+1) u
  rcases TV f r (n+1) u with h|h
  ·have G1:(((nJ f (vX f r (n+1) u) u:Nat):Int) != ((r:Nat):Int))=false:=by rw [h];simp
   simp only [yA,G1,List.length_map,aB,Nat.reduceMul,Nat.reduceBEq,Nat.reduceLT,Nat.reduceLeDiff,reduceCtorEq,Nat.reduceEqDiff,Nat.reduceAdd,Nat.beq]
  ·by_cases c:nJ f (vX f r (n+1) u) u=r
   ·have G1:(((nJ f (vX f r (n+1) u) u:Nat):Int) != ((r:Nat):Int))=false:=by rw [c];simp
    simp only [yA,G1,List.length_map,aB,Nat.reduceMul,Nat.reduceBEq,Nat.reduceLT,Nat.reduceLeDiff,reduceCtorEq,Nat.reduceEqDiff,Nat.reduceAdd,Nat.beq]
   ·have G1:(((nJ f (vX f r (n+1) u) u:Nat):Int) != ((r:Nat):Int))=true:=by simp;omega
    have F1:(((vX f r (n+1) u:Nat):Int)≤(n:Int))=False:=eq_false (by omega)
    simp only [yA,G1,F1,List.length_map,aB,Nat.reduceMul,Nat.reduceBEq,Nat.reduceLT,Nat.reduceLeDiff,reduceCtorEq,Nat.reduceEqDiff,Nat.reduceAdd,Nat.beq]
def pJ (w:Nat→Nat→Nat) (f:List Nat) (r u:Nat):Int:=((oth u r).map fun x=>((w x (pI f x):Nat):Int)).sum
theorem G9 (w:Nat→Nat→Nat) (f:List Nat) (r u:Nat):pJ w f r (u+1)=if u=r then pJ w f r u else pJ w f r u+((w u (pI f u):Nat):Int):=by
 unfold pJ oth
 rw [List.range_succ,List.filter_append]
 by_cases c:u=r
 ·subst c
  rw [if_pos rfl,List.filter_cons_of_neg (by simp),List.filter_nil,List.append_nil]
 ·rw [if_neg c,List.filter_cons_of_pos (by simpa using c),List.filter_nil,List.map_append,List.sum_append]
  simp
theorem TY {w:Nat→Nat→Nat} {M:Nat} (hM:∀ i k,w i k≤M) (f:List Nat) (r:Nat):∀ u,0≤pJ w f r u∧pJ w f r u≤((u * M:Nat):Int)
 |0=>⟨Int.le_refl _,by simp [pJ,oth]⟩
 |u+1=>by
  have h:=TY hM f r u
  have:=hM u (pI f u)
  rw [G9,Nat.succ_mul]
  split<;>omega
def wG (w:Nat→Nat→Nat) (f:List Nat) (r n:Nat):Nat→List Nat→Option (Ex × St)
 |u,[]=>some (.normal,⟨sl 65 [(5,.any),(6,.any),(7,.pv (.int .i64 (pJ w f r u)))],[],[],none⟩)
 |u,_ :: l=>if rch f r n u=true then wG w f r n (u+1) l else some (.ret,⟨sl 65 [(5,.pv (.int .i64 0)),(6,.pv (.bool false)),(7,.pv (.int .i64 (pJ w f r u)))],[],[],none⟩)
theorem Et {w:Nat→Nat→Nat} {f:List Nat} {r n u:Nat} (h:u<n):wG w f r n u ((List.range n).drop u)=if rch f r n u=true then wG w f r n (u+1) ((List.range n).drop (u+1)) else some (.ret,⟨sl 65 [(5,.pv (.int .i64 0)),(6,.pv (.bool false)),(7,.pv (.int .i64 (pJ w f r u)))],[],[],none⟩):=by
 rw [List.drop_eq_getElem_cons (by simpa using h),wG]
theorem He (w:Nat→Nat→Nat) (f:List Nat) (r n:Nat):wG w f r n n ((List.range n).drop n)=some (.normal,⟨sl 65 [(5,.any),(6,.any),(7,.pv (.int .i64 (pJ w f r n)))],[],[],none⟩):=by
 rw [List.drop_of_length_le (by simp),wG]
theorem Aw (w:Nat→Nat→Nat) (f:List Nat) (r n:Nat):∀ m u,u+m=n→(((List.range n).drop u).all (rch f r n)=true∧wG w f r n u ((List.range n).drop u)=some (.normal,⟨sl 65 [(5,.any),(6,.any),(7,.pv (.int .i64 (pJ w f r n)))],[],[],none⟩))∨(((List.range n).drop u).all (rch f r n)=false∧∃ x,wG w f r n u ((List.range n).drop u)=some (.ret,⟨sl 65 [(5,.pv (.int .i64 0)),(6,.pv (.bool false)),(7,.pv x)],[],[],none⟩))
 |0,u,h=>by
  obtain rfl:u=n:=by omega
  exact .inl ⟨by rw [List.drop_of_length_le (by simp)];rfl,He ..⟩
 |m+1,u,h=>by
  have hu:u<n:=by omega
  have e:(List.range n).drop u=u :: (List.range n).drop (u+1):=by
   rw [List.drop_eq_getElem_cons (by simpa using hu),List.getElem_range]
  rw [Et hu]
  cases c:rch f r n u with
  |true =>
   rw [if_pos rfl,e,List.all_cons,c,Bool.true_and]
   exact Aw w f r n m (u+1) (by omega)
  |false =>
   rw [if_neg (by decide),e,List.all_cons,c,Bool.false_and]
   exact .inr ⟨rfl,_,rfl⟩
set_option maxRecDepth 20000 in
theorem abe {o:List Int} {f:List Nat} {l:List Pt} {n r:Nat} (ho:okO o f n r) (hn:n≤1000) (hr:r<n) (hl:l.length=n) (hM:∀ i k,kT l i k≤1000000) (hW:∀ i k (h1:i<l.length) (h2:k<l.length),cal env 34 [eP l[i],eP l[k]]=some [(.int .i64 (kT l i k:Nat),false)]) {st:St} (h:st.head [0,1,2,3,7,11,12] st.boxes.length=some ⟨sl 65 [(0,.pv (.list 1 (o.map eI))),(1,.pv (.bQ [.int .i64 n] 0)),(2,.pv (.bQ [.int .i64 r] 0)),(3,.pv (.bQ [.list 4 (l.map eP)] 0)),(7,.pv (.int .i64 (pJ (kT l) f r ((0:Nat))))),(11,.pv (.int .i64 n)),(12,.pv (.int .i64 (0:Nat)))],[],[],none⟩) :
  den env Jc st=wG (kT l) f r n ((0:Nat)) ((List.range n).drop ((0:Nat))):=by
 unfold Jc
 refine bJ (env:=env) (nb:=0) (n) (fun i=>⟨sl 65 [(0,.pv (.list 1 (o.map eI))),(1,.pv (.bQ [.int .i64 n] 0)),(2,.pv (.bQ [.int .i64 r] 0)),(3,.pv (.bQ [.list 4 (l.map eP)] 0)),(7,.pv (.int .i64 (pJ (kT l) f r (i)))),(11,.pv (.int .i64 n)),(12,.pv (.int .i64 i))],[],[],none⟩) (fun i=>wG (kT l) f r n (i) ((List.range n).drop (i))) h (fun _=>rfl) (fun _=>by simp only [aG,bD,Nat.reduceMul,Nat.reduceBEq,Nat.reduceLT,Nat.reduceLeDiff,Nat.reduceAdd,decide_true,Bool.and_self,Bool.true_and]) ?_ ?_
 ·intro i rb hi ih
  have hlim:lim=1073741824:=rfl
  have hi1:=bP hi (by omega)
  have F1:((i:Int)<(n:Int))=True:=eq_true (by omega)
  have hL:=fun (st:St)=>ag0 (st:=st) (u:=i) (L:=l.map eP) (tot:=pJ (kT l) f r i) ho hn hr hi
  rw [show nJ f 0 i=i from rfl] at hL
  rw [Et hi]
  have hrc:rch f r n i=(nJ f (vX f r (n+1) i) i==r):=rfl
  have hts:=G9 (kT l) f r i
  have htb:=TY hM f r i
  have hil:i<l.length:=by omega
  have hx:(l.map eP)[i]?=some (eP l[i]):=by rw [List.getElem?_map,List.getElem?_eq_getElem hil];rfl
  have hol:(o.map eI).length=n:=by rw [List.length_map];exact ho.1
  have hpl:(l.map eP).length=n:=by rw [List.length_map];exact hl
  have X1:index (.int .i64 ((i:Nat):Int)) (o.map eI).length=some i:=by rw [hol];exact ah hi
  have X2:index (.int .i64 ((i:Nat):Int)) (l.map eP).length=some i:=by rw [hpl];exact ah hi
  have P4:∀ a b c d:PV,part [a,b,c,d] 0 (some 4)=some (.agg [a,b,c,d]):=fun _ _ _ _=>rfl
  cases c:rch f r n i with
  |false =>
   rw [if_neg (by decide)]
   rw [c] at hrc
   have G1:(((nJ f (vX f r (n+1) i) i:Nat):Int) != ((r:Nat):Int))=true:=by
    have h:nJ f (vX f r (n+1) i) i≠r:=by simpa using hrc.symm
    simp;omega
   simp only [yB,F1,List.length_map,aB,Nat.reduceMul,Nat.reduceBEq,Nat.reduceLT,Nat.reduceLeDiff,reduceCtorEq,Nat.reduceEqDiff,Nat.reduceAdd,Nat.beq]
   rw [hL _ (by simp only [aG,bD,Nat.reduceMul,Nat.reduceBEq,Nat.reduceLT,Nat.reduceLeDiff,Nat.reduceAdd,decide_true,Bool.and_self,Bool.true_and]<;>rfl)]
   simp only [G1,List.length_map,aB,Nat.reduceMul,Nat.reduceBEq,Nat.reduceLT,Nat.reduceLeDiff,reduceCtorEq,Nat.reduceEqDiff,Nat.reduceAdd,Nat.beq]
  |true =>
   rw [if_pos rfl]
   rw [c] at hrc
   have G1:(((nJ f (vX f r (n+1) i) i:Nat):Int) != ((r:Nat):Int))=false:=by
    have h:nJ f (vX f r (n+1) i) i=r:=by simpa using hrc.symm
    rw [h];simp
   by_cases c2:i=r
   ·have G2:(((i:Nat):Int) != ((r:Nat):Int))=false:=by rw [c2];simp
    rw [if_pos c2] at hts
    simp only [yB,F1,List.length_map,aB,Nat.reduceMul,Nat.reduceBEq,Nat.reduceLT,Nat.reduceLeDiff,reduceCtorEq,Nat.reduceEqDiff,Nat.reduceAdd,Nat.beq]
    rw [hL _ (by simp only [aG,bD,Nat.reduceMul,Nat.reduceBEq,Nat.reduceLT,Nat.reduceLeDiff,Nat.reduceAdd,decide_true,Bool.and_self,Bool.true_and]<;>rfl)]
    simp only [G1,G2,List.length_map,aB,Nat.reduceMul,Nat.reduceBEq,Nat.reduceLT,Nat.reduceLeDiff,reduceCtorEq,Nat.reduceEqDiff,Nat.reduceAdd,Nat.beq]
    rw [ih _ (by simp only [hi1,hts];simp only [aB,Nat.reduceMul,Nat.reduceBEq,Nat.reduceLT,Nat.reduceLeDiff,reduceCtorEq,Nat.reduceEqDiff,Nat.reduceAdd,Nat.beq]<;>rfl)]
   ·have G2:(((i:Nat):Int) != ((r:Nat):Int))=true:=by simp;omega
    rw [if_neg c2] at hts
    have hy0:=RQ ho hi c2
    have hfl:=ho.2.2.1 i hi
    have ajd:pI f i<l.length:=by omega
    have hy:(l.map eP)[pI f i]?=some (eP l[pI f i]):=by rw [List.getElem?_map,List.getElem?_eq_getElem ajd];rfl
    have X3:index (.int .i64 ((pI f i:Nat):Int)) (l.map eP).length=some (pI f i):=by rw [hpl];exact ah hfl
    have e1:=hW i (pI f i) hil ajd
    have hm1:=hM i (pI f i)
    have W1:IntKind.i64.wrap (pJ (kT l) f r i+((kT l i (pI f i):Nat):Int))=pJ (kT l) f r (i+1):=by rw [hts];exact bF (by omega)
    rw [gK] at hx hy
    rw [gK,gK] at e1
    generalize hPL:l.map eP=PL at *
    generalize o.map eI=O at *
    simp only [yB,F1,List.length_map,aB,Nat.reduceMul,Nat.reduceBEq,Nat.reduceLT,Nat.reduceLeDiff,reduceCtorEq,Nat.reduceEqDiff,Nat.reduceAdd,Nat.beq]
    rw [hL _ (by simp only [aG,bD,Nat.reduceMul,Nat.reduceBEq,Nat.reduceLT,Nat.reduceLeDiff,Nat.reduceAdd,decide_true,Bool.and_self,Bool.true_and]<;>rfl)]
    simp only [G1,G2,X1,X2,X3,hx,hy,hy0,e1,P4,W1,List.length_map,aB,Nat.reduceMul,Nat.reduceBEq,Nat.reduceLT,Nat.reduceLeDiff,reduceCtorEq,Nat.reduceEqDiff,Nat.reduceAdd,Nat.beq]
    rw [ih _ (by simp only [hi1];simp only [aB,Nat.reduceMul,Nat.reduceBEq,Nat.reduceLT,Nat.reduceLeDiff,reduceCtorEq,Nat.reduceEqDiff,Nat.reduceAdd,Nat.beq]<;>rfl)]
 ·intro rb
  rw [He]
  simp only [yB,Int.lt_irrefl,List.length_map,aB,Nat.reduceMul,Nat.reduceBEq,Nat.reduceLT,Nat.reduceLeDiff,reduceCtorEq,Nat.reduceEqDiff,Nat.reduceAdd,Nat.beq]
theorem aeT {o:List Int} {f:List Nat} {l:List Pt} {n r:Nat} (ho:okO o f n r) (hn:n≤1000) (hr:r<n) (hl:l.length=n) (hM:∀ i k,kT l i k≤1000000) (hW:∀ i k (h1:i<l.length) (h2:k<l.length),cal env 34 [eP l[i],eP l[k]]=some [(.int .i64 (kT l i k:Nat),false)]) :
  cal env 33 [.list 1 (o.map eI),.bQ [.int .i64 n] 0,.bQ [.int .i64 r] 0,.bQ [.list 4 (l.map eP)] 0]=some [(.int .i64 (if Eo f r n=true then pJ (kT l) f r n else 0),false),(.bool (Eo f r n),false)]:=by
 have hL:=fun (st:St)=>abe (st:=st) ho hn hr hl hM hW
 rw [show pJ (kT l) f r 0=0 from rfl] at hL
 rcases Aw (kT l) f r n n 0 (by omega) with ⟨h1,h2⟩|⟨h1,x,h2⟩
 ·rw [List.drop_zero] at h1
  have e:Eo f r n=true:=h1
  rw [h2] at hL
  rw [e,if_pos rfl]
  rw [au aeF rfl];simp only [VW,aG,Nat.reduceBEq,Nat.reduceLeDiff,Nat.reduceAdd,List.length_cons,List.length_nil]
  simp only [aB,Nat.reduceMul,Nat.reduceBEq,Nat.reduceLT,Nat.reduceLeDiff,reduceCtorEq,Nat.reduceEqDiff,Nat.reduceAdd,Nat.beq]
  rw [hL _ (by simp only [aG,bD,Nat.reduceMul,Nat.reduceBEq,Nat.reduceLT,Nat.reduceLeDiff,Nat.reduceAdd,decide_true,Bool.and_self,Bool.true_and]<;>rfl)]
  simp only [aB,Nat.reduceMul,Nat.reduceBEq,Nat.reduceLT,Nat.reduceLeDiff,reduceCtorEq,Nat.reduceEqDiff,Nat.reduceAdd,Nat.beq]
 ·rw [List.drop_zero] at h1
  have e:Eo f r n=false:=h1
  rw [h2] at hL
  rw [e,if_neg (by decide)]
  rw [au aeF rfl];simp only [VW,aG,Nat.reduceBEq,Nat.reduceLeDiff,Nat.reduceAdd,List.length_cons,List.length_nil]
  simp only [aB,Nat.reduceMul,Nat.reduceBEq,Nat.reduceLT,Nat.reduceLeDiff,reduceCtorEq,Nat.reduceEqDiff,Nat.reduceAdd,Nat.beq]
  rw [hL _ (by simp only [aG,bD,Nat.reduceMul,Nat.reduceBEq,Nat.reduceLT,Nat.reduceLeDiff,Nat.reduceAdd,decide_true,Bool.and_self,Bool.true_and]<;>rfl)]
  simp only [aB,Nat.reduceMul,Nat.reduceBEq,Nat.reduceLT,Nat.reduceLeDiff,reduceCtorEq,Nat.reduceEqDiff,Nat.reduceAdd,Nat.beq]
end Go.Proofs.YtaaokejjmdbfaaaDoor.V

namespace Go.Proofs.YtaaokejjmdbfaaaDoor.V
def jm (c n r:Nat):Nat→Nat
 |0=>c
 |u+1=>if u=r then jm c n r u else jm c n r u / n
theorem Oj (c n r:Nat):∀ u,jm c n r u≤c
 |0=>Nat.le_refl _
 |u+1=>by
  have h:=Oj c n r u
  unfold jm
  split
  ·exact h
  ·exact Nat.le_trans (Nat.div_le_self _ _) h
def kU (par:List Int) (c n r m:Nat):List Int:=par.mapIdx fun u x=>if u<m∧u≠r then ((jm c n r u % n:Nat):Int) else x
theorem jI (par:List Int) (c n r m:Nat):(kU par c n r m).length=par.length:=by simp [kU]
theorem tq {par:List Int} {c n r m k:Nat} (h:k<(kU par c n r m).length):(kU par c n r m)[k]=if k<m∧k≠r then ((jm c n r k % n:Nat):Int) else par[k]'(by rw [jI] at h;exact h):=List.getElem_mapIdx
theorem Xm (par:List Int) (c n r:Nat):kU par c n r 0=par:=by
 apply List.ext_getElem (jI ..)
 intro k h1 h2
 rw [tq,if_neg (by omega)]
theorem abf {par:List Int} {c n r m:Nat} (h:m≠r):(kU par c n r m).set m ((jm c n r m % n:Nat):Int)=kU par c n r (m+1):=by
 apply List.ext_getElem
 ·simp [jI]
 ·intro k h1 h2
  rw [List.getElem_set,tq,tq]
  by_cases c1:m=k
  ·subst c1;rw [if_pos rfl,if_pos ⟨by omega,h⟩]
  ·rw [if_neg c1]
   by_cases c2:k<m∧k≠r
   ·rw [if_pos c2,if_pos (by omega)]
   ·rw [if_neg c2,if_neg (by omega)]
theorem Xn {par:List Int} {c n r m:Nat} (h:m=r):kU par c n r (m+1)=kU par c n r m:=by
 apply List.ext_getElem
 ·simp [jI]
 ·intro k h1 h2
  rw [tq,tq]
  by_cases c2:k<m∧k≠r
  ·rw [if_pos c2,if_pos (by omega)]
  ·rw [if_neg c2,if_neg (by omega)]
set_option maxRecDepth 20000 in
theorem aje {par:List Int} {c n r:Nat} {L:List PV} {B0 P0:PV} {sum:Int} {cs:List BV} (hp:par.length=n) (h0:1≤n) (hn:n≤1000) (hc:c<256) {st:St} (h:st.head [0,7,8,9,10,11,13,16,17,44,62,77,82,83] st.boxes.length=some ⟨sl 195 [(0,.pv B0),(7,.aA 1 0),(8,.aA 2 0),(9,.aA 3 0),(10,.pv P0),(11,.pv (.int .i64 sum)),(13,.fn 33 [.aA 2 0,.aA 3 0,.aA 1 0]),(16,.row 1 ((kU par c n r ((0:Nat))).map eI)),(17,.pv (.int .i64 (jm c n r ((0:Nat)):Nat))),(44,.any),(62,.fn 33 [.aA 2 0,.aA 3 0,.aA 1 0]),(77,.any),(82,.pv (.int .i64 n)),(83,.pv (.int .i64 (0:Nat)))],[⟨false,cs⟩,⟨false,[.pv (.list 4 L)]⟩,⟨false,[.pv (.int .i64 n)]⟩,⟨false,[.pv (.int .i64 r)]⟩],[],none⟩) :
  den env QK st=some (.normal,⟨sl 195 [(0,.pv B0),(6,.any),(7,.aA 1 0),(8,.aA 2 0),(9,.aA 3 0),(10,.pv P0),(11,.pv (.int .i64 sum)),(13,.fn 33 [.aA 2 0,.aA 3 0,.aA 1 0]),(16,.row 1 ((kU par c n r n).map eI)),(44,.any)],[⟨false,cs⟩,⟨false,[.pv (.list 4 L)]⟩,⟨false,[.pv (.int .i64 n)]⟩,⟨false,[.pv (.int .i64 r)]⟩],[],none⟩):=by
 unfold QK
 refine bJ (env:=env) (nb:=4) (n) (fun i=>⟨sl 195 [(0,.pv B0),(7,.aA 1 0),(8,.aA 2 0),(9,.aA 3 0),(10,.pv P0),(11,.pv (.int .i64 sum)),(13,.fn 33 [.aA 2 0,.aA 3 0,.aA 1 0]),(16,.row 1 ((kU par c n r (i)).map eI)),(17,.pv (.int .i64 (jm c n r (i):Nat))),(44,.any),(62,.fn 33 [.aA 2 0,.aA 3 0,.aA 1 0]),(77,.any),(82,.pv (.int .i64 n)),(83,.pv (.int .i64 i))],[⟨false,cs⟩,⟨false,[.pv (.list 4 L)]⟩,⟨false,[.pv (.int .i64 n)]⟩,⟨false,[.pv (.int .i64 r)]⟩],[],none⟩) (fun i=>some (.normal,⟨sl 195 [(0,.pv B0),(6,.any),(7,.aA 1 0),(8,.aA 2 0),(9,.aA 3 0),(10,.pv P0),(11,.pv (.int .i64 sum)),(13,.fn 33 [.aA 2 0,.aA 3 0,.aA 1 0]),(16,.row 1 ((kU par c n r n).map eI)),(44,.any)],[⟨false,cs⟩,⟨false,[.pv (.list 4 L)]⟩,⟨false,[.pv (.int .i64 n)]⟩,⟨false,[.pv (.int .i64 r)]⟩],[],none⟩)) h (fun _=>rfl) (fun _=>by exact yF rfl (Nat.le_refl 4) rfl) ?_ ?_
 ·intro i rb hi ih
  have hlim:lim=1073741824:=rfl
  have hi1:=bP hi (by omega)
  have F1:((i:Int)<(n:Int))=True:=eq_true (by omega)
  have hcl:=Oj c n r i
  have hol:((kU par c n r i).map eI).length=n:=by rw [List.length_map,jI,hp]
  have X1:index (.int .i64 ((i:Nat):Int)) ((kU par c n r i).map eI).length=some i:=by rw [hol];exact ah hi
  have hq:((kU par c n r i).map eI)[i]?=some (.int .i64 ((kU par c n r i)[i]'(by rw [jI,hp];exact hi))):=by rw [List.getElem?_map,List.getElem?_eq_getElem (by rw [jI,hp];exact hi)];rfl
  have T1:((jm c n r i:Nat):Int).tmod (n:Int)=((jm c n r i % n:Nat):Int):=by rw [Int.tmod_eq_emod_of_nonneg (by omega)];omega
  have T2:((jm c n r i:Nat):Int).tdiv (n:Int)=((jm c n r i / n:Nat):Int):=by rw [Int.tdiv_eq_ediv_of_nonneg (by omega)];omega
  have T3:((n:Int)=0)=False:=eq_false (by omega)
  have hdv:jm c n r i / n≤jm c n r i:=Nat.div_le_self _ _
  have W1:IntKind.i64.wrap ((jm c n r i / n:Nat):Int)=((jm c n r i / n:Nat):Int):=bF (by have:=Nat.lt_of_le_of_lt hdv (Nat.lt_of_le_of_lt hcl hc);generalize jm c n r i / n=q at *;omega)
  have hcs:jm c n r (i+1)=if i=r then jm c n r i else jm c n r i / n:=rfl
  by_cases c1:i=r
  ·have G1:(((i:Nat):Int) != ((r:Nat):Int))=false:=by rw [c1];simp
   rw [if_pos c1] at hcs
   have hsk:=Xn (par:=par) (c:=c) (n:=n) c1
   simp only [IW,F1,G1,List.length_map,aB,Nat.reduceMul,Nat.reduceBEq,Nat.reduceLT,Nat.reduceLeDiff,reduceCtorEq,Nat.reduceEqDiff,Nat.reduceAdd,Nat.beq]
   rw [ih _ (by simp only [hi1,hcs,hsk];simp only [aB,Nat.reduceMul,Nat.reduceBEq,Nat.reduceLT,Nat.reduceLeDiff,reduceCtorEq,Nat.reduceEqDiff,Nat.reduceAdd,Nat.beq]<;>rfl)]
  ·have G1:(((i:Nat):Int) != ((r:Nat):Int))=true:=by simp;omega
   rw [if_neg c1] at hcs
   have hst:((kU par c n r i).map eI).set i (.int .i64 ((jm c n r i % n:Nat):Int))=(kU par c n r (i+1)).map eI:=by rw [← abf c1,List.map_set];rfl
   generalize (kU par c n r i).map eI=O at *
   simp only [IW,F1,G1,X1,hq,T1,T2,T3,W1,hst,List.length_map,aB,Nat.reduceMul,Nat.reduceBEq,Nat.reduceLT,Nat.reduceLeDiff,reduceCtorEq,Nat.reduceEqDiff,Nat.reduceAdd,Nat.beq]
   rw [ih _ (by simp only [hi1,hcs];simp only [aB,Nat.reduceMul,Nat.reduceBEq,Nat.reduceLT,Nat.reduceLeDiff,reduceCtorEq,Nat.reduceEqDiff,Nat.reduceAdd,Nat.beq]<;>rfl)]
 ·intro rb
  simp only [IW,Int.lt_irrefl,List.length_map,aB,Nat.reduceMul,Nat.reduceBEq,Nat.reduceLT,Nat.reduceLeDiff,reduceCtorEq,Nat.reduceEqDiff,Nat.reduceAdd,Nat.beq]
def kV (l:List Pt) (k:Nat):kC:=(l.getD k ⟨0,[],[],[]⟩).img
def Xs (l:List Pt) (v s k:Nat):dY:=((kV l k).getD v []).getD s V.ae3
def Xw (X:Nat→dY) (f:List Nat) (i:Nat):Nat→Bool
 |0=>true
 |t+1=>Xw X f i t&&decide (X (nJ f t i)=X (nJ f (t+1) i))
theorem Ua {X:Nat→dY} {f:List Nat} {i:Nat}:∀ {t:Nat},Xw X f i t=true→X i=X (nJ f t i)
 |0,_=>rfl
 |t+1,h=>by
  unfold Xw at h
  rw [Bool.and_eq_true,decide_eq_true_eq] at h
  exact (Ua h.1).trans h.2
def Hf (base:kC) (l:List Pt):Prop:=∀ k,k<l.length→(kV l k).length=base.length∧∀ v,v<base.length→((kV l k).getD v []).length=(base.getD v []).length
theorem Ub {l:List Pt} {k:Nat} (h:k<l.length):∃ a b c,(l.map eP)[k]?=some (.agg [.int .i64 a,.list 3 b,.list 2 c,.list 1 ((kV l k).map aY)]):=by
 refine ⟨l[k].site,l[k].lin.map vU,l[k].dirty.map jU,?_⟩
 rw [List.getElem?_map,List.getElem?_eq_getElem h]
 unfold kV
 rw [List.getD_eq_getElem?_getD,List.getElem?_eq_getElem h]
 rfl
theorem Kr {l:List Pt} {v s k:Nat} (h:s<((kV l k).getD v []).length):(((kV l k).getD v []).map ng)[s]?=some (.agg (lq (Xs l v s k))):=by
 unfold Xs
 generalize (kV l k).getD v []=A at *
 rw [List.getElem?_map,List.getElem?_eq_getElem h,List.getD_eq_getElem?_getD,List.getElem?_eq_getElem h]
 rfl
set_option maxRecDepth 20000 in
theorem ael {base:kC} {l:List Pt} {o:List Int} {f:List Nat} {n r u v s:Nat} {P0 P1 P2 P3 P4 P5 P6:PV} {cs:List BV} (ho:okO o f n r) (hl:l.length=n) (hr:r<n) (hu:u<n) (hB:Hf base l) (hv:v<base.length) (hs:s<(base.getD v []).length) (hn:n≤1000) (hre:nJ f (vX f r (n+1) u) u=r) {st:St} (h:st.head [0,7,9,10,21,22,23,24,25,44,111,112,116,117,124,125] st.boxes.length=some ⟨sl 195 [(0,.pv P0),(7,.aA 1 0),(9,.aA 3 0),(10,.pv (.list 1 (o.map eI))),(21,.pv (.int .i64 u)),(22,.pv (.int .i64 v)),(23,.pv (.int .i64 s)),(24,.pv (.bool (Xw (Xs l v s) f u ((0:Nat))))),(25,.pv (.int .i64 (nJ f ((0:Nat)) u:Nat))),(44,.any),(111,.pv P1),(112,.pv P2),(116,.pv P3),(117,.pv P4),(124,.pv P5),(125,.pv P6)],[⟨false,cs⟩,⟨false,[.pv (.list 4 (l.map eP))]⟩,⟨false,[.pv (.int .i64 n)]⟩,⟨false,[.pv (.int .i64 r)]⟩],[],none⟩) :
  den env QL st=some (.normal,⟨sl 195 [(0,.pv P0),(6,.any),(7,.aA 1 0),(9,.aA 3 0),(10,.pv (.list 1 (o.map eI))),(21,.pv (.int .i64 u)),(22,.pv (.int .i64 v)),(23,.pv (.int .i64 s)),(24,.pv (.bool (Xw (Xs l v s) f u (vX f r (n+1) u)))),(44,.any),(111,.pv P1),(112,.pv P2),(116,.pv P3),(117,.pv P4),(124,.pv P5),(125,.pv P6)],[⟨false,cs⟩,⟨false,[.pv (.list 4 (l.map eP))]⟩,⟨false,[.pv (.int .i64 n)]⟩,⟨false,[.pv (.int .i64 r)]⟩],[],none⟩):=by
 unfold QL
 refine bJ (env:=env) (nb:=4) (vX f r (n+1) u) (fun i=>⟨sl 195 [(0,.pv P0),(7,.aA 1 0),(9,.aA 3 0),(10,.pv (.list 1 (o.map eI))),(21,.pv (.int .i64 u)),(22,.pv (.int .i64 v)),(23,.pv (.int .i64 s)),(24,.pv (.bool (Xw (Xs l v s) f u (i)))),(25,.pv (.int .i64 (nJ f (i) u:Nat))),(44,.any),(111,.pv P1),(112,.pv P2),(116,.pv P3),(117,.pv P4),(124,.pv P5),(125,.pv P6)],[⟨false,cs⟩,⟨false,[.pv (.list 4 (l.map eP))]⟩,⟨false,[.pv (.int .i64 n)]⟩,⟨false,[.pv (.int .i64 r)]⟩],[],none⟩) (fun i=>some (.normal,⟨sl 195 [(0,.pv P0),(6,.any),(7,.aA 1 0),(9,.aA 3 0),(10,.pv (.list 1 (o.map eI))),(21,.pv (.int .i64 u)),(22,.pv (.int .i64 v)),(23,.pv (.int .i64 s)),(24,.pv (.bool (Xw (Xs l v s) f u (vX f r (n+1) u)))),(44,.any),(111,.pv P1),(112,.pv P2),(116,.pv P3),(117,.pv P4),(124,.pv P5),(125,.pv P6)],[⟨false,cs⟩,⟨false,[.pv (.list 4 (l.map eP))]⟩,⟨false,[.pv (.int .i64 n)]⟩,⟨false,[.pv (.int .i64 r)]⟩],[],none⟩)) h (fun _=>rfl) (fun _=>by simp only [aG,bD,Nat.reduceMul,Nat.reduceBEq,Nat.reduceLT,Nat.reduceLeDiff,Nat.reduceAdd,decide_true,Bool.and_self,Bool.true_and]) ?_ ?_
 ·intro i rb hi ih
  have hlim:lim=1073741824:=rfl
  have hd:=En f r (n+1) u
  have hne:=RN f r (n+1) u i hi
  have hlt:=RP ho.2.2.1 hu i
  have hx:=RQ ho hlt hne
  have hfl:=ho.2.2.1 _ hlt
  have hsu:nJ f (i+1) u=pI f (nJ f i u):=rfl
  have hsm:Xw (Xs l v s) f u (i+1)=(Xw (Xs l v s) f u i&&decide (Xs l v s (nJ f i u)=Xs l v s (nJ f (i+1) u))):=rfl
  have hol:(o.map eI).length=n:=by rw [List.length_map];exact ho.1
  have hpl:(l.map eP).length=n:=by rw [List.length_map];exact hl
  rw [← hsu] at hx hfl
  have X1:index (.int .i64 ((nJ f i u:Nat):Int)) (o.map eI).length=some (nJ f i u):=by rw [hol];exact ah hlt
  have X2:index (.int .i64 ((nJ f i u:Nat):Int)) (l.map eP).length=some (nJ f i u):=by rw [hpl];exact ah hlt
  have X3:index (.int .i64 ((nJ f (i+1) u:Nat):Int)) (l.map eP).length=some (nJ f (i+1) u):=by rw [hpl];exact ah hfl
  generalize nJ f (i+1) u=k2 at *
  generalize nJ f i u=k at *
  have hk:=hB k (by omega)
  have hk2:=hB k2 (by omega)
  obtain ⟨a1,b1,c1,p1⟩:=Ub (l:=l) (k:=k) (by omega)
  obtain ⟨a2,b2,c2,p2⟩:=Ub (l:=l) (k:=k2) (by omega)
  have v1:=oG (im:=kV l k) (v:=v) (by omega)
  have v2:=oG (im:=kV l k2) (v:=v) (by omega)
  have s1:=Kr (l:=l) (k:=k) (v:=v) (s:=s) (by rw [hk.2 v hv];exact hs)
  have s2:=Kr (l:=l) (k:=k2) (v:=v) (s:=s) (by rw [hk2.2 v hv];exact hs)
  have Y1:index (.int .i64 ((v:Nat):Int)) ((kV l k).map aY).length=some v:=by rw [List.length_map];exact ah (by omega)
  have Y2:index (.int .i64 ((v:Nat):Int)) ((kV l k2).map aY).length=some v:=by rw [List.length_map];exact ah (by omega)
  have Z1:index (.int .i64 ((s:Nat):Int)) (((kV l k).getD v []).map ng).length=some s:=by rw [List.length_map];exact ah (by rw [hk.2 v hv];exact hs)
  have Z2:index (.int .i64 ((s:Nat):Int)) (((kV l k2).getD v []).map ng).length=some s:=by rw [List.length_map];exact ah (by rw [hk2.2 v hv];exact hs)
  have G1:(((k:Nat):Int) != ((r:Nat):Int))=true:=by simp;omega
  generalize ((kV l k).getD v []).map ng=E1 at *
  generalize ((kV l k2).getD v []).map ng=E2 at *
  generalize (kV l k).map aY=I1 at *
  generalize (kV l k2).map aY=I2 at *
  generalize Xs l v s k=S1 at *
  generalize Xs l v s k2=S2 at *
  generalize l.map eP=PL at *
  generalize o.map eI=O at *
  cases c:Xw (Xs l v s) f u i with
  |false =>
   rw [c,Bool.false_and] at hsm
   simp only [IX,G1,hx,X1,List.length_map,aB,Nat.reduceMul,Nat.reduceBEq,Nat.reduceLT,Nat.reduceLeDiff,reduceCtorEq,Nat.reduceEqDiff,Nat.reduceAdd,Nat.beq]
   rw [ih _ (by simp only [hsm];simp only [aB,Nat.reduceMul,Nat.reduceBEq,Nat.reduceLT,Nat.reduceLeDiff,reduceCtorEq,Nat.reduceEqDiff,Nat.reduceAdd,Nat.beq]<;>rfl)]
  |true =>
   rw [c,Bool.true_and] at hsm
   simp only [IX,G1,hx,X1,X2,X3,p1,p2,v1,v2,s1,s2,Y1,Y2,Z1,Z2,Nv,iY,Ap,List.length_map,aB,Nat.reduceMul,Nat.reduceBEq,Nat.reduceLT,Nat.reduceLeDiff,reduceCtorEq,Nat.reduceEqDiff,Nat.reduceAdd,Nat.beq]
   rw [ih _ (by simp only [hsm];simp only [aB,Nat.reduceMul,Nat.reduceBEq,Nat.reduceLT,Nat.reduceLeDiff,reduceCtorEq,Nat.reduceEqDiff,Nat.reduceAdd,Nat.beq]<;>rfl)]
 ·intro rb
  have hd:=En f r (n+1) u
  have G1:(((nJ f (vX f r (n+1) u) u:Nat):Int) != ((r:Nat):Int))=false:=by rw [hre];simp
  simp only [IX,G1,List.length_map,aB,Nat.reduceMul,Nat.reduceBEq,Nat.reduceLT,Nat.reduceLeDiff,reduceCtorEq,Nat.reduceEqDiff,Nat.reduceAdd,Nat.beq]
end Go.Proofs.YtaaokejjmdbfaaaDoor.V

namespace Go.Proofs.YtaaokejjmdbfaaaDoor.V
set_option maxRecDepth 20000 in
theorem aem {base:kC} {l:List Pt} {o:List Int} {f:List Nat} {n r u v:Nat} {P0 P1 P2 P3 P4:PV} {cs:List BV} (ho:okO o f n r) (hl:l.length=n) (hr:r<n) (hu:u<n) (hB:Hf base l) (hv:v<base.length) (hm:(base.getD v []).length≤4096) (hn:n≤1000) (hre:nJ f (vX f r (n+1) u) u=r) {st:St} (h:st.head [0,7,9,10,21,22,44,111,112,116,117,124,125] st.boxes.length=some ⟨sl 195 [(0,.pv P0),(7,.aA 1 0),(9,.aA 3 0),(10,.pv (.list 1 (o.map eI))),(21,.pv (.int .i64 u)),(22,.pv (.int .i64 v)),(44,.any),(111,.pv P1),(112,.pv P2),(116,.pv P3),(117,.pv P4),(124,.pv (.int .i64 (base.getD v []).length)),(125,.pv (.int .i64 (0:Nat)))],[⟨false,cs⟩,⟨false,[.pv (.list 4 (l.map eP))]⟩,⟨false,[.pv (.int .i64 n)]⟩,⟨false,[.pv (.int .i64 r)]⟩],[],none⟩) :
  den env QM st=some (.normal,⟨sl 195 [(0,.pv P0),(6,.any),(7,.aA 1 0),(9,.aA 3 0),(10,.pv (.list 1 (o.map eI))),(21,.pv (.int .i64 u)),(44,.any),(111,.pv P1),(112,.pv P2),(116,.pv P3),(117,.pv P4)],[⟨false,cs⟩,⟨false,[.pv (.list 4 (l.map eP))]⟩,⟨false,[.pv (.int .i64 n)]⟩,⟨false,[.pv (.int .i64 r)]⟩],[],none⟩):=by
 unfold QM
 refine bJ (env:=env) (nb:=4) ((base.getD v []).length) (fun i=>⟨sl 195 [(0,.pv P0),(7,.aA 1 0),(9,.aA 3 0),(10,.pv (.list 1 (o.map eI))),(21,.pv (.int .i64 u)),(22,.pv (.int .i64 v)),(44,.any),(111,.pv P1),(112,.pv P2),(116,.pv P3),(117,.pv P4),(124,.pv (.int .i64 (base.getD v []).length)),(125,.pv (.int .i64 i))],[⟨false,cs⟩,⟨false,[.pv (.list 4 (l.map eP))]⟩,⟨false,[.pv (.int .i64 n)]⟩,⟨false,[.pv (.int .i64 r)]⟩],[],none⟩) (fun i=>some (.normal,⟨sl 195 [(0,.pv P0),(6,.any),(7,.aA 1 0),(9,.aA 3 0),(10,.pv (.list 1 (o.map eI))),(21,.pv (.int .i64 u)),(44,.any),(111,.pv P1),(112,.pv P2),(116,.pv P3),(117,.pv P4)],[⟨false,cs⟩,⟨false,[.pv (.list 4 (l.map eP))]⟩,⟨false,[.pv (.int .i64 n)]⟩,⟨false,[.pv (.int .i64 r)]⟩],[],none⟩)) h (fun _=>rfl) (fun _=>by simp only [aG,bD,Nat.reduceMul,Nat.reduceBEq,Nat.reduceLT,Nat.reduceLeDiff,Nat.reduceAdd,decide_true,Bool.and_self,Bool.true_and]) ?_ ?_
 ·intro i rb hi ih
  have hlim:lim=1073741824:=rfl
  have hi1:=bP hi (by omega)
  have F1:((i:Int)<((base.getD v []).length:Int))=True:=eq_true (by omega)
  have hL:=fun (st:St) (q1 q2 q3 q4 q5 q6 q7:PV)=>ael (st:=st) (s:=i) (P0:=q1) (P1:=q2) (P2:=q3) (P3:=q4) (P4:=q5) (P5:=q6) (P6:=q7) (cs:=cs) ho hl hr hu hB hv hi hn hre
  rw [show nJ f 0 u=u from rfl,show Xw (Xs l v i) f u 0=true from rfl] at hL
  have hpl:(l.map eP).length=n:=by rw [List.length_map];exact hl
  have X2:index (.int .i64 ((u:Nat):Int)) (l.map eP).length=some u:=by rw [hpl];exact ah hu
  have X3:index (.int .i64 ((r:Nat):Int)) (l.map eP).length=some r:=by rw [hpl];exact ah hr
  have hk:=hB u (by omega)
  have hk2:=hB r (by omega)
  obtain ⟨a1,b1,c1,p1⟩:=Ub (l:=l) (k:=u) (by omega)
  obtain ⟨a2,b2,c2,p2⟩:=Ub (l:=l) (k:=r) (by omega)
  have v1:=oG (im:=kV l u) (v:=v) (by omega)
  have v2:=oG (im:=kV l r) (v:=v) (by omega)
  have s1:=Kr (l:=l) (k:=u) (v:=v) (s:=i) (by rw [hk.2 v hv];exact hi)
  have s2:=Kr (l:=l) (k:=r) (v:=v) (s:=i) (by rw [hk2.2 v hv];exact hi)
  have Y1:index (.int .i64 ((v:Nat):Int)) ((kV l u).map aY).length=some v:=by rw [List.length_map];exact ah (by omega)
  have Y2:index (.int .i64 ((v:Nat):Int)) ((kV l r).map aY).length=some v:=by rw [List.length_map];exact ah (by omega)
  have Z1:index (.int .i64 ((i:Nat):Int)) (((kV l u).getD v []).map ng).length=some i:=by rw [List.length_map];exact ah (by rw [hk.2 v hv];exact hi)
  have Z2:index (.int .i64 ((i:Nat):Int)) (((kV l r).getD v []).map ng).length=some i:=by rw [List.length_map];exact ah (by rw [hk2.2 v hv];exact hi)
  have hend:=Ua (X:=Xs l v i) (f:=f) (i:=u) (t:=vX f r (n+1) u)
  rw [hre] at hend
  generalize ((kV l u).getD v []).map ng=E1 at *
  generalize ((kV l r).getD v []).map ng=E2 at *
  generalize (kV l u).map aY=I1 at *
  generalize (kV l r).map aY=I2 at *
  generalize Xs l v i u=S1 at *
  generalize Xs l v i r=S2 at *
  generalize l.map eP=PL at *
  generalize o.map eI=O at *
  cases c:Xw (Xs l v i) f u (vX f r (n+1) u) with
  |false =>
   rw [c] at hL
   simp only [IY,F1,List.length_map,aB,Nat.reduceMul,Nat.reduceBEq,Nat.reduceLT,Nat.reduceLeDiff,reduceCtorEq,Nat.reduceEqDiff,Nat.reduceAdd,Nat.beq]
   rw [hL _ _ _ _ _ _ _ _ (by simp only [aG,bD,Nat.reduceMul,Nat.reduceBEq,Nat.reduceLT,Nat.reduceLeDiff,Nat.reduceAdd,decide_true,Bool.and_self,Bool.true_and]<;>rfl)]
   simp only [List.length_map,aB,Nat.reduceMul,Nat.reduceBEq,Nat.reduceLT,Nat.reduceLeDiff,reduceCtorEq,Nat.reduceEqDiff,Nat.reduceAdd,Nat.beq]
   rw [ih _ (by simp only [hi1];simp only [aB,Nat.reduceMul,Nat.reduceBEq,Nat.reduceLT,Nat.reduceLeDiff,reduceCtorEq,Nat.reduceEqDiff,Nat.reduceAdd,Nat.beq]<;>rfl)]
  |true =>
   rw [c] at hL
   have e:=hend c
   subst e
   simp only [IY,F1,List.length_map,aB,Nat.reduceMul,Nat.reduceBEq,Nat.reduceLT,Nat.reduceLeDiff,reduceCtorEq,Nat.reduceEqDiff,Nat.reduceAdd,Nat.beq]
   rw [hL _ _ _ _ _ _ _ _ (by simp only [aG,bD,Nat.reduceMul,Nat.reduceBEq,Nat.reduceLT,Nat.reduceLeDiff,Nat.reduceAdd,decide_true,Bool.and_self,Bool.true_and]<;>rfl)]
   simp only [X2,X3,p1,p2,v1,v2,s1,s2,Y1,Y2,Z1,Z2,Nv,iY,Ap,decide_true,List.length_map,aB,Nat.reduceMul,Nat.reduceBEq,Nat.reduceLT,Nat.reduceLeDiff,reduceCtorEq,Nat.reduceEqDiff,Nat.reduceAdd,Nat.beq]
   rw [ih _ (by simp only [hi1];simp only [aB,Nat.reduceMul,Nat.reduceBEq,Nat.reduceLT,Nat.reduceLeDiff,reduceCtorEq,Nat.reduceEqDiff,Nat.reduceAdd,Nat.beq]<;>rfl)]
 ·intro rb
  simp only [IY,Int.lt_irrefl,List.length_map,aB,Nat.reduceMul,Nat.reduceBEq,Nat.reduceLT,Nat.reduceLeDiff,reduceCtorEq,Nat.reduceEqDiff,Nat.reduceAdd,Nat.beq]
set_option maxRecDepth 20000 in
theorem aen {base:kC} {l:List Pt} {o:List Int} {f:List Nat} {n r u:Nat} {P1 P2:PV} {cs:List BV} (ho:okO o f n r) (hl:l.length=n) (hr:r<n) (hu:u<n) (hB:Hf base l) (hb:base.length≤8) (hm:∀ v,(base.getD v []).length≤4096) (hn:n≤1000) (hre:nJ f (vX f r (n+1) u) u=r) {st:St} (h:st.head [0,7,9,10,21,44,111,112,116,117] st.boxes.length=some ⟨sl 195 [(0,.pv (.list 1 (base.map aY))),(7,.aA 1 0),(9,.aA 3 0),(10,.pv (.list 1 (o.map eI))),(21,.pv (.int .i64 u)),(44,.any),(111,.pv P1),(112,.pv P2),(116,.pv (.int .i64 base.length)),(117,.pv (.int .i64 (0:Nat)))],[⟨false,cs⟩,⟨false,[.pv (.list 4 (l.map eP))]⟩,⟨false,[.pv (.int .i64 n)]⟩,⟨false,[.pv (.int .i64 r)]⟩],[],none⟩) :
  den env QO st=some (.normal,⟨sl 195 [(0,.pv (.list 1 (base.map aY))),(6,.any),(7,.aA 1 0),(9,.aA 3 0),(10,.pv (.list 1 (o.map eI))),(44,.any),(111,.pv P1),(112,.pv P2)],[⟨false,cs⟩,⟨false,[.pv (.list 4 (l.map eP))]⟩,⟨false,[.pv (.int .i64 n)]⟩,⟨false,[.pv (.int .i64 r)]⟩],[],none⟩):=by
 unfold QO
 refine bJ (env:=env) (nb:=4) (base.length) (fun i=>⟨sl 195 [(0,.pv (.list 1 (base.map aY))),(7,.aA 1 0),(9,.aA 3 0),(10,.pv (.list 1 (o.map eI))),(21,.pv (.int .i64 u)),(44,.any),(111,.pv P1),(112,.pv P2),(116,.pv (.int .i64 base.length)),(117,.pv (.int .i64 i))],[⟨false,cs⟩,⟨false,[.pv (.list 4 (l.map eP))]⟩,⟨false,[.pv (.int .i64 n)]⟩,⟨false,[.pv (.int .i64 r)]⟩],[],none⟩) (fun i=>some (.normal,⟨sl 195 [(0,.pv (.list 1 (base.map aY))),(6,.any),(7,.aA 1 0),(9,.aA 3 0),(10,.pv (.list 1 (o.map eI))),(44,.any),(111,.pv P1),(112,.pv P2)],[⟨false,cs⟩,⟨false,[.pv (.list 4 (l.map eP))]⟩,⟨false,[.pv (.int .i64 n)]⟩,⟨false,[.pv (.int .i64 r)]⟩],[],none⟩)) h (fun _=>rfl) (fun _=>by simp only [aG,bD,Nat.reduceMul,Nat.reduceBEq,Nat.reduceLT,Nat.reduceLeDiff,Nat.reduceAdd,decide_true,Bool.and_self,Bool.true_and]) ?_ ?_
 ·intro i rb hi ih
  have hlim:lim=1073741824:=rfl
  have hi1:=bP hi (by omega)
  have F1:((i:Int)<(base.length:Int))=True:=eq_true (by omega)
  have v1:=oG hi
  have Y1:index (.int .i64 ((i:Nat):Int)) (base.map aY).length=some i:=by rw [List.length_map];exact ah hi
  have hL:=fun (st:St) (q1 q2 q3 q4 q5:PV)=>aem (st:=st) (P0:=q1) (P1:=q2) (P2:=q3) (P3:=q4) (P4:=q5) (cs:=cs) ho hl hr hu hB hi (hm i) hn hre
  generalize l.map eP=PL at *
  generalize o.map eI=O at *
  generalize hBS:base.map aY=BS at *
  simp only [QN,F1,v1,Y1,List.length_map,aB,Nat.reduceMul,Nat.reduceBEq,Nat.reduceLT,Nat.reduceLeDiff,reduceCtorEq,Nat.reduceEqDiff,Nat.reduceAdd,Nat.beq]
  rw [hL _ _ _ _ _ _ (by simp only [aG,bD,Nat.reduceMul,Nat.reduceBEq,Nat.reduceLT,Nat.reduceLeDiff,Nat.reduceAdd,decide_true,Bool.and_self,Bool.true_and]<;>rfl)]
  simp only [List.length_map,aB,Nat.reduceMul,Nat.reduceBEq,Nat.reduceLT,Nat.reduceLeDiff,reduceCtorEq,Nat.reduceEqDiff,Nat.reduceAdd,Nat.beq]
  rw [ih _ (by simp only [hi1];simp only [aB,Nat.reduceMul,Nat.reduceBEq,Nat.reduceLT,Nat.reduceLeDiff,reduceCtorEq,Nat.reduceEqDiff,Nat.reduceAdd,Nat.beq]<;>rfl)]
 ·intro rb
  simp only [QN,Int.lt_irrefl,List.length_map,aB,Nat.reduceMul,Nat.reduceBEq,Nat.reduceLT,Nat.reduceLeDiff,reduceCtorEq,Nat.reduceEqDiff,Nat.reduceAdd,Nat.beq]
set_option maxRecDepth 20000 in
theorem aeo {base:kC} {l:List Pt} {o:List Int} {f:List Nat} {n r:Nat} {cs:List BV} (ho:okO o f n r) (hl:l.length=n) (hr:r<n) (hB:Hf base l) (hb:base.length≤8) (hm:∀ v,(base.getD v []).length≤4096) (hn:n≤1000) (hre:∀ u,u<n→nJ f (vX f r (n+1) u) u=r) {st:St} (h:st.head [0,7,9,10,44,111,112] st.boxes.length=some ⟨sl 195 [(0,.pv (.list 1 (base.map aY))),(7,.aA 1 0),(9,.aA 3 0),(10,.pv (.list 1 (o.map eI))),(44,.any),(111,.pv (.int .i64 n)),(112,.pv (.int .i64 (0:Nat)))],[⟨false,cs⟩,⟨false,[.pv (.list 4 (l.map eP))]⟩,⟨false,[.pv (.int .i64 n)]⟩,⟨false,[.pv (.int .i64 r)]⟩],[],none⟩) :
  den env QT st=some (.normal,⟨sl 195 [(6,.any)],[⟨false,cs⟩,⟨false,[.pv (.list 4 (l.map eP))]⟩,⟨false,[.pv (.int .i64 n)]⟩,⟨false,[.pv (.int .i64 r)]⟩],[],none⟩):=by
 unfold QT
 refine bJ (env:=env) (nb:=4) (n) (fun i=>⟨sl 195 [(0,.pv (.list 1 (base.map aY))),(7,.aA 1 0),(9,.aA 3 0),(10,.pv (.list 1 (o.map eI))),(44,.any),(111,.pv (.int .i64 n)),(112,.pv (.int .i64 i))],[⟨false,cs⟩,⟨false,[.pv (.list 4 (l.map eP))]⟩,⟨false,[.pv (.int .i64 n)]⟩,⟨false,[.pv (.int .i64 r)]⟩],[],none⟩) (fun i=>some (.normal,⟨sl 195 [(6,.any)],[⟨false,cs⟩,⟨false,[.pv (.list 4 (l.map eP))]⟩,⟨false,[.pv (.int .i64 n)]⟩,⟨false,[.pv (.int .i64 r)]⟩],[],none⟩)) h (fun _=>rfl) (fun _=>by simp only [aG,bD,Nat.reduceMul,Nat.reduceBEq,Nat.reduceLT,Nat.reduceLeDiff,Nat.reduceAdd,decide_true,Bool.and_self,Bool.true_and]) ?_ ?_
 ·intro i rb hi ih
  have hlim:lim=1073741824:=rfl
  have hi1:=bP hi (by omega)
  have F1:((i:Int)<(n:Int))=True:=eq_true (by omega)
  have hL:=fun (st:St) (q1 q2:PV)=>aen (st:=st) (P1:=q1) (P2:=q2) (cs:=cs) ho hl hr hi hB hb hm hn (hre i hi)
  generalize l.map eP=PL at *
  generalize o.map eI=O at *
  simp only [QS,F1,List.length_map,aB,Nat.reduceMul,Nat.reduceBEq,Nat.reduceLT,Nat.reduceLeDiff,reduceCtorEq,Nat.reduceEqDiff,Nat.reduceAdd,Nat.beq]
  rw [hL _ _ _ (by simp only [aG,bD,Nat.reduceMul,Nat.reduceBEq,Nat.reduceLT,Nat.reduceLeDiff,Nat.reduceAdd,decide_true,Bool.and_self,Bool.true_and]<;>rfl)]
  simp only [List.length_map,aB,Nat.reduceMul,Nat.reduceBEq,Nat.reduceLT,Nat.reduceLeDiff,reduceCtorEq,Nat.reduceEqDiff,Nat.reduceAdd,Nat.beq]
  rw [ih _ (by simp only [hi1];simp only [aB,Nat.reduceMul,Nat.reduceBEq,Nat.reduceLT,Nat.reduceLeDiff,reduceCtorEq,Nat.reduceEqDiff,Nat.reduceAdd,Nat.beq]<;>rfl)]
 ·intro rb
  simp only [QS,Int.lt_irrefl,List.length_map,aB,Nat.reduceMul,Nat.reduceBEq,Nat.reduceLT,Nat.reduceLeDiff,reduceCtorEq,Nat.reduceEqDiff,Nat.reduceAdd,Nat.beq]
end Go.Proofs.YtaaokejjmdbfaaaDoor.V
