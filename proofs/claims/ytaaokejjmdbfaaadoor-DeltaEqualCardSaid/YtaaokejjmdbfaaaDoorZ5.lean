/-
  Part 5 of the texts that the statement stands on.
-/
import Derived.Test.YtaaokejjmdbfaaaDoorZ4
import Derived.ProofKit
import Derived.SizedLaws
import Derived.OpenShut
import Derived.Deep.Strs
import Derived.Test.YtaaokejjmdbfaaaDoorRows
import Derived.WalkSmall
import Derived.WalkSpells
import Derived.Lib.SliceRun
set_option linter.all false
namespace Go.Proofs.YtaaokejjmdbfaaaDoor.V
theorem afv {a b:Bm} (ha:okB a=true) (hb:okB b=true) (hs:a.size=b.size):nC a b=0∧okB (uJ qo a b)=true∧(uJ qo a b).size=a.size∧∀ s:Nat,(s:Int)<a.size→bit (uJ qo a b).ws s=(bit a.ws s || bit b.ws s):=by
 have hE:nC a b=0:=by unfold nC;rw [if_neg (by rw [ha];decide),if_neg (by rw [hb];decide),if_neg (by simpa using hs)]
 obtain ⟨_,_,_,hl⟩:=both_ok hE
 have hO:uJ qo a b=⟨a.size,lM qo a.ws b.ws⟩:=by unfold uJ;rw [if_pos hE]
 have hz:(lM qo a.ws b.ws).length=a.ws.length:=by simp [lM,hl]
 have hbit:∀ {i:Nat},i<64 * a.ws.length→bit (lM qo a.ws b.ws) i=(bit a.ws i || bit b.ws i):=fun hi=>acM (g:=fun x y=>x || y) (fun x y j _=>BitVec.getLsbD_or) hl hi
 have h1:=jK ha
 rw [hO]
 refine ⟨hE,iR.2 ⟨⟨h1.1,h1.2.1,?_⟩,fun i hi=>?_⟩,rfl,fun s hlt=>hbit (by omega)⟩
 ·show ((lM qo a.ws b.ws).length:Int)=_
  rw [hz];exact (iR.1 ha).1.2.2
 ·have hi:a.size≤(i:Int):=hi
  by_cases c:i<64 * a.ws.length
  ·show bit (lM qo a.ws b.ws) i=false
   rw [hbit c,(iR.1 ha).2 i hi,(iR.1 hb).2 i (by omega)]
   rfl
  ·exact yw (by show 64 * (lM qo a.ws b.ws).length≤i;rw [hz];omega)
theorem extC {p q:Nat→Bool} {m:Nat} (h:∀ t,t<m→p t=q t):ext p m=ext q m:=by
 unfold ext
 congr 1
 apply List.filter_congr
 intro t ht
 exact h t (List.mem_range.1 ht)
theorem Nh:∀ {bs:List Bm} {vs:jk},wW bs vs=0→∀ i (h1:i<bs.length) (h2:i<vs.length),okB bs[i]=true∧bs[i].size=(vs[i].length:Int)
 |[],_,_,i,h1,_=>absurd h1 (Nat.not_lt_zero _)
 |_ :: _,[],_,i,_,h2=>absurd h2 (Nat.not_lt_zero _)
 |b :: bs,v :: vs,h,i,h1,h2=>by
  unfold wW at h
  split at h
  ·rename_i c;exact absurd h c
  ·rename_i c
   split at h
   ·cases h
   ·rename_i c2
    match i with
    |0 =>
     refine ⟨?_,by simpa using c2⟩
     cases hb:okB b with
     |true=>exact hb
     |false=>unfold Dz at c;rw [hb] at c;exact absurd (by decide) c
    |i+1=>exact Nh h i (by simpa using h1) (by simpa using h2)
theorem og {p:Pt} (h:jh p=0):Gt p.lin=true∧bU p.img=0∧p.dirty.length=p.img.length∧wW p.dirty p.img=0:=by
 unfold jh at h
 split at h
 ·cases h
 ·split at h
  ·cases h
  ·rename_i c
   split at h
   ·rename_i c2;exact absurd h c2
   ·rename_i c2
    split at h
    ·cases h
    ·rename_i c3
     exact ⟨by simpa using c,by simpa using c2,by simpa using c3,h⟩
theorem kM {im:jk} (h:bU im=0):im.length≤8∧∀ v∈im,v.length≤4096:=by
 unfold bU jJ at h
 split at h
 ·cases h
 ·rename_i c
  split at h
  ·cases h
  ·rename_i c2
   unfold aS at c c2
   rw [List.length_map] at c
   refine ⟨by omega,fun v hv=>?_⟩
   simp only [Bool.not_eq_true,List.any_eq_false,List.mem_map,Bool.or_eq_true,decide_eq_true_eq,not_or] at c2
   have:=(c2 _ ⟨v,hv,rfl⟩).2
   omega
theorem Rx {p:Pt} (h:jh p=0) (i:Nat):ig p i≤4096:=by
 obtain ⟨_,h2,_,_⟩:=og h
 unfold ig
 rw [List.getD_eq_getElem?_getD]
 cases hg:p.img[i]? with
 |none=>exact Nat.zero_le _
 |some v=>exact (kM h2).2 v (List.mem_of_getElem? hg)
theorem Gx {a b:Pt} (h:aS a.img=aS b.img) (i:Nat):ig a i=ig b i:=by
 have e:∀ p:Pt,((aS p.img).getD i 0)=(ig p i:Int):=fun p=>by
  unfold aS ig
  rw [List.getD_eq_getElem?_getD,List.getD_eq_getElem?_getD,List.getElem?_map]
  cases p.img[i]?<;>rfl
 have:=e a
 rw [h,e b] at this
 omega
theorem DJ {a b:Pt} (h:aS a.img=aS b.img):a.img.length=b.img.length:=by
 have:=congrArg List.length h
 simpa [aS] using this
theorem Zy {p:Pt} (h:jh p=0) {v:Nat} (hv:v<p.img.length):okB (dir p v)=true∧(dir p v).size=(ig p v:Int):=by
 obtain ⟨_,_,h3,h4⟩:=og h
 have:=Nh h4 v (by omega) hv
 unfold dir ig
 rw [List.getD_eq_getElem?_getD,List.getElem?_eq_getElem (by omega),List.getD_eq_getElem?_getD,List.getElem?_eq_getElem hv]
 exact this
theorem Bj {b:Bm} (h:okB b=true) {k:Nat} (hk:(k:Int)<b.size):acQ b (k:Int)=bit b.ws k:=by
 unfold acQ
 rw [h,Bool.true_and,decide_eq_true (by omega),Bool.true_and,decide_eq_true hk,Bool.true_and,Int.toNat_natCast]
theorem afw {a b:Pt} (ha:jh a=0) (hb:jh b=0) (hs:aS a.img=aS b.img) {v:Nat} (hv:v<a.img.length):nC (dir a v) (dir b v)=0∧bmX (uJ qo (dir a v) (dir b v))=ext (mk2 a b v) (ig a v):=by
 have hv2:v<b.img.length:=by rw [← DJ hs];exact hv
 obtain ⟨a1,a2⟩:=Zy ha hv
 obtain ⟨b1,b2⟩:=Zy hb hv2
 have hL:=Gx hs v
 obtain ⟨g1,g2,g3,g4⟩:=afv a1 b1 (by rw [a2,b2,hL])
 refine ⟨g1,?_⟩
 unfold bmX Qo
 rw [if_pos g2,g3,a2,Int.toNat_natCast]
 apply extC
 intro t ht
 rw [g4 t (by omega)]
 unfold mk2
 rw [Bj a1 (by omega),Bj b1 (by omega)]
end Go.Proofs.YtaaokejjmdbfaaaDoor.V

namespace Go.Proofs.YtaaokejjmdbfaaaDoor.V
def dL (a:Pt) (v:Nat):List dD:=a.img.getD v []
def Gy (v:Int) (A B:List dD) (l:List ji):List Run:=l.flatMap fun e=>vJ v A B e.start.toNat e.count.toNat
def yO (a b:Pt) (n:Nat):List Run:=(List.range n).flatMap fun (v:Nat)=>Gy (v:Int) (dL a v) (dL b v) (ext (mk2 a b v) (ig a v))
theorem acR (v:Int) (A B:List dD):Gy v A B []=[]:=rfl
theorem Zz {v:Int} {A B:List dD} {l:List ji} {i:Nat} (h:i<l.length):Gy v A B (l.take (i+1))=Gy v A B (l.take i)++vJ v A B l[i].start.toNat l[i].count.toNat:=by
 unfold Gy
 rw [List.take_add_one,List.getElem?_eq_getElem h,Option.toList_some,List.flatMap_append,List.flatMap_cons,List.flatMap_nil,List.append_nil]
theorem DK (a b:Pt) (n:Nat):yO a b (n+1)=yO a b n++Gy n (dL a n) (dL b n) (ext (mk2 a b n) (ig a n)):=by
 unfold yO
 rw [List.range_succ,List.flatMap_append,List.flatMap_cons,List.flatMap_nil,List.append_nil]
theorem JB {v:Int} {A B:List dD} {N:Nat}:∀ {l:List ji},(∀ e∈l,e.count.toNat≤N)→(Gy v A B l).length≤l.length * N
 |[],_=>Nat.zero_le _
 |e :: l,h=>by
  have h1:=JB (v:=v) (A:=A) (B:=B) (l:=l) (fun x hx=>h x (List.mem_cons_of_mem _ hx))
  have h2:=(CV v A B e.start.toNat e.count.toNat).2
  have h3:=h e List.mem_cons_self
  unfold Gy at *
  rw [List.flatMap_cons,List.length_append,List.length_cons,Nat.succ_mul]
  omega
def rowT (base:List Run) (v:Int) (A B:List dD) (l:List ji) (i:Nat):List PV:=((base++Gy v A B (l.take i)).map toW).map oz
theorem Vs (base:List Run) (v:Int) (A B:List dD) (l:List ji):rowT base v A B l 0=(base.map toW).map oz:=by
 unfold rowT
 rw [List.take_zero,acR,List.append_nil]
theorem ZA (base:List Run) (v:Int) (A B:List dD) (l:List ji):rowT base v A B l l.length=((base++Gy v A B l).map toW).map oz:=by
 unfold rowT
 rw [List.take_length]
theorem Vt {base:List Run} {v:Int} {A B:List dD} {l:List ji} {i:Nat} (h:i<l.length):rowT base v A B l i++((vJ v A B l[i].start.toNat l[i].count.toNat).map toW).map oz=rowT base v A B l (i+1):=by
 unfold rowT
 rw [Zz h,← List.append_assoc,List.map_append (l₁:=base++_),List.map_append (l₁:=(base++_).map toW)]
theorem Nj {base:List Run} {v:Int} {A B:List dD} {l:List ji} {i N:Nat} (h:∀ e∈l,e.count.toNat≤N):(rowT base v A B l i).length≤base.length+l.length * N:=by
 unfold rowT
 have h1:=JB (v:=v) (A:=A) (B:=B) (l:=l.take i) (N:=N) (fun e he=>h e (List.mem_of_mem_take he))
 have h2:(l.take i).length * N≤l.length * N:=Nat.mul_le_mul_right _ (by rw [List.length_take];omega)
 rw [List.length_map,List.length_map,List.length_append]
 omega
theorem Qq (l:List ji) (i:Nat):(wu l i).length≤l.length+1:=by
 rcases gu l with rfl|⟨p,x,rfl⟩
 ·simp [wu]
 ·rw [eP];split<;>simp
theorem yA (p:Nat→Bool):∀ n,(ext p n).length≤n
 |0=>Nat.le_refl _
 |n+1=>by
  rw [oZ]
  have:=yA p n
  have:=Qq (ext p n) n
  split<;>omega
theorem oh (p:Nat→Bool) (n:Nat):(∀ x∈ext p n,0≤x.start∧1≤x.count∧x.start+x.count≤(n:Int)):=by
 induction n with
 |zero=>intro x hx;cases hx
 |succ n ih =>
  rw [oZ]
  split
  ·rcases gu (ext p n) with e|⟨pre,y,e⟩
   ·rw [e]
    intro x hx
    have:wu [] n=[⟨(n:Int),1⟩]:=rfl
    rw [this] at hx
    simp only [List.mem_singleton] at hx
    subst hx
    simp only;omega
   ·rw [e] at ih ⊢
    intro x hx
    rw [eP] at hx
    split at hx
    ·rcases List.mem_append.1 hx with h|h
     ·have:=ih x (by simp [h]);omega
     ·simp only [List.mem_singleton] at h
      have:=ih y (by simp)
      subst h;simp only;omega
    ·rcases List.mem_append.1 hx with h|h
     ·have:=ih x h;omega
     ·simp only [List.mem_singleton] at h
      subst h;simp only;omega
  ·intro x hx;have:=ih x hx;omega
end Go.Proofs.YtaaokejjmdbfaaaDoor.V

namespace Go.Proofs.YtaaokejjmdbfaaaDoor.V
def V7 (e:ji) (s:Nat):Bool:=decide (0<e.count)&&(decide (e.start≤(s:Int))&&decide ((s:Int)<e.start+e.count))
def Ej (l:List ji) (s:Nat):Bool:=l.any fun e=>V7 e s
end Go.Proofs.YtaaokejjmdbfaaaDoor.V

namespace Go.Proofs.YtaaokejjmdbfaaaDoor.V
theorem zn (l:List ji) (e:ji) (s:Nat):Ej (l++[e]) s=(Ej l s || V7 e s):=by simp [Ej]
theorem ZB {l:List ji} {n:Nat} (h:∀ x∈l,0≤x.start∧1≤x.count∧x.start+x.count≤(n:Int)) (s:Nat):Ej (wu l n) s=(Ej l s || decide (s=n)):=by
 rcases gu l with e|⟨pre,y,e⟩
 ·subst e
  show Ej [⟨(n:Int),1⟩] s=_
  rw [Bool.eq_iff_iff]
  simp [Ej,V7];omega
 ·subst e
  have hy:=h y (by simp)
  rw [eP]
  split
  ·rw [zn,zn,Bool.or_assoc]
   congr 1
   rw [Bool.eq_iff_iff]
   simp [V7];omega
  ·rw [zn (pre++[y])]
   congr 1
   rw [Bool.eq_iff_iff]
   simp [V7];omega
theorem uK (p:Nat→Bool) (s:Nat):∀ n,Ej (ext p n) s=(decide (s<n)&&p s)
 |0=>by simp [Zj,Ej]
 |n+1=>by
  rw [oZ]
  by_cases h:p n=true
  ·rw [if_pos h,ZB (oh p n),uK p s n]
   by_cases h2:s=n
   ·subst h2;rw [h];simp
   ·rw [decide_eq_false h2,Bool.or_false]
    congr 1
    rw [Bool.eq_iff_iff];simp;omega
  ·rw [if_neg h,uK p s n]
   by_cases h2:s=n
   ·subst h2;simp [h]
   ·congr 1
    rw [Bool.eq_iff_iff];simp;omega
def mdC (p:Nat→Bool) (A B:List dD) (n:Nat):Nat:=((List.range n).filter fun j=>p j&&decide (A[j]?≠B[j]?)).length
theorem ZC (p:Nat→Bool) (A B:List dD) (n:Nat):mdC p A B (n+1)=mdC p A B n+if p n=true∧A[n]?≠B[n]? then 1 else 0:=by
 unfold mdC
 rw [List.range_succ,List.filter_append,List.length_append]
 by_cases c:p n=true∧A[n]?≠B[n]?
 ·rw [if_pos c,List.filter_cons_of_pos (by simpa using c)];rfl
 ·rw [if_neg c,List.filter_cons_of_neg (by simpa using c)];rfl
theorem yB (v:Int) (A B:List dD) (l:List ji) (e:ji):Gy v A B (l++[e])=Gy v A B l++vJ v A B e.start.toNat e.count.toNat:=by
 unfold Gy
 rw [List.flatMap_append,List.flatMap_cons,List.flatMap_nil,List.append_nil]
theorem Gz (A B:List dD) (s k:Nat):Ql A B s (k+1)=Ql A B s k+if A[s+k]?≠B[s+k]? then 1 else 0:=by
 unfold Ql
 rw [List.range_succ,List.filter_append,List.length_append]
 by_cases c:A[s+k]?≠B[s+k]?
 ·rw [if_pos c,List.filter_cons_of_pos (by simpa using c)];rfl
 ·rw [if_neg c,List.filter_cons_of_neg (by simpa using c)];rfl
theorem Ry {v:Int} {A B:List dD} {p:Nat→Bool}:∀ n,n≤A.length→jY (Gy v A B (ext p n))=mdC p A B n
 |0,_=>rfl
 |n+1,h=>by
  have ih:=Ry (v:=v) (A:=A) (B:=B) (p:=p) n (by omega)
  have hin:=oh p n
  rw [oZ,ZC]
  cases hp:p n with
  |false=>rw [if_neg (by decide),if_neg (fun c=>by cases c.1)];exact ih
  |true =>
   rw [if_pos rfl]
   have e1:jY (vJ v A B n 1)=if A[n]?≠B[n]? then 1 else 0:=by
    rw [(oW (v:=v) (A:=A) (B:=B) (s:=n) 1 (by omega)).2.2,Gz]
    show 0+_=_
    rw [Nat.zero_add,Nat.add_zero]
   have e3:(if true=true∧A[n]?≠B[n]? then 1 else 0)=(if A[n]?≠B[n]? then 1 else 0):=by simp
   rw [e3]
   rcases gu (ext p n) with e|⟨pre,y,e⟩
   ·rw [e] at ih ⊢
    show jY (Gy v A B [⟨(n:Int),1⟩])=_
    rw [show Gy v A B [⟨(n:Int),1⟩]=Gy v A B []++vJ v A B n 1 from yB v A B [] ⟨(n:Int),1⟩,jZ,e1,ih]
   ·rw [e] at ih hin ⊢
    obtain ⟨y1,y2,y3⟩:=hin y (by simp)
    rw [eP]
    split
    ·rename_i c
     rw [yB,jZ] at ih
     rw [yB,jZ,← ih]
     have e2:(y.count+1).toNat=y.count.toNat+1:=by omega
     show _+jY (vJ v A B y.start.toNat (y.count+1).toNat)=_
     rw [e2,(oW (v:=v) (A:=A) (B:=B) (s:=y.start.toNat) (y.count.toNat+1) (by omega)).2.2,(oW (v:=v) (A:=A) (B:=B) (s:=y.start.toNat) y.count.toNat (by omega)).2.2,Gz,show y.start.toNat+y.count.toNat=n by omega]
     omega
    ·rw [yB (l:=pre++[y]),jZ,ih]
     show _+jY (vJ v A B n 1)=_
     rw [e1]
theorem DL {v:Int} {A B:List dD} {p:Nat→Bool} {n:Nat} (h:n≤A.length):(∀ x∈Gy v A B (ext p n),ofA A x∧x.1.1=v∧x.2≠[])∧∀ j,(∃ x∈Gy v A B (ext p n),V5 x j) ↔ j<n∧p j=true∧A[j]?≠B[j]?:=by
 have hin:=oh p n
 refine ⟨fun x hx=>?_,fun j=>⟨?_,fun ⟨h1,h2,h3⟩=>?_⟩⟩
 ·obtain ⟨e,he,hx⟩:=List.mem_flatMap.1 hx
  obtain ⟨q1,q2,q3⟩:=hin e he
  have:=(CV v A B e.start.toNat e.count.toNat).1 x hx
  exact ⟨(oW (v:=v) (A:=A) (B:=B) (s:=e.start.toNat) e.count.toNat (by omega)).1 x hx,this.1,this.2.2.2⟩
 ·rintro ⟨x,hx,hj⟩
  obtain ⟨e,he,hx⟩:=List.mem_flatMap.1 hx
  obtain ⟨q1,q2,q3⟩:=hin e he
  obtain ⟨g1,g2,g3⟩:=((oW (v:=v) (A:=A) (B:=B) (s:=e.start.toNat) e.count.toNat (by omega)).2.1 j).1 ⟨x,hx,hj⟩
  have h4:Ej (ext p n) j=true:=List.any_eq_true.2 ⟨e,he,by unfold V7;simp;omega⟩
  rw [uK] at h4
  simp only [Bool.and_eq_true,decide_eq_true_eq] at h4
  exact ⟨h4.1,h4.2,g3⟩
 ·have h4:Ej (ext p n) j=true:=by rw [uK,h2,decide_eq_true h1];rfl
  obtain ⟨e,he,h5⟩:=List.any_eq_true.1 h4
  obtain ⟨q1,q2,q3⟩:=hin e he
  unfold V7 at h5
  simp only [Bool.and_eq_true,decide_eq_true_eq] at h5
  obtain ⟨x,hx,hj⟩:=((oW (v:=v) (A:=A) (B:=B) (s:=e.start.toNat) e.count.toNat (by omega)).2.1 j).2 ⟨by omega,by omega,h3⟩
  exact ⟨x,List.mem_flatMap.2 ⟨e,he,hx⟩,hj⟩
end Go.Proofs.YtaaokejjmdbfaaaDoor.V

namespace Go.Proofs.YtaaokejjmdbfaaaDoor.V
def ZE (l:List ji):Prop:=l.Pairwise fun x y=>x.start+x.count<y.start
theorem GH (p:Nat→Bool):∀ n,ZE (ext p n)
 |0=>List.Pairwise.nil
 |n+1=>by
  have ih:=GH p n
  have hin:=oh p n
  rw [oZ]
  split
  ·rcases gu (ext p n) with e|⟨pre,y,e⟩
   ·rw [e]
    exact List.pairwise_singleton _ _
   ·rw [e] at ih hin ⊢
    unfold ZE at ih ⊢
    rw [eP]
    obtain ⟨y1,y2,y3⟩:=hin y (by simp)
    obtain ⟨i1,i2,i3⟩:=List.pairwise_append.1 ih
    split
    ·refine List.pairwise_append.2 ⟨i1,List.pairwise_singleton _ _,fun a ha b hb=>?_⟩
     rw [List.mem_singleton.1 hb]
     exact i3 a ha y (by simp)
    ·rename_i c
     refine List.pairwise_append.2 ⟨ih,List.pairwise_singleton _ _,fun a ha b hb=>?_⟩
     rw [List.mem_singleton.1 hb]
     rcases List.mem_append.1 ha with ha|ha
     ·have:=i3 a ha y (by simp)
      show a.start+a.count<(n:Int)
      omega
     ·rw [List.mem_singleton.1 ha]
      show y.start+y.count<(n:Int)
      omega
  ·exact ih
theorem sN (p:Nat→Bool) {s0:Nat}:∀ n s1,s0≤s1→s1<n→(∀ s,s0≤s→s≤s1→p s=true)→∃ e∈ext p n,e.start≤(s0:Int)∧(s1:Int)<e.start+e.count
 |0,_,_,h,_=>absurd h (Nat.not_lt_zero _)
 |n+1,s1,h0,h1,hp=>by
  have hin:=oh p n
  have hap:=GH p n
  rw [oZ]
  by_cases c:s1<n
  ·obtain ⟨e,he,e1,e2⟩:=sN p n s1 h0 c hp
   split
   ·rcases gu (ext p n) with q|⟨pre,y,q⟩
    ·rw [q] at he;cases he
    ·rw [q] at he ⊢
     rw [eP]
     split
     ·rcases List.mem_append.1 he with he|he
      ·exact ⟨e,List.mem_append_left _ he,e1,e2⟩
      ·rw [List.mem_singleton.1 he] at e1 e2
       exact ⟨_,List.mem_append_right _ (List.mem_singleton.2 rfl),e1,by show (s1:Int)<y.start+(y.count+1);omega⟩
     ·exact ⟨e,List.mem_append_left _ he,e1,e2⟩
   ·exact ⟨e,he,e1,e2⟩
  ·have hs:s1=n:=by omega
   subst hs
   rw [if_pos (hp s1 h0 (Nat.le_refl _))]
   by_cases c2:s0=s1
   ·subst c2
    rcases gu (ext p s0) with q|⟨pre,y,q⟩
    ·rw [q]
     exact ⟨⟨(s0:Int),1⟩,by show _∈[_];simp,by show (s0:Int)≤s0;omega,by show (s0:Int)<s0+1;omega⟩
    ·rw [q] at hin ⊢
     obtain ⟨y1,y2,y3⟩:=hin y (by simp)
     rw [eP]
     split
     ·exact ⟨_,List.mem_append_right _ (List.mem_singleton.2 rfl),by show y.start≤_;omega,by show (s0:Int)<y.start+(y.count+1);omega⟩
     ·exact ⟨_,List.mem_append_right _ (List.mem_singleton.2 rfl),by show (s0:Int)≤s0;omega,by show (s0:Int)<s0+1;omega⟩
   ·obtain ⟨e,he,e1,e2⟩:=sN p s1 (s1 - 1) (by omega) (by omega) (fun s g1 g2=>hp s g1 (by omega))
    have e3:=hin e he
    rcases gu (ext p s1) with q|⟨pre,y,q⟩
    ·rw [q] at he;cases he
    ·rw [q] at he hin hap ⊢
     obtain ⟨y1,y2,y3⟩:=hin y (by simp)
     have hy:e=y:=by
      rcases List.mem_append.1 he with he|he
      ·have:=(List.pairwise_append.1 hap).2.2 e he y (by simp)
       omega
      ·exact List.mem_singleton.1 he
     subst hy
     rw [eP,if_pos (by omega)]
     exact ⟨_,List.mem_append_right _ (List.mem_singleton.2 rfl),e1,by show (s1:Int)<e.start+(e.count+1);omega⟩
theorem Qr {p q:Nat→Bool} {n:Nat} (h:∀ s,s<n→p s=true→q s=true):∀ x∈ext p n,∃ y∈ext q n,y.start≤x.start∧x.start+x.count≤y.start+y.count:=fun x hx=>by
 obtain ⟨h1,h2,h3⟩:=oh p n x hx
 obtain ⟨y,hy,y1,y2⟩:=sN q (s0:=x.start.toNat) n ((x.start+x.count).toNat - 1) (by omega) (by omega) (fun s g1 g2=>h s (by omega) (by
  have:Ej (ext p n) s=true:=List.any_eq_true.2 ⟨x,hx,by unfold V7;simp;omega⟩
  rw [uK] at this
  simp only [Bool.and_eq_true,decide_eq_true_eq] at this
  exact this.2))
 exact ⟨y,hy,by omega,by omega⟩
def lN (l:List ji):Int:=(l.map fun x=>x.count).sum
theorem vM (l:List ji) (x:ji):lN (l++[x])=lN l+x.count:=by simp [lN]
theorem Nk (p:Nat→Bool):∀ n,lN (ext p n)=(((List.range n).filter p).length:Int)
 |0=>rfl
 |n+1=>by
  have ih:=Nk p n
  rw [oZ,List.range_succ,List.filter_append,List.length_append]
  cases h:p n with
  |false=>rw [List.filter_cons_of_neg (by simp [h])];simpa using ih
  |true =>
   rw [List.filter_cons_of_pos h,List.filter_nil,if_pos rfl]
   have:lN (wu (ext p n) n)=lN (ext p n)+1:=by
    rcases gu (ext p n) with e|⟨pre,y,e⟩
    ·rw [e];rfl
    ·rw [e,eP]
     split
     ·rw [vM,vM]
      show lN pre+(y.count+1)=_
      omega
     ·rw [vM]
   rw [this,ih]
   simp
theorem acS {p q:Nat→Bool} {A B:List dD} {n:Nat} (hq:∀ s,s<n→(q s=true ↔ A[s]?≠B[s]?)) (h:∀ s,s<n→A[s]?≠B[s]?→p s=true):(mdC p A B n:Int)=lN (ext q n):=by
 rw [Nk]
 unfold mdC
 congr 2
 apply List.filter_congr
 intro s hs
 have hs:=List.mem_range.1 hs
 rw [Bool.eq_iff_iff,Bool.and_eq_true,decide_eq_true_eq,hq s hs]
 exact ⟨fun g=>g.2,fun g=>⟨h s hs g,g⟩⟩
end Go.Proofs.YtaaokejjmdbfaaaDoor.V

namespace Go.Proofs.YtaaokejjmdbfaaaDoor.V
def qp (x y:ji):Bool:=decide (y.start≤x.start)&&decide (x.start+x.count≤y.start+y.count)
theorem ahK {x y:ji} (hx:0≤x.start∧0≤x.count∧x.start+x.count≤4096) (hy:0≤y.start∧0≤y.count∧y.start+y.count≤4096):cal env 38 [fH y,.dY [.int .i64 x.start,.int .i64 x.count] 0]=some [(.bool (qp x y),false)]:=by
 have W1:IntKind.i64.wrap (x.start+x.count)=x.start+x.count:=bn (by omega)
 have W2:IntKind.i64.wrap (y.start+y.count)=y.start+y.count:=bn (by omega)
 unfold qp
 by_cases c1:y.start≤x.start
 ·have F1:=eq_true c1
  rw [decide_eq_true c1,Bool.true_and]
  by_cases c2:x.start+x.count≤y.start+y.count
  ·have F2:=eq_true c2
   rw [decide_eq_true c2]
   rw [au YQ rfl];simp only [Qd,bC,Nat.reduceBEq,Nat.reduceLeDiff,Nat.reduceAdd,List.length_cons,List.length_nil]
   simp only [W1,W2,F1,F2,fH,aX,Nat.reduceMul,Nat.reduceBEq,Nat.reduceLT,Nat.reduceLeDiff,reduceCtorEq,Nat.reduceEqDiff,Nat.reduceAdd,Nat.beq]
  ·have F2:=eq_false c2
   rw [decide_eq_false c2]
   rw [au YQ rfl];simp only [Qd,bC,Nat.reduceBEq,Nat.reduceLeDiff,Nat.reduceAdd,List.length_cons,List.length_nil]
   simp only [W1,W2,F1,F2,fH,aX,Nat.reduceMul,Nat.reduceBEq,Nat.reduceLT,Nat.reduceLeDiff,reduceCtorEq,Nat.reduceEqDiff,Nat.reduceAdd,Nat.beq]
 ·have F1:=eq_false c1
  rw [decide_eq_false c1,Bool.false_and]
  rw [au YQ rfl];simp only [Qd,bC,Nat.reduceBEq,Nat.reduceLeDiff,Nat.reduceAdd,List.length_cons,List.length_nil]
  simp only [W1,W2,F1,fH,aX,Nat.reduceMul,Nat.reduceBEq,Nat.reduceLT,Nat.reduceLeDiff,reduceCtorEq,Nat.reduceEqDiff,Nat.reduceAdd,Nat.beq]
theorem Vu {l:List ji} {i:Nat} (h:i<l.length):lN (l.take (i+1))=lN (l.take i)+l[i].count:=by
 rw [List.take_add_one,List.getElem?_eq_getElem h,Option.toList_some,vM]
set_option maxRecDepth 20000 in
theorem afx {ds ms:List ji} {pl:PV} {D M W:List PV} {v:Nat} {n8 n9 n n96:Int} {cs:List BV} (hd:ds.length≤4096) (hd2:∀ x∈ds,0≤x.start∧0≤x.count∧x.start+x.count≤4096) (hm:ms.length≤4096) (hm2:∀ x∈ms,0≤x.start∧0≤x.count∧x.start+x.count≤4096) (hin:∀ x∈ds,ms.any (qp x)=true) (hM:M[v]?=some (.list 2 (ms.map fH))) (hn:0≤n∧n≤1000000000) (hc:∀ i,0≤lN (ds.take i)∧lN (ds.take i)≤16777216) {st:St} (h:st.head [7,8,9,10,12,14,16,17,18,28,57,69,76,96,97,103,104,105] st.boxes.length=some ⟨sl 164 [(7,.pv pl),(8,.pv (.int .i64 n8)),(9,.pv (.int .i64 n9)),(10,.row 1 D),(12,.row 1 M),(14,.row 3 W),(16,.pv (.int .i64 (n+lN (ds.take ((0:Nat)))))),(17,.pv (.int .i64 0)),(18,.pv (.int .i64 v)),(28,.any),(57,.any),(69,.any),(76,.any),(96,.pv (.int .i64 n96)),(97,.pv (.int .i64 v)),(103,.pv (.list 2 (ds.map fH))),(104,.pv (.int .i64 ds.length)),(105,.pv (.int .i64 (0:Nat)))],[⟨false,cs⟩],[],none⟩) :
  den env IC st=some (.normal,⟨sl 164 [(6,.any),(7,.pv pl),(8,.pv (.int .i64 n8)),(9,.pv (.int .i64 n9)),(10,.row 1 D),(12,.row 1 M),(14,.row 3 W),(16,.pv (.int .i64 (n+lN ds))),(17,.pv (.int .i64 0)),(28,.any),(57,.any),(69,.any),(76,.any),(96,.pv (.int .i64 n96)),(97,.pv (.int .i64 v))],[⟨false,cs⟩],[],none⟩):=by
 unfold IC
 refine cO (env:=env) (nb:=1) (ds.length) (fun i=>⟨sl 164 [(7,.pv pl),(8,.pv (.int .i64 n8)),(9,.pv (.int .i64 n9)),(10,.row 1 D),(12,.row 1 M),(14,.row 3 W),(16,.pv (.int .i64 (n+lN (ds.take (i))))),(17,.pv (.int .i64 0)),(18,.pv (.int .i64 v)),(28,.any),(57,.any),(69,.any),(76,.any),(96,.pv (.int .i64 n96)),(97,.pv (.int .i64 v)),(103,.pv (.list 2 (ds.map fH))),(104,.pv (.int .i64 ds.length)),(105,.pv (.int .i64 i))],[⟨false,cs⟩],[],none⟩) (fun i=>some (.normal,⟨sl 164 [(6,.any),(7,.pv pl),(8,.pv (.int .i64 n8)),(9,.pv (.int .i64 n9)),(10,.row 1 D),(12,.row 1 M),(14,.row 3 W),(16,.pv (.int .i64 (n+lN ds))),(17,.pv (.int .i64 0)),(28,.any),(57,.any),(69,.any),(76,.any),(96,.pv (.int .i64 n96)),(97,.pv (.int .i64 v))],[⟨false,cs⟩],[],none⟩)) h (fun _=>rfl) (fun _=>by simp only [bC,dK,Nat.reduceMul,Nat.reduceBEq,Nat.reduceLT,Nat.reduceLeDiff,Nat.reduceAdd,decide_true,Bool.and_self,Bool.true_and]) ?_ ?_
 ·intro i rb hi ih
  have hlim:lim=1073741824:=rfl
  have hi1:=cZ hi (by omega)
  have F1:((i:Int)<(ds.length:Int))=True:=eq_true (by omega)
  have hx:(ds.map fH)[i]?=some (.agg [.int .i64 ds[i].start,.int .i64 ds[i].count]):=by rw [List.getElem?_map,List.getElem?_eq_getElem hi];rfl
  have hq:=hd2 _ (List.getElem_mem hi)
  have e1:=ahr (enc:=fH) (l:=ms) (p:=fun y=>qp ds[i] y) (gf:=38) (caps:=[.dY [.int .i64 ds[i].start,.int .i64 ds[i].count] 0]) (fun y hy=>ahK hq (hm2 y hy)) (fun _=>rfl) (by omega)
  have e2:(ms.any fun y=>qp ds[i] y)=true:=hin _ (List.getElem_mem hi)
  rw [e2] at e1
  have h1:=hc i
  have hs:=Vu hi
  have W1:IntKind.i64.wrap (n+lN (ds.take i)+ds[i].count)=n+lN (ds.take i)+ds[i].count:=bn (by omega)
  have P2:∀ a b:PV,part [a,b] 0 (some 2)=some (.agg [a,b]):=fun _ _=>rfl
  have hMl:=ak (k:=.i64) (List.getElem?_eq_some_iff.1 hM).1
  simp only [IB,F1,hx,P2,W1,hM,hMl,e1,ak hi,List.length_map,aX,Nat.reduceMul,Nat.reduceBEq,Nat.reduceLT,Nat.reduceLeDiff,reduceCtorEq,Nat.reduceEqDiff,Nat.reduceAdd,Nat.beq]
  rw [ih _ (by simp only [hi1];rw [hs,← Int.add_assoc];simp only [aX,Nat.reduceMul,Nat.reduceBEq,Nat.reduceLT,Nat.reduceLeDiff,reduceCtorEq,Nat.reduceEqDiff,Nat.reduceAdd,Nat.beq]<;>rfl)]
  all_goals rfl
 ·intro rb
  rw [List.take_length]
  simp only [IB,Int.lt_irrefl,List.length_map,aX,Nat.reduceMul,Nat.reduceBEq,Nat.reduceLT,Nat.reduceLeDiff,reduceCtorEq,Nat.reduceEqDiff,Nat.reduceAdd,Nat.beq]
theorem Vw {l:List Run} {i:Nat} (h:i<l.length):jY (l.take (i+1))=jY (l.take i)+l[i].2.length:=by
 rw [List.take_add_one,List.getElem?_eq_getElem h,Option.toList_some,jZ];simp [jY]
set_option maxRecDepth 20000 in
theorem ZF {ws:List Run} {pl:PV} {n8 n9 n:Int} {cs:List BV} (hl:ws.length≤lim) (hc:∀ i,jY (ws.take i)≤1000000000) {st:St} (h:st.head [7,8,9,14,16,17,28,76,122,123,124] st.boxes.length=some ⟨sl 164 [(7,.pv pl),(8,.pv (.int .i64 n8)),(9,.pv (.int .i64 n9)),(14,.row 3 ((ws.map toW).map oz)),(16,.pv (.int .i64 n)),(17,.pv (.int .i64 (jY (ws.take ((0:Nat))):Nat))),(28,.any),(76,.any),(122,.ref (.slot 14) 0 ws.length),(123,.pv (.int .i64 ws.length)),(124,.pv (.int .i64 (0:Nat)))],[⟨false,cs⟩],[],none⟩) :
  den env IJ st=some (.normal,⟨sl 164 [(6,.any),(7,.pv pl),(8,.pv (.int .i64 n8)),(9,.pv (.int .i64 n9)),(14,.row 3 ((ws.map toW).map oz)),(16,.pv (.int .i64 n)),(17,.pv (.int .i64 (jY ws:Nat)))],[⟨false,cs⟩],[],none⟩):=by
 unfold IJ
 refine cO (env:=env) (nb:=1) (ws.length) (fun i=>⟨sl 164 [(7,.pv pl),(8,.pv (.int .i64 n8)),(9,.pv (.int .i64 n9)),(14,.row 3 ((ws.map toW).map oz)),(16,.pv (.int .i64 n)),(17,.pv (.int .i64 (jY (ws.take (i)):Nat))),(28,.any),(76,.any),(122,.ref (.slot 14) 0 ws.length),(123,.pv (.int .i64 ws.length)),(124,.pv (.int .i64 i))],[⟨false,cs⟩],[],none⟩) (fun i=>some (.normal,⟨sl 164 [(6,.any),(7,.pv pl),(8,.pv (.int .i64 n8)),(9,.pv (.int .i64 n9)),(14,.row 3 ((ws.map toW).map oz)),(16,.pv (.int .i64 n)),(17,.pv (.int .i64 (jY ws:Nat)))],[⟨false,cs⟩],[],none⟩)) h (fun _=>rfl) (fun _=>by simp only [bC,dK,Nat.reduceMul,Nat.reduceBEq,Nat.reduceLT,Nat.reduceLeDiff,Nat.reduceAdd,decide_true,Bool.and_self,Bool.true_and]) ?_ ?_
 ·intro i rb hi ih
  have hi1:=cZ hi hl
  have F1:((i:Int)<(ws.length:Int))=True:=eq_true (by omega)
  have hx:((ws.map toW).map oz)[i]?=some (.agg [.int .i64 ws[i].1.1,.int .i64 ws[i].1.2,.list 8 (ws[i].2.map iT)]):=by rw [List.getElem?_map,List.getElem?_map,List.getElem?_eq_getElem hi];rfl
  have h1:=hc (i+1)
  have hs:=Vw hi
  have W1:IntKind.i64.wrap (((jY (ws.take i):Nat):Int)+(ws[i].2.length:Int))=((jY (ws.take (i+1)):Nat):Int):=by rw [bn (by omega)];omega
  have P3:∀ a b c:PV,part [a,b,c] 0 (some 3)=some (.agg [a,b,c]):=fun _ _ _=>rfl
  simp only [II,F1,hx,P3,W1,ak hi,List.length_map,aX,Nat.reduceMul,Nat.reduceBEq,Nat.reduceLT,Nat.reduceLeDiff,reduceCtorEq,Nat.reduceEqDiff,Nat.reduceAdd,Nat.beq]
  rw [ih _ (by simp only [hi1];simp only [aX,Nat.reduceMul,Nat.reduceBEq,Nat.reduceLT,Nat.reduceLeDiff,reduceCtorEq,Nat.reduceEqDiff,Nat.reduceAdd,Nat.beq]<;>rfl)]
  all_goals rfl
 ·intro rb
  rw [List.take_length]
  simp only [II,Int.lt_irrefl,List.length_map,aX,Nat.reduceMul,Nat.reduceBEq,Nat.reduceLT,Nat.reduceLeDiff,reduceCtorEq,Nat.reduceEqDiff,Nat.reduceAdd,Nat.beq]
def okX (l:List ji):Prop:=l.length≤4096∧∀ x∈l,0≤x.start∧0≤x.count∧x.start+x.count≤4096
theorem Nl:∀ {l:List ji},(∀ x∈l,0≤x.start∧0≤x.count∧x.start+x.count≤4096)→0≤lN l∧lN l≤4096 * (l.length:Int)
 |[],_=>⟨Int.le_refl _,Int.le_refl _⟩
 |x :: l,h=>by
  obtain ⟨h1,h2⟩:=Nl (l:=l) fun y hy=>h y (List.mem_cons_of_mem _ hy)
  have h3:=h x List.mem_cons_self
  have e:lN (x :: l)=x.count+lN l:=by simp [lN]
  rw [e,List.length_cons]
  omega
theorem Np {l:List ji} (h:okX l) (i:Nat):0≤lN (l.take i)∧lN (l.take i)≤16777216:=by
 have h1:=Nl (l:=l.take i) fun x hx=>h.2 x (List.mem_of_mem_take hx)
 have h2:(l.take i).length≤l.length:=by rw [List.length_take];omega
 have:=h.1
 omega
def vW (l:List (List ji)):Int:=(l.map lN).sum
theorem zo {l:List (List ji)} {i:Nat} (h:i<l.length):vW (l.take (i+1))=vW (l.take i)+lN l[i]:=by
 rw [List.take_add_one,List.getElem?_eq_getElem h,Option.toList_some]
 unfold vW
 rw [List.map_append,List.sum_append]
 show _+(lN l[i]+0)=_
 rw [Int.add_zero]
theorem DN {l:List (List ji)} (h:∀ x∈l,okX x):∀ i,0≤vW (l.take i)∧vW (l.take i)≤16777216 * (i:Int)
 |0=>⟨Int.le_refl _,Int.le_refl _⟩
 |i+1=>by
  have ih:=DN h i
  by_cases c:i<l.length
  ·rw [zo c]
   have:=Np (h _ (List.getElem_mem c)) l[i].length
   rw [List.take_length] at this
   omega
  ·rw [List.take_of_length_le (by omega:l.length≤i+1)]
   rw [List.take_of_length_le (by omega:l.length≤i)] at ih
   omega
theorem Rz {l:List (List ji)} {i:Nat} (h:i<l.length):(l.map pJ)[i]?=some (.list 2 (l[i].map fH)):=by rw [List.getElem?_map,List.getElem?_eq_getElem h];rfl
set_option maxRecDepth 20000 in
theorem ZG {dl ml:List (List ji)} {pl:PV} {W:List PV} {n8 n9:Int} {cs:List BV} (hl:dl.length≤8) (he:ml.length=dl.length) (hD:∀ x∈dl,okX x) (hM:∀ x∈ml,okX x) (hin:∀ i (h1:i<dl.length) (h2:i<ml.length),∀ x∈dl[i],ml[i].any (qp x)=true) {st:St} (h:st.head [7,8,9,10,12,14,16,17,28,57,69,76,96,97] st.boxes.length=some ⟨sl 164 [(7,.pv pl),(8,.pv (.int .i64 n8)),(9,.pv (.int .i64 n9)),(10,.row 1 (dl.map pJ)),(12,.row 1 (ml.map pJ)),(14,.row 3 W),(16,.pv (.int .i64 (vW (dl.take ((0:Nat)))))),(17,.pv (.int .i64 0)),(28,.any),(57,.any),(69,.any),(76,.any),(96,.pv (.int .i64 dl.length)),(97,.pv (.int .i64 (0:Nat)))],[⟨false,cs⟩],[],none⟩) :
  den env IG st=some (.normal,⟨sl 164 [(6,.any),(7,.pv pl),(8,.pv (.int .i64 n8)),(9,.pv (.int .i64 n9)),(14,.row 3 W),(16,.pv (.int .i64 (vW dl))),(17,.pv (.int .i64 0)),(28,.any),(76,.any)],[⟨false,cs⟩],[],none⟩):=by
 unfold IG
 refine cO (env:=env) (nb:=1) (dl.length) (fun i=>⟨sl 164 [(7,.pv pl),(8,.pv (.int .i64 n8)),(9,.pv (.int .i64 n9)),(10,.row 1 (dl.map pJ)),(12,.row 1 (ml.map pJ)),(14,.row 3 W),(16,.pv (.int .i64 (vW (dl.take (i))))),(17,.pv (.int .i64 0)),(28,.any),(57,.any),(69,.any),(76,.any),(96,.pv (.int .i64 dl.length)),(97,.pv (.int .i64 i))],[⟨false,cs⟩],[],none⟩) (fun i=>some (.normal,⟨sl 164 [(6,.any),(7,.pv pl),(8,.pv (.int .i64 n8)),(9,.pv (.int .i64 n9)),(14,.row 3 W),(16,.pv (.int .i64 (vW dl))),(17,.pv (.int .i64 0)),(28,.any),(76,.any)],[⟨false,cs⟩],[],none⟩)) h (fun _=>rfl) (fun _=>by simp only [bC,dK,Nat.reduceMul,Nat.reduceBEq,Nat.reduceLT,Nat.reduceLeDiff,Nat.reduceAdd,decide_true,Bool.and_self,Bool.true_and]) ?_ ?_
 ·intro i rb hi ih
  have hlim:lim=1073741824:=rfl
  have hi1:=cZ hi (by omega)
  have F1:((i:Int)<(dl.length:Int))=True:=eq_true (by omega)
  have hm:i<ml.length:=by omega
  have hx:=Rz hi
  have hy:=Rz hm
  have b1:=DN hD i
  have k1:=hD _ (List.getElem_mem hi)
  have k2:=hM _ (List.getElem_mem hm)
  have hs:=zo hi
  have hL:=fun (st:St)=>afx (st:=st) (ds:=dl[i]) (ms:=ml[i]) (pl:=pl) (D:=dl.map pJ) (M:=ml.map pJ) (W:=W) (v:=i) (n8:=n8) (n9:=n9) (n:=vW (dl.take i)) (n96:=(dl.length:Int)) (cs:=cs) k1.1 k1.2 k2.1 k2.2 (hin i hi hm) hy (by omega) (Np k1)
  rw [List.take_zero,show lN []=0 from rfl,Int.add_zero] at hL
  simp only [IE,F1,hx,ak hi,List.length_map,aX,Nat.reduceMul,Nat.reduceBEq,Nat.reduceLT,Nat.reduceLeDiff,reduceCtorEq,Nat.reduceEqDiff,Nat.reduceAdd,Nat.beq]
  rw [hL _ (by simp only [bC,dK,Nat.reduceMul,Nat.reduceBEq,Nat.reduceLT,Nat.reduceLeDiff,Nat.reduceAdd,decide_true,Bool.and_self,Bool.true_and]<;>rfl)]
  simp only [List.length_map,aX,Nat.reduceMul,Nat.reduceBEq,Nat.reduceLT,Nat.reduceLeDiff,reduceCtorEq,Nat.reduceEqDiff,Nat.reduceAdd,Nat.beq]
  rw [ih _ (by simp only [hi1];rw [hs];simp only [aX,Nat.reduceMul,Nat.reduceBEq,Nat.reduceLT,Nat.reduceLeDiff,reduceCtorEq,Nat.reduceEqDiff,Nat.reduceAdd,Nat.beq]<;>rfl)]
  all_goals rfl
 ·intro rb
  rw [List.take_length]
  simp only [IE,Int.lt_irrefl,List.length_map,aX,Nat.reduceMul,Nat.reduceBEq,Nat.reduceLT,Nat.reduceLeDiff,reduceCtorEq,Nat.reduceEqDiff,Nat.reduceAdd,Nat.beq]
end Go.Proofs.YtaaokejjmdbfaaaDoor.V

namespace Go.Proofs.YtaaokejjmdbfaaaDoor
open Go.RowKit Go.ChangeShapes Go.WideShapes Go.ChangeAt
theorem Nq {T:Tags} {w:World} {b:Bool} {v:Value} (h:rQ T w [(.bool b,false)] v):v=.bool b:=by
 obtain ⟨arr,h1,h2,h3⟩:=h
 have ha:arr.size=1:=h1
 have e0:arr[0]?=some arr[0]:=Array.getElem?_eq_getElem (by omega)
 have hv:v=arr[0]:=by rw [h2,if_pos ha,Array.getD_eq_getD_getElem?,e0];rfl
 have hr:ay (fun b=>T b=.ro) w (.bool b) arr[0]:=h3 0 (.bool b,false) arr[0] rfl e0
 rw [hv]
 exact hr.oK
def JC (w:World):Prop:=jS (fun b=>if b<w.heap.size then .ro else .other) w
theorem Qs {P:Program} {env:Env} {f:Nat} {args:List PV} {vs:List Value} {w:World} (hE:CB P env) (h:cal env f args=some [(.bool true,false)]) (hl:vs.length=args.length)
  (hr:∀ (i:Nat) x v,args[i]?=some x→vs[i]?=some v→ay (fun b=>b<w.heap.size) w x v) (hG:JC w):Calls P f vs.toArray w (fun e w'=>e=.returned (.bool true)∧Below w.heap.size w w'):=by
 obtain ⟨n,hn⟩:=EG h
 have hC:=(TP hE hn).2 (fun b=>if b<w.heap.size then .ro else .other) w vs (fun b=>by
  by_cases hb:b<w.heap.size
  ·exact .inl (if_pos hb)
  ·exact .inr (if_neg hb)) (fun b hb=>if_neg (by omega)) hl (fun i x v hx hv=>(hr i x v hx hv).frame fun b hb _=>⟨if_pos hb,rfl⟩) hG
 refine hC.mono ?_
 rintro e w' ⟨v,T',rfl,h1,_,_,h2⟩
 exact ⟨by rw [Nq h2],h1⟩
def JD (w:World):List PV→List Value→Prop
 |[],[]=>True
 |x :: xs,v :: vs=>ay (fun b=>b<w.heap.size) w x v∧JD w xs vs
 |_,_=>False
theorem JD.get {w:World}:∀ {xs:List PV} {vs:List Value},JD w xs vs→vs.length=xs.length∧∀ (i:Nat) x v,xs[i]?=some x→vs[i]?=some v→ay (fun b=>b<w.heap.size) w x v
 |[],[],_=>⟨rfl,fun i x v hx=>by simp at hx⟩
 |x :: xs,v :: vs,h=>by
  obtain ⟨h1,h2⟩:=h
  obtain ⟨k1,k2⟩:=h2.get
  refine ⟨by simp [k1],fun i y u hy hu=>?_⟩
  cases i with
  |zero=>cases hy;cases hu;exact h1
  |succ i=>exact k2 i y u hy hu
 |[],_ :: _,h=>h.elim
 |_ :: _,[],h=>h.elim
theorem Vx {P:Program} {env:Env} {f:Nat} {args:List PV} {vs:List Value} {w:World} (hE:CB P env) (h:cal env f args=some [(.bool true,false)]) (hr:JD w args vs) (hG:JC w:=by exact JC.none):Calls P f vs.toArray w (fun e w'=>e=.returned (.bool true)∧Below w.heap.size w w') :=
 Qs hE h hr.get.1 hr.get.2 hG
def JE (w:World) (cs:List Value) (ps:List PV):Prop :=
 cs.length=ps.length∧(∀ c∈cs,c.oneCell'=true)∧∀ (j:Nat) x v,ps[j]?=some x→cs[j]?=some v→ay (fun b=>b<w.heap.size) w x v
def iK (P:Program) (t:TypeId) (n:Nat) (S:List PV→Prop):Prop :=
 P.cellsOf t=n∧∀ {H:Type} {enc:TypeId × Value→H} {w:World} {fuel:Nat} {cs:List Value} {x:DataW H × List MemPlace},DataW.trod enc P w 0 (fun _=>true) true fuel t cs=some x→∃ ps,S ps∧ps.length=n∧JE w cs ps
def SInt (k:IntKind) (ps:List PV):Prop:=∃ n,(Lit.int k n).wf=true∧ps=[.int k n]
def ahL (ps:List PV):Prop:=∃ b,ps=[.bool b]
def ahM (n:Nat) (S:List PV→Prop) (ps:List PV):Prop:=ps.length=n∧∀ p∈ps,S [p]
def wrS (ps:List PV):PV:=ps.headD .void
def DR (n:Nat) (S:List PV→Prop) (wr:List PV→PV) (ps:List PV):Prop:=∃ es,ps=[.list n es]∧∀ x∈es,∃ q,S q∧x=wr q
def Qu:List (List PV→Prop)→List PV→Prop
 |[],ps=>ps=[]
 |S :: Ss,ps=>∃ p q,ps=p++q∧S p∧Qu Ss q
section
variable {P:Program} {t e:TypeId} {n m:Nat} {S:List PV→Prop} {k:IntKind}
theorem yC {w:World} {c:Value} {p:PV} (hc:c.oneCell'=true) (h:ay (fun b=>b<w.heap.size) w p c):JE w [c] [p] :=
 ⟨rfl,fun x hx=>by rw [List.mem_singleton.1 hx];exact hc,fun j x v hx hv=>by
  cases j with
  |zero=>cases hx;cases hv;exact h
  |succ j=>simp at hx⟩
theorem iK.int (ht:P.underlying t=some (.int k)) (hc:P.cellsOf t=1):iK P t 1 (SInt k):=⟨hc,fun h=>by
 obtain ⟨n,rfl,_,hw⟩:=DataW.trod_int ht h
 exact ⟨[.int k n],⟨n,hw,rfl⟩,rfl,yC rfl (.int k n)⟩⟩
theorem iK.bool (ht:P.underlying t=some .bool) (hc:P.cellsOf t=1):iK P t 1 ahL:=⟨hc,fun h=>by
 obtain ⟨b,rfl,_⟩:=DataW.trod_bool ht h
 exact ⟨[.bool b],⟨b,rfl⟩,rfl,yC rfl (.bool b)⟩⟩
theorem zq {α:Type} {p:Nat→α→Prop}:∀ n:Nat,(∀ i,i<n→∃ y,p i y)→∃ l:List α,l.length=n∧∀ i x,l[i]?=some x→p i x
 |0,_=>⟨[],rfl,fun i x h=>by simp at h⟩
 |n+1,h=>by
  obtain ⟨l,h1,h2⟩:=zq n fun i hi=>h i (by omega)
  obtain ⟨y,hy⟩:=h n (by omega)
  refine ⟨l++[y],by simp [h1],fun i x hx=>?_⟩
  by_cases hi:i<n
  ·rw [List.getElem?_append_left (by omega)] at hx;exact h2 i x hx
  ·have:=(List.getElem?_eq_some_iff.1 hx).1
   obtain rfl:i=n:=by simp at this;omega
   rw [List.getElem?_append_right (by omega),h1,Nat.sub_self] at hx
   cases hx
   exact hy
theorem iK.arr (ht:P.underlying t=some (.array n e)) (he:iK P e 1 S) (hc:P.cellsOf t=n):iK P t n (ahM n S):=⟨hc,fun {H enc w fuel cs x} h=>by
 obtain ⟨xs,m,_,_,hl,hx,hE⟩:=DataW.trod_array ht h
 rw [hc] at hl
 obtain ⟨l,h1,h2⟩:=zq (p:=fun i (b:PV)=>S [b]∧∃ c,cs[i]?=some c∧c.oneCell'=true∧ay (fun b=>b<w.heap.size) w b c) n fun i hi=>by
  have:=hE i hi
  rw [List.getElem?_eq_getElem (by omega),he.1] at this
  obtain ⟨ps,g1,g2,g3,g4,g5⟩:=he.2 this
  match ps,g2 with
  |[p],_ =>
   have hci:cs[i]?=some cs[i]:=List.getElem?_eq_getElem (by omega)
   have h0:((cs.drop (i * 1)).take 1)[0]?=some cs[i]:=by
    rw [List.getElem?_take,if_pos (by decide),List.getElem?_drop]
    simpa using hci
   exact ⟨p,g1,cs[i],hci,g4 _ (List.mem_of_getElem? h0),g5 0 p _ rfl h0⟩
 refine ⟨l,⟨h1,fun p hp=>?_⟩,h1,by omega,fun c hc=>?_,fun j x v hx hv=>?_⟩
 ·obtain ⟨i,hi⟩:=List.mem_iff_getElem?.1 hp
  exact (h2 i p hi).1
 ·obtain ⟨i,hi⟩:=List.mem_iff_getElem?.1 hc
  have hil:i<l.length:=by
   have:=(List.getElem?_eq_some_iff.1 hi).1
   omega
  obtain ⟨_,c',e1,e2,_⟩:=h2 i l[i] (List.getElem?_eq_getElem hil)
  rw [hi] at e1;cases e1;exact e2
 ·obtain ⟨_,c',e1,_,e3⟩:=h2 j x hx
  rw [hv] at e1;cases e1;exact e3⟩
theorem DT {w:World} {b off:Nat} {v:Value} (h:w.cell? ⟨b,off,none⟩=some v):dF w b:=by
 unfold World.cell? at h
 split at h
 ·rename_i arr E q hb
  exact ⟨arr,E,q,hb⟩
 ·cases h
theorem iK.list {wr:List PV→PV} (ht:P.underlying t=some (.slice e)) (hc:P.cellsOf t=1) (hr:iK P e n S) (hpos:0<n) (hw:∀ ps,S ps→ps.length=n→(wr ps).cells=ps):iK P t 1 (DR n S wr):=⟨hc,fun {H enc w fuel cs x} h=>by
 rcases DataW.trod_slice ht h with ⟨rfl,_⟩|⟨a,len,cap,elems,rest,m,_,rfl,_,_,hl,hm,hel,hE,hR,_⟩
 ·exact ⟨[.list n []],⟨[],rfl,fun x hx=>by cases hx⟩,rfl,yC rfl (.nil n none)⟩
 ·obtain ⟨l,h1,h2⟩:=zq (p:=fun i (y:List Value × List PV)=>w.cells? 0 (a.add (i * n)) n=some y.1∧S y.2∧y.2.length=n∧JE w y.1 y.2) len fun i hi=>by
   have:=hE i hi
   rw [List.getElem?_eq_getElem (by omega),hr.1,Option.bind_eq_some_iff] at this
   obtain ⟨c,h3,h4⟩:=this
   obtain ⟨ps,g1,g2,g3⟩:=hr.2 h4
   exact ⟨(c,ps),h3,g1,g2,g3⟩
  refine ⟨[.list n (l.map fun y=>wr y.2)],⟨_,rfl,fun x hx=>?_⟩,rfl,yC rfl ?_⟩
  ·obtain ⟨y,hy,rfl⟩:=List.mem_map.1 hx
   obtain ⟨i,hi⟩:=List.mem_iff_getElem?.1 hy
   exact ⟨y.2,(h2 i y hi).2.1,rfl⟩
  ·by_cases hcap:cap=0
   ·have:len=0:=by omega
    subst hcap;subst this
    have:l=[]:=List.eq_nil_of_length_eq_zero h1
    subst this
    exact .nil n (some a)
   ·-- there are cells
    have hcell:∃ off v,w.cell? ⟨a.block,off,none⟩=some v∧a.spot=none:=by
     have adK:∀ (i:Nat) (c:List Value),w.cells? 0 (a.add (i * n)) n=some c→∃ off v,w.cell? ⟨a.block,off,none⟩=some v∧a.spot=none:=fun i c h3=>by
      obtain ⟨_,hc0,h4⟩:=World.cells?_some h3
      have h5:=h4 0 hpos
      rw [List.getElem?_eq_getElem (by omega)] at h5
      have hs:(a.add (i * n)).spot=none:=by simpa [Addr.add] using World.cell?_spot h5
      have hs0:a.spot=none:=by
       unfold Addr.add at hs
       split at hs
       ·exact hs
       ·rename_i hne
        by_cases h0:i * n=0
        ·rename_i q;exact absurd h0 (by simpa using hne)
        ·rcases Nat.eq_zero_or_pos i with hi0|hi0
         ·subst hi0;simp at h0
         ·-- the row begins at a: its first cell
          have:0<len∨len=0:=by omega
          rcases this with hlen|hlen
          ·obtain ⟨y,hy⟩:∃ y,l[0]?=some y:=⟨l[0],List.getElem?_eq_getElem (by omega)⟩
           obtain ⟨_,hc1,h6⟩:=World.cells?_some (h2 0 y hy).1
           have h7:=h6 0 hpos
           rw [List.getElem?_eq_getElem (by omega)] at h7
           simpa [Addr.add] using World.cell?_spot h7
          ·have hrl:0<rest.length:=by have:=(hR rfl).1;omega
           have:=(hR rfl).2 0 (by omega)
           have h8:rest[0]?=some rest[0]:=List.getElem?_eq_getElem hrl
           rw [h8,hr.1,hlen,Option.bind_eq_some_iff] at this
           obtain ⟨c1,h9,_⟩:=this
           obtain ⟨_,hc1,h6⟩:=World.cells?_some h9
           have h7:=h6 0 hpos
           rw [List.getElem?_eq_getElem (by omega)] at h7
           simpa [Addr.add] using World.cell?_spot h7
      obtain ⟨b,off,spot⟩:=a
      simp only at hs0
      subst hs0
      rw [Addr.add_lit,Addr.add_lit] at h5
      exact ⟨_,_,h5,rfl⟩
     rcases Nat.eq_zero_or_pos len with hlen|hlen
     ·have hrl:0<rest.length:=by have:=(hR rfl).1;omega
      have:=(hR rfl).2 0 (by omega)
      have h8:rest[0]?=some rest[0]:=List.getElem?_eq_getElem hrl
      rw [h8,hr.1,Option.bind_eq_some_iff] at this
      obtain ⟨c1,h9,_⟩:=this
      exact adK _ c1 h9
     ·obtain ⟨y,hy⟩:∃ y,l[0]?=some y:=⟨l[0],List.getElem?_eq_getElem (by omega)⟩
      exact adK 0 _ (h2 0 y hy).1
    obtain ⟨alg,v0,hv0,hspot⟩:=hcell
    obtain ⟨b,off,spot⟩:=a
    simp only at hspot hv0
    subst hspot
    have hC:dF w b:=DT hv0
    have hget:∀ (i:Nat) x,(l.map fun y=>wr y.2)[i]?=some x→∃ y,l[i]?=some y∧x=wr y.2:=fun i x hx=>by
     rw [List.getElem?_map] at hx
     cases e:l[i]? with
     |none=>rw [e] at hx;cases hx
     |some y=>rw [e] at hx;exact ⟨y,rfl,(Option.some.inj hx).symm⟩
    have hlen:(l.map fun y=>wr y.2).length=len:=by simp [h1]
    have:=ay.list (ok:=fun b=>b<w.heap.size) (w:=w) n (l.map fun y=>wr y.2) b off cap (fun i j=>(((l[i]?).map (·.1)).getD []).getD j default) hC.lt hC (by rw [hlen];exact hl) hm
     (fun x hx=>by
      obtain ⟨i,hi⟩:=List.mem_iff_getElem?.1 hx
      obtain ⟨y,hy,rfl⟩:=hget i x hi
      obtain ⟨_,g1,g2,_⟩:=h2 i y hy
      rw [hw _ g1 g2,g2])
     (fun i x j p hi hj=>by
      obtain ⟨y,hy,rfl⟩:=hget i x hi
      obtain ⟨g0,g1,g2,g3,g4,g5⟩:=h2 i y hy
      rw [hw _ g1 g2] at hj
      have hjn:j<n:=by have:=(List.getElem?_eq_some_iff.1 hj).1;omega
      obtain ⟨_,hc1,h6⟩:=World.cells?_some g0
      have h7:=h6 j hjn
      have hcj:y.1[j]?=some y.1[j]:=List.getElem?_eq_getElem (by omega)
      have hd:(((l[i]?).map (·.1)).getD []).getD j default=y.1[j]:=by
       rw [hy];simp [List.getD_eq_getElem?_getD,hcj]
      rw [hd]
      rw [hcj,Addr.add_lit,Addr.add_lit] at h7
      exact ⟨h7,g4 _ (List.mem_of_getElem? hcj)⟩)
     (fun i x j p hi hj=>by
      obtain ⟨y,hy,rfl⟩:=hget i x hi
      obtain ⟨g0,g1,g2,g3,g4,g5⟩:=h2 i y hy
      rw [hw _ g1 g2] at hj
      have hjn:j<n:=by have:=(List.getElem?_eq_some_iff.1 hj).1;omega
      have hcj:y.1[j]?=some y.1[j]:=List.getElem?_eq_getElem (by omega)
      have hd:(((l[i]?).map (·.1)).getD []).getD j default=y.1[j]:=by
       rw [hy];simp [List.getD_eq_getElem?_getD,hcj]
      rw [hd]
      exact g5 j p _ hj hcj)
    rw [hlen] at this
    exact this⟩
theorem JE.append {w:World} {c1 c2:List Value} {p1 p2:List PV} (h1:JE w c1 p1) (h2:JE w c2 p2):JE w (c1++c2) (p1++p2):=by
 obtain ⟨a1,a2,a3⟩:=h1
 obtain ⟨b1,b2,b3⟩:=h2
 refine ⟨by simp [a1,b1],fun c hc=>?_,fun j x v hx hv=>?_⟩
 ·rcases List.mem_append.1 hc with h|h
  ·exact a2 c h
  ·exact b2 c h
 ·by_cases hj:j<p1.length
  ·rw [List.getElem?_append_left hj] at hx
   rw [List.getElem?_append_left (by omega)] at hv
   exact a3 j x v hx hv
  ·rw [List.getElem?_append_right (by omega)] at hx
   rw [List.getElem?_append_right (by omega),a1] at hv
   exact b3 _ x v hx hv
inductive Qv (P:Program):Nat→List Field→List (List PV→Prop)→Nat→Prop
 |nil (o:Nat):Qv P o [] [] 0
 |cons {o n m:Nat} {f:Field} {fs:List Field} {S:List PV→Prop} {Ss:List (List PV→Prop)}:f.offset=o→iK P f.type n S→Qv P (o+n) fs Ss m→Qv P o (f :: fs) (S :: Ss) (n+m)
theorem Qv.read {o:Nat} {fs:List Field} {Ss:List (List PV→Prop)} (h:Qv P o fs Ss m) {H:Type} {enc:TypeId × Value→H} {w:World} {fuel:Nat} {cs:List Value} {xs:List (DataW H × List MemPlace)} (hl:cs.length=o+m)
  (hx:∀ (i:Nat) (f:Field),fs[i]?=some f→∃ x,DataW.trod enc P w 0 (fun _=>true) true fuel f.type ((cs.drop f.offset).take (P.cellsOf f.type))=some x):∃ ps,Qu Ss ps∧ps.length=m∧JE w (cs.drop o) ps:=by
 induction h with
 |nil o=>exact ⟨[],rfl,rfl,by rw [List.drop_of_length_le (by omega)];exact (⟨rfl,fun c hc=>(by cases hc),fun j x v hx=>(by simp at hx)⟩:JE w [] [])⟩
 |@cons o n m f fs S Ss h1 h2 h3 ih =>
  obtain ⟨x,h4⟩:=hx 0 f rfl
  rw [h2.1,h1] at h4
  obtain ⟨p,g1,g2,g3⟩:=h2.2 h4
  obtain ⟨q,k1,k2,k3⟩:=ih (by omega) (fun i f hf=>hx (i+1) f hf)
  refine ⟨p++q,⟨p,q,rfl,g1,k1⟩,by simp [g2,k2],?_⟩
  have:cs.drop o=(cs.drop o).take n++cs.drop (o+n):=by rw [← List.drop_drop,List.take_append_drop]
  rw [this]
  exact g3.append k3
theorem iK.struct {fs:Array Field} {Ss:List (List PV→Prop)} (ht:P.underlying t=some (.struct fs)) (hf:Qv P 0 fs.toList Ss n) (hc:P.cellsOf t=n):iK P t n (Qu Ss):=⟨hc,fun {H enc w fuel cs x} h=>by
 obtain ⟨xs,m,_,_,hl,hx,hE⟩:=DataW.trod_struct ht h
 obtain ⟨ps,h1,h2,h3⟩:=hf.read (xs:=xs) (enc:=enc) (w:=w) (fuel:=m) (cs:=cs) (by omega) (fun i f hi=>by
  have hi':fs[i]?=some f:=by simpa using hi
  have:=hE i f hi'
  have hil:i<xs.length:=by rw [hx];exact (Array.getElem?_eq_some_iff.1 hi').1
  exact ⟨xs[i],by rw [this,List.getElem?_eq_getElem hil]⟩)
 exact ⟨ps,h1,h2,by simpa using h3⟩⟩
theorem iK.acT {f0 f1 f2:Field} {n0 n1 n2:Nat} {S0 S1 S2:List PV→Prop} (ht:P.underlying t=some (.struct #[f0,f1,f2])) (h0:iK P f0.type n0 S0) (h1:iK P f1.type n1 S1) (h2:iK P f2.type n2 S2) (o0:f0.offset=0) (o1:f1.offset=0+n0) (o2:f2.offset=0+n0+n1) (hc:P.cellsOf t=n0+(n1+(n2+0))):iK P t (n0+(n1+(n2+0))) (Qu [S0,S1,S2]) :=
 iK.struct ht (show Qv P 0 [f0,f1,f2] [S0,S1,S2] (n0+(n1+(n2+0))) from .cons o0 h0 (.cons o1 h1 (.cons o2 h2 (.nil _)))) hc
theorem acU {H:Type} {enc:TypeId × Value→H} {w:World} {v:Value} {d:DataW H} {p:List MemPlace} (hr:iK P t 1 S) (hone:v.cells.toList=[v]) (h:DataW.Trod enc P w 0 (fun _=>true) true t v d p) :
  ∃ q,S [q]∧ay (fun b=>b<w.heap.size) w q v:=by
 obtain ⟨fuel,hf⟩:=h
 obtain ⟨ps,h1,h2,h3,h4,h5⟩:=hr.2 hf
 match ps,h2 with
 |[q],_=>exact ⟨q,h1,h5 0 q v rfl (by rw [hone];rfl)⟩
theorem acV {H:Type} {enc:TypeId × Value→H} {w:World} {arr:Array Value} {d:DataW H} {p:List MemPlace} (hr:iK P t n S) (h:DataW.Trod enc P w 0 (fun _=>true) true t (.agg arr) d p) :
  ∃ ps,S ps∧ay (fun b=>b<w.heap.size) w (.agg ps) (.agg arr):=by
 obtain ⟨fuel,hf⟩:=h
 obtain ⟨ps,h1,h2,h3,h4,h5⟩:=hr.2 hf
 have hc:(Value.agg arr).cells=arr:=rfl
 rw [hc] at h3 h4 h5
 refine ⟨ps,h1,.agg ps arr (by simpa using h3) (fun j v hv=>h4 v (List.mem_of_getElem? (i:=j) (by simpa using hv))) (fun j x v hx hv=>h5 j x v hx (by simpa using hv))⟩
theorem GI {H:Type} {enc:TypeId × Value→H} {w:World} {v:Value} {d:DataW H} {p:List MemPlace} {m:Reach} {base:Nat} (ht:P.underlying t=some (.slice e)) (hr:iK P t 1 S) (hv:Value.okWide P w m base t v) (h:DataW.Trod enc P w 0 (fun _=>true) true t v d p) :
  ∃ q,S [q]∧ay (fun b=>b<w.heap.size) w q v:=by
 obtain ⟨a,l,c,rfl⟩:=okWide_slice ht hv
 exact acU hr rfl h
theorem acW {H:Type} {enc:TypeId × Value→H} {w:World} {v:Value} {d:DataW H} {p:List MemPlace} {m:Reach} {base:Nat} {c:Nat} (ht:P.underlying t=some (.array c e)) (hr:iK P t n S) (hv:Value.okWide P w m base t v) (h:DataW.Trod enc P w 0 (fun _=>true) true t v d p) :
  ∃ ps,S ps∧ay (fun b=>b<w.heap.size) w (.agg ps) v:=by
 simp only [Value.okWide,ht] at hv
 obtain ⟨cs,rfl,_,_⟩:=hv
 exact acV hr h
end
end Go.Proofs.YtaaokejjmdbfaaaDoor

namespace Go.Proofs.YtaaokejjmdbfaaaDoor
open Go.RowKit
theorem vN {w:World} {a:Addr} {v:Value} (h:w.cell? a=some v):∀ x:Later w,x.w.cell? a=some v:=fun x=>(x.below.cell (World.block_lt_of_cell? w a h)).trans h
structure kN (W:World) (g:Nat) where
 w:World
 grown:W.grownBy w (some g)
instance (W:World) (g:Nat):Nonempty (kN W g):=⟨⟨W,World.grownBy.refl _ _⟩⟩
theorem kN.of {W w:World} {g:Nat} (h:W.grownBy w (some g)):∃ x:kN W g,w=x.w:=⟨⟨w,h⟩,rfl⟩
theorem grown_drew (W:World) (row:Option Nat):W.grownBy W.drew row:=⟨rfl,rfl,rfl,Nat.le_refl _,fun _ _ _=>rfl⟩
theorem kN.drew (W:World) (g:Nat):∃ x:kN W g,W.drew=x.w:=kN.of (grown_drew _ _)
theorem mM {w:World} {g:Nat} {a:Addr} {v:Value} (h:w.cell? a=some v) (hne:a.block≠g):∀ x:kN w g,x.w.cell? a=some v:=fun x =>
 x.grown.cell h fun e=>hne (Option.some.inj e)
theorem Aa {a b c:World} {row:Option Nat} (h:a.grownBy b row) (k:b.grownBy c row):a.grownBy c row :=
 ⟨k.os.trans h.os,k.tape.trans h.tape,k.output.trans h.output,Nat.le_trans h.size k.size,fun i hi hr=>(k.block i (Nat.lt_of_lt_of_le hi h.size) hr).trans (h.block i hi hr)⟩
theorem Vy {w w':World} {row:Option Nat} (h:w.grownBy w' none):w.grownBy w' row:=⟨h.os,h.tape,h.output,h.size,fun k hk _=>h.block k hk (by simp)⟩
theorem grown_below {B:Nat} {w w':World} {row:Option Nat} (h:w.grownBy w' row) (hB:B≤w.heap.size) (hr:∀ k,row=some k→B≤k):Below B w w':=(Below.refl B w).grown h hB hr
theorem below_grown {w w':World} (h:Below w.heap.size w w'):w.grownBy w' none:=⟨h.os,h.tape,h.output,h.size,fun k hk _=>h.block k hk⟩
theorem JF {w w1:World} {cs:Array Value} {T:TypeId} (hb:Below (w.alloc (.cells cs T)).heap.size (w.alloc (.cells cs T)) w1) {j:Nat} {v:Value} (h:cs[j]?=some v):w1.cell? ⟨w.heap.size,j,none⟩=some v:=by
 rw [hb.cell (p:=⟨w.heap.size,j,none⟩) (by simp),World.cell?_alloc_mark w cs T (0,0) j,h]
theorem yD (w:World) (E:TypeId) (cs:Array Value):∀ j u,cs.toList[j]?=some u→(w.alloc (.cells cs E)).cell? ((⟨w.heap.size,0,none⟩:Addr).add j)=some u:=fun j u hu=>by
 rw [Addr.add_lit,Nat.zero_add,World.cell?_alloc_mark w cs E (0,0) j]
 simpa using hu
theorem ZH {α:Type} {r:Rep α} {ok:Nat→Prop} {w w':World} {cs:List Value} {x:α} (h:r.rd ok w cs x) (hb:Below w.heap.size w w'):r.rd ok w' cs x :=
 r.mono (fun _ hb=>hb.1) (r.frame (fun b hb'=>hb.block b hb'.2) (r.live h))
theorem yE {α:Type} {r:Rep α} {ok:Nat→Prop} {w:World} {cs:List Value} {x:α} (h:r.rd ok w cs x) {o:Obj}:r.rd ok (w.alloc o) cs x:=ZH h ((Below.refl _ _).alloc (Nat.le_refl _) _)
def bV {α:Type} (r:Rep α) (tag:Nat→Nat) (ok:Nat→Prop) (w:World):Nat→List Value→List α→Prop
 |_,xs,[]=>xs=[]
 |i,xs,x :: l=>∃ c rest,xs=c++rest∧r.rd (fun b=>ok b∧tag b=i) w c x∧bV r tag ok w (i+1) rest l
section
variable {α:Type} {r:Rep α} {tag tag':Nat→Nat} {ok ok':Nat→Prop} {w w':World}
theorem bV.mono (hk:∀ b,ok b→ok' b):∀ {l:List α} {i:Nat} {xs:List Value},bV r tag ok w i xs l→bV r tag ok' w i xs l
 |[],_,_,h=>h
 |_ :: _,_,_,⟨c,rest,e,h1,h2⟩=>⟨c,rest,e,r.mono (fun b hb=>⟨hk b hb.1,hb.2⟩) h1,h2.mono hk⟩
theorem bV.retag (hk:∀ b,ok b→tag' b=tag b):∀ {l:List α} {i:Nat} {xs:List Value},bV r tag ok w i xs l→bV r tag' ok w i xs l
 |[],_,_,h=>h
 |_ :: _,_,_,⟨c,rest,e,h1,h2⟩=>⟨c,rest,e,r.mono (fun b hb=>⟨hb.1,by rw [hk b hb.1];exact hb.2⟩) h1,h2.retag hk⟩
theorem bV.live:∀ {l:List α} {i:Nat} {xs:List Value},bV r tag ok w i xs l→bV r tag (fun b=>ok b∧b<w.heap.size) w i xs l
 |[],_,_,h=>h
 |_ :: _,_,_,⟨c,rest,e,h1,h2⟩=>⟨c,rest,e,r.mono (fun b hb=>⟨⟨hb.1.1,hb.2⟩,hb.1.2⟩) (r.live h1),h2.live⟩
theorem bV.frame (hf:∀ b,ok b→w'.heap[b]?=w.heap[b]?):∀ {l:List α} {i:Nat} {xs:List Value},bV r tag ok w i xs l→bV r tag ok w' i xs l
 |[],_,_,h=>h
 |_ :: _,_,_,⟨c,rest,e,h1,h2⟩=>⟨c,rest,e,r.frame (fun b hb=>hf b hb.1) h1,h2.frame hf⟩
theorem bV.chunks:∀ {l:List α} {i:Nat} {xs:List Value},bV r tag ok w i xs l→Chunks r ok w xs l
 |[],_,_,h=>h
 |_ :: _,_,_,⟨c,rest,e,h1,h2⟩=>⟨c,rest,e,r.mono (fun b hb=>hb.1) h1,h2.chunks⟩
theorem bV.snoc {c:List Value} {x:α}:∀ {l:List α} {i:Nat} {xs:List Value},bV r tag ok w i xs l→r.rd (fun b=>ok b∧tag b=i+l.length) w c x→bV r tag ok w i (xs++c) (l++[x])
 |[],i,xs,h,hc=>by
  simp only [bV] at h
  subst h
  exact ⟨c,[],by simp,by simpa using hc,rfl⟩
 |y :: l,i,xs,⟨d,rest,e,h1,h2⟩,hc=>⟨d,rest++c,by rw [e,List.append_assoc],h1,h2.snoc (by rw [List.length_cons] at hc;rw [show i+1+l.length=i+(l.length+1) by omega];exact hc)⟩
theorem bV.pick:∀ {l:List α} {i:Nat} {xs:List Value},bV r tag ok w i xs l→∀ {k:Nat} {x:α},l[k]?=some x →
  ∃ c,(∀ j,j<r.sz→xs[k * r.sz+j]?=c[j]?)∧r.rd (fun b=>ok b∧tag b=i+k) w c x ∧
   ∀ (w':World) (x':α),(∀ b,ok b→tag b≠i+k→w'.heap[b]?=w.heap[b]?)→r.rd (fun b=>ok b∧tag b=i+k) w' c x'→bV r tag ok w' i xs (l.set k x')
 |[],_,_,_,k,x,hx=>by simp at hx
 |y :: l,i,xs,⟨c,rest,e,h1,h2⟩,0,x,hx=>by
  simp only [List.getElem?_cons_zero,Option.some.injEq] at hx
  subst hx
  refine ⟨c,fun j hj=>by rw [e,Nat.zero_mul,Nat.zero_add,List.getElem?_append_left (by rw [r.len h1];exact hj)],h1,fun w' x' hf hr=>?_⟩
  refine ⟨c,rest,e,hr,?_⟩
  -- the tail's elements bear other tags
  have:∀ {l:List α} {m:Nat} {xs:List Value},i<m→bV r tag ok w m xs l→bV r tag ok w' m xs l:=by
   intro l
   induction l with
   |nil=>intro m xs _ h;exact h
   |cons z l ih =>
    intro m xs hm h
    obtain ⟨d,rs,e',h3,h4⟩:=h
    exact ⟨d,rs,e',r.frame (fun b hb=>hf b hb.1 (by rw [hb.2];omega)) h3,ih (by omega) h4⟩
  exact this (Nat.lt_succ_self _) h2
 |y :: l,i,xs,⟨c,rest,e,h1,h2⟩,k+1,x,hx=>by
  obtain ⟨d,h3,h4,h5⟩:=h2.pick (k:=k) (x:=x) (by simpa using hx)
  have ei:i+1+k=i+(k+1):=by omega
  refine ⟨d,fun j hj=>?_,by rw [← ei];exact h4,fun w' x' hf hr=>?_⟩
  ·rw [e,List.getElem?_append_right (by rw [r.len h1,Nat.add_mul];omega),r.len h1,← h3 j hj]
   congr 1
   rw [Nat.add_mul];omega
  ·refine ⟨c,rest,e,r.frame (fun b hb=>hf b hb.1 (by rw [hb.2];omega)) h1,?_⟩
   exact h5 w' x' (fun b hb hne=>hf b hb (by rw [← ei];exact hne)) (by rw [ei];exact hr)
end
def jl {α:Type} (r:Rep α) (B F:Nat) (E:TypeId) (w:World) (v:Value) (l:List α):Prop :=
 ∃ tag xs,w.ownsRow B E r.sz v l.length xs∧bV r tag (fun b=>B≤b∧b<F∧Option.some b≠v.ownBlock) w 0 xs l
section
variable {α:Type} {r:Rep α} {B F:Nat} {E:TypeId} {w w':World} {v:Value} {l:List α}
theorem jl.nil (r:Rep α) (B F:Nat) (E:TypeId) (w:World):jl r B F E w (.slice none 0 0) []:=⟨fun _=>0,[],World.ownsRow_nil _ _ _ _,rfl⟩
theorem jl.up {F':Nat} (h:jl r B F E w v l) (hF:F≤F'):jl r B F' E w v l :=
 let ⟨tag,xs,h1,h2⟩:=h;⟨tag,xs,h1,h2.mono fun _ hb=>⟨hb.1,Nat.lt_of_lt_of_le hb.2.1 hF,hb.2.2⟩⟩
theorem jl.live (h:jl r B F E w v l):jl r B w.heap.size E w v l :=
 let ⟨tag,xs,h1,h2⟩:=h;⟨tag,xs,h1,h2.live.mono fun _ hb=>⟨hb.1.1,hb.2,hb.1.2.2⟩⟩
theorem jl.lt (h:jl r B F E w v l):∀ k,v.ownBlock=some k→B≤k∧k<w.heap.size:=let ⟨_,_,h1,_⟩:=h;h1.lt
theorem jl.below (h:jl r B F E w v l) (hb:Below w.heap.size w w'):jl r B F E w' v l:=by
 obtain ⟨tag,xs,h1,h2⟩:=h
 exact ⟨tag,xs,h1.kept (below_grown hb) (by cases v.ownBlock<;>simp),(bV.frame (fun b hb'=>hb.block b hb'.2) h2.live).mono fun b hb=>hb.1⟩
theorem jl.own (h:jl r B F E w v l):Own r B E (B≤·) w v l :=
 let ⟨_,xs,h1,h2⟩:=h;⟨xs,h1,h2.chunks.mono fun _ hb=>⟨hb.1,hb.2.2⟩⟩
theorem jl.sl (h:jl r B F E w v l):∃ a n c,v=.slice a n c∧Sl r (B≤·) w a n c l :=
 let ⟨a,n,c,e,h⟩:=h.own.sl;⟨a,n,c,e,h.mono fun _ hb=>hb.elim id id⟩
theorem qw {P:Program} {ops:Array Oper} {rest:List Oper} {o:Oper} {a:Act} {Q:Exit→Act→World→Prop} {T bytes:Nat} {z:Value} (ht:qE P T E r.sz bytes z) (hgd:o.guard=none) (s x:Operand)
  (ho:o.op=.call { callee:=.builtin .append,args:=#[s,x],argTypes:=#[T,T] }) (hs:a.eval s=v) (h:jl r B F E w v l) {ad:Addr} {c:Nat} (hx:a.eval x=.slice (some ad) 1 c)
  {y:α} {news:List Value} (hnews:∀ j u,news[j]?=some u→w.cell? (ad.add j)=some u) (hrd:r.rd (F≤·) w news y) (hown:∀ k,v.ownBlock=some k→k<F)
  (h63:l.length+1≤maxLen) (hby:(l.length+1) * bytes≤140737488355328) (hB:B≤F) (hF:F≤w.heap.size)
  (hk:∀ v' w',jl r B w'.heap.size E w' v' (l++[y])→w.grownBy w' v.ownBlock→(v'.ownBlock=v.ownBlock∨v'.ownBlock=some w.heap.size)→wpList P ops Q rest (a.put o.dst v') w'):wpList P ops Q (o :: rest) a w:=by
 refine wpList_plain hgd fun K hK=>?_
 obtain ⟨i,hi,hz0,hz1,hz2⟩:=info_parts ht.i
 obtain ⟨tag,xs,h1,h2⟩:=h
 obtain ⟨v',w',hr,h3,h4,_,h6⟩:=run_append_own_at (P:=P) w B T o.type E i z r.sz bytes ht.u hi hz0 hz1 hz2 ht.zs ht.pos v l.length xs h1 ad 1 c news (by rw [r.len hrd];simp) hnews (r.one hrd) h63 hby (by omega)
 unfold Oper.wp execOp
 simp only [ho,resolve,invoke,builtin,Sem.run_bind,Sem.run_pure,Result.andThen_ok,List.map_toArray,List.map_cons,List.map_nil,hs,hx,hr]
 refine hK _ _ (hk v' w' ?_ h4 h6)
 refine ⟨fun b=>if F≤b then l.length else tag b,xs++news,by rw [List.length_append];exact h3,?_⟩
 have hne:∀ b,b<w.heap.size→Option.some b≠v.ownBlock→Option.some b≠v'.ownBlock:=fun b hb hn=>by
  rcases h6 with h6|h6
  ·rw [h6];exact hn
  ·rw [h6];intro e;have:=Option.some.inj e;omega
 refine bV.snoc ?_ ?_
 ·have e1:bV r (fun b=>if F≤b then l.length else tag b) (fun b=>B≤b∧b<F∧Option.some b≠v.ownBlock) w 0 xs l:=h2.retag fun b hb=>by
   show (if F≤b then l.length else tag b)=tag b
   rw [if_neg (by omega)]
  refine (bV.frame (fun b hb=>h4.block b (by omega) hb.2.2) e1).mono fun b hb=>⟨hb.1,Nat.lt_of_lt_of_le hb.2.1 (Nat.le_trans hF h4.size),hne b (by omega) hb.2.2⟩
 ·have hno:∀ b,F≤b→Option.some b≠v.ownBlock:=fun b hb e=>by have:=hown b e.symm;omega
  refine r.mono (fun b hb=>⟨⟨by omega,Nat.lt_of_lt_of_le hb.2 h4.size,hne b hb.2 (hno b hb.1)⟩,?_⟩) (r.frame (fun b hb=>h4.block b hb.2 (hno b hb.1)) (r.live hrd))
  show (if F≤b then l.length else tag b)=0+l.length
  rw [if_pos hb.1,Nat.zero_add]
def ZI {α:Type} (r:Rep α) (ok:Nat→Prop) (w:World) (l:List α) (err:Int):Ending→World→Prop:=fun e w' =>
 ∃ a n c,e=.returned (.tuple #[.slice a n c,.int .i64 err])∧Sl r ok w' a n c l∧Below w.heap.size w w'
theorem ZI.mk {α:Type} {r:Rep α} {ok:Nat→Prop} {w w':World} {l:List α} {err err':Int} {a:Option Addr} {n c:Nat} (he:err'=err) (h:Sl r ok w' a n c l) (hB:Below w.heap.size w w') :
  ZI r ok w l err (.returned (.tuple #[.slice a n c,.int .i64 err'])) w':=⟨a,n,c,by rw [he],h,hB⟩
theorem Sl.nil0 {α:Type} (r:Rep α) (ok:Nat→Prop) (w:World):Sl r ok w none 0 0 []:=⟨rfl,Nat.le_refl _,Nat.zero_le _,fun _=>rfl,.inl rfl⟩
def Flat {α:Type} (r:Rep α):Prop:=∀ {ok ok':Nat→Prop} {w w':World} {cs:List Value} {x:α},r.rd ok w cs x→r.rd ok' w' cs x
theorem Flat.int:Flat tC:=fun h=>h
theorem Flat.sec:Flat nG:=fun h=>h
theorem Flat.u8:Flat u8R:=fun h=>h
theorem Flat.u64:Flat aiO:=fun h=>h
theorem Flat.bool:Flat agp:=fun h=>h
theorem Chunks.flat {α:Type} {r:Rep α} (hf:Flat r) {ok ok':Nat→Prop} {w w':World}:∀ {l:List α} {xs:List Value},Chunks r ok w xs l→Chunks r ok' w' xs l
 |[],_,h=>h
 |_ :: _,_,⟨c,rest,e,h1,h2⟩=>⟨c,rest,e,hf h1,h2.flat hf⟩
theorem Src.flat {α:Type} {r:Rep α} (hf:Flat r) {ok ok':Nat→Prop} {w:World} {ao:Option Addr} {m c:Nat} {ys:List α} (h:Src r ok w ao m c ys):Src r ok' w ao m c ys :=
 let ⟨h1,h2,news,h3,h4⟩:=h;⟨h1,h2,news,h3,h4.flat hf⟩
theorem Own.ajd {α:Type} (r:Rep α) {B:Nat} {E:TypeId} {ok:Nat→Prop} {w:World} (hB:B≤w.heap.size):Own r B E ok (w.alloc (.cells #[] E)) (.slice (some ⟨w.heap.size,0,none⟩) 0 0) [] :=
 ⟨[],World.ownsRow_lit w #[] 0 hB (Nat.zero_le _) (by simp),rfl⟩
theorem jl.at (h:jl r B F E w v l) {k:Nat} {x:α} (hx:l[k]?=some x) :
  ∃ g cap c,∃ Vz:Nat→Prop,v=.slice (some ⟨g,0,none⟩) l.length cap∧B≤g∧g<w.heap.size∧(∀ j,j<r.sz→w.cell? ⟨g,k * r.sz+j,none⟩=c[j]?)∧r.rd Vz w c x∧(∀ b,Vz b→B≤b∧b<F∧b≠g) ∧
   ∀ (w':World) (x':α),(∀ b,b<w.heap.size→¬ Vz b→w'.heap[b]?=w.heap[b]?)→w'.os=w.os→w'.tape=w.tape→w'.output=w.output→w.heap.size≤w'.heap.size→r.rd Vz w' c x'→jl r B F E w' v (l.set k x'):=by
 obtain ⟨tag,xs,h1,h2⟩:=h
 have hk:=(List.getElem?_eq_some_iff.1 hx).1
 obtain ⟨g,cap,rfl,hBg,hg⟩:∃ g cap,v=.slice (some ⟨g,0,none⟩) l.length cap∧B≤g∧g<w.heap.size:=by
  rcases h1.2 with ⟨_,h0⟩|⟨g,cap,cur,hv,hb,hg,_⟩
  ·omega
  ·exact ⟨g,cap,hv,hb,(Array.getElem?_eq_some_iff.1 hg).1⟩
 obtain ⟨c,h3,h4,h5⟩:=h2.live.pick hx
 refine ⟨g,cap,c,_,rfl,hBg,hg,fun j hj=>?_,h4,fun b hb=>⟨hb.1.1.1,hb.1.1.2.1,fun e=>hb.1.1.2.2 (by rw [e];rfl)⟩,fun w' x' hf hos htp hout hsz hr=>?_⟩
 ·rw [← h3 j hj,h1.cellAt]
  calc k * r.sz+j<k * r.sz+r.sz:=by omega
   _=(k+1) * r.sz:=by rw [Nat.add_mul];omega
   _≤l.length * r.sz:=Nat.mul_le_mul_right _ (by omega)
 ·have h6:=h5 w' x' (fun b hb hne=>hf b hb.2 fun e=>hne (by simpa using e.2)) hr
  refine ⟨tag,xs,?_,h6.mono fun b hb=>hb.1⟩
  rw [List.length_set]
  have hgk:w'.heap[g]?=w.heap[g]?:=hf g hg fun e=>e.1.1.2.2 rfl
  obtain ⟨hl,⟨hv,h0⟩|⟨g',cap',cur,hv,r1,r2,r3⟩⟩:=h1
  ·cases hv
  ·cases hv
   exact ⟨hl,.inr ⟨g,cap,cur,rfl,r1,by rw [hgk];exact r2,r3⟩⟩
end
def gZ {α:Type} (r:Rep α) (E:TypeId):Rep (List α) where
 sz:=1
 rd ok w cs l:=∃ v,cs=[v]∧(∀ b,v.ownBlock=some b→ok b)∧Own r 0 E (fun _=>False) w v l∧(l=[]→v=.slice none 0 0∨∃ g c,v=.slice (some ⟨g,0,none⟩) 0 c)
 len h:=by obtain ⟨v,rfl,_⟩:=h;rfl
 mono hk h:=let ⟨v,e,h1,h2⟩:=h;⟨v,e,fun b hb=>hk b (h1 b hb),h2⟩
 live h:=let ⟨v,e,h1,h2,h3⟩:=h;⟨v,e,fun b hb=>⟨h1 b hb,(h2.lt b hb).2⟩,h2,h3⟩
 frame hf h:=by
  obtain ⟨v,e,h1,⟨xs,h2,h3⟩,h4⟩:=h
  refine ⟨v,e,h1,⟨xs,⟨h2.1,?_⟩,(Chunks.frame (fun b hb=>hb.1.elim) h3)⟩,h4⟩
  rcases h2.2 with h0|⟨g,cap,cur,hv,hb,hg,rest⟩
  ·exact .inl h0
  ·refine .inr ⟨g,cap,cur,hv,hb,?_,rest⟩
   rw [hf g (h1 g (by rw [hv];rfl))];exact hg
 one h:=by
  obtain ⟨v,rfl,_,⟨xs,h2,_⟩,_⟩:=h
  intro u hu
  cases List.mem_singleton.1 hu
  rcases h2.2 with ⟨rfl,_⟩|⟨g,cap,cur,rfl,_⟩<;>rfl
theorem gZ.sl {α:Type} {r:Rep α} {E:TypeId} {ok:Nat→Prop} {w:World} {v:Value} {l:List α} (hf:Flat r) (h:(gZ r E).rd ok w [v] l):∃ a n c,v=.slice a n c∧Sl r ok w a n c l:=by
 obtain ⟨_,e,h1,h2,_⟩:=h
 cases e
 obtain ⟨a,n,c,rfl,h3⟩:=h2.sl
 refine ⟨a,n,c,rfl,h3.len,h3.cap,h3.bnd,h3.nil,h3.cells.imp id fun ⟨b,off,e,_,hb,hc⟩=>⟨b,off,e,h1 b (by rw [e];rfl),hb,fun i x hx=>let ⟨cs,g1,g2⟩:=hc i x hx;⟨cs,g1,hf g2⟩⟩⟩
theorem gZ.mk {α:Type} {r:Rep α} {B:Nat} {E:TypeId} {w:World} {v:Value} {l:List α} (h:Own r B E (fun _=>False) w v l) (hv:l=[]→v=.slice none 0 0∨∃ g c,v=.slice (some ⟨g,0,none⟩) 0 c):(gZ r E).rd (B≤·) w [v] l:=by
 refine ⟨v,rfl,fun b hb=>(h.lt b hb).1,?_,hv⟩
 obtain ⟨xs,h1,h2⟩:=h
 refine ⟨xs,⟨h1.1,h1.2.imp id fun ⟨g,cap,cur,a1,a2,a3⟩=>⟨g,cap,cur,a1,Nat.zero_le _,a3⟩⟩,h2⟩
section
variable {P:Program} {ops:Array Oper} {rest:List Oper} {o:Oper} {a:Act} {Q:Exit→Act→World→Prop} {α:Type} {r:Rep α} {B:Nat} {E:TypeId} {w:World}
theorem yF {T bytes:Nat} {z:Value} (ht:qE P T E r.sz bytes z) (hg:o.guard=none) (l c:Operand) (hop:o.op=Op.makeSlice T l c)
  {kl kc:IntKind} {n:Nat} (hl:a.eval l=.int kl 0) (hc:a.eval c=.int kc (n:Int)) (b2:bytes * n≤281474976710656) (b3:n≤maxLen) (b4:B≤w.heap.size)
  (hK:∀ w',(∀ F,jl r B F E w' (.slice (some ⟨w.heap.size,0,none⟩) 0 n) [])→Below w.heap.size w w'→wpList P ops Q rest (a.put o.dst (.slice (some ⟨w.heap.size,0,none⟩) 0 n)) w'):wpList P ops Q (o :: rest) a w:=by
 obtain ⟨i,hi,hz0,hz1,hz2⟩:=info_parts ht.i
 refine wpList_make_own w hg l c T hop B E i z r.sz ht.u hi hz0 hz1 kl kc (n:Int) n hl hc rfl (by rw [hz2];exact b2) b3 b4 fun w' h1 h2=>hK w' (fun F=>⟨fun _=>0,[],h1,rfl⟩) (grown_below h2 (Nat.le_refl _) (fun k e=>by cases e))
end
section
variable {P:Program} {α:Type} {r:Rep α} {B:Nat} {E:TypeId} {w:World} {g cap:Nat} {l:List α}
theorem JG (h:Own r B E (fun _=>False) w (.slice (some ⟨g,0,none⟩) l.length cap) l) {s:Nat} {ys:List α} {news:List Value} (hn:Chunks r (fun _=>False) w news ys) (hs:s+ys.length≤l.length) (hne:l≠[]∨ys≠[]) :
  ∃ w',(storeCells ⟨g,s * r.sz,none⟩ news).run P w=.ok () w'∧Own r B E (fun _=>False) w' (.slice (some ⟨g,0,none⟩) l.length cap) (l.take s++ys++l.drop (s+ys.length))∧w.grownBy w' (some g)∧w'.heap.size=w.heap.size:=by
 obtain ⟨xs,h1,h2⟩:=h
 obtain ⟨hx,⟨hv,_⟩|⟨g',cap',cur,hv,hb,hg,hnc,hcm,hcs,ht⟩⟩:=h1
 ·cases hv
 ·cases hv
  have hnl:=hn.length
  have hxl:=h2.length
  have hfit:s * r.sz+0+news.length≤cur.size:=by
   rw [hcs,hnl,Nat.add_zero,← Nat.add_mul]
   exact Nat.mul_le_mul_right _ (by omega)
  have hrun:=run_storeCells_at P g (s * r.sz) E news 0 cur w hg hfit hn.one
  rw [Nat.add_zero] at hrun
  refine ⟨_,hrun,?_,⟨rfl,rfl,rfl,by simp,fun k _ hk=>setRow_other w g k _ (fun e=>hk (by simp [e]))⟩,by simp⟩
  have hlen':(l.take s++ys++l.drop (s+ys.length)).length=l.length:=by simp;omega
  have hcell:∀ i,(xs.take (s * r.sz)++news++xs.drop (s * r.sz+news.length))[i]?=if i<s * r.sz then xs[i]? else if i<s * r.sz+news.length then news[i - s * r.sz]? else xs[i]?:=by
   intro i
   have hs1:s * r.sz≤xs.length:=by rw [hxl];exact Nat.mul_le_mul_right _ (by omega)
   have e1:(xs.take (s * r.sz)).length=s * r.sz:=by rw [List.length_take];omega
   by_cases hi:i<s * r.sz
   ·rw [if_pos hi,List.append_assoc,List.getElem?_append_left (by rw [e1];exact hi),List.getElem?_take,if_pos hi]
   ·rw [if_neg hi]
    by_cases hi2:i<s * r.sz+news.length
    ·rw [if_pos hi2,List.getElem?_append_left (by rw [List.length_append,e1];exact hi2),List.getElem?_append_right (by rw [e1];omega),e1]
    ·rw [if_neg hi2,List.getElem?_append_right (by rw [List.length_append,e1];omega),List.length_append,e1,List.getElem?_drop]
     congr 1;omega
  refine ⟨xs.take (s * r.sz)++news++xs.drop (s * r.sz+news.length),⟨?_,.inr ⟨g,cap,_,by rw [hlen'],hb,setRow_heap w g cur _ E _ hg,by rw [hlen'];exact hnc,hcm,?_,?_⟩⟩,?_⟩
  ·rw [hlen',List.length_append,List.length_append,List.length_take,List.length_drop,hxl,hnl]
   have:(s+ys.length) * r.sz≤l.length * r.sz:=Nat.mul_le_mul_right _ hs
   rw [Nat.add_mul] at this
   omega
  ·rw [List.size_toArray,List.length_append,List.length_append,List.length_take,List.length_drop,Array.length_toList]
   omega
  ·rw [hlen',← ht]
   have hA:s * r.sz+news.length≤l.length * r.sz:=by rw [hnl,← Nat.add_mul];exact Nat.mul_le_mul_right _ hs
   have hB2:l.length * r.sz≤cur.size:=by rw [hcs];exact Nat.mul_le_mul_right _ hnc
   apply List.ext_getElem?
   intro i
   have e1:(cur.toList.take (s * r.sz)).length=s * r.sz:=by rw [List.length_take,Array.length_toList];omega
   have e2:((cur.toList.take (l.length * r.sz)).take (s * r.sz)).length=s * r.sz:=by simp only [List.length_take,Array.length_toList];omega
   by_cases hi:i<s * r.sz
   ·rw [List.getElem?_take,if_pos (by omega),List.append_assoc,List.getElem?_append_left (by rw [e1];exact hi),List.append_assoc,List.getElem?_append_left (by rw [e2];exact hi),List.getElem?_take,if_pos hi,List.getElem?_take,if_pos hi,List.getElem?_take,if_pos (by omega)]
   ·by_cases hi2:i<s * r.sz+news.length
    ·rw [List.getElem?_take,if_pos (by omega),List.getElem?_append_left (by rw [List.length_append,e1];exact hi2),List.getElem?_append_right (by rw [e1];omega),e1,
      List.getElem?_append_left (by rw [List.length_append,e2];exact hi2),List.getElem?_append_right (by rw [e2];omega),e2]
    ·rw [List.getElem?_take,List.getElem?_append_right (by rw [List.length_append,e1];omega),List.getElem?_append_right (by rw [List.length_append,e2];omega),List.length_append,List.length_append,e1,e2,List.getElem?_drop,List.getElem?_drop,List.getElem?_take]
     have:s * r.sz+news.length+(i - (s * r.sz+news.length))=i:=by omega
     rw [this]
  ·-- the elements
   have:=Chunks.Wh (r:=r) (ok:=fun b=>False∧Option.some b≠(Value.slice (some ⟨g,0,none⟩) l.length cap).ownBlock) (w:=w.setRow g (cur.toList.take (s * r.sz)++news++cur.toList.drop (s * r.sz+news.length)).toArray) (xs:=xs.take (s * r.sz)++news++xs.drop (s * r.sz+news.length)) (l:=l.take s++ys++l.drop (s+ys.length)) 0 (by
     rw [hlen',List.length_append,List.length_append,List.length_take,List.length_drop,hxl,hnl]
     have:(s+ys.length) * r.sz≤l.length * r.sz:=Nat.mul_le_mul_right _ hs
     rw [Nat.add_mul] at this
     omega) (fun i x hx=>by
     have key:∃ c w0,(∀ j,j<r.sz→(xs.take (s * r.sz)++news++xs.drop (s * r.sz+news.length))[i * r.sz+j]?=c[j]?)∧r.rd (fun _=>False) w0 c x:=by
      have es:(l.take s).length=s:=by rw [List.length_take];omega
      by_cases hi:i<s
      ·rw [List.append_assoc,List.getElem?_append_left (by rw [es];exact hi),List.getElem?_take,if_pos hi] at hx
       obtain ⟨c,h3,h4⟩:=h2.at hx
       refine ⟨c,w,fun j hj=>?_,r.mono (fun b hb=>hb.1) h4⟩
       rw [hcell,if_pos,h3 j hj]
       calc i * r.sz+j<i * r.sz+r.sz:=by omega
        _=(i+1) * r.sz:=by rw [Nat.add_mul];omega
        _≤s * r.sz:=Nat.mul_le_mul_right _ (by omega)
      ·by_cases hi2:i<s+ys.length
       ·rw [List.getElem?_append_left (by rw [List.length_append,es];exact hi2),List.getElem?_append_right (by rw [es];omega),es] at hx
        obtain ⟨c,h3,h4⟩:=hn.at hx
        refine ⟨c,w,fun j hj=>?_,h4⟩
        have e3:s * r.sz≤i * r.sz:=Nat.mul_le_mul_right _ (by omega)
        have e4:(i+1) * r.sz≤(s+ys.length) * r.sz:=Nat.mul_le_mul_right _ (by omega)
        rw [Nat.add_mul,Nat.add_mul] at e4
        rw [hcell,if_neg (by omega),if_pos (by rw [hnl];omega),← h3 j hj]
        congr 1
        rw [Nat.sub_mul];omega
       ·rw [List.getElem?_append_right (by rw [List.length_append,es];omega),List.length_append,es,List.getElem?_drop,show s+ys.length+(i - (s+ys.length))=i by omega] at hx
        obtain ⟨c,h3,h4⟩:=h2.at hx
        refine ⟨c,w,fun j hj=>?_,r.mono (fun b hb=>hb.1) h4⟩
        have e3:(s+ys.length) * r.sz≤i * r.sz:=Nat.mul_le_mul_right _ (by omega)
        rw [Nat.add_mul] at e3
        rw [hcell,if_neg (by omega),if_neg (by rw [hnl];omega),h3 j hj]
     obtain ⟨c,w0,h3,h4⟩:=key
     exact ⟨c,fun j hj=>by rw [Nat.zero_add];exact h3 j hj,r.mono (fun b hb=>hb.elim) (r.frame (fun b hb=>hb.elim) h4)⟩)
   simpa using this
end
def sO (a:Option Addr) (c lo sz:Nat):Option Addr:=if c=lo then a else a.map (·.add (lo * sz))
theorem Nr {P:Program} {T E sz:Nat} (hT:P.underlying T=some (.slice E)) (hi:(P.info? E).map (·.size)=some sz) (a:Option Addr) (n c s:Nat) (h:s≤n) (w:World) :
  (Instr.sliceAt T (.slice a n c) (some (.int .i64 (s:Int))) none none).run P w=.ok (.slice (sO a c s sz) (n - s) (c - s)) w:=by
 have he:P.elem T=E:=by simp [Program.elem,hT]
 have hT':P.underlying T=some (.slice (P.elem T)):=by rw [he];exact hT
 have hz:(sizeOf (P.elem T)).run P w=.ok sz w:=by
  obtain ⟨i,hi,hs⟩:=Option.map_eq_some_iff.1 hi
  rw [he];simp [sizeOf,typeInfo,hi,hs]
 rw [run_sliceAt_slice w T _ _ _ _ hT',run_slice_l w T a n c hT' .i64 s (by omega) (by omega),hz,Result.andThen_ok]
 simp only [sliced,sO,Int.toNat_natCast]
theorem Sl.sub {α:Type} {r:Rep α} {ok:Nat→Prop} {w:World} {a:Option Addr} {n c:Nat} {l:List α} (h:Sl r ok w a n c l) {s k:Nat} (hk:s+k≤n):Sl r ok w (sO a c s r.sz) k (c - s) ((l.drop s).take k):=by
 have h1:=h.len
 have h2:=h.cap
 refine ⟨by simp;omega,by omega,Nat.le_trans (Nat.sub_le _ _) h.bnd,fun e=>?_,?_⟩
 ·unfold sO at e
  split at e
  ·omega
  ·have:a=none:=by simpa using e
   have:=h.nil this
   omega
 ·rcases h.cells with h0|⟨b,off,rfl,hb,hlt,hc⟩
  ·left;omega
  ·by_cases hk0:k=0
   ·exact .inl hk0
   ·refine .inr ⟨b,off+s * r.sz,?_,hb,hlt,fun i x hx=>?_⟩
    ·unfold sO
     rw [if_neg (by omega)]
     simp [Addr.add_lit]
    ·have hik:i<k:=by have:=(List.getElem?_eq_some_iff.1 hx).1;simp at this;omega
     rw [List.getElem?_take,if_pos hik,List.getElem?_drop] at hx
     obtain ⟨cs,g1,g2⟩:=hc (s+i) x hx
     refine ⟨cs,fun j hj=>?_,g2⟩
     rw [← g1 j hj,Nat.add_mul,Nat.add_assoc off]
section
variable {P:Program} {ops:Array Oper} {rest:List Oper} {o:Oper} {a:Act} {Q:Exit→Act→World→Prop} {α:Type} {r:Rep α} {B:Nat} {E:TypeId} {w:World} {g cap:Nat} {l:List α}
theorem DU {T bytes:Nat} {z:Value} (ht:qE P T E r.sz bytes z) (hfl:Flat r) (hgd:o.guard=none) (d x:Operand)
  (ho:o.op=.call { callee:=.builtin .copy,args:=#[d,x],argTypes:=#[T,T] }) {s dl dc:Nat} (hd:a.eval d=.slice (some ⟨g,s * r.sz,none⟩) dl dc) {ao:Option Addr} {m c:Nat} (hx:a.eval x=.slice ao m c)
  (h:Own r B E (fun _=>False) w (.slice (some ⟨g,0,none⟩) l.length cap) l) {ok:Nat→Prop} {ys:List α} (hs:Sl r ok w ao m c ys) (hle:s+m≤l.length) (hm:0<m) (hdl:m≤dl)
  (hk:∀ w',Own r B E (fun _=>False) w' (.slice (some ⟨g,0,none⟩) l.length cap) (l.take s++ys++l.drop (s+ys.length))→w.grownBy w' (some g)→w'.heap.size=w.heap.size→wpList P ops Q rest (a.put o.dst (.int .i64 m)) w'):wpList P ops Q (o :: rest) a w:=by
 refine wpList_plain hgd fun K hK=>?_
 obtain ⟨i,hi,_,hz1,_⟩:=info_parts ht.i
 obtain ⟨hlen,hnil,news,hnews,hch⟩:=Src.adp hs
 obtain ⟨ad,rfl⟩:∃ ad,ao=some ad:=by
  cases ao with
  |some ad=>exact ⟨ad,rfl⟩
  |none=>have:=(hnil rfl).1;omega
 have hnl:=hch.length
 obtain ⟨w',hst,h1,h2,h3⟩:=JG (P:=P) h (s:=s) (ys:=ys) (hch.flat hfl) (by omega) (.inr (by intro e;rw [e] at hlen;simp at hlen;omega))
 have hld:=run_loadCells_list (P:=P) (w:=w) ad news (hnews ad rfl)
 have hmin:Nat.min m dl=m:=Nat.min_eq_left hdl
 rw [hnl,hlen] at hld
 unfold Oper.wp execOp
 have hrun:(Builtin.copy_ #[T,T] o.type #[.slice (some ⟨g,s * r.sz,none⟩) dl dc,.slice (some ad) m c]).run P w=.ok (goInt m) w':=by
  simp [Builtin.copy_,run_underlying ht.u,Builtin.lenOf,Builtin.firstCells,sizeOf,typeInfo,hi,hz1,hmin,hld,hst]
 simp only [ho,resolve,invoke,builtin,Sem.run_bind,Sem.run_pure,Result.andThen_ok,List.map_toArray,List.map_cons,List.map_nil,hd,hx,hrun]
 exact hK _ _ (hk w' h1 h2 h3)
end
section
variable {ok:Nat→Prop} {w:World} {n c:Nat}
theorem Sl.wr {b off:Nat} {l:List (Int × Int × List dD)} (h:Sl (JX tC (JX tC (QL nG))) ok w (some ⟨b,off,none⟩) n c l) {k:Nat} {v s:Int} {d:List dD} (hx:l[k]?=some (v,s,d)) :
  ∃ a' n' c',w.cell? ⟨b,off+k * 3,none⟩=some (.int .i64 v)∧w.cell? ⟨b,off+k * 3+1,none⟩=some (.int .i64 s)∧w.cell? ⟨b,off+k * 3+2,none⟩=some (.slice a' n' c')∧kX v∧kX s∧Sl nG ok w a' n' c' d:=by
 obtain ⟨cs,h1,c1,c2,rfl,⟨rfl,hv⟩,c3,c4,rfl,⟨rfl,hs⟩,a',n',c',rfl,hd⟩:=h.at hx
 refine ⟨a',n',c',?_,?_,?_,hv,hs,hd⟩
 ·exact h1 0 (by show 0<3;omega)
 ·exact h1 1 (by show 1<3;omega)
 ·exact h1 2 (by show 2<3;omega)
theorem Sl.ext {b off:Nat} {l:List (Int × Int)} (h:Sl (JX tC tC) ok w (some ⟨b,off,none⟩) n c l) {k:Nat} {s m:Int} (hx:l[k]?=some (s,m)) :
  w.cell? ⟨b,off+k * 2,none⟩=some (.int .i64 s)∧w.cell? ⟨b,off+k * 2+1,none⟩=some (.int .i64 m)∧kX s∧kX m:=by
 obtain ⟨cs,h1,c1,c2,rfl,⟨rfl,hv⟩,⟨rfl,hs⟩⟩:=h.at hx
 exact ⟨h1 0 (by show 0<2;omega),h1 1 (by show 1<2;omega),hv,hs⟩
end
end Go.Proofs.YtaaokejjmdbfaaaDoor

namespace Go.Proofs.YtaaokejjmdbfaaaDoor
open Go.RowKit
abbrev lU:Rep (List dD):=QL nG
abbrev Wr:=Int × Int × List dD
abbrev wrR:Rep Wr:=JX tC (JX tC lU)
theorem Tryd.mixed:Tryd.prog.follows .mixedOrders=true:=by kernel_rfl
theorem Tryd.adL:qE Tryd.prog 55 3 1 8 (.int .i64 0):=⟨Tryd.underlying55,by kernel_rfl,rfl,by decide⟩
theorem Tryd.ZJ:qE Tryd.prog 76 78 8 8 (.agg #[.int .u8 0,.int .u8 0,.int .u8 0,.int .u8 0,.int .u8 0,.int .u8 0,.int .u8 0,.int .u8 0]):=⟨Tryd.underlying76,by kernel_rfl,rfl,by decide⟩
theorem Tryd.ZK:qE Tryd.prog 24 76 1 24 (.slice none 0 0):=⟨Tryd.underlying24,by kernel_rfl,rfl,by decide⟩
theorem Tryd.ahN:qE Tryd.prog 50 87 3 40 (.agg #[.int .i64 0,.int .i64 0,.slice none 0 0]):=⟨Tryd.underlying50,by kernel_rfl,rfl,by decide⟩
theorem Tryd.ahO (x y:dD) (w:World):(Op.equalIn 10000 78 (.agg (aY x).toArray) (.agg (aY y).toArray)).run Tryd.prog w=.ok (x==y) w:=by
 obtain ⟨i,hi⟩:∃ i,Tryd.prog.info? 5=some i:=Option.isSome_iff_exists.1 (by kernel_rfl)
 exact Ae (P:=Tryd.prog) Tryd.underlying78 Tryd.underlying5 hi (by kernel_rfl) x y w
theorem Tryd.RD {w:World} {b off:Nat} {x:dD} (h:∀ j,j<8→w.cell? ⟨b,off+j,none⟩=(aY x)[j]?):(loadVar 78 ⟨b,off,none⟩).run Tryd.prog w=.ok (.agg (aY x).toArray) w :=
 JY Tryd.underlying78 rfl (by rw [eU];kernel_rfl) fun j hj=>by rw [Addr.add_lit];exact h j (by rwa [eU] at hj)
theorem Tryd.Ns {ok:Nat→Prop} {w:World} {b off n c k:Nat} {l:List dD} {x:dD} (h:Sl nG ok w (some ⟨b,off,none⟩) n c l) (hx:l[k]?=some x) :
  ∀ w',lV w w'→(loadVar 78 ⟨b,off+k * 8,none⟩).run Tryd.prog w'=.ok (.agg (aY x).toArray) w':=by
 rintro _ ⟨y,rfl⟩
 exact Tryd.RD ((h.below y.below).sec hx)
theorem oq {k:IntKind} {a b:Int} (h:a=b):Ending.returned (.int k a)=.returned (.int k b):=by rw [h]
theorem uM {a b:Bool} (h:a=b):Ending.returned (.bool a)=.returned (.bool b):=by rw [h]
theorem VA {n:Nat} (h:n≤maxLen):kX (n:Int):=by unfold kX maxLen at *;omega
theorem Sl.i64 {α:Type} {r:Rep α} {ok:Nat→Prop} {w:World} {a:Option Addr} {n c:Nat} {l:List α} (h:Sl r ok w a n c l):kX (n:Int):=VA (Nat.le_trans h.cap h.bnd)
theorem Sl.small {α:Type} {r:Rep α} {ok:Nat→Prop} {w:World} {a:Option Addr} {n c:Nat} {l:List α} (h:Sl r ok w a n c l):n≤9223372036854775807:=by
 have:=Nat.le_trans h.cap h.bnd;unfold maxLen at this;omega
theorem EO {α:Type} {p:α→Bool} {l:List α} {k:Nat} {x:α} (h:l[k]?=some x):(l.take (k+1)).any p=((l.take k).any p || p x):=by
 rw [List.take_add_one,h];simp
theorem any_true {α:Type} {p:α→Bool} {l:List α} {k:Nat} {x:α} (h:l[k]?=some x) (hp:p x=true):l.any p=true:=by
 rw [List.any_eq_true];exact ⟨x,List.mem_of_getElem? h,hp⟩
theorem mX {α:Type} {l:List α} {k:Nat} {x:α} (h:l[k]?=some x):l.take (k+1)=l.take k++[x]:=by
 rw [List.take_add_one,h];rfl
theorem yG {α:Type} {l:List α} {n:Nat} (h:l.length=n):l.take n=l:=List.take_of_length_le (by omega)
end Go.Proofs.YtaaokejjmdbfaaaDoor

namespace Go.Proofs.YtaaokejjmdbfaaaDoor
open Go.RowKit
def lQ (n:Int):Bool:=decide (n<1) || decide (4096<n)
def jJ (l:List Int):Int:=if l.length<1∨8<l.length then 6 else if l.any lQ then 2 else 0
def lens (im:List (List dD)):List Int:=im.map fun v=>(v.length:Int)
def sQ (im:List (List dD)):Int:=jJ (lens im)
end Go.Proofs.YtaaokejjmdbfaaaDoor

namespace Go.Proofs.YtaaokejjmdbfaaaDoor
open Go.RowKit
def kP (sizes:List Int) (vol start:Int) (len:Nat):Int :=
 if vol<0∨(sizes.length:Int)≤vol then 7 else if len=0 then 1
 else if start<0∨sizes.getD vol.toNat 0≤start∨sizes.getD vol.toNat 0 - start<len then 2 else 0
theorem Bl {α:Type} {l:List α} {k:Nat} {x d:α} (h:l[k]?=some x):l.getD k d=x:=by simp [List.getD,h]
end Go.Proofs.YtaaokejjmdbfaaaDoor

namespace Go.Proofs.YtaaokejjmdbfaaaDoor
open Go.RowKit
end Go.Proofs.YtaaokejjmdbfaaaDoor

namespace Go.Proofs.YtaaokejjmdbfaaaDoor
open Go.RowKit
end Go.Proofs.YtaaokejjmdbfaaaDoor

namespace Go.Proofs.YtaaokejjmdbfaaaDoor
open Go.RowKit
theorem RF {x:Int} {w:World} (_hx:kX x):Calls Tryd.prog 103 #[.int .i64 x] w fun e w'=>e=.returned (.bool (lQ x))∧Below w.heap.size w w':=by
 by_cases h1:x<1
 ·go_enter Tryd.func103,Tryd.ntmps103
  go_wp2
  go_ret
  exact ⟨uM (by simp [lQ,h1]),Below.refl _ _⟩
 ·by_cases h2:4096<x
  ·go_enter Tryd.func103,Tryd.ntmps103
   go_wp2
   go_ret
   exact ⟨uM (by simp [lQ,h2]),Below.refl _ _⟩
  ·go_enter Tryd.func103,Tryd.ntmps103
   go_wp2
   go_ret
   exact ⟨uM (by simp [lQ];omega),Below.refl _ _⟩
set_option maxHeartbeats 1000000 in
theorem zu {a:Option Addr} {n c:Nat} {l:List Int} {ok:Nat→Prop} {w:World} (h:Sl tC ok w a n c l) :
  Calls Tryd.prog 112 #[.slice a n c,.func (.func 103) #[] #[]] w fun e w'=>∃ z:Int,e=.returned (.int .i64 z)∧(0≤z ↔ l.any lQ=true)∧kX z∧Below w.heap.size w w':=by
 have hs:=h.small
 go_enter Tryd.func112,Tryd.ntmps112
 go_wp2
 go_loopw [5,8] (fun _ i wr=>∃ k:Nat,k≤n∧i=.int .i64 k∧Hid ((l.take k).any lQ=false)∧Below w.heap.size w wr) (fun _ i _=>n - (intOf i).toNat)
 case atStart=>exact ⟨0,Nat.zero_le _,rfl,rfl,Below.refl _ _⟩
 case round =>
  obtain ⟨k,hk,rfl,HT,hB⟩:=hrel
  by_cases hlt:k<n
  ·obtain ⟨b,off,rfl,_,_⟩:=h.addr hlt
   obtain ⟨x,hx⟩:=h.get hlt
   obtain ⟨hcell,hi⟩:=(h.below hB).int hx
   have HX:=Lib.hid hx
   clear hx
   cases hp:lQ x with
   |true =>
    have HP:=Lib.hid hp
    have hcall:=RF (w:=wr) hi
    rw [hp] at hcall
    clear hp
    go_wp2_with (fail)
    refine hcall.mono ?_
    rintro e w1 ⟨rfl,hB1⟩
    go_wp2
    go_ret
    exact ⟨k,rfl,by rw [any_true HX.out HP.out];simp,by unfold kX;omega,hB.trans (hB1.mono hB.size)⟩
   |false =>
    have HP:=Lib.hid hp
    have hcall:=RF (w:=wr) hi
    rw [hp] at hcall
    clear hp
    go_wp2_with (fail)
    refine hcall.mono ?_
    rintro e w1 ⟨rfl,hB1⟩
    go_wp2
    go_roundw
    case rel=>exact ⟨k+1,by omega,by go_num,by show _=false;rw [EO HX.out,HT.out,HP.out];rfl,hB.trans (hB1.mono hB.size)⟩
    case measure=>simp [intOf];omega
  ·go_wp2
   go_ret
   obtain rfl:k=n:=by omega
   have e:=HT.out
   rw [yG h.len] at e
   exact ⟨-1,rfl,by rw [e];simp,by unfold kX;omega,hB⟩
theorem JH {a:Option Addr} {n c:Nat} {l:List Int} {ok:Nat→Prop} {w:World} (h:Sl tC ok w a n c l) :
  Calls Tryd.prog 102 #[.slice a n c,.func (.func 103) #[] #[]] w fun e w'=>e=.returned (.bool (l.any lQ))∧Below w.heap.size w w':=by
 go_enter Tryd.func102,Tryd.ntmps102
 go_wp2_with fail
 refine (zu h).mono ?_
 rintro e w1 ⟨z,rfl,hz,hi,hB⟩
 unfold kX at hi
 cases hp:l.any lQ with
 |true =>
  have hz0:0≤z:=hz.2 hp
  have HP:=Lib.hid hp
  clear hz hp
  go_wp2
  go_ret
  exact ⟨uM HP.out.symm,hB⟩
 |false =>
  have hz0:z<0:=by rw [hp] at hz;simp at hz;omega
  have HP:=Lib.hid hp
  clear hz hp
  go_wp2
  go_ret
  exact ⟨uM (by rw [HP.out];simp;omega),hB⟩
theorem DV {a:Option Addr} {n c:Nat} {l:List Int} {ok:Nat→Prop} {w:World} (h:Sl tC ok w a n c l) :
  Calls Tryd.prog 82 #[.slice a n c] w fun e w'=>e=.returned (.int .i64 (jJ l))∧Below w.heap.size w w':=by
 have hs:=h.small
 by_cases hn1:n<1
 ·obtain rfl:n=0:=by omega
  go_enter Tryd.func82,Tryd.ntmps82
  go_wp2
  go_ret
  exact ⟨by simp [jJ,h.len],Below.refl _ _⟩
 by_cases hn8:8<n
 ·go_enter Tryd.func82,Tryd.ntmps82
  go_wp2
  go_ret
  exact ⟨oq (by rw [jJ,if_pos (by rw [h.len];exact .inr hn8)]),Below.refl _ _⟩
 go_enter Tryd.func82,Tryd.ntmps82
 go_wp2_with fail
 refine (JH h).mono ?_
 rintro e w1 ⟨rfl,hB⟩
 cases hp:l.any lQ with
 |true =>
  have HP:=Lib.hid hp;clear hp
  go_wp2
  go_ret
  exact ⟨oq (by rw [jJ,if_neg (by rw [h.len];omega),if_pos HP.out]),hB⟩
 |false =>
  have HP:=Lib.hid hp;clear hp
  go_wp2
  go_ret
  exact ⟨oq (by rw [jJ,if_neg (by rw [h.len];omega),HP.out];rfl),hB⟩
end Go.Proofs.YtaaokejjmdbfaaaDoor

namespace Go.Proofs.YtaaokejjmdbfaaaDoor
open Go.RowKit
theorem ZL {a:Option Addr} {n c:Nat} {l:List dD} {ok:Nat→Prop} {w:World} (h:Sl nG ok w a n c l) :
  Calls Tryd.prog 105 #[.slice a n c] w fun e w'=>∃ z:Int,e=.returned (.int .i64 z)∧tC.rd (w.heap.size≤·) w' [.int .i64 z] (l.length:Int)∧Below w.heap.size w w':=by
 have hs:=h.small
 go_enter Tryd.func105,Tryd.ntmps105
 go_wp2
 go_ret
 exact ⟨_,rfl,⟨by rw [h.len],by rw [h.len];exact h.i64⟩,Below.refl _ _⟩
set_option maxHeartbeats 1000000 in
theorem Qw {a:Option Addr} {n c:Nat} {l:List (List dD)} {ok:Nat→Prop} {w:World} (h:Sl lU ok w a n c l) (hn:n≤1000000) :
  Calls Tryd.prog 104 #[.slice a n c,.func (.func 105) #[] #[]] w fun e w'=>∃ v,e=.returned v∧jl tC w.heap.size w'.heap.size 3 w' v (l.map (fun v:List dD=>(v.length:Int)))∧Below w.heap.size w w':=by
 go_enter Tryd.func104,Tryd.ntmps104
 go_wp2_with (at_make;refine yF (r:=tC) (B:=w.heap.size) Tryd.adL rfl _ _ rfl rfl rfl ?b2 ?b3 ?b4 ?_)
 case b2=>omega
 case b3=>unfold maxLen;omega
 case b4=>exact Nat.le_refl _
 intro w0 hown0 hB0
 have hs:=h.small
 go_wp2
 go_loopw [5,13] (fun v i wr=>∃ k:Nat,k≤n∧i=.int .i64 k∧jl tC w.heap.size wr.heap.size 3 wr v ((l.map (fun v:List dD=>(v.length:Int))).take k)∧Below w.heap.size w wr) (fun _ i _=>n - (intOf i).toNat)
 case atStart=>exact ⟨0,Nat.zero_le _,rfl,hown0 _,hB0⟩
 case round =>
  obtain ⟨k,hk,rfl,hown,hB⟩:=hrel
  by_cases hlt:k<n
  ·obtain ⟨b,off,rfl,_,_⟩:=h.addr hlt
   obtain ⟨x,hx⟩:=h.get hlt
   obtain ⟨a',n',c',hcell,hx'⟩:=(h.below hB).slice hx
   have hlen:((l.map (fun v:List dD=>(v.length:Int))).take k).length=k:=by have:=h.len;simp;omega
   have HL:=Lib.hid hlen;clear hlen
   have HX:=Lib.hid hx;clear hx
   go_wp2_with (fail)
   refine (ZL hx').mono ?_
   rintro e w1 ⟨z,rfl,hrd,hB1⟩
   have wB:=hown.lt
   have hz1:=hB1.size
   have hz:=hB.size
   go_wp2_with (at_builtin;refine qw Tryd.adL rfl _ _ rfl rfl ((hown.below hB1).below ((Below.refl _ _).alloc (Nat.le_refl _) _)) rfl (yD w1 3 #[.int .i64 z]) (yE hrd) (fun k hk=>(wB k hk).2) ?c1 ?c2 ?c3 ?c4 ?_)
   case c1=>rw [HL.out];unfold maxLen;omega
   case c2=>rw [HL.out];omega
   case c3=>omega
   case c4=>simp;omega
   intro v' w2 hown1 hgrow _
   go_wp2
   go_roundw
   case rel=>exact ⟨k+1,by omega,by go_num,by
    have e:(l.map (fun v:List dD=>(v.length:Int))).take (k+1)=(l.map (fun v:List dD=>(v.length:Int))).take k++[(fun v:List dD=>(v.length:Int)) x]:=mX (by rw [List.getElem?_map,HX.out];rfl)
    rw [e];exact hown1,((hB.trans (hB1.mono hB.size)).alloc (by omega) _).grown hgrow (by simp;omega) (fun k hk=>(wB k hk).1)⟩
   case measure=>simp [intOf];omega
  ·go_wp2
   go_ret
   obtain rfl:k=n:=by omega
   rw [yG (by rw [List.length_map];exact h.len)] at hown
   exact ⟨_,rfl,hown,hB⟩
theorem Qx {a:Option Addr} {n c:Nat} {im:List (List dD)} {ok:Nat→Prop} {w:World} (h:Sl lU ok w a n c im) (hn:n≤1000000) :
  Calls Tryd.prog 83 #[.slice a n c] w fun e w'=>∃ a' n' c',e=.returned (.slice a' n' c')∧Sl tC (w.heap.size≤·) w' a' n' c' (lens im)∧Below w.heap.size w w':=by
 go_enter Tryd.func83,Tryd.ntmps83
 go_wp2_with fail
 refine (Qw h hn).mono ?_
 rintro e w1 ⟨v,rfl,hown,hB⟩
 obtain ⟨a',n',c',rfl,h1⟩:=hown.sl
 go_wp2
 go_ret
 exact ⟨_,_,_,rfl,h1,hB⟩
theorem DW {a:Option Addr} {n c:Nat} {im:List (List dD)} {ok:Nat→Prop} {w:World} (h:Sl lU ok w a n c im) (hn:n≤1000000) :
  Calls Tryd.prog 50 #[.slice a n c] w fun e w'=>e=.returned (.int .i64 (sQ im))∧Below w.heap.size w w':=by
 go_enter Tryd.func50,Tryd.ntmps50
 go_wp2_with fail
 refine (Qx h hn).mono ?_
 rintro e w1 ⟨a',n',c',rfl,h1,hB⟩
 go_wp2_with fail
 refine (DV h1).mono ?_
 rintro e w2 ⟨rfl,hB2⟩
 go_wp2
 go_ret
 exact ⟨rfl,hB.trans (hB2.mono hB.size)⟩
end Go.Proofs.YtaaokejjmdbfaaaDoor

namespace Go.Proofs.YtaaokejjmdbfaaaDoor
open Go.RowKit
def RG {α:Type} (e:Int) (l:List α):List α:=if e=0 then l else []
theorem ZM {α:Type} {e:Int} {l:List α} (h:e=0):RG e l=l:=if_pos h
theorem VB {α:Type} {e:Int} {l:List α} (h:¬ e=0):RG e l=[]:=if_neg h
set_option maxHeartbeats 1000000 in
theorem VD {a:Option Addr} {n c:Nat} {l:List dD} {ok:Nat→Prop} {w:World} (h:Sl nG ok w a n c l) (hn:n≤1000000) :
  Calls Tryd.prog 98 #[.slice a n c] w fun e w'=>∃ a' n' c',e=.returned (.slice a' n' c')∧(gZ nG 78).rd (w.heap.size≤·) w' [.slice a' n' c'] l∧Below w.heap.size w w':=by
 have heq:=fun (a:Option Addr) (n c:Nat) (w:World)=>Lib.run_eql_slice_nil (P:=Tryd.prog) w 76 78 a n c 0 0 Tryd.underlying76
 cases a with
 |none =>
  have h0:l=[]:=List.eq_nil_of_length_eq_zero (by rw [h.len];have:=h.nil rfl;have:=h.cap;omega)
  have H0:=Lib.hid h0;clear h0
  go_enter Tryd.func98,Tryd.ntmps98
  go_wp2
  go_ret
  refine ⟨_,_,_,rfl,?_,Below.refl _ _⟩
  rw [H0.out]
  exact gZ.mk (Own.nil _ _ _ _ _) (fun _=>.inl rfl)
 |some ad =>
  have hs:=h.small
  go_enter Tryd.func98,Tryd.ntmps98
  go_wp2_with (at_builtin;refine Bq Tryd.ZJ rfl _ _ rfl rfl (Own.ajd nG (ok:=fun _=>False) (Nat.le_refl _)) rfl ((Src.adp (h.below ((Below.refl _ _).alloc (Nat.le_refl _) _))).flat Flat.sec) ?c1 ?c2 ?c3 ?_)
  case c1=>simp;unfold maxLen;omega
  case c2=>simp;omega
  case c3=>simp
  intro v' w1 hown hgrow hat
  obtain ⟨a',n',c',rfl,_⟩:=hown.sl
  go_wp2
  go_ret
  refine ⟨_,_,_,rfl,gZ.mk (by simpa using hown) (fun e=>?_),((Below.refl _ _).alloc (Nat.le_refl _) _).grown hgrow (by simp) (fun k hk=>by cases hk;exact Nat.le_refl _)⟩
  subst e
  obtain ⟨xs,h1,_⟩:=hown
  rcases h1.2 with ⟨hv,_⟩|⟨g,cap,cur,hv,_⟩
  ·exact .inl hv
  ·exact .inr ⟨g,cap,by simpa using hv⟩
end Go.Proofs.YtaaokejjmdbfaaaDoor

namespace Go.Proofs.YtaaokejjmdbfaaaDoor
open Go.RowKit
def o7 (v:List dD):List dD:=v
theorem ZN (l:List (List dD)):l.map o7=l:=List.map_id l
abbrev ou:Rep (List dD):=gZ nG 78
set_option maxHeartbeats 1000000 in
theorem JI {a:Option Addr} {n c:Nat} {l:List (List dD)} {ok:Nat→Prop} {w:World} (h:Sl lU ok w a n c l) (hn:n≤1000000)(hv:∀ v∈l,v.length≤1000000) :
  Calls Tryd.prog 97 #[.slice a n c,.func (.func 98) #[] #[]] w fun e w'=>∃ v,e=.returned v∧jl ou w.heap.size w'.heap.size 76 w' v (l.map o7)∧Below w.heap.size w w':=by
 go_enter Tryd.func97,Tryd.ntmps97
 go_wp2_with (at_make;refine yF (r:=ou) (B:=w.heap.size) Tryd.ZK rfl _ _ rfl rfl rfl ?b2 ?b3 ?b4 ?_)
 case b2=>omega
 case b3=>unfold maxLen;omega
 case b4=>exact Nat.le_refl _
 intro w0 hown0 hB0
 have hs:=h.small
 go_wp2
 go_loopw [5,13] (fun v i wr=>∃ k:Nat,k≤n∧i=.int .i64 k∧jl ou w.heap.size wr.heap.size 76 wr v ((l.map o7).take k)∧Below w.heap.size w wr) (fun _ i _=>n - (intOf i).toNat)
 case atStart=>exact ⟨0,Nat.zero_le _,rfl,hown0 _,hB0⟩
 case round =>
  obtain ⟨k,hk,rfl,hown,hB⟩:=hrel
  by_cases hlt:k<n
  ·obtain ⟨b,off,rfl,_,_⟩:=h.addr hlt
   obtain ⟨x,hx⟩:=h.get hlt
   obtain ⟨a',n',c',hcell,hx'⟩:=(h.below hB).slice hx;have hv':=hv x (List.mem_of_getElem? hx)
   have hlen:((l.map o7).take k).length=k:=by have:=h.len;simp;omega
   have HL:=Lib.hid hlen;clear hlen
   have HX:=Lib.hid hx;clear hx
   go_wp2_with (fail)
   refine (VD hx' (by rw [← hx'.len];exact hv')).mono ?_
   rintro e w1 ⟨a2,n2,c2,rfl,hrd,hB1⟩
   have wB:=hown.lt
   have hz1:=hB1.size
   have hz:=hB.size
   go_wp2_with (at_builtin;refine qw Tryd.ZK rfl _ _ rfl rfl ((hown.below hB1).below ((Below.refl _ _).alloc (Nat.le_refl _) _)) rfl (yD w1 76 #[.slice a2 n2 c2]) (yE hrd) (fun k hk=>(wB k hk).2) ?c1 ?c2 ?c3 ?c4 ?_)
   case c1=>rw [HL.out];unfold maxLen;omega
   case c2=>rw [HL.out];omega
   case c3=>omega
   case c4=>simp;omega
   intro v' w2 hown1 hgrow _
   go_wp2
   go_roundw
   case rel=>exact ⟨k+1,by omega,by go_num,by
    have e:(l.map o7).take (k+1)=(l.map o7).take k++[o7 x]:=mX (by rw [List.getElem?_map,HX.out];rfl)
    rw [e];exact hown1,((hB.trans (hB1.mono hB.size)).alloc (by omega) _).grown hgrow (by simp;omega) (fun k hk=>(wB k hk).1)⟩
   case measure=>simp [intOf];omega
  ·go_wp2
   go_ret
   obtain rfl:k=n:=by omega
   rw [yG (by rw [List.length_map];exact h.len)] at hown
   exact ⟨_,rfl,hown,hB⟩
theorem Qy {a:Option Addr} {n c:Nat} {im:List (List dD)} {ok:Nat→Prop} {w:World} (h:Sl lU ok w a n c im) (hn:n≤1000000) (hv:∀ v∈im,v.length≤1000000) :
  Calls Tryd.prog 75 #[.slice a n c] w fun e w'=>∃ v,e=.returned v∧jl ou w.heap.size w'.heap.size 76 w' v im∧Below w.heap.size w w':=by
 go_enter Tryd.func75,Tryd.ntmps75
 go_wp2_with fail
 refine (JI h hn hv).mono ?_
 rintro e w1 ⟨v,rfl,hown,hB⟩
 go_wp2
 go_ret
 exact ⟨_,rfl,by rw [ZN] at hown;exact hown,hB⟩
theorem Sl.imp {α:Type} {r s:Rep α} {ok:Nat→Prop} {w:World} {a:Option Addr} {n c:Nat} {l:List α} (hz:s.sz=r.sz) (hi:∀ cs x,r.rd ok w cs x→s.rd ok w cs x) (h:Sl r ok w a n c l):Sl s ok w a n c l :=
 ⟨h.len,h.cap,h.bnd,h.nil,h.cells.imp id fun ⟨b,off,e,hb,hl,hc⟩=>⟨b,off,e,hb,hl,fun i x hx=>let ⟨cs,g1,g2⟩:=hc i x hx;⟨cs,by rw [hz];exact g1,hi cs x g2⟩⟩⟩
theorem JJ {ok:Nat→Prop} {w:World} {cs:List Value} {x:List dD} (h:ou.rd ok w cs x):lU.rd ok w cs x:=by
 obtain ⟨v,rfl,h1⟩:=h
 obtain ⟨a,n,c,rfl,h2⟩:=gZ.sl Flat.sec (v:=v) ⟨v,rfl,h1⟩
 exact ⟨a,n,c,rfl,h2⟩
theorem jl.img {B F:Nat} {E:TypeId} {w:World} {v:Value} {im:List (List dD)} (h:jl ou B F E w v im):∃ a n c,v=.slice a n c∧Sl lU (B≤·) w a n c im :=
 let ⟨a,n,c,e,h⟩:=h.sl;⟨a,n,c,e,Sl.imp (r:=ou) (s:=lU) rfl (fun _ _ g=>JJ g) h⟩
set_option maxHeartbeats 2000000 in
theorem GK {a:Option Addr} {n c:Nat} {im:List (List dD)} {ok:Nat→Prop} {w:World} (h:Sl lU ok w a n c im) {vol start:Int} (hv:kX vol) (hst:kX start)
  {da:Option Addr} {dn dc:Nat} (hd:dn≤9223372036854775807) :
  Calls Tryd.prog 76 #[.slice a n c,.agg #[.int .i64 vol,.int .i64 start,.slice da dn dc]] w fun e w'=>e=.returned (.int .i64 (kP (lens im) vol start dn))∧Below w.heap.size w w':=by
 have hs:=h.small
 unfold kX at hv hst
 have hlen:(lens im).length=n:=by simp [lens,h.len]
 have HL:=Lib.hid hlen;clear hlen
 have hB0:Below w.heap.size w (w.alloc (.cells #[.int .i64 vol,.int .i64 start,.slice da dn dc] 87)):=(Below.refl _ _).alloc (Nat.le_refl _) _
 by_cases h1:vol<0
 ·go_enter Tryd.func76,Tryd.ntmps76
  go_wp2
  go_ret
  exact ⟨oq (by rw [kP,if_pos (.inl h1)]),hB0⟩
 obtain ⟨k,rfl⟩:=Int.eq_ofNat_of_zero_le (Int.not_lt.1 h1)
 by_cases h2:n≤k
 ·go_enter Tryd.func76,Tryd.ntmps76
  go_wp2
  go_ret
  exact ⟨oq (by rw [kP,if_pos (.inr (by rw [HL.out];omega))]),hB0⟩
 have hlt:k<n:=by omega
 obtain ⟨b,off,rfl,_,_⟩:=h.addr hlt
 obtain ⟨x,hx⟩:=h.get hlt
 have HX:Hid ((lens im)[k]?=some (x.length:Int)):=by show _=_;rw [lens,List.getElem?_map,hx];rfl
 obtain ⟨a',n',c',hcell,hx'⟩:=(h.below hB0).slice hx
 have hs':=hx'.small
 have hn':=hx'.len
 have HN:=Lib.hid hn';clear hn'
 clear hx
 by_cases h3:dn=0
 ·subst h3
  go_enter Tryd.func76,Tryd.ntmps76
  go_wp2
  go_ret
  exact ⟨oq (by rw [kP,if_neg (by rw [HL.out];omega),if_pos rfl]),hB0⟩
 have h3':0<dn:=by omega
 clear h3
 by_cases h4:start<0
 ·have d1:decide (start<0)=true:=by simp;omega
  go_enter Tryd.func76,Tryd.ntmps76
  go_wp2_with fail
  refine wp_region_quiet_lit (by kernel_rfl) (by kernel_rfl) ?_
  repeat (go_big_quiet_step (fail))
  refine wpQuiet_nil ?_
  rintro _ ⟨nq,rfl⟩
  go_wp2
  go_ret
  exact ⟨oq (by rw [kP,if_neg (by rw [HL.out];omega),if_neg (by omega),if_pos (.inl h4)]),below_drewN hB0 _⟩
 have h4':0≤start:=by omega
 have d1:decide (start<0)=false:=by simp;omega
 by_cases h5:(n':Int) - dn<start
 ·have d2:decide ((n':Int) - dn<start)=true:=by simp;omega
  go_enter Tryd.func76,Tryd.ntmps76
  go_wp2_with fail
  refine wp_region_quiet_lit (by kernel_rfl) (by kernel_rfl) ?_
  repeat (go_big_quiet_step (fail))
  refine wpQuiet_nil ?_
  rintro _ ⟨nq,rfl⟩
  go_wp2
  go_ret
  exact ⟨oq (by rw [kP,if_neg (by rw [HL.out];omega),if_neg (by omega),if_pos (by rw [Int.toNat_natCast,Bl HX.out,HN.out];omega)]),below_drewN hB0 _⟩
 ·have h5':start≤(n':Int) - dn:=by omega
  have d2:decide ((n':Int) - dn<start)=false:=by simp;omega
  go_enter Tryd.func76,Tryd.ntmps76
  go_wp2_with fail
  refine wp_region_quiet_lit (by kernel_rfl) (by kernel_rfl) ?_
  repeat (go_big_quiet_step (fail))
  refine wpQuiet_nil ?_
  rintro _ ⟨nq,rfl⟩
  go_wp2
  go_ret
  exact ⟨oq (by rw [kP,if_neg (by rw [HL.out];omega),if_neg (by omega),if_neg (by rw [Int.toNat_natCast,Bl HX.out,HN.out];omega)]),below_drewN hB0 _⟩
end Go.Proofs.YtaaokejjmdbfaaaDoor

namespace Go.Proofs.YtaaokejjmdbfaaaDoor
open Go.RowKit
theorem Tryd.ahP:(Tryd.prog.info? 78).map (·.size)=some 8:=by kernel_rfl
end Go.Proofs.YtaaokejjmdbfaaaDoor

namespace Go.Proofs.YtaaokejjmdbfaaaDoor
open Go.RowKit
def yH (l:List dD) (s:Nat) (d:List dD):List dD:=l.take s++d++l.drop (s+d.length)
def Aw (im:List (List dD)) (x:Wr):List (List dD):=im.set x.1.toNat (yH (im.getD x.1.toNat []) x.2.1.toNat x.2.2)
def wY (sz:List Int) (x:Wr):Int:=kP sz x.1 x.2.1 x.2.2.length
def dO (sz:List Int):List Wr→Nat→Int × Int
 |[],_=>(0,0)
 |x :: l,i=>if wY sz x≠0 then (i,wY sz x) else dO sz l (i+1)
def o8 (im:List (List dD)) (l:List Wr):List (List dD):=if sQ im≠0 then [] else RG (dO (lens im) l 0).2 (l.foldl Aw im)
def o9 (im:List (List dD)) (l:List Wr):Int:=if sQ im≠0 then 0 else (dO (lens im) l 0).1
def pq (im:List (List dD)) (l:List Wr):Int:=if sQ im≠0 then sQ im else (dO (lens im) l 0).2
def pz (w:World) (im:List (List dD)) (l:List Wr):Ending→World→Prop:=fun e w' =>
 ∃ a n c,e=.returned (.tuple #[.slice a n c,.int .i64 (o9 im l),.int .i64 (pq im l)])∧Sl lU (w.heap.size≤·) w' a n c (o8 im l)∧(a=none∨pq im l=0)∧Below w.heap.size w w'
theorem pz.mk {w w':World} {im:List (List dD)} {l:List Wr} {a:Option Addr} {n c:Nat} {i e:Int} (hi:i=o9 im l) (he:e=pq im l) (h:Sl lU (w.heap.size≤·) w' a n c (o8 im l)) (hz:a=none∨pq im l=0) (hB:Below w.heap.size w w') :
  pz w im l (.returned (.tuple #[.slice a n c,.int .i64 i,.int .i64 e])) w':=⟨a,n,c,by rw [hi,he],h,hz,hB⟩
theorem EP {sz:List Int} {l:List Wr} {k:Nat} {x:Wr} (hx:l[k]?=some x) (h:dO sz l 0=dO sz (l.drop k) k) (hf:wY sz x=0):dO sz l 0=dO sz (l.drop (k+1)) (k+1):=by
 obtain ⟨hk,rfl⟩:=List.getElem?_eq_some_iff.1 hx
 rw [h,List.drop_eq_getElem_cons hk,dO,if_neg (by rw [hf];decide)]
theorem JK {sz:List Int} {l:List Wr} {k:Nat} {x:Wr} (hx:l[k]?=some x) (h:dO sz l 0=dO sz (l.drop k) k) (hf:wY sz x≠0):dO sz l 0=((k:Int),wY sz x):=by
 obtain ⟨hk,rfl⟩:=List.getElem?_eq_some_iff.1 hx
 rw [h,List.drop_eq_getElem_cons hk,dO,if_pos hf]
theorem JL {sz:List Int} {l:List Wr} {k:Nat} (hk:l.length≤k) (h:dO sz l 0=dO sz (l.drop k) k):dO sz l 0=(0,0):=by
 rw [h,List.drop_eq_nil_of_le hk,dO]
theorem uN {l d:List dD} {s:Nat} (h:s+d.length≤l.length):(yH l s d).length=l.length:=by
 unfold yH;simp;omega
theorem RH {im:List (List dD)} {v s:Int} {d:List dD} (h:wY (lens im) (v,s,d)=0):0≤v∧v<im.length∧0<d.length∧0≤s∧∃ x,im[v.toNat]?=some x∧s+d.length≤x.length:=by
 unfold wY kP at h
 simp only at h
 split at h
 ·omega
 ·rename_i h1
  split at h
  ·omega
  ·rename_i h2
   split at h
   ·omega
   ·rename_i h3
    have h4:v.toNat<im.length:=by simp [lens] at h1;omega
    have e:(lens im).getD v.toNat 0=((im[v.toNat]'h4).length:Int):=by simp [lens,List.getD,h4]
    rw [e] at h3
    simp [lens] at h1
    exact ⟨by omega,by omega,by omega,by omega,_,List.getElem?_eq_getElem h4,by omega⟩
theorem Nu {im:List (List dD)} {x:Wr} (h:wY (lens im) x=0):lens (Aw im x)=lens im:=by
 obtain ⟨v,s,d⟩:=x
 obtain ⟨h1,h2,h3,h4,y,hy,h5⟩:=RH h
 unfold lens Aw
 rw [List.map_set]
 apply List.ext_getElem?
 intro i
 rw [List.getElem?_set]
 by_cases hi:v.toNat=i
 ·subst hi
  have hl:=(List.getElem?_eq_some_iff.1 hy).1
  simp only [List.length_map,if_true,if_pos hl,List.getElem?_map,hy,Option.map_some]
  rw [Bl hy,uN (by omega)]
 ·rw [if_neg hi]
set_option maxHeartbeats 4000000 in
theorem Qz {a:Option Addr} {n c:Nat} {im:List (List dD)} {ok ok2:Nat→Prop} {w:World} (h:Sl lU ok w a n c im) (hn:n≤1000000) (hvs:∀ v∈im,v.length≤1000000)
  {la:Option Addr} {ln lc:Nat} {l:List Wr} (hl:Sl wrR ok2 w la ln lc l) :
  Calls Tryd.prog 39 #[.slice a n c,.slice la ln lc] w (pz w im l):=by
 by_cases he:sQ im=0
 rotate_left
 ·have hb:(sQ im != 0)=true:=by simp [he]
  have HE:=Lib.hid he;clear he
  go_enter Tryd.func39,Tryd.ntmps39
  go_wp2_with fail
  refine (DW h hn).mono ?_
  rintro e w1 ⟨rfl,hB1⟩
  go_wp2
  go_ret3
  exact pz.mk (by rw [o9,if_pos HE.out]) (by rw [pq,if_pos HE.out]) (by rw [o8,if_pos HE.out];exact Sl.nil0 _ _ _) (.inl rfl) hB1
 have hb:(sQ im != 0)=false:=by simp [he]
 have HE:=Lib.hid he;clear he
 have hls:=hl.small
 go_enter Tryd.func39,Tryd.ntmps39
 go_wp2_with fail
 refine (DW h hn).mono ?_
 rintro e w1 ⟨rfl,hB1⟩
 go_wp2_with fail
 refine (Qy (h.below hB1) hn hvs).mono ?_
 rintro e w2 ⟨v0,rfl,hown0,hB2⟩
 have hB3:=hB1.trans (hB2.mono hB1.size)
 go_wp2
 go_loopw [21] (fun i wr=>∃ k:Nat,k≤ln∧i=.int .i64 k∧Hid (dO (lens im) l 0=dO (lens im) (l.drop k) k∧lens ((l.take k).foldl Aw im)=lens im)∧jl ou w1.heap.size wr.heap.size 76 wr v0 ((l.take k).foldl Aw im)∧Below w1.heap.size w1 wr) (fun i _=>ln - (intOf i).toNat)
 case atStart=>exact ⟨0,Nat.zero_le _,rfl,⟨rfl,rfl⟩,hown0,hB2⟩
 case round =>
  obtain ⟨k,hk,rfl,HK,hown,hB⟩:=hrel
  by_cases hlt:k<ln
  ·obtain ⟨b,off,rfl,_,_⟩:=hl.addr hlt
   obtain ⟨⟨v,s,d⟩,hx⟩:=hl.get hlt
   obtain ⟨da,dn,dc,hc0,hc1,hc2,hv,hs,hd⟩:=(hl.below (hB1.trans (hB.mono hB1.size))).wr hx
   have HX:=Lib.hid hx;clear hx
   obtain ⟨a2,n2,c2,rfl,VE⟩:=hown.img
   generalize hcur:(l.take k).foldl Aw im=cur at *
   have HC:=Lib.hid hcur;clear hcur
   have hds:=hd.small
   by_cases hf:kP (lens cur) v s dn=0
   rotate_left
   ·have hfb:(kP (lens cur) v s dn != 0)=true:=by simp [hf]
    have HF:=Lib.hid hf;clear hf
    go_wp2_with fail
    refine (GK (VE.below ((Below.refl _ _).alloc (Nat.le_refl _) _)) hv hs hds).mono ?_
    rintro e w3 ⟨rfl,hB4⟩
    go_wp2
    go_ret3
    have e0:dO (lens im) l 0=((k:Int),kP (lens cur) v s dn):=by
     have e1:wY (lens im) (v,s,d)=kP (lens cur) v s dn:=by unfold wY;rw [HK.out.2,hd.len]
     rw [← e1]
     exact JK HX.out HK.out.1 (by rw [e1];exact HF.out)
    exact pz.mk (by rw [o9,if_neg (by simp [HE.out]),e0]) (by rw [pq,if_neg (by simp [HE.out]),e0]) (by rw [o8,if_neg (by simp [HE.out]),e0,VB HF.out];exact Sl.nil0 _ _ _) (.inl rfl)
     ((hB1.trans (hB.mono hB1.size)).trans (((Below.refl _ _).alloc (Nat.le_refl _) _).trans (hB4.mono (by simp)) |>.mono (Nat.le_trans hB1.size hB.size)))
   ·have hfb:(kP (lens cur) v s dn != 0)=false:=by simp [hf]
    have hfw:wY (lens cur) (v,s,d)=0:=by unfold wY;rw [hd.len];exact hf
    obtain ⟨h1,h2,h3,h4,x,hx,h5⟩:=RH hfw
    obtain ⟨v,rfl⟩:=Int.eq_ofNat_of_zero_le h1
    obtain ⟨s,rfl⟩:=Int.eq_ofNat_of_zero_le h4
    rw [Int.toNat_natCast] at hx
    have HFW:=Lib.hid hfw;clear hfw
    have HF:=Lib.hid hf;clear hf
    have hdn:0<dn:=by rw [← hd.len];exact h3
    have h5':s+dn≤x.length:=by rw [hd.len] at h5;omega
    have h2':v<n2:=by rw [← VE.len];omega
    go_wp2_with fail
    refine (GK (VE.below ((Below.refl _ _).alloc (Nat.le_refl _) _)) hv hs hds).mono ?_
    rintro e w3 ⟨rfl,hB4⟩
    have hB5:Below wr.heap.size wr w3:=((Below.refl _ _).alloc (Nat.le_refl _) _).trans (hB4.mono (by simp))
    -- the row that is written
    obtain ⟨g,cap,cc,Vz,hvv,hBg,hg,hcc,⟨u,rfl,hub,hu,_⟩,afz,hput⟩:=((hown.below hB5).below ((Below.refl _ _).drew)).at hx
    cases hvv
    have hu':=hu
    obtain ⟨xs,hrow,_⟩:=hu
    obtain ⟨gi,JM,rfl⟩:∃ gi JM,u=.slice (some ⟨gi,0,none⟩) x.length JM:=by
     rcases hrow.2 with ⟨_,h0⟩|⟨gi,JM,cur',hvu,_⟩
     ·omega
     ·exact ⟨gi,JM,hvu⟩
    have hcap:x.length≤JM:=by obtain ⟨_,_,_,e,q⟩:=hu'.sl;cases e;exact q.cap
    have hcell:w3.cell? ⟨g,v,none⟩=some (.slice (some ⟨gi,0,none⟩) x.length JM):=by have:=hcc 0 Nat.zero_lt_one;simpa [ou,gZ] using this
    have hgi:=afz gi (hub gi rfl)
    have hw3:=hB5.size
    have hl0:=mM (g:=gi) (JF hB4 (j:=0) rfl) (by show wr.heap.size≠gi;omega)
    have hl1:=mM (g:=gi) (JF hB4 (j:=1) rfl) (by show wr.heap.size≠gi;omega)
    have hl2:=mM (g:=gi) (JF hB4 (j:=2) rfl) (by show wr.heap.size≠gi;omega)
    have hl3:=mM (g:=gi) hcell (fun e=>hgi.2.2 e.symm)
    have hsl:=fun w=>Nr Tryd.underlying76 Tryd.ahP (some ⟨gi,0,none⟩) x.length JM s (by omega) w
    have hsub:sO (some ⟨gi,0,none⟩) JM s 8=some ⟨gi,s * 8,none⟩:=by unfold sO;rw [if_neg (by omega)];simp [Addr.add_lit]
    rw [hsub] at hsl
    have HS:=Lib.hid hsub;clear hsub
    have ali:s≤x.length:=by omega
    clear h5 hcc
    go_wp2_with fail
    refine fJ (fun w'=>∃ x:kN (w3) (gi),w'=x.w) [([0,1,2,3,4,5,6,7,8,9],10)] [] Tryd.mixed (by kernel_rfl) (kN.drew _ _) ?_
    refine NU ?_
    simp only [pick,List.filterMap_cons,List.filterMap_nil,List.getElem?_toArray,List.getElem?_cons_succ,List.getElem?_cons_zero]
    change wpQuiet _ _ _ _ [_,_,_,_,_,_,_,_,_,_] _
    repeat (go_big_quiet_step (fail))
    refine wpQuiet_nil ?_
    change wpList _ _ _ [_] _ _
    refine DU Tryd.ZJ Flat.sec rfl _ _ rfl (s:=s) (r:=nG) rfl rfl hu' (ys:=d) (((hd.below hB5).below ((Below.refl _ _).drew))) (by omega) hdn (by omega) ?_
    intro w4 hrow4 VF ai8
    have hgr:w3.grownBy w4 (some gi):=Aa (grown_drew _ _) VF
    have hown4:=hput w4 (yH x s d) (fun b hb hne=>VF.block b hb (fun e=>hne (by rw [Option.some.inj e];exact hub gi rfl))) VF.os VF.tape VF.output VF.size ⟨_,rfl,hub,hrow4,fun e=>by
     have:=uN (l:=x) (d:=d) (s:=s) (by rw [hd.len];omega)
     rw [e] at this;simp at this;omega⟩
    have e1:Aw cur ((v:Int),(s:Int),d)=cur.set v (yH x s d):=by
     unfold Aw;rw [Int.toNat_natCast,Int.toNat_natCast,Bl hx]
    have H1:=Lib.hid e1;clear e1
    have HXX:=Lib.hid hx;clear hx
    go_wp2_with fail
    refine ⟨kN.of hgr,?_⟩
    refine iY ?_
    simp only [pick,List.filterMap_cons,List.filterMap_nil,List.getElem?_toArray,List.getElem?_cons_succ,List.getElem?_cons_zero]
    change wpQuiet _ _ _ _ [] _
    repeat (go_big_quiet_step (fail))
    refine wpQuiet_nil ?_
    go_wp2
    go_roundw
    case rel =>
     refine ⟨k+1,by omega,by go_num,?_,?_,(hB.trans (hB5.mono hB.size)).grown hgr (by have:=hB.size;omega) (fun j hj=>by cases hj;omega)⟩
     ·show _∧_
      have hfw:wY (lens im) ((v:Int),(s:Int),d)=0:=by rw [← HK.out.2];exact HFW.out
      refine ⟨EP HX.out HK.out.1 hfw,?_⟩
      rw [mX HX.out,List.foldl_append,HC.out]
      show lens (Aw cur _)=_
      rw [Nu HFW.out,HK.out.2]
     ·rw [mX HX.out,List.foldl_append,HC.out]
      show jl _ _ _ _ _ _ (Aw cur _)
      rw [H1.out]
      exact hown4.up (by have:=hgr.size;omega)
    case measure=>simp [intOf];omega
  ·obtain rfl:k=ln:=by omega
   obtain ⟨a2,n2,c2,rfl,VE⟩:=hown.img
   go_wp2
   go_ret3
   have e0:=JL (Nat.le_of_eq hl.len) HK.out.1
   rw [yG hl.len] at VE
   exact pz.mk (by rw [o9,if_neg (by simp [HE.out]),e0]) (by rw [pq,if_neg (by simp [HE.out]),e0]) (by rw [o8,if_neg (by simp [HE.out]),e0,ZM rfl];exact VE.mono fun b hb=>Nat.le_trans hB1.size hb) (.inr (by rw [pq,if_neg (by simp [HE.out]),e0]))
    (hB1.trans (hB.mono hB1.size))
end Go.Proofs.YtaaokejjmdbfaaaDoor

namespace Go.Proofs.YtaaokejjmdbfaaaDoor
open Go.RowKit V
theorem QA {w:World} {b o:Nat} {u:Value} (h:w.cell? ⟨b,o,none⟩=some u):dF w b:=by
 unfold World.cell? at h
 simp only at h
 split at h
 ·rename_i e;exact ⟨_,_,_,e⟩
 ·cases h
theorem wZ {α:Type} {r:Rep α} {enc:α→PV} {ok:Nat→Prop} {w:World} {l:List α} {sz:Nat} {v:Value} (hsz:sz=r.sz) (hc:∀ x,(enc x).cells.length=r.sz)
  (hr:∀ x∈l,∀ (cs:List Value),cs.length=r.sz→(∀ (j:Nat) p u,(enc x).cells[j]?=some p→cs[j]?=some u→ay ok w p u)→r.rd ok w cs x) (h:ay ok w (.list sz (l.map enc)) v):∃ a n c,v=.slice a n c∧Sl r ok w a n c l:=by
 generalize he:l.map enc=es at h
 cases h with
 |nil _ a =>
  have:l=[]:=by simpa using he
  subst this
  exact ⟨a,0,0,rfl,⟨rfl,Nat.le_refl _,Nat.zero_le _,fun _=>rfl,.inl rfl⟩⟩
 |list _ _ b off c cv h1 h2 h3 h4 h6 h7 h8 =>
  subst hsz he
  refine ⟨_,_,c,rfl,⟨by simp,h3,h4,(fun e=>by cases e),.inr ⟨b,off,rfl,h1,h2.lt,fun i x hx=>?_⟩⟩⟩
  have hi:(l.map enc)[i]?=some (enc x):=by simp [hx]
  refine ⟨(List.range r.sz).map (cv i),fun j hj=>?_,hr x (List.mem_of_getElem? hx) _ (by simp) fun j p u hp hu=>?_⟩
  ·have hj':j<(enc x).cells.length:=by rw [hc];exact hj
   rw [(h7 i _ j _ hi (List.getElem?_eq_getElem hj')).1]
   simp [hj]
  ·have hj:j<r.sz:=by have:=(List.getElem?_eq_some_iff.1 hp).1;rw [hc] at this;exact this
   have:u=cv i j:=by simp [hj] at hu;exact hu.symm
   rw [this]
   exact h8 i _ j _ hi hp
theorem sS {α:Type} {r:Rep α} {enc:α→PV} {ok ok':Nat→Prop} {w:World} {l:List α} {a:Option Addr} {n c:Nat} (hk:∀ b,ok b→b<w.heap.size→ok' b) (hp0:0<r.sz) (hc:∀ x,(enc x).cells.length=r.sz)
  (hr:∀ x∈l,∀ (cs:List Value),cs.length=r.sz→r.rd ok w cs x→∀ (j:Nat) p u,(enc x).cells[j]?=some p→cs[j]?=some u→u.oneCell'=true∧ay ok' w p u) (hz:l=[]→c=0) (h:Sl r ok w a n c l):ay ok' w (.list r.sz (l.map enc)) (.slice a n c):=by
 obtain ⟨h1,h2,h3,h4,h5⟩:=h
 by_cases hl:l=[]
 ·have:=hz hl
  subst hl
  have:n=0:=by simpa using h1.symm
  subst this
  have:c=0:=by omega
  subst this
  exact .nil _ _
 ·rcases h5 with h5|⟨b,off,rfl,hb,hlt,h6⟩
  ·exact absurd (List.eq_nil_of_length_eq_zero (by omega)) hl
  ·have hn:n=(l.map enc).length:=by simp [h1]
   rw [hn]
   have key:∀ (i:Nat) (x:α) (j:Nat) (p:PV),l[i]?=some x→(enc x).cells[j]?=some p→∃ u,w.cell? ⟨b,off+i * r.sz+j,none⟩=some u∧u.oneCell'=true∧ay ok' w p u:=by
    intro i x j p hx hp
    obtain ⟨cs,g1,g2⟩:=h6 i x hx
    have hj:j<r.sz:=by have:=(List.getElem?_eq_some_iff.1 hp).1;rw [hc] at this;exact this
    have hl2:=r.len g2
    have hu:cs[j]?=some (cs[j]'(by omega)):=List.getElem?_eq_getElem (by omega)
    obtain ⟨k1,k2⟩:=hr x (List.mem_of_getElem? hx) cs hl2 g2 j p _ hp hu
    exact ⟨_,by rw [g1 j hj,hu],k1,k2⟩
   have get:∀ {i:Nat} {e:PV},(l.map enc)[i]?=some e→∃ x,l[i]?=some x∧e=enc x:=by
    intro i e he
    rw [List.getElem?_map] at he
    cases hx:l[i]? with
    |none=>rw [hx] at he;cases he
    |some x=>rw [hx] at he;cases he;exact ⟨x,rfl,rfl⟩
   have hce:dF w b:=by
    cases l with
    |nil=>exact absurd rfl hl
    |cons x l =>
     have hj:0<(enc x).cells.length:=by rw [hc];exact hp0
     obtain ⟨u,k1,_⟩:=key 0 x 0 _ rfl (List.getElem?_eq_getElem hj)
     exact QA k1
   refine .list _ _ b off c (fun i j=>(w.cell? ⟨b,off+i * r.sz+j,none⟩).getD undef) (hk b hb hlt) hce (by simp;omega) h3 (fun e he=>?_) (fun i e j x hi hj=>?_) fun i e j x hi hj=>?_
   ·obtain ⟨x,_,rfl⟩:=List.mem_map.1 he;exact hc x
   ·obtain ⟨x',hx,rfl⟩:=get hi
    obtain ⟨u,k1,k2,k3⟩:=key i x' j x hx hj
    rw [k1];exact ⟨rfl,k2⟩
   ·obtain ⟨x',hx,rfl⟩:=get hi
    obtain ⟨u,k1,k2,k3⟩:=key i x' j x hx hj
    rw [k1];exact k3
theorem Bo {ok:Nat→Prop} {w:World} {l:List dD} {v:Value} (h:ay ok w (bg l) v):∃ a n c,v=.slice a n c∧Sl nG ok w a n c l:=by
 refine wZ (r:=nG) (enc:=iT) rfl (fun x=>gB x) (fun x _ cs hl hcs=>?_) h
 show cs=aY x
 refine List.ext_getElem? fun j=>?_
 by_cases hj:j<8
 ·have h1:cs[j]?=some (cs[j]'(by rw [hl];exact hj)):=List.getElem?_eq_getElem _
  have h2:(iT x).cells[j]?=some (.int .u8 ((x.toList[j]'(by simpa using hj)).toNat:Int)):=by
   show (lT x)[j]?=_
   have hj':j<x.toList.length:=by simpa using hj
   simp only [lT,List.getElem?_map,List.getElem?_eq_getElem hj',Option.map_some]
  have:=(hcs j _ _ h2 h1).bT
  have hj':j<x.toList.length:=by simpa using hj
  rw [h1,this]
  simp only [aY,List.getElem?_map,List.getElem?_eq_getElem hj',Option.map_some]
 ·have e1:cs.length=8:=hl
  rw [List.getElem?_eq_none (by omega),List.getElem?_eq_none (by rw [eU];omega)]
theorem afA {ok:Nat→Prop} {w:World} {l:List (List dD)} {v:Value} (h:ay ok w (.list 1 (l.map bg)) v):∃ a n c,v=.slice a n c∧Sl lU ok w a n c l:=by
 refine wZ (r:=lU) (enc:=bg) rfl (fun x=>rfl) (fun x _ cs hl hcs=>?_) h
 match cs,hl with
 |[u],_ =>
  obtain ⟨a,n,c,rfl,hs⟩:=Bo (hcs 0 _ u rfl rfl)
  exact ⟨a,n,c,rfl,hs⟩
theorem afB {ok:Nat→Prop} {w:World} {l:List iy} {v:Value} (hok:∀ x∈l,kW x.volume=true∧kW x.start=true) (h:ay ok w (.list 3 (l.map oz)) v):∃ a n c,v=.slice a n c∧Sl wrR ok w a n c (l.map fun x=>(x.volume,x.start,x.data)):=by
 have:∃ a n c,v=.slice a n c∧Sl (α:=iy) ⟨3,fun ok w cs x=>wrR.rd ok w cs (x.volume,x.start,x.data),fun h=>wrR.len h,fun hk h=>wrR.mono hk h,fun h=>wrR.live h,fun hf h=>wrR.frame hf h,fun h=>wrR.one h⟩ ok w a n c l:=by
  refine wZ rfl (fun x=>rfl) (fun x hx cs hl hcs=>?_) h
  match cs,hl with
  |[u,u2,u3],_ =>
   have e1:=(hcs 0 _ u rfl rfl).bT
   have e2:=(hcs 1 _ u2 rfl rfl).bT
   obtain ⟨a,n,c,rfl,hs⟩:=Bo (l:=x.data) (hcs 2 _ u3 rfl rfl)
   obtain ⟨o1,o2⟩:=hok x hx
   simp only [kW,Bool.and_eq_true,decide_eq_true_eq] at o1 o2
   exact ⟨[u],[u2,.slice a n c],rfl,⟨by rw [e1],o1⟩,⟨[u2],[.slice a n c],rfl,⟨by rw [e2],o2⟩,a,n,c,rfl,hs⟩⟩
 obtain ⟨a,n,c,rfl,h1,h2,h3,h4,h5⟩:=this
 refine ⟨a,n,c,rfl,⟨by simpa using h1,h2,h3,h4,h5.imp id fun ⟨b,off,g1,g2,g3,g4⟩=>⟨b,off,g1,g2,g3,fun i x hx=>?_⟩⟩⟩
 rw [List.getElem?_map] at hx
 cases hx':l[i]? with
 |none=>rw [hx'] at hx;cases hx
 |some y=>rw [hx'] at hx;cases hx;exact g4 i y hx'
theorem acY {ok ok':Nat→Prop} {w:World} {l:List (List dD)} {a:Option Addr} {n c:Nat} (hk:∀ b,ok b→b<w.heap.size→ok' b) (hz:l=[]→c=0) (hne:∀ x∈l,x≠[]) (h:Sl lU ok w a n c l):ay ok' w (.list 1 (l.map bg)) (.slice a n c):=by
 refine sS (r:=lU) (enc:=bg) hk (by decide) (fun x=>rfl) (fun x hx cs hl hrd j p u hp hu=>?_) hz h
 obtain ⟨a,n,c,rfl,hs⟩:=hrd
 match j with
 |j+1=>simp [bg,PV.cells] at hp
 |0 =>
  cases hp
  cases hu
  refine ⟨rfl,sS (r:=nG) (enc:=iT) hk (by decide) (fun x=>gB x) (fun s _ cs hl hrd j p u hp hu=>?_) (fun e=>absurd e (hne x hx)) hs⟩
  have hrd:cs=aY s:=hrd
  subst hrd
  simp only [aY,List.getElem?_map,Option.map_eq_some_iff] at hu
  have hp:(lT s)[j]?=some p:=hp
  simp only [lT,List.getElem?_map,Option.map_eq_some_iff] at hp
  obtain ⟨b,h1,rfl⟩:=hu
  obtain ⟨b',h2,rfl⟩:=hp
  rw [h1] at h2
  cases h2
  exact ⟨rfl,.int _ _⟩
theorem GL (sz:List Int) (x:iy):qj sz x=wY sz (x.volume,x.start,x.data):=by
 simp only [wY,kP,qj]
 repeat' split
 all_goals first|rfl|omega
theorem zx (sz:List Int):∀ (l:List iy) (i:Nat),jU sz l i=dO sz (l.map fun x=>(x.volume,x.start,x.data)) i
 |[],_=>rfl
 |x :: l,i=>by rw [List.map_cons,jU,dO,GL,zx sz l (i+1)]
theorem QB (im:List (List dD)) (l:List iy):uG im l=pq im (l.map fun x=>(x.volume,x.start,x.data)):=by
 unfold uG pq;rw [zx];rfl
theorem afC (im:List (List dD)) (l:List iy):apI im l=o9 im (l.map fun x=>(x.volume,x.start,x.data)):=by
 unfold apI o9;rw [zx];rfl
theorem acZ (im:List (List dD)) (x:iy):sH im x=Aw im (x.volume,x.start,x.data):=rfl
theorem RI:∀ (l:List iy) (im:List (List dD)),l.foldl sH im=(l.map fun x=>(x.volume,x.start,x.data)).foldl Aw im
 |[],_=>rfl
 |x :: l,im=>by rw [List.map_cons,List.foldl_cons,List.foldl_cons,acZ,RI l]
theorem afD (im:List (List dD)) (l:List iy):lS im l=o8 im (l.map fun x=>(x.volume,x.start,x.data)):=by
 unfold lS o8
 rw [QB,RI]
 unfold pq RG
 by_cases h:sQ im=0
 ·simp [h]
 ·simp [h]
theorem DX {im:List (List dD)} {x:iy} (h:qj (bP im) x=0):bP (sH im x)=bP im:=by
 rw [GL] at h
 exact Nu h
theorem DY:∀ (l:List iy) (im:List (List dD)) (i:Nat),(jU (bP im) l i).2=0→bP (l.foldl sH im)=bP im
 |[],_,_,_=>rfl
 |x :: l,im,i,h=>by
  unfold jU at h
  split at h
  ·rename_i h2;exact absurd h h2
  ·rename_i h2
   have h2:qj (bP im) x=0:=by omega
   have e:=DX h2
   rw [List.foldl_cons,DY l (sH im x) (i+1) (by rw [e];exact h),e]
theorem jo {im:List (List dD)} {l:List iy} (h:uG im l=0):bP (lS im l)=bP im:=by
 unfold lS
 rw [if_pos h]
 unfold uG at h
 split at h
 ·rename_i h2;exact absurd h h2
 ·exact DY l im 0 h
theorem ZO {im:List (List dD)} (h:qh (bP im)=0):im≠[]∧∀ v∈im,v≠[]:=by
 unfold qh at h
 split at h
 ·cases h
 ·rename_i h1
  split at h
  ·cases h
  ·rename_i h2
   refine ⟨fun e=>by subst e;simp [bP] at h1,fun v hv e=>?_⟩
   subst e
   refine h2 (List.any_eq_true.2 ⟨0,?_,by decide⟩)
   exact List.mem_map.2 ⟨[],hv,rfl⟩
theorem QC {im:List (List dD)} {l:List iy}:(uG im l=0→lS im l≠[])∧∀ v∈lS im l,v≠[]:=by
 by_cases h:uG im l=0
 ·have h0:qh (bP im)=0:=by
   unfold uG at h
   split at h
   ·rename_i h2;exact absurd h h2
   ·omega
  have:=ZO (im:=lS im l) (by rw [jo h];exact h0)
  exact ⟨fun _=>this.1,this.2⟩
 ·exact ⟨fun e=>absurd e h,fun v hv=>by unfold lS at hv;rw [if_neg h] at hv;cases hv⟩
theorem ZP {f:Nat} (hc:callable Tryd.prog f=true) (hA:∀ {a:Option Addr} {n c:Nat} {im:List (List dD)} {ok ok2:Nat→Prop} {w:World},Sl lU ok w a n c im→n≤1000000→(∀ v∈im,v.length≤1000000) →
  ∀ {la:Option Addr} {ln lc:Nat} {l:List Wr},Sl wrR ok2 w la ln lc l→Calls Tryd.prog f #[.slice a n c,.slice la ln lc] w (pz w im l)) :
  ∀ args rs,sJ args=some rs→callable Tryd.prog f=true∧nK Tryd.prog f args rs:=fun args rs h=>by
 obtain ⟨im,l,rfl,hw,hn,hv,rfl⟩:=UW h
 refine ⟨hc,fun T0 w vs h1 h2 h3 h4 _=>?_⟩
 match vs,h3 with
 |[v0,v1],_ =>
  obtain ⟨a,n,c,rfl,hs⟩:=afA (h4 0 _ v0 rfl rfl)
  obtain ⟨la,ln,lc,rfl,hl⟩:=afB hw (h4 1 _ v1 rfl rfl)
  refine (hA hs (by rw [← hs.len];exact hn) hv hl).mono ?_
  rintro e w' ⟨a',n',c',rfl,hr,hz,hB⟩
  rw [← afC,← QB]
  rw [← afD] at hr
  rw [← QB] at hz
  refine ⟨_,fun b=>if w.heap.size≤b∧b<w'.heap.size then .ro else T0 b,rfl,hB,fun b hb=>if_neg (by omega),fun b hb=>?_,#[_,_,_],rfl,rfl,fun i r u hr' hu=>?_⟩
  ·show (if _ then _ else T0 b)=_
   rw [if_neg (by omega)];exact h2 b (by have:=hB.size;omega)
  ·match i with
   |0 =>
    cases hr';cases hu
    refine acY (ok:=(w.heap.size≤·)) (fun b hb hlt=>if_pos ⟨hb,hlt⟩) (fun e=>?_) QC.2 hr
    rcases hz with hz|hz
    ·exact hr.nil hz
    ·exact absurd e (QC.1 hz)
   |1=>cases hr';cases hu;exact .int _ _
   |2=>cases hr';cases hu;exact .int _ _
   |i+3=>simp at hr'
theorem VG:∀ args rs,sJ args=some rs→callable Tryd.prog 39=true∧nK Tryd.prog 39 args rs:=ZP (by kernel_rfl) fun h hn hv _ _ _ _ hl=>Qz h hn hv hl
end Go.Proofs.YtaaokejjmdbfaaaDoor

namespace Go.Proofs.YtaaokejjmdbfaaaDoor
open Go.RowKit V
end Go.Proofs.YtaaokejjmdbfaaaDoor

namespace Go.Proofs.YtaaokejjmdbfaaaDoor.V
def ac0 (im:jk):PV:=.list 1 (im.map bg)
def mY (a b:jk):Int:=if bU a≠0 then bU a else if bU b≠0 then bU b else if aS a=aS b then 0 else 22
def differ (a b:jk):List (List ji):=(a.zip b).map fun q=>Jv q.1 q.2
def zy (a b:jk):List (List ji):=if mY a b=0 then differ a b else []
theorem kU {a b:jk} (h:aS a=aS b):a.length=b.length∧∀ i (h1:i<a.length) (h2:i<b.length),a[i].length=b[i].length:=by
 have hl:a.length=b.length:=by simpa [aS] using congrArg List.length h
 refine ⟨hl,fun i h1 h2=>?_⟩
 have:=congrArg (fun l=>l[i]?) h
 simp only [aS,List.getElem?_map,List.getElem?_eq_getElem h1,List.getElem?_eq_getElem h2,Option.map_some,Option.some.injEq] at this
 omega
theorem afE {A B:PV} {l:List jk} (hl:l.length≤lim) (hi0:∀ im∈l,im.length≤lim) {st:St} (h:st.head [0,1,10,11,12] st.boxes.length=some ⟨[.pv A,.pv B,.any,.any,.any,.any,.any,.any,.any,.any,.row 1 (l.map ac0),.pv (.int .i64 l.length),.pv (.int .i64 (0:Nat)),.any,.any,.any,.any,.any,.any,.any,.any,.any,.any,.any,.any,.any,.any,.any],[],[],none⟩) :
  den env Jj st=match l.find? (fun im=>decide (bU im≠0)) with|some im=>some (.ret,⟨[.pv A,.pv B,.any,.any,.pv (.int .i64 (bU im)),.any,.any,.any,.any,.any,.any,.any,.any,.any,.any,.any,.any,.any,.any,.any,.any,.any,.any,.any,.any,.any,.any,.any],[],[],none⟩)|none=>some (.normal,⟨[.pv A,.pv B,.any,.any,.any,.any,.any,.any,.any,.any,.any,.any,.any,.any,.any,.any,.any,.any,.any,.any,.any,.any,.any,.any,.any,.any,.any,.any],[],[],none⟩):=by
 unfold Jj
 rw [ cO (env:=env) (l.length) (fun i=>⟨[.pv A,.pv B,.any,.any,.any,.any,.any,.any,.any,.any,.row 1 (l.map ac0),.pv (.int .i64 l.length),.pv (.int .i64 i),.any,.any,.any,.any,.any,.any,.any,.any,.any,.any,.any,.any,.any,.any,.any],[],[],none⟩) (fun i=>match (l.drop i).find? (fun im=>decide (bU im≠0)) with|some im=>some (.ret,⟨[.pv A,.pv B,.any,.any,.pv (.int .i64 (bU im)),.any,.any,.any,.any,.any,.any,.any,.any,.any,.any,.any,.any,.any,.any,.any,.any,.any,.any,.any,.any,.any,.any,.any],[],[],none⟩)|none=>some (.normal,⟨[.pv A,.pv B,.any,.any,.any,.any,.any,.any,.any,.any,.any,.any,.any,.any,.any,.any,.any,.any,.any,.any,.any,.any,.any,.any,.any,.any,.any,.any],[],[],none⟩)) h (fun _=>rfl) (fun _=>rfl) ?_ ?_]
 ·first|rfl|simp only [List.drop_zero,List.take_zero,List.map_nil,Nat.zero_add,List.nil_append,List.foldl_nil]
 ·intro i rb hi ih
  have hi1:=cZ hi hl
  have F1:((i:Int)<(l.length:Int))=True:=eq_true (by omega)
  have e1:=YV (hi0 _ (List.getElem_mem hi))
  rw [List.drop_eq_getElem_cons hi,List.find?_cons]
  by_cases hc:bU l[i]=0
  ·have F2:(bU l[i] != 0)=false:=by simp [hc]
   simp only [Bc,F1,F2,e1,ac0,ak hi,List.getElem?_map,List.getElem?_eq_getElem hi,bJ,reduceCtorEq,Nat.reduceEqDiff,Nat.reduceAdd,Nat.reduceLT,Nat.reduceLeDiff,Nat.beq]
   rw [ih _ (by simp only [hi1];rfl)]
   simp only [hc,ne_eq,not_true,decide_false]
  ·have F2:(bU l[i] != 0)=true:=by simp [hc]
   simp only [Bc,F1,F2,e1,ac0,ak hi,List.getElem?_map,List.getElem?_eq_getElem hi,bJ,reduceCtorEq,Nat.reduceEqDiff,Nat.reduceAdd,Nat.reduceLT,Nat.reduceLeDiff,Nat.beq]
   simp only [hc,ne_eq,not_false_eq_true,decide_true]
   rfl
 ·intro rb
  simp only [Bc,Int.lt_irrefl,bJ,reduceCtorEq,Nat.reduceEqDiff,Nat.reduceAdd,Nat.reduceLT,Nat.reduceLeDiff,Nat.beq]
  rw [List.drop_length]
  rfl
theorem ahQ {a b:jk} (ha:a.length≤lim) (hb:b.length≤lim):cal env 72 [.list 1 (a.map bg),.list 1 (b.map bg)]=some [(.int .i64 (mY a b),false)]:=by
 have h2:∀ im∈[a,b],im.length≤lim:=by simp;exact ⟨ha,hb⟩
 have e1:=YU ha
 have e2:=YU hb
 have e3:=ahm (l:=aS a) (m:=aS b) (by simpa [aS] using ha)
 rw [au ag9 rfl];simp only [YC];simp only [start,aH,aQ,aF,aO,aA,aB,aG,aP,Nat.reduceAdd,Nat.reduceSub]
 simp only [e1,e2,e3,bJ,reduceCtorEq,Nat.reduceEqDiff,Nat.reduceAdd,Nat.reduceLT,Nat.reduceLeDiff,Nat.beq]
 rw [afE (l:=[a,b]) (by simp [lim]) h2]
 rotate_left
 ·rfl
 ·simp only [List.find?_cons,List.find?_nil,mY]
  by_cases c1:bU a=0
  ·by_cases c2:bU b=0
   ·by_cases c4:aS a=aS b
    ·have hd:=decide_eq_true c4
     simp only [c1,c2,hd,ne_eq,not_true,decide_false,e1,e2,e3,bJ,reduceCtorEq,Nat.reduceEqDiff,Nat.reduceAdd,Nat.reduceLT,Nat.reduceLeDiff,Nat.beq]
     rw [if_pos c4]
    ·have hd:=decide_eq_false c4
     simp only [c1,c2,hd,ne_eq,not_true,decide_false,e1,e2,e3,bJ,reduceCtorEq,Nat.reduceEqDiff,Nat.reduceAdd,Nat.reduceLT,Nat.reduceLeDiff,Nat.beq]
     rw [if_neg c4]
   ·simp only [c1,c2,ne_eq,not_true,not_false_eq_true,decide_false,decide_true,if_false,if_true,e1,e2,e3,bJ,reduceCtorEq,Nat.reduceEqDiff,Nat.reduceAdd,Nat.reduceLT,Nat.reduceLeDiff,Nat.beq]
  ·simp only [c1,ne_eq,not_true,not_false_eq_true,decide_false,decide_true,if_false,if_true,e1,e2,e3,bJ,reduceCtorEq,Nat.reduceEqDiff,Nat.reduceAdd,Nat.reduceLT,Nat.reduceLeDiff,Nat.beq]
theorem afF {a b:jk} (hl:a.length≤lim) (hr:∀ v∈a,v.length≤lim) (hab:a.length=b.length) (hs:∀ i (h1:i<a.length) (h2:i<b.length),a[i].length=b[i].length)
  {st:St} (h:st.head [0,1,7,16,17,31] st.boxes.length=some ⟨[.pv (.list 1 (a.map bg)),.pv (.list 1 (b.map bg)),.any,.any,.any,.any,.any,.row 1 [],.any,.any,.any,.any,.any,.any,.any,.any,.pv (.int .i64 a.length),.pv (.int .i64 (0:Nat)),.any,.any,.any,.any,.any,.any,.any,.any,.any,.any,.any,.any,.any,.any,.any,.any],[],[],none⟩) :
  den env I9 st=some (.normal,⟨[.any,.any,.any,.any,.any,.any,.any,.row 1 ((differ a b).map QN),.any,.any,.any,.any,.any,.any,.any,.any,.any,.any,.any,.any,.any,.any,.any,.any,.any,.any,.any,.any,.any,.any,.any,.any,.any,.any],[],[],none⟩):=by
 unfold I9
 have hz:(a.zip b).length=a.length:=by simp;omega
 refine cO (env:=env) a.length (fun i=>⟨[.pv (.list 1 (a.map bg)),.pv (.list 1 (b.map bg)),.any,.any,.any,.any,.any,.row 1 (((a.zip b).take i).map fun q=>QN (Jv q.1 q.2)),.any,.any,.any,.any,.any,.any,.any,.any,.pv (.int .i64 a.length),.pv (.int .i64 i),.any,.any,.any,.any,.any,.any,.any,.any,.any,.any,.any,.any,.any,.any,.any,.any],[],[],none⟩) (fun i=>some (.normal,⟨[.any,.any,.any,.any,.any,.any,.any,.row 1 ((differ a b).map QN),.any,.any,.any,.any,.any,.any,.any,.any,.any,.any,.any,.any,.any,.any,.any,.any,.any,.any,.any,.any,.any,.any,.any,.any,.any,.any],[],[],none⟩)) h (fun _=>rfl) (fun _=>rfl) ?_ ?_
 ·intro i rb hi ih
  have hi1:=cZ hi hl
  have hj:i<b.length:=by omega
  have hiz:i<(a.zip b).length:=by omega
  have F1:((i:Int)<(a.length:Int))=True:=eq_true (by omega)
  have F2:(((a.zip b).take i).length+1≤lim)=True:=eq_true (by rw [List.length_take];omega)
  have e1:=ahv (hr _ (List.getElem_mem hi)) (hs i hi hj)
  simp only [I8,F1,F2,e1,bg,ak hi,ak hj,List.getElem?_map,List.getElem?_eq_getElem hi,List.getElem?_eq_getElem hj,bJ,reduceCtorEq,Nat.reduceEqDiff,Nat.reduceAdd,Nat.reduceLT,Nat.reduceLeDiff,Nat.beq]
  rw [ih _ (by simp only [hi1];rw [← wo _ hiz,List.getElem_zip];rfl)]
 ·intro rb
  simp only [I8,Int.lt_irrefl,bJ,reduceCtorEq,Nat.reduceEqDiff,Nat.reduceAdd,Nat.reduceLT,Nat.reduceLeDiff,Nat.beq]
  rw [← hz,List.take_length]
  simp only [differ,List.map_map]
  rfl
theorem ahR {a b:jk} (ha:a.length≤lim) (hb':b.length≤lim) (hr:∀ v∈a,v.length≤lim):cal env 36 [.list 1 (a.map bg),.list 1 (b.map bg)]=some [(.list 1 ((zy a b).map QN),true),(.int .i64 (mY a b),false)]:=by
 have e1:=ahQ ha hb'
 unfold zy
 by_cases c:mY a b=0
 ·have hs:aS a=aS b:=by
   unfold mY at c
   split at c
   ·omega
   ·split at c
    ·omega
    ·split at c
     ·assumption
     ·omega
  have G1:(mY a b != 0)=false:=by simp [c]
  rw [au adC rfl];simp only [UZ];simp only [start,aH,aQ,aF,aO,aA,aB,aG,aP,Nat.reduceAdd,Nat.reduceSub]
  simp only [G1,e1,bJ,reduceCtorEq,Nat.reduceEqDiff,Nat.reduceAdd,Nat.reduceLT,Nat.reduceLeDiff,Nat.beq]
  rw [afF ha hr (kU hs).1 (kU hs).2]
  rotate_left
  ·rfl
  ·simp only [c,bJ,reduceCtorEq,Nat.reduceEqDiff,Nat.reduceAdd,Nat.reduceLT,Nat.reduceLeDiff,Nat.beq]
 ·have G1:(mY a b != 0)=true:=by simp [c]
  rw [au adC rfl];simp only [UZ];simp only [start,aH,aQ,aF,aO,aA,aB,aG,aP,Nat.reduceAdd,Nat.reduceSub]
  simp only [G1,e1,bJ,reduceCtorEq,Nat.reduceEqDiff,Nat.reduceAdd,Nat.reduceLT,Nat.reduceLeDiff,Nat.beq]
  simp only [c,if_false]
  rfl
end Go.Proofs.YtaaokejjmdbfaaaDoor.V

namespace Go.Proofs.YtaaokejjmdbfaaaDoor.V
end Go.Proofs.YtaaokejjmdbfaaaDoor.V

namespace Go.Proofs.YtaaokejjmdbfaaaDoor.V
def okW (l:List iy):Prop:=∀ w∈l,kW w.volume=true∧kW w.start=true
theorem adM {im:jk} {l:List iy} (hw:okW l) (hl:im.length≤1000000) (hr:∀ v∈im,v.length≤1000000):cal env 39 [.list 1 (im.map bg),.list 3 (l.map oz)]=some [(.list 1 ((lS im l).map bg),false),(.int .i64 (apI im l),false),(.int .i64 (uG im l),false)] :=
 (Ip agY).trans (Qc hw hl hr)
theorem VH {a b:jk} (h:bP a=bP b) (hl:b.length≤9) (hr:∀ v∈b,v.length≤24):a.length≤9∧∀ v∈a,v.length≤24:=by
 obtain ⟨h1,h2⟩:=kU (a:=a) (b:=b) h
 refine ⟨by omega,fun v hv=>?_⟩
 obtain ⟨i,hi,rfl⟩:=List.mem_iff_getElem.1 hv
 rw [h2 i hi (by omega)]
 exact hr _ (List.getElem_mem _)
theorem VI {im:jk} {l:List iy} (hl:im.length≤9) (hr:∀ v∈im,v.length≤24):(lS im l).length≤9∧∀ v∈lS im l,v.length≤24:=by
 by_cases h:uG im l=0
 ·exact VH (jo h) hl hr
 ·unfold lS;rw [if_neg h];simp
theorem sU {im:jk} {l:List iy} (h:uG im l=0):qh (bP im)=0:=by
 unfold uG at h
 split at h
 ·rename_i h2;exact absurd h h2
 ·omega
end Go.Proofs.YtaaokejjmdbfaaaDoor.V

namespace Go.Proofs.YtaaokejjmdbfaaaDoor.V
def inW (w:iy) (v j:Nat):Prop:=w.volume=(v:Int)∧w.start≤(j:Int)∧(j:Int)<w.start+(w.data.length:Int)
def ofI (A:jk) (w:iy):Prop:=∃ v:Nat,w.volume=(v:Int)∧v<A.length∧0≤w.start∧w.start.toNat+w.data.length≤(A.getD v []).length∧w.data≠[]∧∀ j,j<w.data.length→w.data[j]?=(A.getD v [])[w.start.toNat+j]?
theorem Nv {l d:List dD} {s:Nat} (h:s+d.length≤l.length) (j:Nat):(putAt l s d)[j]?=if s≤j∧j<s+d.length then d[j - s]? else l[j]?:=by
 unfold putAt
 have e1:(l.take s).length=s:=by rw [List.length_take];omega
 by_cases c1:j<s
 ·rw [if_neg (by omega),List.append_assoc,List.getElem?_append_left (by omega),List.getElem?_take,if_pos c1]
 ·by_cases c2:j<s+d.length
  ·rw [if_pos ⟨by omega,c2⟩,List.getElem?_append_left (by rw [List.length_append,e1];omega),List.getElem?_append_right (by omega),e1]
  ·rw [if_neg (by omega),List.getElem?_append_right (by rw [List.length_append,e1];omega),List.length_append,e1,List.getElem?_drop]
   congr 1;omega
theorem uO {a b:jk} (h:bP a=bP b) (v:Nat):(a.getD v []).length=(b.getD v []).length:=by
 obtain ⟨h1,h2⟩:=kU (a:=a) (b:=b) h
 rw [List.getD_eq_getElem?_getD,List.getD_eq_getElem?_getD]
 by_cases hv:v<a.length
 ·rw [List.getElem?_eq_getElem hv,List.getElem?_eq_getElem (by omega:v<b.length)]
  exact h2 v hv (by omega)
 ·rw [List.getElem?_eq_none (by omega),List.getElem?_eq_none (by omega)]
theorem ac1 {A im:jk} {w:iy} (hs:bP im=bP A) (h:ofI A w):bP (sH im w)=bP im∧qj (bP im) w=0∧∀ v j,(inW w v j→((sH im w).getD v [])[j]?=(A.getD v [])[j]?)∧(¬ inW w v j→((sH im w).getD v [])[j]?=(im.getD v [])[j]?):=by
 obtain ⟨u,h1,h2,h3,h4,h5,h6⟩:=h
 have hl:=(kU (a:=im) (b:=A) hs).1
 have hu:=uO hs u
 have hd:0<w.data.length:=List.length_pos_iff.2 h5
 have hw:qj (bP im) w=0:=by
  have e:(bP im).getD u 0=((im.getD u []).length:Int):=by
   unfold bP
   rw [List.getD_eq_getElem?_getD,List.getD_eq_getElem?_getD,List.getElem?_map,List.getElem?_eq_getElem (by omega:u<im.length)];rfl
  unfold qj
  rw [h1,Int.toNat_natCast,e,if_neg (by unfold bP;rw [List.length_map];omega),if_neg (by omega),if_neg (by omega)]
 refine ⟨DX hw,hw,fun v j=>?_⟩
 unfold sH
 rw [h1,Int.toNat_natCast]
 have hfit:w.start.toNat+w.data.length≤(im.getD u []).length:=by omega
 by_cases c:v=u
 ·subst c
  have e:(im.set v (putAt (im.getD v []) w.start.toNat w.data)).getD v []=putAt (im.getD v []) w.start.toNat w.data:=by
   rw [List.getD_eq_getElem?_getD,List.getElem?_set,if_pos rfl,if_pos (by omega)];rfl
  rw [e,Nv hfit]
  refine ⟨fun g=>?_,fun g=>?_⟩
  ·obtain ⟨_,g2,g3⟩:=g
   rw [if_pos ⟨by omega,by omega⟩,h6 _ (by omega)]
   congr 1;omega
  ·rw [if_neg (fun q=>g ⟨h1,by omega,by omega⟩)]
 ·have e:(im.set u (putAt (im.getD u []) w.start.toNat w.data)).getD v []=im.getD v []:=by
   rw [List.getD_eq_getElem?_getD,List.getElem?_set,if_neg (fun e=>c e.symm),List.getD_eq_getElem?_getD]
  rw [e]
  exact ⟨fun g=>absurd (by have:=g.1;omega) c,fun _=>rfl⟩
theorem RJ {A:jk}:∀ {W:List iy} {im:jk},bP im=bP A→(∀ w∈W,ofI A w)→bP (W.foldl sH im)=bP A∧(∀ i,(jU (bP im) W i).2=0)∧∀ v j,((∃ w∈W,inW w v j)→((W.foldl sH im).getD v [])[j]?=(A.getD v [])[j]?)∧((im.getD v [])[j]?=(A.getD v [])[j]?→((W.foldl sH im).getD v [])[j]?=(A.getD v [])[j]?)
 |[],im,hs,_=>⟨hs,fun _=>rfl,fun v j=>⟨fun ⟨w,hw,_⟩=>(by cases hw),fun h=>h⟩⟩
 |w :: W,im,hs,h=>by
  obtain ⟨p1,p2,p3⟩:=ac1 hs (h w List.mem_cons_self)
  obtain ⟨q1,q2,q3⟩:=RJ (A:=A) (W:=W) (im:=sH im w) (p1.trans hs) (fun x hx=>h x (List.mem_cons_of_mem _ hx))
  refine ⟨q1,fun i=>?_,fun v j=>⟨?_,fun e=>?_⟩⟩
  ·unfold jU
   rw [if_neg (by omega),← p1]
   exact q2 _
  ·rintro ⟨x,hx,hj⟩
   rcases List.mem_cons.1 hx with rfl|hx
   ·exact (q3 v j).2 ((p3 v j).1 hj)
   ·exact (q3 v j).1 ⟨x,hx,hj⟩
  ·by_cases c:inW w v j
   ·exact (q3 v j).2 ((p3 v j).1 c)
   ·exact (q3 v j).2 (((p3 v j).2 c).trans e)
theorem VJ {A im:jk} {W:List iy} (hs:bP im=bP A) (hI:qh (bP im)=0) (hW:∀ w∈W,ofI A w) (hc:∀ v j,(A.getD v [])[j]?≠(im.getD v [])[j]?→∃ w∈W,inW w v j):uG im W=0∧lS im W=A:=by
 obtain ⟨p1,p2,p3⟩:=RJ hs hW
 have hE:uG im W=0:=by unfold uG;rw [if_neg (by omega)];exact p2 0
 refine ⟨hE,?_⟩
 unfold lS
 rw [if_pos hE]
 obtain ⟨g1,g2⟩:=kU (a:=W.foldl sH im) (b:=A) p1
 apply List.ext_getElem g1
 intro v h1 h2
 have key:∀ j:Nat,((W.foldl sH im).getD v [])[j]?=(A.getD v [])[j]?:=fun j=>by
  by_cases c:(im.getD v [])[j]?=(A.getD v [])[j]?
  ·exact (p3 v j).2 c
  ·exact (p3 v j).1 (hc v j (fun e=>c e.symm))
 rw [List.getD_eq_getElem?_getD,List.getElem?_eq_getElem h1,List.getD_eq_getElem?_getD,List.getElem?_eq_getElem h2] at key
 exact List.ext_getElem? key
end Go.Proofs.YtaaokejjmdbfaaaDoor.V

namespace Go.Proofs.YtaaokejjmdbfaaaDoor.V
theorem RN {a b:Pt} {n:Nat} {x:Run}:x∈yO a b n ↔ ∃ v,v<n∧x∈Gy v (dL a v) (dL b v) (ext (mk2 a b v) (ig a v)):=by
 unfold yO
 rw [List.mem_flatMap]
 exact ⟨fun ⟨v,h1,h2⟩=>⟨v,List.mem_range.1 h1,h2⟩,fun ⟨v,h1,h2⟩=>⟨v,List.mem_range.2 h1,h2⟩⟩
theorem ZQ {a b:Pt} {x:Run} (h:x∈yO a b a.img.length):ofI a.img (toW x):=by
 obtain ⟨v,h1,h2⟩:=RN.1 h
 obtain ⟨⟨g1,g2,g3⟩,g4,g5⟩:=(DL (v:=(v:Int)) (A:=dL a v) (B:=dL b v) (p:=mk2 a b v) (n:=ig a v) (Nat.le_refl _)).1 x h2
 exact ⟨v,g4,h1,g1,g2,g5,g3⟩
theorem ac2 {a b:Pt} (hs:bP b.img=bP a.img) {v j:Nat} (hd:(a.img.getD v [])[j]?≠(b.img.getD v [])[j]?) (hm:mk2 a b v j=true):∃ x∈yO a b a.img.length,inW (toW x) v j:=by
 have hl:=uO hs v
 have hj:j<ig a v:=by
  apply Classical.byContradiction
  intro c
  apply hd
  have c:¬ j<(a.img.getD v []).length:=c
  rw [List.getElem?_eq_none (by omega),List.getElem?_eq_none (by omega)]
 have hv:v<a.img.length:=by
  apply Classical.byContradiction
  intro c
  have:a.img.getD v []=[]:=by rw [List.getD_eq_getElem?_getD,List.getElem?_eq_none (by omega)];rfl
  have hj:j<(a.img.getD v []).length:=hj
  rw [this] at hj
  exact absurd hj (Nat.not_lt_zero _)
 obtain ⟨x,hx,h2⟩:=((DL (v:=(v:Int)) (A:=dL a v) (B:=dL b v) (p:=mk2 a b v) (n:=ig a v) (Nat.le_refl _)).2 j).2 ⟨hj,hm,hd⟩
 have h3:=((DL (v:=(v:Int)) (A:=dL a v) (B:=dL b v) (p:=mk2 a b v) (n:=ig a v) (Nat.le_refl _)).1 x hx).2.1
 exact ⟨x,RN.2 ⟨v,hv,hx⟩,h3,h2.1,h2.2⟩
theorem VK {a b:Pt} (hs:bP b.img=bP a.img) (hI:qh (bP b.img)=0) (hm:∀ v j,(a.img.getD v [])[j]?≠(b.img.getD v [])[j]?→mk2 a b v j=true):uG b.img ((yO a b a.img.length).map toW)=0∧lS b.img ((yO a b a.img.length).map toW)=a.img:=by
 refine VJ hs hI (fun w hw=>?_) (fun v j hd=>?_)
 ·obtain ⟨x,hx,rfl⟩:=List.mem_map.1 hw
  exact ZQ hx
 ·obtain ⟨x,hx,h⟩:=ac2 hs hd (hm v j hd)
  exact ⟨_,List.mem_map.2 ⟨x,hx,rfl⟩,h⟩
def mdA (a b:Pt):Nat→Nat
 |0=>0
 |n+1=>mdA a b n+mdC (mk2 a b n) (dL a n) (dL b n) (ig a n)
theorem RP {a b:Pt}:∀ n,jY (yO a b n)=mdA a b n
 |0=>rfl
 |n+1=>by rw [DK,jZ,RP n,Ry (v:=(n:Int)) (A:=dL a n) (B:=dL b n) (p:=mk2 a b n) (ig a n) (Nat.le_refl (dL a n).length)];rfl
end Go.Proofs.YtaaokejjmdbfaaaDoor.V

namespace Go.Proofs.YtaaokejjmdbfaaaDoor.V
theorem ac3 {n:Int} (h:0≤n):((iM n).toNat:Int)=iM n:=by unfold iM;omega
def newE (n:Int):Int:=if n<0∨n > 4096 then 2 else 0
def tu (n:Int):Bm:=if n<0∨n > 4096 then ⟨0,[]⟩ else ⟨n,List.replicate (iM n).toNat 0⟩
def yJ (size:Int) (e:ji):Bool:=decide (0≤e.start)&&decide (0≤e.count)&&decide (e.start≤size)&&decide (e.count≤size - e.start)
theorem vO {size:Int} {e:ji}:yJ size e=true ↔ 0≤e.start∧0≤e.count∧e.start≤size∧e.count≤size - e.start:=by
 unfold yJ;simp [and_assoc]
def yK (f:Wd→Wd→Wd) (ws:List Wd) (e:ji):List Wd:=ws.mapIdx fun k w=>f w (wz k e.start (e.start+e.count))
theorem qx (f:Wd→Wd→Wd) (ws:List Wd) (e:ji):(yK f ws e).length=ws.length:=by simp [yK]
def JO (b:Bm) (e:ji):Int:=if okB b=false then 3 else if yJ b.size e=false then 2 else 0
def NT (f:Wd→Wd→Wd) (b:Bm) (e:ji):Bm:=if JO b e=0 then ⟨b.size,yK f b.ws e⟩ else ⟨0,[]⟩
def QD (x y:Wd):Wd:=x &&& ~~~y
end Go.Proofs.YtaaokejjmdbfaaaDoor.V

namespace Go.Proofs.YtaaokejjmdbfaaaDoor.V
def frB (b:Bm) (l:List ji):Bm:=l.foldl (fun b e=>NT qo b e) b
def frE:Bm→List ji→Int
 |_,[]=>0
 |b,e :: l=>if JO b e=0 then frE (NT qo b e) l else JO b e
def ZR (n:Int) (l:List ji):Int:=if newE n=0 then frE (tu n) l else newE n
def RQ (n:Int) (l:List ji):Bm:=if ZR n l=0 then frB (tu n) l else ⟨0,[]⟩
end Go.Proofs.YtaaokejjmdbfaaaDoor.V

namespace Go.Proofs.YtaaokejjmdbfaaaDoor.V
theorem ahS {n:Int}:cal env 94 [.int .i64 n]=some [(kK (tu n),false),(.int .i64 (newE n),false)]:=by
 have hz:=DC
 unfold newE tu
 by_cases c0:n<0
 ·rw [if_pos (.inl c0),if_pos (.inl c0),hz]
  have F0:(n<0)=True:=eq_true c0
  rw [au YR rfl];simp only [Qe,bC,Nat.reduceBEq,Nat.reduceLeDiff,Nat.reduceAdd,List.length_cons,List.length_nil]
  simp only [F0,aX,Nat.reduceMul,Nat.reduceBEq,Nat.reduceLT,Nat.reduceLeDiff,reduceCtorEq,Nat.reduceEqDiff,Nat.reduceAdd,Nat.beq]
 ·have F0:(n<0)=False:=eq_false c0
  by_cases c1:n > 4096
  ·rw [if_pos (.inr c1),if_pos (.inr c1),hz]
   have F1:(n > 4096)=True:=eq_true c1
   rw [au YR rfl];simp only [Qe,bC,Nat.reduceBEq,Nat.reduceLeDiff,Nat.reduceAdd,List.length_cons,List.length_nil]
   simp only [F0,F1,aX,Nat.reduceMul,Nat.reduceBEq,Nat.reduceLT,Nat.reduceLeDiff,reduceCtorEq,Nat.reduceEqDiff,Nat.reduceAdd,Nat.beq]
  ·have F1:(n > 4096)=False:=eq_false c1
   rw [if_neg (by omega),if_neg (by omega)]
   have W1:IntKind.i64.wrap (n+63)=n+63:=bn (by omega)
   have Q1:(n+63).tdiv 64=iM n:=by unfold iM;exact Int.tdiv_eq_ediv_of_nonneg (by omega)
   have hw:0≤iM n∧iM n≤64:=by unfold iM;omega
   have W2:IntKind.i64.wrap (iM n)=iM n:=bn (by omega)
   have F3:(0≤iM n)=True:=eq_true hw.1
   have F4:(iM n≤(lim:Int))=True:=eq_true (by unfold lim;omega)
   have F5:(iM n≤iM n)=True:=eq_true (Int.le_refl _)
   have z0:eW 0=.int .u64 0:=rfl
   have z64:((64:Int)=0)=False:=eq_false (by omega)
   unfold kK
   rw [List.map_replicate,z0]
   rw [au YR rfl];simp only [Qe,bC,Nat.reduceBEq,Nat.reduceLeDiff,Nat.reduceAdd,List.length_cons,List.length_nil]
   simp only [F0,F1,W1,W2,Q1,F3,F4,F5,z64,aX,Nat.reduceMul,Nat.reduceBEq,Nat.reduceLT,Nat.reduceLeDiff,reduceCtorEq,Nat.reduceEqDiff,Nat.reduceAdd,Nat.beq]
end Go.Proofs.YtaaokejjmdbfaaaDoor.V

namespace Go.Proofs.YtaaokejjmdbfaaaDoor.V
theorem afG {n:Nat} (h:n≤4096):newE (n:Int)=0∧okB (tu (n:Int))=true∧(tu (n:Int)).size=(n:Int)∧∀ s,bit (tu (n:Int)).ws s=false:=by
 have e1:newE (n:Int)=0:=by unfold newE;rw [if_neg (by omega)]
 have e2:tu (n:Int)=⟨n,List.replicate (iM n).toNat 0⟩:=by unfold tu;rw [if_neg (by omega)]
 have hb:∀ s,bit (List.replicate (iM n).toNat (0:Wd)) s=false:=fun s=>by
  unfold bit
  rw [List.getD_eq_getElem?_getD,List.getElem?_replicate]
  split<;>simp
 rw [e2]
 refine ⟨e1,iR.2 ⟨⟨by show (0:Int)≤(n:Int);omega,by show (n:Int)≤4096;omega,?_⟩,fun i _=>hb i⟩,rfl,hb⟩
 show ((List.replicate (iM n).toNat (0:Wd)).length:Int)=iM n
 rw [List.length_replicate]
 exact ac3 (by omega)
theorem ac5 (ws:List Wd) (e:ji):yK qo ws e=setW ws e.start (e.start+e.count):=rfl
theorem afH {b:Bm} {e:ji} (h:okB b=true) (hf:yJ b.size e=true):JO b e=0∧okB (NT qo b e)=true∧(NT qo b e).size=b.size∧∀ s:Nat,(s:Int)<b.size→bit (NT qo b e).ws s=(bit b.ws s || decide (e.start≤(s:Int)∧(s:Int)<e.start+e.count)):=by
 have hE:JO b e=0:=by unfold JO;rw [if_neg (by rw [h];decide),if_neg (by rw [hf];decide)]
 have hO:NT qo b e=⟨b.size,setW b.ws e.start (e.start+e.count)⟩:=by unfold NT;rw [if_pos hE,ac5]
 have hs:=jK h
 have hf:=vO.1 hf
 rw [hO]
 have hl:(setW b.ws e.start (e.start+e.count)).length=b.ws.length:=by simp [setW]
 refine ⟨hE,iR.2 ⟨⟨hs.1,hs.2.1,?_⟩,fun i hi=>?_⟩,rfl,fun s hlt=>yx (by omega)⟩
 ·show ((setW b.ws e.start (e.start+e.count)).length:Int)=_
  rw [hl];exact (iR.1 h).1.2.2
 ·have hi:b.size≤(i:Int):=hi
  by_cases c:i<64 * b.ws.length
  ·show bit (setW b.ws e.start (e.start+e.count)) i=false
   rw [yx c,(iR.1 h).2 i hi,decide_eq_false (by omega)]
   rfl
  ·exact yw (by show 64 * (setW b.ws e.start (e.start+e.count)).length≤i;rw [hl];omega)
end Go.Proofs.YtaaokejjmdbfaaaDoor.V

namespace Go.Proofs.YtaaokejjmdbfaaaDoor.V
theorem afI {size:Int} {e:ji} (hs:0≤size∧size≤4096):cal env 113 [fH e,.int .i64 size]=some [(.bool (yJ size e),false)]:=by
 unfold yJ fH
 by_cases c0:0≤e.start
 ·have F0:(e.start ≥ 0)=True:=eq_true c0
  rw [decide_eq_true c0]
  by_cases c1:0≤e.count
  ·have F1:(e.count ≥ 0)=True:=eq_true c1
   rw [decide_eq_true c1]
   by_cases c2:e.start≤size
   ·have F2:(e.start≤size)=True:=eq_true c2
    have W:IntKind.i64.wrap (size - e.start)=size - e.start:=bn (by omega)
    rw [decide_eq_true c2]
    rw [au Jt rfl];simp only [zW,bC,Nat.reduceBEq,Nat.reduceLeDiff,Nat.reduceAdd,List.length_cons,List.length_nil]
    simp only [F0,F1,F2,W,aX,Nat.reduceMul,Nat.reduceBEq,Nat.reduceLT,Nat.reduceLeDiff,reduceCtorEq,Nat.reduceEqDiff,Nat.reduceAdd,Nat.beq]
   ·have F2:(e.start≤size)=False:=eq_false c2
    rw [decide_eq_false c2]
    rw [au Jt rfl];simp only [zW,bC,Nat.reduceBEq,Nat.reduceLeDiff,Nat.reduceAdd,List.length_cons,List.length_nil]
    simp only [F0,F1,F2,aX,Nat.reduceMul,Nat.reduceBEq,Nat.reduceLT,Nat.reduceLeDiff,reduceCtorEq,Nat.reduceEqDiff,Nat.reduceAdd,Nat.beq]
  ·have F1:(e.count ≥ 0)=False:=eq_false c1
   rw [decide_eq_false c1]
   rw [au Jt rfl];simp only [zW,bC,Nat.reduceBEq,Nat.reduceLeDiff,Nat.reduceAdd,List.length_cons,List.length_nil]
   simp only [F0,F1,aX,Nat.reduceMul,Nat.reduceBEq,Nat.reduceLT,Nat.reduceLeDiff,reduceCtorEq,Nat.reduceEqDiff,Nat.reduceAdd,Nat.beq]
 ·have F0:(e.start ≥ 0)=False:=eq_false c0
  rw [decide_eq_false c0]
  rw [au Jt rfl];simp only [zW,bC,Nat.reduceBEq,Nat.reduceLeDiff,Nat.reduceAdd,List.length_cons,List.length_nil]
  simp only [F0,aX,Nat.reduceMul,Nat.reduceBEq,Nat.reduceLT,Nat.reduceLeDiff,reduceCtorEq,Nat.reduceEqDiff,Nat.reduceAdd,Nat.beq]
theorem ac6 {ws:List Wd} {q:Nat} {x:Wd} (i:Nat) (hq:q<ws.length):bit (ws.set q x) i=if i / 64=q then x.getLsbD (i % 64) else bit ws i:=by
 unfold bit
 rw [List.getD_eq_getElem?_getD,List.getD_eq_getElem?_getD,List.getElem?_set]
 by_cases c:q=i / 64
 ·rw [if_pos c,if_pos c.symm,if_pos hq]
  rfl
 ·rw [if_neg c,if_neg (fun h=>c h.symm)]
theorem RS {r k:Nat} (hk:k<64):((1:Wd) <<< r).getLsbD k=decide (k=r):=by
 rw [BitVec.getLsbD_shiftLeft,show (1:Wd)=1#64 from rfl,BitVec.getLsbD_one]
 by_cases c:k=r
 ·subst c;simp [hk]
 ·rw [decide_eq_false c]
  by_cases c2:k<r
  ·simp [c2]
  ·have:¬ (k - r=0):=by omega
   simp [c2,this]
theorem ac7 (x y:Wd) (k:Nat):(qo x y).getLsbD k=(x.getLsbD k || y.getLsbD k):=BitVec.getLsbD_or
theorem ac8 (x y:Wd) {k:Nat} (h:k<64):(QD x y).getLsbD k=(x.getLsbD k&&!y.getLsbD k):=by
 unfold QD
 rw [BitVec.getLsbD_and,BitVec.getLsbD_not,decide_eq_true h,Bool.true_and]
theorem ac9 {F:Wd→Wd→Wd} (hF:F=qo∨F=QD) {ws:List Wd} {s j:Nat} (hq:(s+j) / 64<ws.length) :
  (yK F ws ⟨(s:Int),(j:Int)⟩).set ((s+j) / 64) (F ((yK F ws ⟨(s:Int),(j:Int)⟩)[(s+j) / 64]'(by rw [qx];exact hq)) ((1:Wd) <<< ((s+j) % 64)))=yK F ws ⟨(s:Int),((j+1:Nat):Int)⟩:=by
 have hq2:(s+j) / 64<(yK F ws ⟨(s:Int),(j:Int)⟩).length:=by rw [qx];exact hq
 apply Zk
 ·rw [List.length_set,qx,qx]
 intro i hi
 rw [List.length_set,qx] at hi
 rw [ac6 i hq2]
 rcases hF with rfl|rfl
 ·have e1:∀ j:Nat,yK qo ws ⟨(s:Int),(j:Int)⟩=setW ws s (s+j):=fun _=>rfl
  have e2:bit (yK qo ws ⟨(s:Int),((j+1:Nat):Int)⟩) i=(bit ws i || decide ((s:Int)≤(i:Int)∧(i:Int)<(s:Int)+((j+1:Nat):Int))):=yx hi
  have e3:bit (yK qo ws ⟨(s:Int),(j:Int)⟩) i=(bit ws i || decide ((s:Int)≤(i:Int)∧(i:Int)<(s:Int)+(j:Int))):=yx hi
  rw [e2]
  by_cases c:i / 64=(s+j) / 64
  ·rw [if_pos c]
   rw [ac7,RS (Nat.mod_lt _ (by decide))]
   have e4:=qK (ws:=yK qo ws ⟨(s:Int),(j:Int)⟩) (i:=i) (by rw [c];exact hq2)
   rw [e3] at e4
   have e5:(yK qo ws ⟨(s:Int),(j:Int)⟩)[i / 64]'(by rw [c];exact hq2)=(yK qo ws ⟨(s:Int),(j:Int)⟩)[(s+j) / 64]:=by simp only [c]
   rw [e5] at e4
   rw [← e4,Bool.or_assoc]
   congr 1
   rw [Bool.eq_iff_iff,Bool.or_eq_true,decide_eq_true_eq,decide_eq_true_eq,decide_eq_true_eq]
   omega
  ·rw [if_neg c,e3]
   congr 1
   rw [Bool.eq_iff_iff,decide_eq_true_eq,decide_eq_true_eq]
   have:i≠s+j:=fun h=>c (by rw [h])
   omega
 ·have e2:bit (yK QD ws ⟨(s:Int),((j+1:Nat):Int)⟩) i=(bit ws i&&!decide ((s:Int)≤(i:Int)∧(i:Int)<(s:Int)+((j+1:Nat):Int))):=Jy hi
  have e3:bit (yK QD ws ⟨(s:Int),(j:Int)⟩) i=(bit ws i&&!decide ((s:Int)≤(i:Int)∧(i:Int)<(s:Int)+(j:Int))):=Jy hi
  rw [e2]
  by_cases c:i / 64=(s+j) / 64
  ·rw [if_pos c]
   rw [ac8 _ _ (Nat.mod_lt _ (by decide)),RS (Nat.mod_lt _ (by decide))]
   have e4:=qK (ws:=yK QD ws ⟨(s:Int),(j:Int)⟩) (i:=i) (by rw [c];exact hq2)
   rw [e3] at e4
   have e5:(yK QD ws ⟨(s:Int),(j:Int)⟩)[i / 64]'(by rw [c];exact hq2)=(yK QD ws ⟨(s:Int),(j:Int)⟩)[(s+j) / 64]:=by simp only [c]
   rw [e5] at e4
   rw [← e4,Bool.and_assoc]
   congr 1
   rw [Bool.eq_iff_iff,Bool.and_eq_true,Bool.not_eq_true',Bool.not_eq_true',Bool.not_eq_true',decide_eq_false_iff_not,decide_eq_false_iff_not,decide_eq_false_iff_not]
   omega
  ·rw [if_neg c,e3]
   congr 2
   rw [Bool.eq_iff_iff,decide_eq_true_eq,decide_eq_true_eq]
   have:i≠s+j:=fun h=>c (by rw [h])
   omega
theorem ada {F:Wd→Wd→Wd} (hF:F=qo∨F=QD) (ws:List Wd) (s:Nat):yK F ws ⟨(s:Int),((0:Nat):Int)⟩=ws:=by
 apply Zk
 ·rw [qx]
 intro i hi
 rw [qx] at hi
 rcases hF with rfl|rfl
 ·have e:bit (yK qo ws ⟨(s:Int),((0:Nat):Int)⟩) i=(bit ws i || decide ((s:Int)≤(i:Int)∧(i:Int)<(s:Int)+((0:Nat):Int))):=yx hi
  rw [e,decide_eq_false (by omega),Bool.or_false]
 ·have e:bit (yK QD ws ⟨(s:Int),((0:Nat):Int)⟩) i=(bit ws i&&!decide ((s:Int)≤(i:Int)∧(i:Int)<(s:Int)+((0:Nat):Int))):=Jy hi
  rw [e,decide_eq_false (by omega)]
  simp
set_option maxRecDepth 20000 in
theorem adb {b:Bm} {s c:Nat} {t:Bool} {F:Wd→Wd→Wd} (hF:(t=true∧F=qo)∨(t=false∧F=QD)) (hw:b.ws.length≤64) (hsc:s+c≤64 * b.ws.length) {st:St} (h:st.head [2,4,6,8,9] st.boxes.length=some ⟨sl 67 [(2,.pv (.bool t)),(4,.aK 1 0),(6,.aK 2 0),(8,.aK 3 0),(9,.pv (.int .i64 ((s+(0:Nat):Nat):Int)))],[⟨false,[.pv (.int .i64 b.size),.pv (.list 1 (b.ws.map eW))]⟩,⟨false,[.pv (.int .i64 (s:Int)),.pv (.int .i64 (c:Int))]⟩,⟨false,[.pv (.int .i64 0),.row 1 []]⟩,⟨false,[.pv (.int .i64 b.size),.row 1 ((yK F b.ws ⟨(s:Int),(((0:Nat):Nat):Int)⟩).map eW)]⟩],[],none⟩) :
  den env CY st=some (.normal,⟨sl 67 [(6,.aK 2 0),(7,.any),(8,.aK 3 0)],[⟨false,[.pv (.int .i64 b.size),.pv (.list 1 (b.ws.map eW))]⟩,⟨false,[.pv (.int .i64 (s:Int)),.pv (.int .i64 (c:Int))]⟩,⟨false,[.pv (.int .i64 0),.row 1 []]⟩,⟨false,[.pv (.int .i64 b.size),.row 1 ((yK F b.ws ⟨(s:Int),(c:Int)⟩).map eW)]⟩],[],none⟩):=by
 unfold CY
 refine cO (env:=env) (nb:=4) (c) (fun i=>⟨sl 67 [(2,.pv (.bool t)),(4,.aK 1 0),(6,.aK 2 0),(8,.aK 3 0),(9,.pv (.int .i64 ((s+i:Nat):Int)))],[⟨false,[.pv (.int .i64 b.size),.pv (.list 1 (b.ws.map eW))]⟩,⟨false,[.pv (.int .i64 (s:Int)),.pv (.int .i64 (c:Int))]⟩,⟨false,[.pv (.int .i64 0),.row 1 []]⟩,⟨false,[.pv (.int .i64 b.size),.row 1 ((yK F b.ws ⟨(s:Int),((i:Nat):Int)⟩).map eW)]⟩],[],none⟩) (fun i=>some (.normal,⟨sl 67 [(6,.aK 2 0),(7,.any),(8,.aK 3 0)],[⟨false,[.pv (.int .i64 b.size),.pv (.list 1 (b.ws.map eW))]⟩,⟨false,[.pv (.int .i64 (s:Int)),.pv (.int .i64 (c:Int))]⟩,⟨false,[.pv (.int .i64 0),.row 1 []]⟩,⟨false,[.pv (.int .i64 b.size),.row 1 ((yK F b.ws ⟨(s:Int),(c:Int)⟩).map eW)]⟩],[],none⟩)) h (fun _=>rfl) (fun _=>by simp only [bC,dK,Nat.reduceMul,Nat.reduceBEq,Nat.reduceLT,Nat.reduceLeDiff,Nat.reduceAdd,decide_true,Bool.and_self,Bool.true_and]) ?_ ?_
 ·intro i rb hi ih
  have hi1:IntKind.i64.wrap (((s+i:Nat):Int)+1)=((s+(i+1):Nat):Int):=by rw [bn (by omega)];omega
  have W0:IntKind.i64.wrap ((s:Int)+(c:Int))=(s:Int)+(c:Int):=bn (by omega)
  have F1:(((s+i:Nat):Int)<(s:Int)+(c:Int))=True:=eq_true (by omega)
  have hq:(s+i) / 64<b.ws.length:=by omega
  have hF':F=qo∨F=QD:=hF.elim (fun h=>.inl h.2) (fun h=>.inr h.2)
  have T1:((s+i:Nat):Int).tdiv 64=(((s+i) / 64:Nat):Int):=by rw [Int.tdiv_eq_ediv_of_nonneg (by omega)];omega
  have T2:((s+i:Nat):Int).tmod 64=(((s+i) % 64:Nat):Int):=by rw [Int.tmod_eq_emod_of_nonneg (by omega)];omega
  have W1:IntKind.i64.wrap (((s+i) / 64:Nat):Int)=(((s+i) / 64:Nat):Int):=bn (by omega)
  have W3:IntKind.i64.wrap (((s+i) % 64:Nat):Int)=(((s+i) % 64:Nat):Int):=bn (by omega)
  have W2:IntKind.u64.wrap (((s+i) % 64:Nat):Int)=(((s+i) % 64:Nat):Int):=by rw [Dx];omega
  have S0:((((s+i) % 64:Nat):Int)<0)=False:=eq_false (by omega)
  have S1:=adF 1 (s:=(((s+i) % 64:Nat):Int)) (n:=(s+i) % 64) rfl
  have B1:((1:Wd).toNat:Int)=1:=rfl
  rw [B1] at S1
  have hI:index (.int .i64 (((s+i) / 64:Nat):Int)) b.ws.length=some ((s+i) / 64):=ak hq
  obtain ⟨cw,hcw⟩:∃ cw,cw=yK F b.ws ⟨(s:Int),(i:Int)⟩:=⟨_,rfl⟩
  have hlen:cw.length=b.ws.length:=by rw [hcw];exact qx ..
  have hqc:(s+i) / 64<cw.length:=by omega
  have hst:cw.set ((s+i) / 64) (F cw[(s+i) / 64] ((1:Wd) <<< ((s+i) % 64)))=yK F b.ws ⟨(s:Int),((i+1:Nat):Int)⟩:=by
   subst hcw
   exact ac9 hF' hq
  have hg:(cw.map eW)[(s+i) / 64]?=some (.int .u64 (cw[(s+i) / 64].toNat:Int)):=by rw [List.getElem?_map,List.getElem?_eq_getElem hqc];rfl
  have hset:(cw.map eW).set ((s+i) / 64) (.int .u64 ((F cw[(s+i) / 64] ((1:Wd) <<< ((s+i) % 64))).toNat:Int))=(yK F b.ws ⟨(s:Int),((i+1:Nat):Int)⟩).map eW:=by
   rw [← hst,List.map_set];rfl
  rw [← hcw]
  clear hcw hst
  rcases hF with ⟨rfl,rfl⟩|⟨rfl,rfl⟩
  ·have S2:=ahw cw[(s+i) / 64] ((1:Wd) <<< ((s+i) % 64))
   unfold qo at hset
   simp only [yj,F1,W0,W1,W2,W3,T1,T2,S0,S1,S2,z64,hI,hg,hset,hlen,List.length_map,aX,Nat.reduceMul,Nat.reduceBEq,Nat.reduceLT,Nat.reduceLeDiff,reduceCtorEq,Nat.reduceEqDiff,Nat.reduceAdd,Nat.beq]
   rw [ih _ (by simp only [hi1,aX,Nat.reduceMul,Nat.reduceBEq,Nat.reduceLT,Nat.reduceLeDiff,reduceCtorEq,Nat.reduceEqDiff,Nat.reduceAdd,Nat.beq]<;>rfl)]
  ·have S2:=Zm cw[(s+i) / 64] ((1:Wd) <<< ((s+i) % 64))
   unfold QD at hset
   simp only [yj,F1,W0,W1,W2,W3,T1,T2,S0,S1,S2,z64,hI,hg,hset,hlen,List.length_map,aX,Nat.reduceMul,Nat.reduceBEq,Nat.reduceLT,Nat.reduceLeDiff,reduceCtorEq,Nat.reduceEqDiff,Nat.reduceAdd,Nat.beq]
   rw [ih _ (by simp only [hi1,aX,Nat.reduceMul,Nat.reduceBEq,Nat.reduceLT,Nat.reduceLeDiff,reduceCtorEq,Nat.reduceEqDiff,Nat.reduceAdd,Nat.beq]<;>rfl)]
 ·intro rb
  have W0:IntKind.i64.wrap ((s:Int)+(c:Int))=(s:Int)+(c:Int):=bn (by omega)
  have F1:(((s+c:Nat):Int)<(s:Int)+(c:Int))=False:=eq_false (by omega)
  simp only [yj,F1,W0,aX,Nat.reduceMul,Nat.reduceBEq,Nat.reduceLT,Nat.reduceLeDiff,reduceCtorEq,Nat.reduceEqDiff,Nat.reduceAdd,Nat.beq]
theorem afJ {b:Bm} {e:ji} {t:Bool} {F:Wd→Wd→Wd} (hF:(t=true∧F=qo)∨(t=false∧F=QD)) :
  cal env 107 [kK b,fH e,.bool t]=some [(kK (NT F b e),false),(.int .i64 (JO b e),false)]:=by
 have e1:=ahG (b:=b)
 have Z0:((0:Int) != 0)=false:=rfl
 have Z3:((3:Int) != 0)=true:=rfl
 have hz:=DC
 have eA:∀ b:Bm,kK b=.agg [.int .i64 b.size,.list 1 (b.ws.map eW)]:=fun _=>rfl
 have eX:∀ e:ji,fH e=.agg [.int .i64 e.start,.int .i64 e.count]:=fun _=>rfl
 have P2:∀ a b:PV,part [a,b] 0 (some 2)=some (.agg [a,b]):=fun _ _=>rfl
 unfold NT
 cases c1:okB b with
 |false =>
  have hE:JO b e=3:=by unfold JO;rw [if_pos c1]
  rw [hE,if_neg (by decide),hz]
  rw [nO c1] at e1
  rw [eA] at e1 ⊢;rw [eX]
  rw [au Qg rfl];simp only [CZ,bC,Nat.reduceBEq,Nat.reduceLeDiff,Nat.reduceAdd,List.length_cons,List.length_nil]
  simp only [e1,Z3,P2,aX,Nat.reduceMul,Nat.reduceBEq,Nat.reduceLT,Nat.reduceLeDiff,reduceCtorEq,Nat.reduceEqDiff,Nat.reduceAdd,Nat.beq]
 |true =>
  rw [uI c1] at e1
  have hsz:=jK c1
  have e2:=afI (size:=b.size) (e:=e) ⟨hsz.1,hsz.2.1⟩
  cases c2:yJ b.size e with
  |false =>
   have hE:JO b e=2:=by unfold JO;rw [if_neg (by rw [c1];decide),if_pos c2]
   rw [hE,if_neg (by decide),hz]
   rw [c2] at e2
   rw [eA] at e1 ⊢;rw [eX] at e2 ⊢
   rw [au Qg rfl];simp only [CZ,bC,Nat.reduceBEq,Nat.reduceLeDiff,Nat.reduceAdd,List.length_cons,List.length_nil]
   simp only [e1,e2,Z0,P2,aX,Nat.reduceMul,Nat.reduceBEq,Nat.reduceLT,Nat.reduceLeDiff,reduceCtorEq,Nat.reduceEqDiff,Nat.reduceAdd,Nat.beq]
  |true =>
   have hE:JO b e=0:=by unfold JO;rw [if_neg (by rw [c1];decide),if_neg (by rw [c2];decide)]
   rw [hE,if_pos rfl]
   rw [c2] at e2
   have hfi:=vO.1 c2
   have k1:=afr (b:=b) (by unfold lim;omega)
   obtain ⟨s,c⟩:=e
   simp only at hfi
   obtain ⟨s,rfl⟩:∃ m:Nat,s=(m:Int):=⟨s.toNat,by omega⟩
   obtain ⟨c,rfl⟩:∃ m:Nat,c=(m:Int):=⟨c.toNat,by omega⟩
   have hF':F=qo∨F=QD:=hF.elim (fun h=>.inl h.2) (fun h=>.inr h.2)
   rw [eA] at e1 k1;rw [eX] at e2;rw [eA,eX,eA]
   rw [au Qg rfl];simp only [CZ,bC,Nat.reduceBEq,Nat.reduceLeDiff,Nat.reduceAdd,List.length_cons,List.length_nil]
   simp only [e1,e2,k1,Z0,P2,List.length_map,aX,Nat.reduceMul,Nat.reduceBEq,Nat.reduceLT,Nat.reduceLeDiff,reduceCtorEq,Nat.reduceEqDiff,Nat.reduceAdd,Nat.beq]
   rw [adb (b:=b) (s:=s) (c:=c) (t:=t) (F:=F) hF (by omega) (by omega)]
   rotate_left
   ·rw [ada hF']
    simp only [bC,dK,Nat.reduceMul,Nat.reduceBEq,Nat.reduceLT,Nat.reduceLeDiff,Nat.reduceAdd,decide_true,Bool.and_self,Bool.true_and]<;>rfl
   ·simp only [e1,e2,k1,Z0,P2,List.length_map,aX,Nat.reduceMul,Nat.reduceBEq,Nat.reduceLT,Nat.reduceLeDiff,reduceCtorEq,Nat.reduceEqDiff,Nat.reduceAdd,Nat.beq]
--+
theorem ahT {b:Bm} {e:ji}:cal env 95 [kK b,fH e]=some [(kK (NT qo b e),false),(.int .i64 (JO b e),false)]:=by
 have e1:=afJ (b:=b) (e:=e) (t:=true) (F:=qo) (.inl ⟨rfl,rfl⟩)
 have eA:∀ a:Bm,kK a=.agg [.int .i64 a.size,.list 1 (a.ws.map eW)]:=fun _=>rfl
 have eX:fH e=.agg [.int .i64 e.start,.int .i64 e.count]:=rfl
 have P2:∀ a b:PV,part [a,b] 0 (some 2)=some (.agg [a,b]):=fun _ _=>rfl
 rw [eA,eA,eX] at e1 ⊢
 rw [au ahk rfl];simp only [YN,bC,Nat.reduceBEq,Nat.reduceLeDiff,Nat.reduceAdd,List.length_cons,List.length_nil]
 simp only [e1,P2,aX,Nat.reduceMul,Nat.reduceBEq,Nat.reduceLT,Nat.reduceLeDiff,reduceCtorEq,Nat.reduceEqDiff,Nat.reduceAdd,Nat.beq]
end Go.Proofs.YtaaokejjmdbfaaaDoor.V

namespace Go.Proofs.YtaaokejjmdbfaaaDoor.V
theorem QE {α β:Type} {keep post:List Nat} {id nb:Nat} {b:ah} {l:List α} (i0:Nat) (S:Nat→β→St) (R:Nat→List α→β→Option (Ex × St)) (P:Nat→β→Prop) (b0:β) {st:St} (h:st.head keep st.boxes.length=some (S i0 b0)) (hl:l.length≤lim) (hi0:i0≤l.length) (hP:P i0 b0)
  (hS:∀ i c,(S i c).boxes.length=nb) (hh:∀ i c,(S i c).head keep nb=some (S i c))
  (step:∀ i x r c rb,i<l.length→l[i]?=some x→l.drop (i+1)=r→((i:Int)<(l.length:Int))=True→IntKind.i64.wrap ((i:Int)+1)=((i+1:Nat):Int)→P i c →
   (∀ c' s,P (i+1) c'→s.head keep nb=some (S (i+1) c')→iw env id post nb (den env rb s)=R (i+1) r c')→iw env id post nb ((den env b (S i c)).bind (next env rb))=R i (x :: r) c)
  (last:∀ c rb,P l.length c→iw env id post nb ((den env b (S l.length c)).bind (next env rb))=R l.length [] c) :
  den env (.clean keep post (.block id (.loop keep b))) st=R i0 (l.drop i0) b0:=by
 refine vI (fun p:Nat × β=>S p.1 p.2) (fun p=>R p.1 (l.drop p.1) p.2) (fun p=>p.1≤l.length∧P p.1 p.2) (fun p=>l.length - p.1) (i0,b0) h ⟨hi0,hP⟩ (fun p=>hS p.1 p.2) (fun p=>hh p.1 p.2) ?_
 rintro ⟨i,c⟩ rb ⟨hi,hp⟩ ih
 by_cases hn:i=l.length
 ·subst hn
  simp only [List.drop_length]
  exact last c rb hp
 ·have hlt:i<l.length:=by simp only at hi;omega
  simp only
  rw [List.drop_eq_getElem_cons hlt]
  refine step i _ _ c rb hlt (List.getElem?_eq_getElem hlt) rfl (eq_true (by omega)) (cZ hlt hl) hp fun c' s hp' hs=>?_
  exact ih (i+1,c') (by simp only;omega) ⟨by simp only;omega,hp'⟩ s hs
theorem QF {α β:Type} {keep post:List Nat} {id nb:Nat} {b:ah} {l:List α} (S:Nat→β→St) (R:Nat→List α→β→Option (Ex × St)) (P:Nat→β→Prop) (b0:β) {st:St} (h:st.head keep st.boxes.length=some (S 0 b0)) (hl:l.length≤lim) (hP:P 0 b0)
  (hS:∀ i c,(S i c).boxes.length=nb) (hh:∀ i c,(S i c).head keep nb=some (S i c))
  (step:∀ i x r c rb,i<l.length→l[i]?=some x→l.drop (i+1)=r→((i:Int)<(l.length:Int))=True→IntKind.i64.wrap ((i:Int)+1)=((i+1:Nat):Int)→P i c →
   (∀ c' s,P (i+1) c'→s.head keep nb=some (S (i+1) c')→iw env id post nb (den env rb s)=R (i+1) r c')→iw env id post nb ((den env b (S i c)).bind (next env rb))=R i (x :: r) c)
  (last:∀ c rb,P l.length c→iw env id post nb ((den env b (S l.length c)).bind (next env rb))=R l.length [] c) :
  den env (.clean keep post (.block id (.loop keep b))) st=R 0 l b0:=by
 have:=QE (l:=l) 0 S R P b0 h hl (Nat.zero_le _) hP hS hh step last
 rwa [List.drop_zero] at this
end Go.Proofs.YtaaokejjmdbfaaaDoor.V

namespace Go.Proofs.YtaaokejjmdbfaaaDoor.V
def Nw:Bm × Int→List ji→Bm × Int
 |p,[]=>p
 |p,e :: l=>if p.2=0 then Nw (NT qo p.1 e,JO p.1 e) l else p
theorem JQ {p:Bm × Int} (h:p.2≠0) (l:List ji):Nw p l=p:=by
 cases l with
 |nil=>rfl
 |cons e l=>unfold Nw;rw [if_neg h]
theorem ZT:∀ (l:List ji) (b:Bm),Nw (b,0) l=if frE b l=0 then (frB b l,0) else (⟨0,[]⟩,frE b l)
 |[],b=>by unfold Nw frE;rfl
 |e :: l,b=>by
  unfold Nw frE
  rw [if_pos rfl]
  simp only
  by_cases c:JO b e=0
  ·rw [if_pos c,c,ZT l]
   rfl
  ·rw [if_neg c,JQ (by exact c),if_neg c]
   unfold NT
   rw [if_neg c]
theorem afK (n:Int) (l:List ji):Nw (tu n,newE n) l=(RQ n l,ZR n l):=by
 by_cases c:newE n=0
 ·have hE:ZR n l=frE (tu n) l:=by unfold ZR;rw [if_pos c]
  rw [c,ZT]
  unfold RQ
  rw [hE]
  by_cases c2:frE (tu n) l=0
  ·rw [if_pos c2,if_pos c2,c2]
  ·rw [if_neg c2,if_neg c2]
 ·have hE:ZR n l=newE n:=by unfold ZR;rw [if_neg c]
  rw [JQ (by exact c)]
  unfold RQ
  rw [hE,if_neg c]
  unfold newE at c
  split at c
  ·rename_i h
   unfold tu
   rw [if_pos h]
  ·exact absurd rfl c
def ZU (b:Bm):List BV:=[.pv (.int .i64 b.size),.pv (.list 1 (b.ws.map eW))]
theorem vP (b:Bm):ZU b=[.pv (.int .i64 b.size),.pv (.list 1 (b.ws.map eW))]:=rfl
theorem afL {l:List ji} {p:Bm × Int} (hl:l.length≤lim) {st:St} (h:st.head [1,4,6,7,8] st.boxes.length=some ⟨sl 35 [(1,.pv (.list 2 (l.map fH))),(4,.aK 0 0),(6,.aK 1 0),(7,.pv (.int .i64 p.2)),(8,.pv (.int .i64 (0:Nat)))],[⟨false,[.pv (.int .i64 0),.row 1 []]⟩,⟨false,ZU p.1⟩],[],none⟩) :
  den env Ji st=some (.normal,⟨sl 35 [(4,.aK 0 0),(5,.any),(6,.aK 1 0),(7,.pv (.int .i64 (Nw p l).2))],[⟨false,[.pv (.int .i64 0),.row 1 []]⟩,⟨false,ZU (Nw p l).1⟩],[],none⟩):=by
 unfold Ji
 refine QF (l:=l) (nb:=2) (fun i (p:Bm × Int)=>⟨sl 35 [(1,.pv (.list 2 (l.map fH))),(4,.aK 0 0),(6,.aK 1 0),(7,.pv (.int .i64 p.2)),(8,.pv (.int .i64 i))],[⟨false,[.pv (.int .i64 0),.row 1 []]⟩,⟨false,ZU p.1⟩],[],none⟩)
  (fun _ r p=>some (.normal,⟨sl 35 [(4,.aK 0 0),(5,.any),(6,.aK 1 0),(7,.pv (.int .i64 (Nw p r).2))],[⟨false,[.pv (.int .i64 0),.row 1 []]⟩,⟨false,ZU (Nw p r).1⟩],[],none⟩)) (fun _ _=>True) p h hl trivial (fun _ _=>rfl) (fun _ _=>by simp only [bC,dK,Nat.reduceMul,Nat.reduceBEq,Nat.reduceLT,Nat.reduceLeDiff,Nat.reduceAdd,decide_true,Bool.and_self,Bool.true_and]) ?_ ?_
 ·rintro i x r ⟨b,q⟩ rb hi hx hr F1 hi1 - ih
  have eA:∀ b:Bm,kK b=.agg [.int .i64 b.size,.list 1 (b.ws.map eW)]:=fun _=>rfl
  have eX:∀ e:ji,fH e=.agg [.int .i64 e.start,.int .i64 e.count]:=fun _=>rfl
  have P2:∀ a b:PV,part [a,b] 0 (some 2)=some (.agg [a,b]):=fun _ _=>rfl
  have hg:(l.map fH)[i]?=some (fH x):=by rw [List.getElem?_map,hx];rfl
  rw [eX] at hg
  by_cases c:q=0
  ·subst c
   have Z:((0:Int)==0)=true:=rfl
   have e1:=ahT (b:=b) (e:=x)
   have hP:Nw (b,0) (x :: r)=Nw (NT qo b x,JO b x) r:=by
    conv=>lhs;unfold Nw
    rw [if_pos rfl]
   rw [hP]
   have ih':=fun s=>ih (NT qo b x,JO b x) s trivial
   simp only at ih'
   generalize NT qo b x=b2 at *
   generalize JO b x=q2 at *
   rw [eA,eA,eX] at e1
   simp only [Ba,F1,Z,hg,e1,P2,ak hi,List.length_map,vP,aX,Nat.reduceMul,Nat.reduceBEq,Nat.reduceLT,Nat.reduceLeDiff,reduceCtorEq,Nat.reduceEqDiff,Nat.reduceAdd,Nat.beq]
   rw [ih' _ (by simp only [hi1,vP,aX,Nat.reduceMul,Nat.reduceBEq,Nat.reduceLT,Nat.reduceLeDiff,reduceCtorEq,Nat.reduceEqDiff,Nat.reduceAdd,Nat.beq]<;>rfl)]
   rfl
  ·have Z:(q==0)=false:=by simpa using c
   rw [JQ (by exact c)]
   simp only [Ba,F1,Z,List.length_map,vP,aX,Nat.reduceMul,Nat.reduceBEq,Nat.reduceLT,Nat.reduceLeDiff,reduceCtorEq,Nat.reduceEqDiff,Nat.reduceAdd,Nat.beq]
 ·rintro ⟨b,q⟩ rb -
  unfold Nw
  simp only [Ba,Int.lt_irrefl,List.length_map,vP,aX,Nat.reduceMul,Nat.reduceBEq,Nat.reduceLT,Nat.reduceLeDiff,reduceCtorEq,Nat.reduceEqDiff,Nat.reduceAdd,Nat.beq]
theorem ahU {l:List ji} {n:Int} (hl:l.length≤lim):cal env 71 [.int .i64 n,.list 2 (l.map fH)]=some [(kK (RQ n l),false),(.int .i64 (ZR n l),false)]:=by
 have e0:=ahS (n:=n)
 have eA:∀ b:Bm,kK b=.agg [.int .i64 b.size,.list 1 (b.ws.map eW)]:=fun _=>rfl
 have P2:∀ a b:PV,part [a,b] 0 (some 2)=some (.agg [a,b]):=fun _ _=>rfl
 have hP:=afK n l
 have h1:(Nw (tu n,newE n) l).1=RQ n l:=by rw [hP]
 have h2:(Nw (tu n,newE n) l).2=ZR n l:=by rw [hP]
 rw [← h1,← h2]
 generalize tu n=b0 at *
 generalize newE n=q0 at *
 simp only [eA] at e0 ⊢
 rw [au ag8 rfl];simp only [YB,bC,Nat.reduceBEq,Nat.reduceLeDiff,Nat.reduceAdd,List.length_cons,List.length_nil]
 simp only [e0,P2,List.length_map,aX,Nat.reduceMul,Nat.reduceBEq,Nat.reduceLT,Nat.reduceLeDiff,reduceCtorEq,Nat.reduceEqDiff,Nat.reduceAdd,Nat.beq]
 rw [afL (l:=l) (p:=(b0,q0)) hl]
 rotate_left
 ·rw [vP]
  simp only [bC,dK,Nat.reduceMul,Nat.reduceBEq,Nat.reduceLT,Nat.reduceLeDiff,Nat.reduceAdd,decide_true,Bool.and_self,Bool.true_and]<;>rfl
 ·rw [vP]
  simp only [P2,aX,Nat.reduceMul,Nat.reduceBEq,Nat.reduceLT,Nat.reduceLeDiff,reduceCtorEq,Nat.reduceEqDiff,Nat.reduceAdd,Nat.beq]
end Go.Proofs.YtaaokejjmdbfaaaDoor.V

namespace Go.Proofs.YtaaokejjmdbfaaaDoor.V
theorem ade {size:Int} {e:ji} (h:yJ size e=true) (s:Nat):V7 e s=decide (e.start≤(s:Int)∧(s:Int)<e.start+e.count):=by
 have h:=vO.1 h
 unfold V7
 rw [Bool.eq_iff_iff]
 simp only [Bool.and_eq_true,decide_eq_true_eq]
 omega
theorem adN:∀ (l:List ji) {b:Bm},okB b=true→(∀ e∈l,yJ b.size e=true)→frE b l=0∧okB (frB b l)=true∧(frB b l).size=b.size∧∀ s:Nat,(s:Int)<b.size→bit (frB b l).ws s=(bit b.ws s || Ej l s)
 |[],b,h,_=>⟨rfl,h,rfl,fun s _=>by simp [frB,Ej]⟩
 |e :: l,b,h,hf=>by
  obtain ⟨k1,k2,k3,k4⟩:=afH h (hf e (by simp))
  obtain ⟨g1,g2,g3,g4⟩:=adN l k2 (fun x hx=>by rw [k3];exact hf x (by simp [hx]))
  refine ⟨?_,g2,g3.trans k3,fun s hs=>?_⟩
  ·unfold frE
   rw [if_pos k1]
   exact g1
  ·have:=g4 s (by rw [k3];exact hs)
   show bit (frB (NT qo b e) l).ws s=_
   rw [this,k4 s hs,← ade (hf e (by simp)) s,Bool.or_assoc]
   rfl
theorem adO {n:Nat} {l:List ji} (hn:n≤4096) (h:∀ e∈l,0≤e.start∧1≤e.count∧e.start+e.count≤(n:Int)):ZR n l=0∧RQ n l=frB (tu n) l∧okB (RQ n l)=true∧(RQ n l).size=(n:Int)∧∀ s:Nat,s<n→bit (RQ n l).ws s=Ej l s:=by
 obtain ⟨h1,h2,h3,h4⟩:=afG hn
 obtain ⟨g1,g2,g3,g4⟩:=adN l h2 (fun e he=>by
  obtain ⟨q1,q2,q3⟩:=h e he
  rw [h3]
  exact vO.2 (by omega))
 have e1:ZR n l=0:=by unfold ZR;rw [if_pos h1];exact g1
 have e2:RQ n l=frB (tu n) l:=by unfold RQ;rw [if_pos e1]
 rw [e2]
 refine ⟨e1,rfl,g2,g3.trans h3,fun s hs=>?_⟩
 rw [g4 s (by rw [h3];omega),h4 s,Bool.false_or]
end Go.Proofs.YtaaokejjmdbfaaaDoor.V
