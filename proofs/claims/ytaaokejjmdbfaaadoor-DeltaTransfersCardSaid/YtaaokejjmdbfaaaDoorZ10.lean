/-
  Part 10 of the texts that the statement stands on.
-/
import Derived.Test.YtaaokejjmdbfaaaDoorZ9
set_option linter.all false
namespace Go.Proofs.YtaaokejjmdbfaaaDoor
open Go.RowKit V
theorem map_inj {α β:Type} {f:α→β} (hf:∀ x y,f x=f y→x=y):∀ {l m:List α},l.map f=m.map f→l=m
 |[],[],_=>rfl
 |[],_ :: _,h=>by cases h
 |_ :: _,[],h=>by cases h
 |x :: l,y :: m,h=>by
  rw [List.map_cons,List.map_cons] at h
  injection h with h1 h2
  rw [hf x y h1,map_inj hf h2]
theorem U7 (x y:List fV) (h:cO x=cO y):x=y:=by
 have h1:=sF x
 rw [h,sF y] at h1
 exact (Option.some.inj h1).symm
theorem Zv (x y:zM) (h:jy x=jy y):x=y:=by
 cases x;cases y
 unfold jy at h
 injection h with h
 simp only [List.cons.injEq,PV.int.injEq,true_and,and_true] at h
 obtain ⟨rfl,rfl,rfl⟩:=h
 rfl
theorem aeZ (x y:Wd) (h:eW x=eW y):x=y:=by
 unfold eW at h
 injection h with _ h
 exact BitVec.eq_of_toNat_eq (by omega)
theorem acd (x y:Bm) (h:mM x=mM y):x=y:=by
 cases x;cases y
 unfold mM at h
 injection h with h
 simp only [List.cons.injEq,PV.int.injEq,PV.list.injEq,true_and,and_true] at h
 rw [h.1,map_inj aeZ h.2]
theorem ace (x y:Pt) (h:dX x=dX y):x=y:=by
 cases x;cases y
 unfold dX at h
 injection h with h
 simp only [List.cons.injEq,PV.int.injEq,PV.list.injEq,true_and,and_true] at h
 rw [h.1,map_inj Zv h.2.1,map_inj acd h.2.2.1,map_inj U7 h.2.2.2]
def NH (l:List Pt) (f t:Int):Int:=if iy l=0 then if (f<0∨(l.length:Int)≤f)∨(t<0∨(l.length:Int)≤t) then 7 else 0 else iy l
def Qm (l:List Pt) (f t:Int):List Run:=if NH l f t=0 then Qh (l.getD f.toNat ⟨0,[],[],[]⟩) (l.getD t.toNat ⟨0,[],[],[]⟩) (l.getD f.toNat ⟨0,[],[],[]⟩).img.length else []
def rtR (l:List Pt) (f t:Int):List l9:=[(.list 3 (((Qm l f t).map toW).map y9),false),(.int .i64 (NH l f t),false)]
def isR (q:List Pt × Int × Int) (args:List PV):Prop:=args=[.list 4 (q.1.map dX),.int .i64 q.2.1,.int .i64 q.2.2]∧q.1.length≤lim∧∀ p∈q.1,wO p
open Classical in
noncomputable def Qn (args:List PV):Option (List l9):=if h:∃ q,isR q args then some (rtR (Classical.choose h).1 (Classical.choose h).2.1 (Classical.choose h).2.2) else none
theorem acf {args:List PV} {rs:List l9} (h:Qn args=some rs):∃ l f t,isR (l,f,t) args∧rs=rtR l f t:=by
 unfold Qn at h
 split at h
 ·rename_i hx
  cases h
  exact ⟨_,_,_,Classical.choose_spec hx,rfl⟩
 ·cases h
theorem Zw {l:List Pt} {f t:Int} (hl:l.length≤lim) (hf:∀ p∈l,wO p):Qn [.list 4 (l.map dX),.int .i64 f,.int .i64 t]=some (rtR l f t):=by
 have hx:∃ q,isR q [.list 4 (l.map dX),.int .i64 f,.int .i64 t]:=⟨(l,f,t),rfl,hl,hf⟩
 unfold Qn
 rw [dif_pos hx]
 have h:=(Classical.choose_spec hx).1
 generalize Classical.choose hx=q at *
 obtain ⟨l',f',t'⟩:=q
 simp only [List.cons.injEq,PV.int.injEq,PV.list.injEq,true_and,and_true] at h
 rw [map_inj ace h.1,h.2.1,h.2.2]
set_option maxRecDepth 100000 in
set_option maxHeartbeats 4000000 in
theorem acg {l:List Pt} {f t:Int} {pa:Option Addr} {pc:Nat} {w:World} (he:NH l f t≠0) (hl:l.length≤lim)
  (cF:∀ W,Below w.heap.size w W→Calls Tryd.prog 62 #[.slice pa l.length pc] W (fun e w'=>e=.returned (.int .i64 (iy l))∧Below W.heap.size W w')) :
  Calls Tryd.prog 23 #[.slice pa l.length pc,.int .i64 f,.int .i64 t] w (fun e w'=>e=.returned (.tuple #[.slice none 0 0,.int .i64 (NH l f t)])∧Below w.heap.size w w'):=by
 have hlim:lim=1073741824:=rfl
 unfold NH at he ⊢
 by_cases c:iy l=0
 ·rw [if_pos c] at he ⊢
  by_cases c2:(f<0∨(l.length:Int)≤f)∨(t<0∨(l.length:Int)≤t)
  ·rw [if_pos c2]
   rw [c] at cF
   clear he
   have HC:=Lib.hid c;clear c
   go_enter Tryd.func23,Tryd.ntmps23
   go_wp2_with fail
   refine (cF _ (Below.refl _ _)).mono ?_
   rintro e w1 ⟨rfl,hB1⟩
   go_wp2
   all_goals
    go_ret2
    exact ⟨rfl,hB1⟩
  ·rw [if_neg c2] at he;exact absurd rfl he
 ·rw [if_neg c]
  have hb:(iy l != 0)=true:=by simp [c]
  generalize iy l=E at *
  clear he
  have HC:=Lib.hid c;clear c
  go_enter Tryd.func23,Tryd.ntmps23
  go_wp2_with fail
  refine (cF _ (Below.refl _ _)).mono ?_
  rintro e w1 ⟨rfl,hB1⟩
  go_wp2
  go_ret2
  exact ⟨rfl,hB1⟩
theorem ae0:∀ args rs,Qn args=some rs→callable Tryd.prog 23=true∧oI Tryd.prog 23 args rs:=fun args rs h=>by
 obtain ⟨l,f,t,⟨rfl,hl,hf⟩,rfl⟩:=acf h
 simp only at hl hf
 have hlim:lim=1073741824:=rfl
 refine ⟨by kernel_rfl,fun T0 w vs g1 g2 g3 g4 hG=>?_⟩
 match vs,g3 with
 |[v0,v1,v2],_ =>
  have q0:=(g4 0 _ v0 rfl rfl).frame (w':=w) (ok':=fun b=>b<w.heap.size) fun b _ hlt=>⟨hlt,rfl⟩
  have hGI:oN w:=jJ.frame hG fun b _ hb=>⟨if_pos hb,rfl⟩
  have e1:=(g4 1 _ v1 rfl rfl).bV
  have e2:=(g4 2 _ v2 rfl rfl).bV
  subst e1 e2
  have q0:ay (fun b=>b<w.heap.size) w (.list 4 (l.map dX)) v0:=q0
  obtain ⟨pa,pc,e0,_⟩:=q0.qy
  rw [List.length_map] at e0
  subst e0
  have cF:∀ W,Below w.heap.size w W→Calls Tryd.prog 62 #[.slice pa l.length pc] W (fun e w'=>e=.returned (.int .i64 (iy l))∧Below W.heap.size W w'):=fun W hB =>
   (FB Zu (vs:=[.slice pa l.length pc]) (ac1 hl hf) ⟨q0.up hB,trivial⟩ (oN.below hGI hB) (fun r hr=>.inl (by rw [List.mem_singleton.1 hr]))).mono (by
    rintro e w' ⟨v,rfl,hB,hv⟩
    have:=hv.one.bV
    exact ⟨by rw [this],hB⟩)
  have fin:∀ (w':World) (u:Value),Below w.heap.size w w'→ay (fun b=>w.heap.size≤b∧b<w'.heap.size) w' (.list 3 (((Qm l f t).map toW).map y9)) u→∃ v T',Ending.returned (.tuple #[u,.int .i64 (NH l f t)])=.returned v∧Below w.heap.size w w'∧(∀ b,b<w.heap.size→T' b=T0 b)∧(∀ b,w'.heap.size≤b→T' b=.other)∧∃ arr:Array Value,arr.size=(rtR l f t).length∧v=(if arr.size=1 then arr.getD 0 undef else .tuple arr)∧∀ (i:Nat) (r:l9) (x:Value),(rtR l f t)[i]?=some r→arr[i]?=some x→R1 T' w' i r x:=fun w' u hB hu=>by
   refine ⟨_,fun b=>if w.heap.size≤b∧b<w'.heap.size then .ro else T0 b,rfl,hB,fun b hb=>if_neg (by omega),fun b hb=>?_,#[_,_],rfl,rfl,fun i r x hr' hx=>?_⟩
   ·show (if _ then _ else T0 b)=_
    rw [if_neg (by omega)];exact g2 b (by have:=hB.size;omega)
   ·match i with
    |0 =>
     cases hr';cases hx
     exact hu.frame fun b hb _=>⟨if_pos hb,rfl⟩
    |1=>cases hr';cases hx;exact .int _ _
    |i+2=>simp [rtR] at hr'
  by_cases he:NH l f t=0
  ·have c:iy l=0:=by
    unfold NH at he
    by_cases c:iy l=0
    ·exact c
    ·rw [if_neg c] at he;exact absurd he c
   have hin:¬ ((f<0∨(l.length:Int)≤f)∨(t<0∨(l.length:Int)≤t)):=fun hn=>by
    unfold NH at he
    rw [if_pos c,if_pos hn] at he;cases he
   obtain ⟨g,rfl⟩:∃ g:Nat,f=(g:Int):=⟨f.toNat,by omega⟩
   obtain ⟨s,rfl⟩:∃ s:Nat,t=(s:Int):=⟨t.toNat,by omega⟩
   have hg:g<l.length:=by omega
   have hs:s<l.length:=by omega
   obtain ⟨k1,k2,k3,k4⟩:=ng c
   have ma:=List.getElem_mem hg
   have mb:=List.getElem_mem hs
   have ca:=jT (k1 _ ma)
   have cb:=jT (k1 _ mb)
   have hsz:=k4 _ ma _ mb
   have hsl:=(qF hsz).1
   have hW:Qm l (g:Int) (s:Int)=Ju l[g] l[s] l[g].img.length:=by
    unfold Qm
    rw [if_pos he,Int.toNat_natCast,Int.toNat_natCast,List.getD_eq_getElem?_getD,List.getD_eq_getElem?_getD,List.getElem?_eq_getElem hg,List.getElem?_eq_getElem hs,Qj]
    rfl
   rw [c] at cF
   refine (ab7 (a:=l[g]) (b:=l[s]) (List.getElem?_eq_getElem hg) (List.getElem?_eq_getElem hs) k3 q0 ca.2.1 hsz cF ?_).mono ?_
   ·intro W a1 a2 a3 b1 b2 b3 v k hB pA pB hv hk
    refine (FB Zu (vs:=[.agg #[.int .i64 l[g].site,a1,a2,a3],.agg #[.int .i64 l[s].site,b1,b2,b3],.int .i64 v,.int .i64 k]) (ac3 (a:=l[g]) (b:=l[s]) (v:=v) (k:=k) (by have:=ca.2.2.1;omega) (by have:=cb.2.2.1;omega)) ⟨pA.mk',pB.mk',.int _ _,.int _ _,trivial⟩ (oN.below hGI hB) (fun r hr=>.inl (by rw [List.mem_singleton.1 hr]))).mono ?_
    rintro e w' ⟨v,rfl,hB,hv⟩
    have:=hv.one.mV
    exact ⟨by rw [this],hB⟩
   ·rintro e w' ⟨u,B,rfl,hBB,hown,hnil,hB⟩
    rw [he] at fin
    refine fin w' u hB ?_
    rw [hW]
    obtain ⟨ha,hn,hc,rfl,hsl⟩:=hown.sl
    exact Nj (fun b hb hlt=>⟨Nat.le_trans hBB hb,hlt⟩) (fun e=>by have:=hnil e;cases this;rfl) (fun x hx=>((AA ca.2.1 _ (jo ca.2.1).1).1 x hx).2.2.2.2) hsl
  ·refine (acg he hl cF).mono ?_
   rintro e w' ⟨rfl,hB⟩
   refine fin w' _ hB ?_
   have:Qm l f t=[]:=by unfold Qm;rw [if_neg he]
   rw [this]
   exact .nil _ _
noncomputable def vC:Env:=fun f=>if f=23 then some (.ext Qn) else env f
theorem Zx:vC 23=some (.ext Qn):=if_pos rfl
theorem Zy:env 23=none:=by kernel_rfl
instance:UpE env vC:=⟨fun f d h=>by
 unfold vC
 by_cases c:f=23
 ·subst c;rw [Zy] at h;cases h
 ·rw [if_neg c];exact h⟩
theorem ae1:xM Tryd.prog vC:=fun f d h=>by
 unfold vC at h
 by_cases c:f=23
 ·rw [if_pos c] at h
  subst c
  cases h
  exact ae0
 ·rw [if_neg c] at h
  exact Zu f d h
end Go.Proofs.YtaaokejjmdbfaaaDoor

namespace Go.Proofs.YtaaokejjmdbfaaaDoor.V
--+
end Go.Proofs.YtaaokejjmdbfaaaDoor.V

namespace Go.Proofs.YtaaokejjmdbfaaaDoor.V
theorem U8 {l:List o7} {i:Nat} (h:i<l.length):lI (l.take (i+1))=lI (l.take i)+l[i].count:=by
 rw [List.take_add_one,List.getElem?_eq_getElem h,Option.toList_some,uZ]
def okX (l:List o7):Prop:=l.length≤4096∧∀ x∈l,0≤x.start∧0≤x.count∧x.start+x.count≤4096
theorem Np:∀ {l:List o7},(∀ x∈l,0≤x.start∧0≤x.count∧x.start+x.count≤4096)→0≤lI l∧lI l≤4096 * (l.length:Int)
 |[],_=>⟨Int.le_refl _,Int.le_refl _⟩
 |x :: l,h=>by
  obtain ⟨h1,h2⟩:=Np (l:=l) fun y hy=>h y (List.mem_cons_of_mem _ hy)
  have h3:=h x List.mem_cons_self
  have e:lI (x :: l)=x.count+lI l:=by simp [lI]
  rw [e,List.length_cons]
  omega
theorem Nq {l:List o7} (h:okX l) (i:Nat):0≤lI (l.take i)∧lI (l.take i)≤16777216:=by
 have h1:=Np (l:=l.take i) fun x hx=>h.2 x (List.mem_of_mem_take hx)
 have h2:(l.take i).length≤l.length:=by rw [List.length_take];omega
 have:=h.1
 omega
def yX (l:List (List o7)):Int:=(l.map lI).sum
theorem FT {l:List (List o7)} {i:Nat} (h:i<l.length):yX (l.take (i+1))=yX (l.take i)+lI l[i]:=by
 rw [List.take_add_one,List.getElem?_eq_getElem h,Option.toList_some]
 unfold yX
 rw [List.map_append,List.sum_append]
 show _+(lI l[i]+0)=_
 rw [Int.add_zero]
theorem Nr {l:List (List o7)} (h:∀ x∈l,okX x):∀ i,0≤yX (l.take i)∧yX (l.take i)≤16777216 * (i:Int)
 |0=>⟨Int.le_refl _,Int.le_refl _⟩
 |i+1=>by
  have ih:=Nr h i
  by_cases c:i<l.length
  ·rw [FT c]
   have:=Nq (h _ (List.getElem_mem c)) l[i].length
   rw [List.take_length] at this
   omega
  ·rw [List.take_of_length_le (by omega:l.length≤i+1)]
   rw [List.take_of_length_le (by omega:l.length≤i)] at ih
   omega
theorem ach {l:List (List o7)} {i:Nat} (h:i<l.length):(l.map lM)[i]?=some (.list 2 (l[i].map jh)):=by rw [List.getElem?_map,List.getElem?_eq_getElem h];rfl
end Go.Proofs.YtaaokejjmdbfaaaDoor.V

namespace Go.Proofs.YtaaokejjmdbfaaaDoor.V
end Go.Proofs.YtaaokejjmdbfaaaDoor.V

namespace Go.Proofs.YtaaokejjmdbfaaaDoor.V
end Go.Proofs.YtaaokejjmdbfaaaDoor.V
