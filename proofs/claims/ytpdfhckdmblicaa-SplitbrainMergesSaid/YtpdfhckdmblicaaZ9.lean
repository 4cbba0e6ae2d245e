/-
  Part 9 of the texts that the statement stands on.
-/
import Derived.Test.YtpdfhckdmblicaaZ8
set_option linter.all false
namespace Go.Proofs.Ytpdfhckdmblicaa
open V (eSecs eExts)
def mergeX:List PV→Option (List Res)
 |[.list 1 a,.list 1 b,.list 1 z]=>match decAll decSecs a with
  |some a=>match decAll decSecs b with
   |some b=>match decAll decSecs z with
    |some z=>if (a.length≤1000000∧b.length≤1000000∧z.length≤1000000)∧a.all (fun v=>decide (v.length≤1000000))=true∧z.all (fun v=>decide (v.length≤1000000))=true then some [(.list 1 ((V.mergeOut a b z).map eSecs),false),(.list 1 ((V.confOut a b z).map eExts),false),(.int .i64 (V.imgsErr a b z),false)] else none
    |none=>none
   |none=>none
  |none=>none
 |_=>none
theorem mergeX_eq {args:List PV} {rs:List Res} (h:mergeX args=some rs):∃ a b z:List (List Sec),args=[.list 1 (a.map eSecs),.list 1 (b.map eSecs),.list 1 (z.map eSecs)]∧(a.length≤1000000∧b.length≤1000000∧z.length≤1000000)∧(∀ v∈a,v.length≤1000000)∧(∀ v∈z,v.length≤1000000) ∧
  rs=[(.list 1 ((V.mergeOut a b z).map eSecs),false),(.list 1 ((V.confOut a b z).map eExts),false),(.int .i64 (V.imgsErr a b z),false)]:=by
 unfold mergeX at h
 split at h
 case h_2=>cases h
 split at h
 case h_2=>cases h
 rename_i a ha
 split at h
 case h_2=>cases h
 rename_i b hb
 split at h
 case h_2=>cases h
 rename_i z hz
 split at h
 case isFalse=>cases h
 rename_i hc
 cases h
 exact ⟨a,b,z,by rw [decAll_eq (fun p x=>decSecs_eq) ha,decAll_eq (fun p x=>decSecs_eq) hb,decAll_eq (fun p x=>decSecs_eq) hz],hc.1,fun v hv=>by simpa using List.all_eq_true.1 hc.2.1 v hv,fun v hv=>by simpa using List.all_eq_true.1 hc.2.2 v hv,rfl⟩
theorem mergeX_enc {a b z:List (List Sec)} (h1:a.length≤1000000∧b.length≤1000000∧z.length≤1000000) (h2:∀ v∈a,v.length≤1000000) (h3:∀ v∈z,v.length≤1000000) :
  mergeX [.list 1 (a.map eSecs),.list 1 (b.map eSecs),.list 1 (z.map eSecs)]=some [(.list 1 ((V.mergeOut a b z).map eSecs),false),(.list 1 ((V.confOut a b z).map eExts),false),(.int .i64 (V.imgsErr a b z),false)]:=by
 simp only [mergeX]
 rw [decAll_enc fun x _=>decSecs_enc x,decAll_enc fun x _=>decSecs_enc x,decAll_enc fun x _=>decSecs_enc x]
 simp only
 rw [if_pos ⟨h1,List.all_eq_true.2 fun v hv=>by simpa using h2 v hv,List.all_eq_true.2 fun v hv=>by simpa using h3 v hv⟩]
theorem row_prep {T:Tags} {w:World} {r:Root} {sz:Nat} {es:List PV} {v:Value} (h:RowRep T w r sz es v) {ok:Nat→Prop} (hk:∀ b,(T b=.ro∨T b=.row r)→b<w.heap.size→ok b):PRep ok w (.list sz es) v:=by
 rcases h with ⟨rfl,a,rfl⟩|⟨b,c,arr,E,rfl,h1,h2,h3,h4,h5,h6,h7⟩
 ·exact .nil _ _
 ·have hb:b<w.heap.size:=(Array.getElem?_eq_some_iff.1 h2).1
  refine .list sz es b 0 c (fun i j=>arr[i * sz+j]?.getD undef) (hk b (.inr h1) hb) ⟨_,_,_,h2⟩ h4 h5 h6 (fun i e j x he hx=>?_) (fun i e j x he hx=>?_)
  ·obtain ⟨u,g1,g2,g3⟩:=h7 i e j x he hx
   rw [g1,Nat.zero_add,cell_of_row w b (i * sz+j) arr E (0,0) h2]
   exact ⟨g1,g2⟩
  ·obtain ⟨u,g1,g2,g3⟩:=h7 i e j x he hx
   rw [g1]
   exact g3.frame fun b e hb=>⟨hk b (.inl e) hb,rfl⟩
theorem choose_ne {a b z:List (List Sec)} (he:V.imgsErr a b z=0):V.chooseX V.gMerge a b z≠[]∧∀ v∈V.chooseX V.gMerge a b z,v≠[]:=by
 obtain ⟨_,_,hz,s1,s2⟩:=V.imgs_ok he
 have hs:=V.chooseX_sizes (g:=V.gMerge) s1 s2
 have h0:szErr (szsOf (V.chooseX V.gMerge a b z))=0:=by
  have e:szsOf (V.chooseX V.gMerge a b z)=szsOf z:=hs
  rw [e];exact hz
 exact szErr_ne h0
theorem merge_ok:∀ args rs,mergeX args=some rs→callable Try.prog 25=true∧CallOk Try.prog 25 args rs:=fun args rs h=>by
 obtain ⟨a,b,z,rfl,⟨n1,n2,n3⟩,va,vz,rfl⟩:=mergeX_eq h
 have hlim:lim=1073741824:=rfl
 refine ⟨by kernel_rfl,fun T0 w vs h1 h2 h3 h4 hg=>?_⟩
 match vs,h3 with
 |[v0,v1,v2],_ =>
  obtain ⟨aa,an,ac,rfl,ha⟩:=img_in (h4 0 _ v0 rfl rfl)
  obtain ⟨ba,bn,bc,rfl,hb⟩:=img_in (h4 1 _ v1 rfl rfl)
  obtain ⟨za,zn,zc,rfl,hz⟩:=img_in (h4 2 _ v2 rfl rfl)
  obtain ⟨n,hn⟩:=vmCall_of_cal (V.cal23 (a:=a) (b:=b) (z:=z) (by omega) (by omega) (by omega) (fun v hv=>by have:=vz v hv;omega))
  have hC:=(vmCall_ok envOk hn).2 T0 w [.slice aa an ac,.slice ba bn bc,.slice za zn zc] h1 h2 rfl h4 hg
  have key:=mergeR_any ha hb hz (by rw [← ha.len];exact n1) va (K:=fun u W=>w.heap.size≤W.heap.size∧PRep (fun b=>w.heap.size≤b∨T0 b=.ro) W (.list 1 ((V.confOut a b z).map eExts)) u) (fun u w1 w2 hK hB=>⟨Nat.le_trans hK.1 hB.size,hK.2.frame fun b e hb=>⟨e,hB.block b hb⟩⟩) (hC.mono ?_)
  rotate_left
  ·rintro e w' ⟨u,T',rfl,hB,t1,t2,arr,hsz,rfl,hR⟩
   have hs2:arr.size=2:=hsz
   have q0:=hR 0 _ arr[0] rfl (Array.getElem?_eq_getElem (by omega))
   have q1:=hR 1 _ arr[1] rfl (Array.getElem?_eq_getElem (by omega))
   have q0:RowRep T' w' (.part 0 0) 1 _ arr[0]:=q0
   have q1:PRep _ w' (.int .i64 (V.imgsErr a b z)) arr[1]:=q1
   have e1:arr[1]=.int .i64 (V.imgsErr a b z):=by
    generalize arr[1]=u1 at q1
    cases q1;rfl
   have earr:arr=#[arr[0],.int .i64 (V.imgsErr a b z)]:=by
    rw [← e1]
    apply Array.ext
    ·simp [hs2]
    ·intro i hi hi2
     match i with
     |0=>rfl
     |1=>rfl
     |i+2=>omega
   refine ⟨arr[0],?_,⟨hB.size,row_prep q0 fun b hb hlt=>?_⟩,hB⟩
   ·rw [if_neg (by omega)]
    exact congrArg (fun x=>Ending.returned (.tuple x)) earr
   ·by_cases hbw:b<w.heap.size
    ·rw [t1 b hbw] at hb
     rcases hb with hb|hb
     ·exact .inr hb
     ·rcases h1 b with e|e<;>(rw [e] at hb;cases hb)
    ·exact .inl (by omega)
  refine key.mono ?_
  rintro e w' ⟨v,u,rfl,hB,hcase⟩
  refine ⟨_,fun b=>if w.heap.size≤b∧b<w'.heap.size then .ro else T0 b,rfl,hB,fun b hb=>if_neg (by omega),fun b hb=>?_,#[_,_,_],rfl,rfl,fun i r x hr' hu=>?_⟩
  ·show (if _ then _ else T0 b)=_
   rw [if_neg (by omega)];exact h2 b (by have:=hB.size;omega)
  ·rcases hcase with ⟨he,rfl,rfl⟩|⟨he,⟨_,hK⟩,x0,n0,c0,rfl,hr⟩
   ·have m0:V.mergeOut a b z=[]:=by unfold V.mergeOut;rw [if_neg he]
    have c0:V.confOut a b z=[]:=by unfold V.confOut;rw [if_neg he]
    match i with
    |0=>cases hr';cases hu;show PRep _ _ (.list 1 ((V.mergeOut a b z).map eSecs)) _;rw [m0];exact .nil _ _
    |1=>cases hr';cases hu;show PRep _ _ (.list 1 ((V.confOut a b z).map eExts)) _;rw [c0];exact .nil _ _
    |2=>cases hr';cases hu;exact .int _ _
    |i+3=>simp at hr'
   ·have m0:V.mergeOut a b z=V.chooseX V.gMerge a b z:=by unfold V.mergeOut;rw [if_pos he]
    match i with
    |0 =>
     cases hr';cases hu
     show PRep _ _ (.list 1 ((V.mergeOut a b z).map eSecs)) _
     rw [m0]
     exact img_out (ok:=(w.heap.size≤·)) (fun b hb hlt=>if_pos ⟨hb,hlt⟩) (fun e=>absurd e (choose_ne he).1) (choose_ne he).2 hr
    |1 =>
     cases hr';cases hu
     exact hK.frame fun b e hb=>⟨by
      show (if _ then _ else _)=_
      by_cases c:w.heap.size≤b
      ·exact if_pos ⟨c,hb⟩
      ·rw [if_neg (by omega)]
       rcases e with e|e
       ·exact absurd e c
       ·exact e,rfl⟩
    |2=>cases hr';cases hu;exact .int _ _
    |i+3=>simp at hr'
def env1:Env:=fun f=>if f=25 then some (.ext mergeX) else env f
theorem env1_merge:env1 25=some (.ext mergeX):=if_pos rfl
theorem env_none:env 25=none:=by kernel_rfl
instance:UpE env env1:=⟨fun f d h=>by
 unfold env1
 by_cases c:f=25
 ·subst c;rw [env_none] at h;cases h
 ·rw [if_neg c];exact h⟩
theorem envOk1:EnvOk Try.prog env1:=fun f d h=>by
 unfold env1 at h
 by_cases c:f=25
 ·rw [if_pos c] at h
  subst c
  cases h
  exact merge_ok
 ·rw [if_neg c] at h
  exact envOk f d h
end Go.Proofs.Ytpdfhckdmblicaa
