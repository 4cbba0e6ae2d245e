/-
  Part 5 of the texts that the statement stands on.
-/
import Derived.Test.YtpcncggjmabnaaaGreatDoorZ4
set_option linter.all false
namespace Go.Proofs.YtpcncggjmabnaaaGreatDoor.V
theorem ac7 {im:jl} {l:List jW} (hn:im.length≤lim) (hr:∀ v∈im,v.length≤1000000) (hl:l.length≤lim) (hd:∀ w∈l,w.data.length≤lim) (hI0:wcI im l 0) {st:St} (h:st.head [0,1,6] st.boxes.length=some ⟨sl 69 [(0,.pv (.list 3 (l.map iL))),(1,.pv (.list 1 ((dD im).map eI))),(6,.pv (.int .i64 (0:Nat)))],[],[],none⟩) :
  den env Gi st=resE 69 4 (DF im none l):=by
 unfold Gi
 refine Dv (env:=env) (l.length) (fun i=>wcI im l (i)) (fun i=>⟨sl 69 [(0,.pv (.list 3 (l.map iL))),(1,.pv (.list 1 ((dD im).map eI))),(6,.pv (.int .i64 i))],[],[],none⟩) (fun i=>resE 69 4 (DF im none l)) h hI0 (fun _=>rfl) (fun _=>by simp only [aO,bG,Nat.reduceMul,Nat.reduceBEq,Nat.reduceLT,Nat.reduceLeDiff,Nat.reduceAdd,decide_true,Bool.and_self,Bool.true_and]) ?_ ?_
 ·intro i rb hi hp ih
  have hi1:=bH hi hl
  have F1:((i:Int)<(l.length:Int))=True:=eq_true (by omega)
  have e1:=afk (im:=im) (w:=l[i]) hn (fun v hv=>by have:=hr v hv;unfold lim;omega) (hd _ (List.getElem_mem hi))
  have hA:=Nu hp hi
  have hx:=wO hi
  unfold iL at e1
  by_cases c1:dF im l[i]=0
  ·have G1:((0:Int) != 0)=false:=rfl
   rw [c1] at e1
   rw [if_neg (by simpa using c1)] at hA
   cases i with
   |zero =>
    have Z0:(((0:Nat):Int)==0)=true:=rfl
    simp only [nV,F1,iR,Z0,G1,e1,hx,ak hi,List.length_map,aI,Nat.reduceMul,Nat.reduceBEq,Nat.reduceLT,Nat.reduceLeDiff,reduceCtorEq,Nat.reduceEqDiff,Nat.reduceAdd,Nat.beq]
    rw [ih (oV hp hi c1 rfl) _ (by simp only [hi1,aI,Nat.reduceMul,Nat.reduceBEq,Nat.reduceLT,Nat.reduceLeDiff,reduceCtorEq,Nat.reduceEqDiff,Nat.reduceAdd,Nat.beq]<;>rfl)]
   |succ j =>
    have hj:j<l.length:=by omega
    have hy:=wO hj
    have hpv:ny l (j+1)=some l[j]:=by simp only [ny,List.getElem?_eq_getElem hj]
    have Z:(((j+1:Nat):Int)==0)=false:=by simp;omega
    have W:IntKind.i64.wrap (((j+1:Nat):Int) - 1)=(j:Int):=by rw [show ((j+1:Nat):Int) - 1=(j:Int) by omega];exact bJ (by unfold lim at hl;omega)
    have q0:=hp.2 _ hpv
    obtain ⟨q1,q2,q3,q4⟩:=OH q0
    have q5:=DI hr l[j].volume.toNat
    have W2:IntKind.i64.wrap (l[j].start+(l[j].data.length:Int))=l[j].start+(l[j].data.length:Int):=bJ (by omega)
    have W3:IntKind.i64.wrap (l[j].start+(l[j].data.length:Int)+1)=l[j].start+(l[j].data.length:Int)+1:=bJ (by omega)
    by_cases c2:l[j+1].volume<l[j].volume
    ·have hb:oU l[j] l[j+1]=true:=by simp [oU,c2]
     have D1:(l[j+1].volume<l[j].volume)=True:=eq_true c2
     rw [hpv] at hA
     rw [if_pos hb] at hA
     rw [hA,rY (by decide)]
     simp only [nV,F1,iR,Z,W,W2,W3,D1,G1,e1,hx,hy,ak hi,ak hj,List.length_map,aI,Nat.reduceMul,Nat.reduceBEq,Nat.reduceLT,Nat.reduceLeDiff,reduceCtorEq,Nat.reduceEqDiff,Nat.reduceAdd,Nat.beq]
    ·have D1:(l[j+1].volume<l[j].volume)=False:=eq_false c2
     by_cases c3:l[j+1].volume=l[j].volume
     ·have D2:(l[j+1].volume==l[j].volume)=true:=by simp [c3]
      by_cases c4:l[j+1].start≤l[j].start+(l[j].data.length:Int)
      ·have D3:(l[j+1].start<l[j].start+(l[j].data.length:Int)+1)=True:=eq_true (by omega)
       have hb:oU l[j] l[j+1]=true:=by simp [oU,c3,c4]
       rw [hpv] at hA
       rw [if_pos hb] at hA
       rw [hA,rY (by decide)]
       simp only [nV,F1,iR,Z,W,W2,W3,D1,D2,D3,G1,e1,hx,hy,ak hi,ak hj,List.length_map,aI,Nat.reduceMul,Nat.reduceBEq,Nat.reduceLT,Nat.reduceLeDiff,reduceCtorEq,Nat.reduceEqDiff,Nat.reduceAdd,Nat.beq]
      ·have D3:(l[j+1].start<l[j].start+(l[j].data.length:Int)+1)=False:=eq_false (by omega)
       have hb:oU l[j] l[j+1]=false:=by simp [oU,c3];omega
       simp only [nV,F1,iR,Z,W,W2,W3,D1,D2,D3,G1,e1,hx,hy,ak hi,ak hj,List.length_map,aI,Nat.reduceMul,Nat.reduceBEq,Nat.reduceLT,Nat.reduceLeDiff,reduceCtorEq,Nat.reduceEqDiff,Nat.reduceAdd,Nat.beq]
       rw [ih (oV hp hi c1 (by rw [hpv];exact hb)) _ (by simp only [hi1,aI,Nat.reduceMul,Nat.reduceBEq,Nat.reduceLT,Nat.reduceLeDiff,reduceCtorEq,Nat.reduceEqDiff,Nat.reduceAdd,Nat.beq]<;>rfl)]
     ·have D2:(l[j+1].volume==l[j].volume)=false:=by simp [c3]
      have hb:oU l[j] l[j+1]=false:=by simp [oU,c3];omega
      simp only [nV,F1,iR,Z,W,W2,W3,D1,D2,G1,e1,hx,hy,ak hi,ak hj,List.length_map,aI,Nat.reduceMul,Nat.reduceBEq,Nat.reduceLT,Nat.reduceLeDiff,reduceCtorEq,Nat.reduceEqDiff,Nat.reduceAdd,Nat.beq]
      rw [ih (oV hp hi c1 (by rw [hpv];exact hb)) _ (by simp only [hi1,aI,Nat.reduceMul,Nat.reduceBEq,Nat.reduceLT,Nat.reduceLeDiff,reduceCtorEq,Nat.reduceEqDiff,Nat.reduceAdd,Nat.beq]<;>rfl)]
  ·have G1:(dF im l[i] != 0)=true:=by simp [c1]
   rw [if_pos c1] at hA
   rw [hA,rY c1]
   simp only [nV,F1,iR,G1,e1,hx,ak hi,List.length_map,aI,Nat.reduceMul,Nat.reduceBEq,Nat.reduceLT,Nat.reduceLeDiff,reduceCtorEq,Nat.reduceEqDiff,Nat.reduceAdd,Nat.beq]
 ·intro rb hp
  have hA:=hp.1
  rw [List.drop_length] at hA
  rw [hA,show DF im (ny l l.length) []=0 by cases ny l l.length<;>rfl]
  rw [OG]
  simp only [nV,Int.lt_irrefl,List.length_map,aI,Nat.reduceMul,Nat.reduceBEq,Nat.reduceLT,Nat.reduceLeDiff,reduceCtorEq,Nat.reduceEqDiff,Nat.reduceAdd,Nat.beq]
theorem ac8 {z:List Int} {l:List jW} (hz:z.length≤lim) (hl:l.length≤lim) (hd:∀ w∈l,w.data.length≤lim) :
  cal env 82 [.list 3 (l.map iL),.list 1 (z.map eI)]=some [(.int .i64 (wkE z l),false)]:=by
 have e1:=OA hz
 unfold wkE
 by_cases c:aX z=0
 ·rw [if_pos c]
  have hr:=DJ c
  have Z:((0:Int) != 0)=false:=rfl
  have hlp:=fun st hst=>ac7 (st:=st) (im:=dH z) (l:=l) (by rw [qm];exact hz) (fun v hv=>by have:=hr v hv;omega) hl hd (afu _ l) hst
  rw [yg c] at hlp
  rw [c] at e1
  rw [ah aa0 rfl];simp only [Ry,aO,Nat.reduceBEq,Nat.reduceLeDiff,Nat.reduceAdd,List.length_cons,List.length_nil]
  simp only [e1,Z,aI,Nat.reduceMul,Nat.reduceBEq,Nat.reduceLT,Nat.reduceLeDiff,reduceCtorEq,Nat.reduceEqDiff,Nat.reduceAdd,Nat.beq]
  rw [hlp]
  rotate_left
  ·simp only [aO,bG,Nat.reduceMul,Nat.reduceBEq,Nat.reduceLT,Nat.reduceLeDiff,Nat.reduceAdd,decide_true,Bool.and_self,Bool.true_and]<;>rfl
  ·unfold resE
   split
   ·rename_i c
    rw [c]
    simp only [aI,Nat.reduceMul,Nat.reduceBEq,Nat.reduceLT,Nat.reduceLeDiff,reduceCtorEq,Nat.reduceEqDiff,Nat.reduceAdd,Nat.beq]
   ·simp only [aI,Nat.reduceMul,Nat.reduceBEq,Nat.reduceLT,Nat.reduceLeDiff,reduceCtorEq,Nat.reduceEqDiff,Nat.reduceAdd,Nat.beq]
 ·rw [if_neg c]
  have Z:(aX z != 0)=true:=by simp [c]
  rw [ah aa0 rfl];simp only [Ry,aO,Nat.reduceBEq,Nat.reduceLeDiff,Nat.reduceAdd,List.length_cons,List.length_nil]
  simp only [e1,Z,aI,Nat.reduceMul,Nat.reduceBEq,Nat.reduceLT,Nat.reduceLeDiff,reduceCtorEq,Nat.reduceEqDiff,Nat.reduceAdd,Nat.beq]
def ckC (z:List Int) (b n t:Int) (p:List Int) (w:List jW):Int:=if aX z=0 then (if JI b n t p=0 then DF (dH z) none w else JI b n t p) else aX z
theorem ac9 {z:List Int} {b n t:Int} {p:List Int} {w:List jW} (hz:z.length≤lim) (hl:w.length≤lim) (hd:∀ x∈w,x.data.length≤lim) (hp:p.length≤20) :
  cal env 42 [wM b n t p w,.list 1 (z.map eI)]=some [(.int .i64 (ckC z b n t p w),false)]:=by
 have e1:=Xa hz
 by_cases cz:aX z=0
 rotate_left
 ·rw [if_neg cz] at e1
  have Z:(aX z != 0)=true:=by simp [cz]
  unfold wM ckC
  rw [if_neg cz]
  rw [ah Jy rfl];simp only [Fg];simp only [start,aG,aN,aC,aK,aA,aB,aF,aJ,Nat.reduceAdd,Nat.reduceSub]
  simp only [e1,Z,aY,reduceCtorEq,Nat.reduceEqDiff,Nat.reduceAdd,Nat.reduceLT,Nat.reduceLeDiff,Nat.beq]
 rw [cz,if_pos rfl] at e1
 have e4:=ac6 hz hl hd
 rw [wkE,if_pos cz] at e4
 have hk:ckC z b n t p w=if JI b n t p=0 then DF (dH z) none w else JI b n t p:=if_pos cz
 rw [hk]
 clear hk
 generalize DF (dH z) none w=E at *
 have e2:=XD (n:=t) (a:=0) (b:=1073741824)
 have e3:=afs hp
 have Z:((0:Int) != 0)=false:=rfl
 unfold wM JI
 by_cases c1:b<0∨n≤b∨n > 1073741824
 ·rw [if_pos c1,if_neg (by decide)]
  rw [ah Jy rfl];simp only [Fg];simp only [start,aG,aN,aC,aK,aA,aB,aF,aJ,Nat.reduceAdd,Nat.reduceSub]
  simp only [e1,Z,aY,reduceCtorEq,Nat.reduceEqDiff,Nat.reduceAdd,Nat.reduceLT,Nat.reduceLeDiff,Nat.beq]
  by_cases d1:b<0
  ·simp only [eq_true d1,aY,reduceCtorEq,Nat.reduceEqDiff,Nat.reduceAdd,Nat.reduceLT,Nat.reduceLeDiff,Nat.beq]
  ·have d1:=eq_false d1
   by_cases d2:n≤b
   ·simp only [d1,eq_true d2,aY,reduceCtorEq,Nat.reduceEqDiff,Nat.reduceAdd,Nat.reduceLT,Nat.reduceLeDiff,Nat.beq]
   ·have d3:n > 1073741824:=by simp only [d1,false_or] at c1;omega
    simp only [d1,eq_false d2,eq_true d3,aY,reduceCtorEq,Nat.reduceEqDiff,Nat.reduceAdd,Nat.reduceLT,Nat.reduceLeDiff,Nat.beq]
 ·rw [if_neg c1]
  have G1:(b<0)=False:=eq_false (by omega)
  have G2:(n≤b)=False:=eq_false (by omega)
  have G3:(n > 1073741824)=False:=eq_false (by omega)
  by_cases c2:t<0∨t > 1073741824
  ·rw [if_pos c2,if_neg (by decide)]
   have G4:(decide ((0:Int)≤t)&&decide (t≤1073741824))=false:=by simp;omega
   rw [G4] at e2
   rw [ah Jy rfl];simp only [Fg];simp only [start,aG,aN,aC,aK,aA,aB,aF,aJ,Nat.reduceAdd,Nat.reduceSub]
   simp only [e1,e2,G1,G2,G3,Z,aY,reduceCtorEq,Nat.reduceEqDiff,Nat.reduceAdd,Nat.reduceLT,Nat.reduceLeDiff,Nat.beq]
  ·rw [if_neg c2]
   have G4:(decide ((0:Int)≤t)&&decide (t≤1073741824))=true:=by simp;omega
   rw [G4] at e2
   by_cases c3:Sz p=0
   ·rw [c3] at e3
    rw [c3,if_pos rfl]
    rw [ah Jy rfl];simp only [Fg];simp only [start,aG,aN,aC,aK,aA,aB,aF,aJ,Nat.reduceAdd,Nat.reduceSub]
    simp only [e1,e2,e3,e4,G1,G2,G3,Z,aY,reduceCtorEq,Nat.reduceEqDiff,Nat.reduceAdd,Nat.reduceLT,Nat.reduceLeDiff,Nat.beq]
   ·have G5:(Sz p != 0)=true:=by simp [c3]
    rw [if_neg c3]
    rw [ah Jy rfl];simp only [Fg];simp only [start,aG,aN,aC,aK,aA,aB,aF,aJ,Nat.reduceAdd,Nat.reduceSub]
    simp only [e1,e2,e3,G1,G2,G3,G5,Z,aY,reduceCtorEq,Nat.reduceEqDiff,Nat.reduceAdd,Nat.reduceLT,Nat.reduceLeDiff,Nat.beq]
theorem ada {z:List Int} {b n t:Int} {p:List Int} {w:List jW} (hz:z.length≤lim) (hl:w.length≤lim) (hd:∀ x∈w,x.data.length≤lim) (hp:p.length≤20) :
  cal env 46 [wM b n t p w,.list 1 (z.map eI)]=some [(.int .i64 (ckC z b n t p w),false)]:=by
 have e1:=OA hz
 by_cases cz:aX z=0
 rotate_left
 ·skip
  have Z:(aX z != 0)=true:=by simp [cz]
  unfold wM ckC
  rw [if_neg cz]
  rw [ah Ak rfl];simp only [zY];simp only [start,aG,aN,aC,aK,aA,aB,aF,aJ,Nat.reduceAdd,Nat.reduceSub]
  simp only [e1,Z,aY,reduceCtorEq,Nat.reduceEqDiff,Nat.reduceAdd,Nat.reduceLT,Nat.reduceLeDiff,Nat.beq]
 rw [cz] at e1
 have e4:=ac8 hz hl hd
 rw [wkE,if_pos cz] at e4
 have hk:ckC z b n t p w=if JI b n t p=0 then DF (dH z) none w else JI b n t p:=if_pos cz
 rw [hk]
 clear hk
 generalize DF (dH z) none w=E at *
 have e3:=aft (l:=p) (Nat.le_trans hp (by decide))
 have Z:((0:Int) != 0)=false:=rfl
 unfold wM JI Sz
 by_cases c1:b<0∨n≤b∨n > 1073741824
 ·rw [if_pos c1,if_neg (by decide)]
  rw [ah Ak rfl];simp only [zY];simp only [start,aG,aN,aC,aK,aA,aB,aF,aJ,Nat.reduceAdd,Nat.reduceSub]
  simp only [e1,Z,aY,reduceCtorEq,Nat.reduceEqDiff,Nat.reduceAdd,Nat.reduceLT,Nat.reduceLeDiff,Nat.beq]
  by_cases d1:b<0
  ·simp only [eq_true d1,aY,reduceCtorEq,Nat.reduceEqDiff,Nat.reduceAdd,Nat.reduceLT,Nat.reduceLeDiff,Nat.beq]
  ·have d1:=eq_false d1
   by_cases d2:n≤b
   ·simp only [d1,eq_true d2,aY,reduceCtorEq,Nat.reduceEqDiff,Nat.reduceAdd,Nat.reduceLT,Nat.reduceLeDiff,Nat.beq]
   ·have d3:n > 1073741824:=by simp only [d1,false_or] at c1;omega
    simp only [d1,eq_false d2,eq_true d3,aY,reduceCtorEq,Nat.reduceEqDiff,Nat.reduceAdd,Nat.reduceLT,Nat.reduceLeDiff,Nat.beq]
 ·rw [if_neg c1]
  have G1:(b<0)=False:=eq_false (by omega)
  have G2:(n≤b)=False:=eq_false (by omega)
  have G3:(n > 1073741824)=False:=eq_false (by omega)
  by_cases d1:t<0
  ·rw [if_pos (Or.inl d1:t<0∨t > 1073741824),if_neg (by decide)]
   have D1:(t<0)=True:=eq_true d1
   rw [ah Ak rfl];simp only [zY];simp only [start,aG,aN,aC,aK,aA,aB,aF,aJ,Nat.reduceAdd,Nat.reduceSub]
   simp only [e1,G1,G2,G3,D1,Z,aY,reduceCtorEq,Nat.reduceEqDiff,Nat.reduceAdd,Nat.reduceLT,Nat.reduceLeDiff,Nat.beq]
  ·have D1:(t<0)=False:=eq_false d1
   by_cases d2:t > 1073741824
   ·rw [if_pos (Or.inr d2:t<0∨t > 1073741824),if_neg (by decide)]
    have D2:(t > 1073741824)=True:=eq_true d2
    rw [ah Ak rfl];simp only [zY];simp only [start,aG,aN,aC,aK,aA,aB,aF,aJ,Nat.reduceAdd,Nat.reduceSub]
    simp only [e1,G1,G2,G3,D1,D2,Z,aY,reduceCtorEq,Nat.reduceEqDiff,Nat.reduceAdd,Nat.reduceLT,Nat.reduceLeDiff,Nat.beq]
   ·rw [if_neg (show ¬ (t<0∨t > 1073741824) by omega)]
    have D2:(t > 1073741824)=False:=eq_false d2
    by_cases c3:8<p.length
    ·have D3:((p.length:Int) > 8)=True:=eq_true (by omega)
     rw [if_pos c3,if_neg (by decide)]
     rw [ah Ak rfl];simp only [zY];simp only [start,aG,aN,aC,aK,aA,aB,aF,aJ,Nat.reduceAdd,Nat.reduceSub]
     simp only [e1,G1,G2,G3,D1,D2,D3,List.length_map,Z,aY,reduceCtorEq,Nat.reduceEqDiff,Nat.reduceAdd,Nat.reduceLT,Nat.reduceLeDiff,Nat.beq]
    ·have D3:((p.length:Int) > 8)=False:=eq_false (by omega)
     rw [if_neg c3]
     cases c4:p.any tX with
     |true =>
      rw [c4] at e3
      rw [if_pos rfl,if_neg (by decide)]
      have e3:cal env 81 [.list 1 (p.map eI)]=some [(.int .i64 2,false)]:=e3
      have Z2:((2:Int) != 0)=true:=rfl
      rw [ah Ak rfl];simp only [zY];simp only [start,aG,aN,aC,aK,aA,aB,aF,aJ,Nat.reduceAdd,Nat.reduceSub]
      simp only [e1,e3,G1,G2,G3,D1,D2,D3,List.length_map,Z,Z2,aY,reduceCtorEq,Nat.reduceEqDiff,Nat.reduceAdd,Nat.reduceLT,Nat.reduceLeDiff,Nat.beq]
     |false =>
      rw [c4] at e3
      rw [show (if false=true then (2:Int) else 0)=0 from rfl,if_pos rfl]
      have e3:cal env 81 [.list 1 (p.map eI)]=some [(.int .i64 0,false)]:=e3
      rw [ah Ak rfl];simp only [zY];simp only [start,aG,aN,aC,aK,aA,aB,aF,aJ,Nat.reduceAdd,Nat.reduceSub]
      simp only [e1,e3,e4,G1,G2,G3,D1,D2,D3,List.length_map,Z,aY,reduceCtorEq,Nat.reduceEqDiff,Nat.reduceAdd,Nat.reduceLT,Nat.reduceLeDiff,Nat.beq]
end Go.Proofs.YtpcncggjmabnaaaGreatDoor.V

namespace Go.Proofs.YtpcncggjmabnaaaGreatDoor.V
def aar (n:Nat) (t:Bool) (bx:List Box):Option (Ex × St):=if t then some (.normal,⟨sl n [(4,.any)],bx,[],none⟩) else some (.ret,⟨sl n [(4,.pv (.bool false))],bx,[],none⟩)
theorem XF (n:Nat) (bx:List Box):aar n true bx=some (.normal,⟨sl n [(4,.any)],bx,[],none⟩):=rfl
theorem XG (n:Nat) (bx:List Box):aar n false bx=some (.ret,⟨sl n [(4,.pv (.bool false))],bx,[],none⟩):=rfl
theorem XH {α:Type} [DecidableEq α] {a b:List α} {i:Nat} (hi:i<a.length) (hj:i<b.length):decide (a.drop i=b.drop i)=(decide (a[i]=b[i])&&decide (a.drop (i+1)=b.drop (i+1))):=by
 rw [List.drop_eq_getElem_cons hi,List.drop_eq_getElem_cons hj,Bool.eq_iff_iff]
 simp only [List.cons.injEq,decide_eq_true_eq,Bool.and_eq_true]
def OI (a b:Bm):Bool:=decide (a.size=b.size)&&decide (a.ws=b.ws)
theorem SA {a b:Bm}:OI a b=true ↔ a=b:=by
 unfold OI
 obtain ⟨x,y⟩:=a
 obtain ⟨z,w⟩:=b
 simp
theorem adb {a b:Bm} (hl:a.ws.length≤lim) (hab:a.ws.length=b.ws.length) {st:St} (h:st.head [2,3,5] st.boxes.length=some ⟨sl 38 [(2,.aS 0 0),(3,.aS 1 0),(5,.pv (.int .i64 (0:Nat)))],[⟨false,[.pv (.int .i64 a.size),.pv (.list 1 (a.ws.map eW))]⟩,⟨false,[.pv (.int .i64 b.size),.pv (.list 1 (b.ws.map eW))]⟩],[],none⟩) :
  den env Gg st=aar 38 (decide (a.ws.drop ((0:Nat))=b.ws.drop ((0:Nat)))) [⟨false,[.pv (.int .i64 a.size),.pv (.list 1 (a.ws.map eW))]⟩,⟨false,[.pv (.int .i64 b.size),.pv (.list 1 (b.ws.map eW))]⟩]:=by
 unfold Gg
 refine bF (env:=env) (nb:=2) (a.ws.length) (fun i=>⟨sl 38 [(2,.aS 0 0),(3,.aS 1 0),(5,.pv (.int .i64 i))],[⟨false,[.pv (.int .i64 a.size),.pv (.list 1 (a.ws.map eW))]⟩,⟨false,[.pv (.int .i64 b.size),.pv (.list 1 (b.ws.map eW))]⟩],[],none⟩) (fun i=>aar 38 (decide (a.ws.drop (i)=b.ws.drop (i))) [⟨false,[.pv (.int .i64 a.size),.pv (.list 1 (a.ws.map eW))]⟩,⟨false,[.pv (.int .i64 b.size),.pv (.list 1 (b.ws.map eW))]⟩]) h (fun _=>rfl) (fun _=>by simp only [aO,bG,Nat.reduceMul,Nat.reduceBEq,Nat.reduceLT,Nat.reduceLeDiff,Nat.reduceAdd,decide_true,Bool.and_self,Bool.true_and]) ?_ ?_
 ·intro i rb hi ih
  have hi1:=bH hi hl
  have hj:i<b.ws.length:=by omega
  have F1:((i:Int)<(a.ws.length:Int))=True:=eq_true (by omega)
  have B:=OC a.ws[i] b.ws[i]
  have B':((a.ws[i].toNat:Int) != (b.ws[i].toNat:Int))=!decide (a.ws[i]=b.ws[i]):=by unfold bne;rw [B]
  rw [XH hi hj]
  have gx:(a.ws.map eW)[i]?=some (.int .u64 (a.ws[i].toNat:Int)):=by rw [List.getElem?_map,List.getElem?_eq_getElem hi];rfl
  have gy:(b.ws.map eW)[i]?=some (.int .u64 (b.ws[i].toNat:Int)):=by rw [List.getElem?_map,List.getElem?_eq_getElem hj];rfl
  cases c:decide (a.ws[i]=b.ws[i]) with
  |true =>
   rw [c] at B'
   rw [Bool.true_and]
   simp only [yT,F1,B',gx,gy,ak hi,ak hj,List.length_map,aI,Nat.reduceMul,Nat.reduceBEq,Nat.reduceLT,Nat.reduceLeDiff,reduceCtorEq,Nat.reduceEqDiff,Nat.reduceAdd,Nat.beq]
   rw [ih _ (by simp only [hi1,aI,Nat.reduceMul,Nat.reduceBEq,Nat.reduceLT,Nat.reduceLeDiff,reduceCtorEq,Nat.reduceEqDiff,Nat.reduceAdd,Nat.beq]<;>rfl)]
  |false =>
   rw [c] at B'
   rw [Bool.false_and,XG]
   simp only [yT,F1,B',gx,gy,ak hi,ak hj,List.length_map,aI,Nat.reduceMul,Nat.reduceBEq,Nat.reduceLT,Nat.reduceLeDiff,reduceCtorEq,Nat.reduceEqDiff,Nat.reduceAdd,Nat.beq]
 ·intro rb
  rw [List.drop_length,hab,List.drop_length,decide_eq_true rfl,XF]
  simp only [yT,Int.lt_irrefl,List.length_map,hab,aI,Nat.reduceMul,Nat.reduceBEq,Nat.reduceLT,Nat.reduceLeDiff,reduceCtorEq,Nat.reduceEqDiff,Nat.reduceAdd,Nat.beq]
theorem afv {a b:Bm} (hl:a.ws.length≤lim):cal env 71 [iZ a,iZ b]=some [(.bool (OI a b),false)]:=by
 have eA:∀ b:Bm,iZ b=.agg [.int .i64 b.size,.list 1 (b.ws.map eW)]:=fun _=>rfl
 rw [eA,eA]
 unfold OI
 by_cases c0:a.size=b.size
 ·have F0:(a.size != b.size)=false:=by simp [c0]
  rw [decide_eq_true c0,Bool.true_and]
  by_cases c1:a.ws.length=b.ws.length
  ·have F1:((a.ws.length:Int) != (b.ws.length:Int))=false:=by simp [c1]
   rw [ah WU rfl];simp only [Nh,aO,Nat.reduceBEq,Nat.reduceLeDiff,Nat.reduceAdd,List.length_cons,List.length_nil]
   simp only [F0,F1,List.length_map,aI,Nat.reduceMul,Nat.reduceBEq,Nat.reduceLT,Nat.reduceLeDiff,reduceCtorEq,Nat.reduceEqDiff,Nat.reduceAdd,Nat.beq]
   rw [adb (a:=a) (b:=b) hl c1]
   rotate_left
   ·simp only [aO,bG,Nat.reduceMul,Nat.reduceBEq,Nat.reduceLT,Nat.reduceLeDiff,Nat.reduceAdd,decide_true,Bool.and_self,Bool.true_and]<;>rfl
   ·rw [List.drop_zero,List.drop_zero]
    cases decide (a.ws=b.ws) with
    |true=>rw [XF];simp only [F0,F1,List.length_map,aI,Nat.reduceMul,Nat.reduceBEq,Nat.reduceLT,Nat.reduceLeDiff,reduceCtorEq,Nat.reduceEqDiff,Nat.reduceAdd,Nat.beq]
    |false=>rw [XG];simp only [F0,F1,List.length_map,aI,Nat.reduceMul,Nat.reduceBEq,Nat.reduceLT,Nat.reduceLeDiff,reduceCtorEq,Nat.reduceEqDiff,Nat.reduceAdd,Nat.beq]
  ·have F1:((a.ws.length:Int) != (b.ws.length:Int))=true:=by rw [bne_iff_ne];omega
   rw [decide_eq_false (fun h=>c1 (by rw [h]))]
   rw [ah WU rfl];simp only [Nh,aO,Nat.reduceBEq,Nat.reduceLeDiff,Nat.reduceAdd,List.length_cons,List.length_nil]
   simp only [F0,F1,List.length_map,aI,Nat.reduceMul,Nat.reduceBEq,Nat.reduceLT,Nat.reduceLeDiff,reduceCtorEq,Nat.reduceEqDiff,Nat.reduceAdd,Nat.beq]
 ·have F0:(a.size != b.size)=true:=by simpa using c0
  rw [decide_eq_false c0,Bool.false_and]
  rw [ah WU rfl];simp only [Nh,aO,Nat.reduceBEq,Nat.reduceLeDiff,Nat.reduceAdd,List.length_cons,List.length_nil]
  simp only [F0,aI,Nat.reduceMul,Nat.reduceBEq,Nat.reduceLT,Nat.reduceLeDiff,reduceCtorEq,Nat.reduceEqDiff,Nat.reduceAdd,Nat.beq]
end Go.Proofs.YtpcncggjmabnaaaGreatDoor.V

namespace Go.Proofs.YtpcncggjmabnaaaGreatDoor.V
theorem ade {a b:List nK} (hl:a.length≤lim) (hab:a.length=b.length) {st:St} (h:st.head [0,1,5] st.boxes.length=some ⟨[.pv (.list 8 (a.map lW)),.pv (.list 8 (b.map lW)),.any,.any,.any,.pv (.int .i64 (0:Nat)),.any,.any,.any,.any,.any,.any,.any,.any,.any,.any,.any,.any,.any,.any,.any,.any,.any,.any,.any,.any],[],[],none⟩) :
  den env Gn st=if a=b then some (.normal,⟨[.any,.any,.any,.any,.any,.any,.any,.any,.any,.any,.any,.any,.any,.any,.any,.any,.any,.any,.any,.any,.any,.any,.any,.any,.any,.any],[],[],none⟩) else some (.ret,⟨[.any,.any,.any,.any,.pv (.bool false),.any,.any,.any,.any,.any,.any,.any,.any,.any,.any,.any,.any,.any,.any,.any,.any,.any,.any,.any,.any,.any],[],[],none⟩):=by
 unfold Gn
 rw [ bF (env:=env) (a.length) (fun i=>⟨[.pv (.list 8 (a.map lW)),.pv (.list 8 (b.map lW)),.any,.any,.any,.pv (.int .i64 i),.any,.any,.any,.any,.any,.any,.any,.any,.any,.any,.any,.any,.any,.any,.any,.any,.any,.any,.any,.any],[],[],none⟩) (fun i=>if a.drop i=b.drop i then some (.normal,⟨[.any,.any,.any,.any,.any,.any,.any,.any,.any,.any,.any,.any,.any,.any,.any,.any,.any,.any,.any,.any,.any,.any,.any,.any,.any,.any],[],[],none⟩) else some (.ret,⟨[.any,.any,.any,.any,.pv (.bool false),.any,.any,.any,.any,.any,.any,.any,.any,.any,.any,.any,.any,.any,.any,.any,.any,.any,.any,.any,.any,.any],[],[],none⟩)) h (fun _=>rfl) (fun _=>rfl) ?_ ?_]
 ·first|rfl|simp only [List.drop_zero,List.take_zero,List.map_nil,Nat.zero_add,List.nil_append,List.foldl_nil]
 ·intro i rb hi ih
  have hi1:=bH hi hl
  have hj:i<b.length:=by omega
  have F1:((i:Int)<(a.length:Int))=True:=eq_true (by omega)
  rw [List.drop_eq_getElem_cons hi,List.drop_eq_getElem_cons hj]
  by_cases hd:a[i]=b[i]
  ·simp only [yX,F1,lW,ak hi,ak hj,List.getElem?_map,List.getElem?_eq_getElem hi,List.getElem?_eq_getElem hj,Jz,kD,xY,hd,decide_true,aY,reduceCtorEq,Nat.reduceEqDiff,Nat.reduceAdd,Nat.reduceLT,Nat.reduceLeDiff,Nat.beq]
   rw [ih _ (by simp only [hi1];rfl)]
   simp only [List.cons.injEq,true_and]
  ·have hdf:=decide_eq_false hd
   simp only [yX,F1,lW,ak hi,ak hj,List.getElem?_map,List.getElem?_eq_getElem hi,List.getElem?_eq_getElem hj,Jz,kD,xY,hdf,aY,reduceCtorEq,Nat.reduceEqDiff,Nat.reduceAdd,Nat.reduceLT,Nat.reduceLeDiff,Nat.beq]
   rw [if_neg (fun e=>hd (List.cons.inj e).1)]
   rfl
 ·intro rb
  simp only [yX,Int.lt_irrefl,aY,reduceCtorEq,Nat.reduceEqDiff,Nat.reduceAdd,Nat.reduceLT,Nat.reduceLeDiff,Nat.beq]
  rw [List.drop_length,hab,List.drop_length,if_pos rfl]
  rfl
theorem afw {a b:List nK} (hl:a.length≤lim):cal env 93 [.list 8 (a.map lW),.list 8 (b.map lW)]=some [(.bool (decide (a=b)),false)]:=by
 rw [ah afc rfl];simp only [V3];simp only [start,aG,aN,aC,aK,aA,aB,aF,aJ,Nat.reduceAdd,Nat.reduceSub]
 by_cases hab:a.length=b.length
 ·have G:(((a.length:Int)) != (b.length:Int))=false:=by simp;omega
  simp only [G,aY,reduceCtorEq,Nat.reduceEqDiff,Nat.reduceAdd,Nat.reduceLT,Nat.reduceLeDiff,Nat.beq]
  rw [ade hl hab]
  rotate_left
  ·rfl
  ·by_cases e:a=b<;>simp only [e,aY,reduceCtorEq,Nat.reduceEqDiff,Nat.reduceAdd,Nat.reduceLT,Nat.reduceLeDiff,Nat.beq]
 ·have G:(((a.length:Int)) != (b.length:Int))=true:=by simp;omega
  have:a≠b:=fun e=>hab (by rw [e])
  have hdf:=decide_eq_false this
  simp only [G,hdf,aY,reduceCtorEq,Nat.reduceEqDiff,Nat.reduceAdd,Nat.reduceLT,Nat.reduceLeDiff,Nat.beq]
theorem adf {a:List jW} (hl:a.length≤lim) (hd:∀ x∈a,x.data.length≤lim) {st:St} (h:st.head [0,1,5] st.boxes.length=some ⟨[.pv (.list 3 (a.map iL)),.pv (.list 3 (a.map iL)),.any,.any,.any,.pv (.int .i64 (0:Nat)),.any,.any,.any,.any,.any,.any,.any,.any,.any,.any,.any,.any,.any,.any,.any,.any,.any,.any,.any,.any,.any,.any,.any,.any,.any,.any,.any,.any,.any,.any,.any,.any,.any,.any,.any,.any,.any,.any,.any,.any,.any,.any,.any,.any,.any,.any,.any,.any,.any],[],[],none⟩) :
  den env FH st=some (.normal,⟨[.any,.any,.any,.any,.any,.any,.any,.any,.any,.any,.any,.any,.any,.any,.any,.any,.any,.any,.any,.any,.any,.any,.any,.any,.any,.any,.any,.any,.any,.any,.any,.any,.any,.any,.any,.any,.any,.any,.any,.any,.any,.any,.any,.any,.any,.any,.any,.any,.any,.any,.any,.any,.any,.any,.any],[],[],none⟩):=by
 unfold FH
 refine bF (env:=env) (a.length) (fun i=>⟨[.pv (.list 3 (a.map iL)),.pv (.list 3 (a.map iL)),.any,.any,.any,.pv (.int .i64 i),.any,.any,.any,.any,.any,.any,.any,.any,.any,.any,.any,.any,.any,.any,.any,.any,.any,.any,.any,.any,.any,.any,.any,.any,.any,.any,.any,.any,.any,.any,.any,.any,.any,.any,.any,.any,.any,.any,.any,.any,.any,.any,.any,.any,.any,.any,.any,.any,.any],[],[],none⟩) (fun i=>some (.normal,⟨[.any,.any,.any,.any,.any,.any,.any,.any,.any,.any,.any,.any,.any,.any,.any,.any,.any,.any,.any,.any,.any,.any,.any,.any,.any,.any,.any,.any,.any,.any,.any,.any,.any,.any,.any,.any,.any,.any,.any,.any,.any,.any,.any,.any,.any,.any,.any,.any,.any,.any,.any,.any,.any,.any,.any],[],[],none⟩)) h (fun _=>rfl) (fun _=>rfl) ?_ ?_
 ·intro i rb hi ih
  have hi1:=bH hi hl
  have F1:((i:Int)<(a.length:Int))=True:=eq_true (by omega)
  have e1:=afw (b:=a[i].data) (hd _ (List.getElem_mem hi))
  have F2:∀ n:Int,(n != n)=false:=fun n=>by simp
  simp only [FD,F1,F2,e1,iL,ak hi,List.getElem?_map,List.getElem?_eq_getElem hi,Option.map_some,decide_true,aY,reduceCtorEq,Nat.reduceEqDiff,Nat.reduceAdd,Nat.reduceLT,Nat.reduceLeDiff,Nat.beq]
  rw [ih _ (by simp only [hi1];rfl)]
 ·intro rb
  simp only [FD,Int.lt_irrefl,aY,reduceCtorEq,Nat.reduceEqDiff,Nat.reduceAdd,Nat.reduceLT,Nat.reduceLeDiff,Nat.beq]
  rfl
theorem afx {a:List jW} (hl:a.length≤lim) (hd:∀ x∈a,x.data.length≤lim):cal env 52 [.list 3 (a.map iL),.list 3 (a.map iL)]=some [(.bool true,false)]:=by
 have G:(((a.length:Int)) != (a.length:Int))=false:=by simp
 rw [ah aeX rfl];simp only [VK];simp only [start,aG,aN,aC,aK,aA,aB,aF,aJ,Nat.reduceAdd,Nat.reduceSub]
 simp only [G,aY,reduceCtorEq,Nat.reduceEqDiff,Nat.reduceAdd,Nat.reduceLT,Nat.reduceLeDiff,Nat.beq]
 rw [adf hl hd]
 rotate_left
 ·rfl
 ·simp only [aY,reduceCtorEq,Nat.reduceEqDiff,Nat.reduceAdd,Nat.reduceLT,Nat.reduceLeDiff,Nat.beq]
end Go.Proofs.YtpcncggjmabnaaaGreatDoor.V

namespace Go.Proofs.YtpcncggjmabnaaaGreatDoor.V
theorem adg {l:List Int} {sz:Nat} (hz:l=[]∨sz=1) (hl:l.length≤lim) {st:St} (h:st.head [0,1,5] st.boxes.length=some ⟨[.pv (.list sz (l.map eI)),.pv (.list sz (l.map eI)),.any,.any,.any,.pv (.int .i64 (0:Nat)),.any,.any,.any,.any,.any,.any,.any,.any,.any,.any,.any,.any,.any,.any,.any,.any,.any,.any,.any,.any],[],[],none⟩) :
  den env Fa st=some (.normal,⟨[.any,.any,.any,.any,.any,.any,.any,.any,.any,.any,.any,.any,.any,.any,.any,.any,.any,.any,.any,.any,.any,.any,.any,.any,.any,.any],[],[],none⟩):=by
 unfold Fa
 refine bF (env:=env) (l.length) (fun i=>⟨[.pv (.list sz (l.map eI)),.pv (.list sz (l.map eI)),.any,.any,.any,.pv (.int .i64 i),.any,.any,.any,.any,.any,.any,.any,.any,.any,.any,.any,.any,.any,.any,.any,.any,.any,.any,.any,.any],[],[],none⟩) (fun i=>some (.normal,⟨[.any,.any,.any,.any,.any,.any,.any,.any,.any,.any,.any,.any,.any,.any,.any,.any,.any,.any,.any,.any,.any,.any,.any,.any,.any,.any],[],[],none⟩)) h (fun _=>rfl) (fun _=>rfl) ?_ ?_
 ·intro i rb hi ih
  have hi1:=bH hi hl
  have hsz:sz=1:=by
   rcases hz with e|e
   ·exfalso;rw [e] at hi;exact Nat.not_lt_zero _ hi
   ·exact e
  subst hsz
  have F1:((i:Int)<(l.length:Int))=True:=eq_true (by omega)
  have F2:∀ n:Int,(n != n)=false:=fun n=>by simp
  simp only [E8,F1,F2,eI,ak hi,List.getElem?_map,List.getElem?_eq_getElem hi,aY,reduceCtorEq,Nat.reduceEqDiff,Nat.reduceAdd,Nat.reduceLT,Nat.reduceLeDiff,Nat.beq]
  rw [ih _ (by simp only [hi1];rfl)]
 ·intro rb
  simp only [E8,Int.lt_irrefl,aY,reduceCtorEq,Nat.reduceEqDiff,Nat.reduceAdd,Nat.reduceLT,Nat.reduceLeDiff,Nat.beq]
  rfl
theorem aa9 {l:List Int} {sz:Nat} (hz:l=[]∨sz=1) (hl:l.length≤lim):cal env 40 [.list sz (l.map eI),.list sz (l.map eI)]=some [(.bool true,false)]:=by
 have G:(((l.length:Int)) != (l.length:Int))=false:=by simp
 rw [ah aeR rfl];simp only [VE];simp only [start,aG,aN,aC,aK,aA,aB,aF,aJ,Nat.reduceAdd,Nat.reduceSub]
 simp only [G,List.length_map,aY,reduceCtorEq,Nat.reduceEqDiff,Nat.reduceAdd,Nat.reduceLT,Nat.reduceLeDiff,Nat.beq]
 rw [adg hz hl]
 rotate_left
 ·rfl
 ·simp only [aY,reduceCtorEq,Nat.reduceEqDiff,Nat.reduceAdd,Nat.reduceLT,Nat.reduceLeDiff,Nat.beq]
theorem abb {b n t:Int} {p:List Int} {w:List jW} (hp:p.length≤lim) (hl:w.length≤lim) (hd:∀ x∈w,x.data.length≤lim):cal env 22 [wM b n t p w,wM b n t p w]=some [(.bool true,false)]:=by
 have e1:=aa9 (sz:=1) (.inr rfl) hp
 have e2:=afx hl hd
 have F2:∀ n:Int,(n==n)=true:=fun n=>by simp
 unfold wM
 rw [ah aeN rfl];simp only [VA];simp only [start,aG,aN,aC,aK,aA,aB,aF,aJ,Nat.reduceAdd,Nat.reduceSub]
 simp only [e1,e2,F2,aY,reduceCtorEq,Nat.reduceEqDiff,Nat.reduceAdd,Nat.reduceLT,Nat.reduceLeDiff,Nat.beq]
end Go.Proofs.YtpcncggjmabnaaaGreatDoor.V

namespace Go.Proofs.YtpcncggjmabnaaaGreatDoor.V
structure mJ where
 lm:Int
 sz:List Int
 cy:List nY
 ov:Bool
 fs:Int
 ls:Int
 dt:List Bm
def oH (s:mJ):PV:=.agg [.int .i64 s.lm,.list 1 (s.sz.map eI),.list 5 (s.cy.map jc),.bool s.ov,.int .i64 s.fs,.int .i64 s.ls,.list 2 (s.dt.map iZ)]
theorem fB (s:mJ):oH s=.agg [.int .i64 s.lm,.list 1 (s.sz.map eI),.list 5 (s.cy.map jc),.bool s.ov,.int .i64 s.fs,.int .i64 s.ls,.list 2 (s.dt.map iZ)]:=rfl
def aas:mJ:=⟨0,[],[],false,0,0,[]⟩
theorem lg:oH aas=.agg [.int .i64 0,.list 1 [],.list 5 [],.bool false,.int .i64 0,.int .i64 0,.list 2 []]:=rfl
theorem fQ (a b c d e f g:PV):part [a,b,c,d,e,f,g] 0 (some 7)=some (.agg [a,b,c,d,e,f,g]):=rfl
theorem fC (a b c d e:PV):part [a,b,c,d,e] 0 (some 5)=some (.agg [a,b,c,d,e]):=rfl
theorem nC (a b:PV):part [a,b] 0 (some 2)=some (.agg [a,b]):=rfl
theorem XI {es:List PV} (hl:es.length≤lim):cal env 39 [.list 1 es]=some [(.list 1 es,true)]:=(yM aeQ).trans (if_pos ⟨rfl,hl⟩)
theorem adh {z:List Int} (hz:z.length≤1000) (hs:∀ x∈z,1≤x∧x≤4096) {st:St} (h:st.head [0,5,6,25] st.boxes.length=some ⟨sl 27 [(0,.pv (.list 1 (z.map eI))),(5,.row 1 ((dH (z.take ((0:Nat)))).map bC)),(6,.pv (.int .i64 (0:Nat))),(25,.any)],[],[],none⟩) :
  den env E5 st=some (.normal,⟨sl 27 [(2,.any),(3,.any),(5,.row 1 ((dH z).map bC))],[],[],none⟩):=by
 unfold E5
 refine bF (env:=env) (z.length) (fun i=>⟨sl 27 [(0,.pv (.list 1 (z.map eI))),(5,.row 1 ((dH (z.take (i))).map bC)),(6,.pv (.int .i64 i)),(25,.any)],[],[],none⟩) (fun i=>some (.normal,⟨sl 27 [(2,.any),(3,.any),(5,.row 1 ((dH z).map bC))],[],[],none⟩)) h (fun _=>rfl) (fun _=>by simp only [aO,bG,Nat.reduceMul,Nat.reduceBEq,Nat.reduceLT,Nat.reduceLeDiff,Nat.reduceAdd,decide_true,Bool.and_self,Bool.true_and]) ?_ ?_
 ·intro i rb hi ih
  have hi1:=bH hi (by unfold lim;omega)
  have F1:((i:Int)<(z.length:Int))=True:=eq_true (by omega)
  have q:=hs _ (List.getElem_mem hi)
  have F2:(0≤z[i])=True:=eq_true (by omega)
  have F3:(z[i]≤z[i])=True:=eq_true (Int.le_refl _)
  have F4:(z[i]≤(lim:Int))=True:=eq_true (by unfold lim;omega)
  have hx:(z.map eI)[i]?=some (.int .i64 z[i]):=by rw [List.getElem?_map,List.getElem?_eq_getElem hi];rfl
  have F5:(((dH (z.take i)).map bC).length+1≤lim)=True:=eq_true (by rw [List.length_map,qm,List.length_take];unfold lim;omega)
  have hs2:(dH (z.take (i+1))).map bC=(dH (z.take i)).map bC++[.list 8 (List.replicate z[i].toNat (.agg [.int .u8 0,.int .u8 0,.int .u8 0,.int .u8 0,.int .u8 0,.int .u8 0,.int .u8 0,.int .u8 0]))]:=by
   rw [List.take_succ_eq_append_getElem hi]
   unfold dH
   rw [List.map_append,List.map_append]
   congr 1
   simp only [List.map_cons,List.map_nil,bC,List.map_replicate]
   rfl
  rw [hs2] at ih
  simp only [EZ,F1,F2,F3,F4,F5,hx,ak hi,List.length_map,aI,Nat.reduceMul,Nat.reduceBEq,Nat.reduceLT,Nat.reduceLeDiff,reduceCtorEq,Nat.reduceEqDiff,Nat.reduceAdd,Nat.beq] at *
  simp only [F5,aI,Nat.reduceMul,Nat.reduceBEq,Nat.reduceLT,Nat.reduceLeDiff,reduceCtorEq,Nat.reduceEqDiff,Nat.reduceAdd,Nat.beq]
  rw [ih _ (by simp only [hi1,aI,Nat.reduceMul,Nat.reduceBEq,Nat.reduceLT,Nat.reduceLeDiff,reduceCtorEq,Nat.reduceEqDiff,Nat.reduceAdd,Nat.beq]<;>rfl)]
 ·intro rb
  rw [List.take_length]
  simp only [EZ,Int.lt_irrefl,List.length_map,aI,Nat.reduceMul,Nat.reduceBEq,Nat.reduceLT,Nat.reduceLeDiff,reduceCtorEq,Nat.reduceEqDiff,Nat.reduceAdd,Nat.beq]
theorem afy {z:List Int} (hz:z.length≤1000):cal env 31 [.list 1 (z.map eI)]=some [(.list 1 ((if aX z=0 then dH z else []).map bC),true),(.int .i64 (aX z),false)]:=by
 have e1:=OA (l:=z) (by unfold lim;omega)
 by_cases c:aX z=0
 ·have hs:∀ x∈z,1≤x∧x≤4096:=by
   intro x hx
   have h:=c
   unfold aX at h
   split at h
   ·omega
   ·split at h
    ·omega
    ·rename_i h2
     simp only [List.any_eq_true,not_exists,not_and,Bool.not_eq_true] at h2
     have:=h2 x hx
     simp at this
     omega
  rw [c] at e1
  rw [if_pos c,c]
  have Z:((0:Int) != 0)=false:=rfl
  rw [ah aaT rfl];simp only [Rn,aO,Nat.reduceBEq,Nat.reduceLeDiff,Nat.reduceAdd,List.length_cons,List.length_nil]
  simp only [e1,Z,aI,Nat.reduceMul,Nat.reduceBEq,Nat.reduceLT,Nat.reduceLeDiff,reduceCtorEq,Nat.reduceEqDiff,Nat.reduceAdd,Nat.beq]
  rw [adh hz hs (by simp only [aO,bG,Nat.reduceMul,Nat.reduceBEq,Nat.reduceLT,Nat.reduceLeDiff,Nat.reduceAdd,decide_true,Bool.and_self,Bool.true_and]<;>rfl)]
  simp only [e1,Z,aI,Nat.reduceMul,Nat.reduceBEq,Nat.reduceLT,Nat.reduceLeDiff,reduceCtorEq,Nat.reduceEqDiff,Nat.reduceAdd,Nat.beq]
 ·rw [if_neg c]
  have Z:(aX z != 0)=true:=by simp [c]
  rw [ah aaT rfl];simp only [Rn,aO,Nat.reduceBEq,Nat.reduceLeDiff,Nat.reduceAdd,List.length_cons,List.length_nil]
  simp only [e1,Z,aI,Nat.reduceMul,Nat.reduceBEq,Nat.reduceLT,Nat.reduceLeDiff,reduceCtorEq,Nat.reduceEqDiff,Nat.reduceAdd,Nat.beq]
end Go.Proofs.YtpcncggjmabnaaaGreatDoor.V
