/-
  Part 5 of the texts that the statement stands on.
-/
import Derived.Test.YtaaokejjmdbfaaaDoorZ4
import Derived.ProofKit
import Derived.SizedLaws
import Derived.OpenShut
import Derived.Deep.Strs
import Derived.Test.YtaaokejjmdbfaaaDoorRows
import Derived.WalkSmall
import Derived.WalkSpells
import Derived.Lib.SliceRun
set_option linter.all false
namespace Go.Proofs.YtaaokejjmdbfaaaDoor.V
structure Pt where
 site:Int
 lin:List GL
 dirty:List Bm
 img:kC
def eP (p:Pt):PV:=.agg [.int .i64 p.site,.list 3 (p.lin.map vU),.list 2 (p.dirty.map jU),.list 1 (p.img.map aY)]
def yK (p:Pt):List BV:=[.pv (.int .i64 p.site),.pv (.list 3 (p.lin.map vU)),.pv (.list 2 (p.dirty.map jU)),.pv (.list 1 (p.img.map aY))]
theorem eY (p:Pt):yK p=[.pv (.int .i64 p.site),.pv (.list 3 (p.lin.map vU)),.pv (.list 2 (p.dirty.map jU)),.pv (.list 1 (p.img.map aY))]:=rfl
theorem gK (p:Pt):eP p=.agg [.int .i64 p.site,.list 3 (p.lin.map vU),.list 2 (p.dirty.map jU),.list 1 (p.img.map aY)]:=rfl
def WG (p:Pt):Prop:=p.lin.length≤lim∧p.dirty.length≤lim∧p.img.length≤lim
def xg:List Bm→kC→Int
 |b :: bs,v :: vs=>if DR b≠0 then DR b else if b.size≠(v.length:Int) then 22 else xg bs vs
 |_,_=>0
def nR (p:Pt):Int :=
 if p.site<0∨1073741824<p.site then 2
 else if GN p.lin=false then 3
 else if gW p.img≠0 then gW p.img
 else if p.dirty.length≠p.img.length then 6
 else xg p.dirty p.img
def resD (n:Nat) (e:Int) (bx:List Box):Option (Ex × St):=if e=0 then some (.normal,⟨sl n [(2,.any)],bx,[],none⟩) else some (.ret,⟨sl n [(2,.pv (.int .i64 e))],bx,[],none⟩)
theorem WH {bs:List Bm} {vs:kC} {i:Nat} (h1:i<bs.length) (h2:i<vs.length):xg (bs.drop i) (vs.drop i)=if DR bs[i]≠0 then DR bs[i] else if bs[i].size≠(vs[i].length:Int) then 22 else xg (bs.drop (i+1)) (vs.drop (i+1)):=by
 rw [List.drop_eq_getElem_cons h1,List.drop_eq_getElem_cons h2,xg]
theorem ags {p:Pt} (hl:p.dirty.length≤lim) (hq:p.dirty.length=p.img.length) {st:St} (h:st.head [1,31,32,33] st.boxes.length=some ⟨sl 53 [(1,.aA 0 0),(31,.pv (.list 2 (p.dirty.map jU))),(32,.pv (.int .i64 p.dirty.length)),(33,.pv (.int .i64 (0:Nat)))],[⟨false,yK p⟩],[],none⟩) :
  den env IZ st=resD 53 (xg (p.dirty.drop ((0:Nat))) (p.img.drop ((0:Nat)))) [⟨false,yK p⟩]:=by
 unfold IZ
 refine bJ (env:=env) (nb:=1) (p.dirty.length) (fun i=>⟨sl 53 [(1,.aA 0 0),(31,.pv (.list 2 (p.dirty.map jU))),(32,.pv (.int .i64 p.dirty.length)),(33,.pv (.int .i64 i))],[⟨false,yK p⟩],[],none⟩) (fun i=>resD 53 (xg (p.dirty.drop (i)) (p.img.drop (i))) [⟨false,yK p⟩]) h (fun _=>rfl) (fun _=>by simp only [aG,bD,Nat.reduceMul,Nat.reduceBEq,Nat.reduceLT,Nat.reduceLeDiff,Nat.reduceAdd,decide_true,Bool.and_self,Bool.true_and]) ?_ ?_
 ·intro i rb hi ih
  have hi1:=bP hi hl
  have hj:i<p.img.length:=by omega
  have F1:((i:Int)<(p.dirty.length:Int))=True:=eq_true (by omega)
  have P2:∀ a b:PV,part [a,b] 0 (some 2)=some (.agg [a,b]):=fun _ _=>rfl
  have eA:∀ b:Bm,jU b=.agg [.int .i64 b.size,.list 1 (b.ws.map eW)]:=fun _=>rfl
  have eV:∀ v:List dY,aY v=.list 8 (v.map ng):=fun _=>rfl
  have hx:(p.dirty.map jU)[i]?=some (jU p.dirty[i]):=by rw [List.getElem?_map,List.getElem?_eq_getElem hi];rfl
  have hy:(p.img.map aY)[i]?=some (aY p.img[i]):=by rw [List.getElem?_map,List.getElem?_eq_getElem hj];rfl
  have e1:=Tm (b:=p.dirty[i])
  have hD:=WH hi hj
  rw [eA] at hx e1
  rw [eV] at hy
  by_cases c1:DR p.dirty[i]=0
  ·have G1:((0:Int) != 0)=false:=rfl
   rw [c1] at e1
   rw [if_neg (show ¬ DR p.dirty[i]≠0 from fun h=>h c1)] at hD
   by_cases c2:p.dirty[i].size=(p.img[i].length:Int)
   ·have G2:(p.dirty[i].size != (p.img[i].length:Int))=false:=by simpa using c2
    rw [if_neg (show ¬ p.dirty[i].size≠(p.img[i].length:Int) from fun h=>h c2)] at hD
    rw [hD]
    simp only [yw,F1,hx,hy,e1,P2,G1,G2,eY,ah hi,ah hj,List.length_map,aB,Nat.reduceMul,Nat.reduceBEq,Nat.reduceLT,Nat.reduceLeDiff,reduceCtorEq,Nat.reduceEqDiff,Nat.reduceAdd,Nat.beq]
    rw [ih _ (by simp only [hi1,eY,aB,Nat.reduceMul,Nat.reduceBEq,Nat.reduceLT,Nat.reduceLeDiff,reduceCtorEq,Nat.reduceEqDiff,Nat.reduceAdd,Nat.beq]<;>rfl)]
    all_goals rfl
   ·have G2:(p.dirty[i].size != (p.img[i].length:Int))=true:=by simpa using c2
    rw [if_pos c2] at hD
    rw [hD]
    unfold resD
    rw [if_neg (by decide)]
    simp only [yw,F1,hx,hy,e1,P2,G1,G2,eY,ah hi,ah hj,List.length_map,aB,Nat.reduceMul,Nat.reduceBEq,Nat.reduceLT,Nat.reduceLeDiff,reduceCtorEq,Nat.reduceEqDiff,Nat.reduceAdd,Nat.beq]
  ·have G1:(DR p.dirty[i] != 0)=true:=by simpa using c1
   rw [if_pos c1] at hD
   rw [hD]
   unfold resD
   rw [if_neg c1]
   simp only [yw,F1,hx,hy,e1,P2,G1,eY,ah hi,ah hj,List.length_map,aB,Nat.reduceMul,Nat.reduceBEq,Nat.reduceLT,Nat.reduceLeDiff,reduceCtorEq,Nat.reduceEqDiff,Nat.reduceAdd,Nat.beq]
 ·intro rb
  rw [List.drop_length,hq,List.drop_length]
  unfold xg resD
  rw [if_pos rfl]
  simp only [yw,Int.lt_irrefl,eY,hq,List.length_map,aB,Nat.reduceMul,Nat.reduceBEq,Nat.reduceLT,Nat.reduceLeDiff,reduceCtorEq,Nat.reduceEqDiff,Nat.reduceAdd,Nat.beq]
theorem aiF {p:Pt} (h:WG p):cal env 15 [eP p]=some [(.int .i64 (nR p),false)]:=by
 obtain ⟨h1,h2,h3⟩:=h
 have e0:=aeN (n:=p.site) (low:=0)
 have e1:=aiE (l:=p.lin) h1
 have e2:=aeJ (im:=p.img) h3
 have Z:((0:Int) != 0)=false:=rfl
 unfold nR
 rw [gK]
 by_cases c1:p.site<0∨1073741824<p.site
 ·have G1:(decide (p.site ≥ 0)&&decide (p.site≤1073741824))=false:=by simp;omega
  rw [G1] at e0
  rw [if_pos c1]
  rw [au Nu rfl];simp only [I4,aG,Nat.reduceBEq,Nat.reduceLeDiff,Nat.reduceAdd,List.length_cons,List.length_nil]
  simp only [e0,aB,Nat.reduceMul,Nat.reduceBEq,Nat.reduceLT,Nat.reduceLeDiff,reduceCtorEq,Nat.reduceEqDiff,Nat.reduceAdd,Nat.beq]
 ·have G1:(decide (p.site ≥ 0)&&decide (p.site≤1073741824))=true:=by simp;omega
  rw [G1] at e0
  rw [if_neg c1]
  cases c3:GN p.lin with
  |false =>
   rw [c3] at e1
   rw [if_pos rfl]
   rw [au Nu rfl];simp only [I4,aG,Nat.reduceBEq,Nat.reduceLeDiff,Nat.reduceAdd,List.length_cons,List.length_nil]
   simp only [e0,e1,aB,Nat.reduceMul,Nat.reduceBEq,Nat.reduceLT,Nat.reduceLeDiff,reduceCtorEq,Nat.reduceEqDiff,Nat.reduceAdd,Nat.beq]
  |true =>
   rw [c3] at e1
   rw [if_neg (by decide)]
   by_cases c4:gW p.img=0
   ·rw [c4] at e2
    rw [if_neg (by rw [c4];decide)]
    by_cases c5:p.dirty.length=p.img.length
    ·have G5:((p.dirty.length:Int) != (p.img.length:Int))=false:=by simp [c5]
     rw [if_neg (by simpa using c5)]
     rw [au Nu rfl];simp only [I4,aG,Nat.reduceBEq,Nat.reduceLeDiff,Nat.reduceAdd,List.length_cons,List.length_nil]
     simp only [e0,e1,e2,Z,G5,List.length_map,aB,Nat.reduceMul,Nat.reduceBEq,Nat.reduceLT,Nat.reduceLeDiff,reduceCtorEq,Nat.reduceEqDiff,Nat.reduceAdd,Nat.beq]
     rw [ags (p:=p) h2 c5]
     rotate_left
     ·rw [eY]
      simp only [aG,bD,Nat.reduceMul,Nat.reduceBEq,Nat.reduceLT,Nat.reduceLeDiff,Nat.reduceAdd,decide_true,Bool.and_self,Bool.true_and]<;>rfl
     ·rw [List.drop_zero,List.drop_zero]
      unfold resD
      split
      ·rename_i c6
       rw [c6]
       simp only [e0,e1,e2,Z,G5,List.length_map,aB,Nat.reduceMul,Nat.reduceBEq,Nat.reduceLT,Nat.reduceLeDiff,reduceCtorEq,Nat.reduceEqDiff,Nat.reduceAdd,Nat.beq]
      ·simp only [e0,e1,e2,Z,G5,List.length_map,aB,Nat.reduceMul,Nat.reduceBEq,Nat.reduceLT,Nat.reduceLeDiff,reduceCtorEq,Nat.reduceEqDiff,Nat.reduceAdd,Nat.beq]
    ·have G5:((p.dirty.length:Int) != (p.img.length:Int))=true:=by simp;omega
     rw [if_pos c5]
     rw [au Nu rfl];simp only [I4,aG,Nat.reduceBEq,Nat.reduceLeDiff,Nat.reduceAdd,List.length_cons,List.length_nil]
     simp only [e0,e1,e2,Z,G5,List.length_map,aB,Nat.reduceMul,Nat.reduceBEq,Nat.reduceLT,Nat.reduceLeDiff,reduceCtorEq,Nat.reduceEqDiff,Nat.reduceAdd,Nat.beq]
   ·have G4:(gW p.img != 0)=true:=by simpa using c4
    rw [if_pos c4]
    rw [au Nu rfl];simp only [I4,aG,Nat.reduceBEq,Nat.reduceLeDiff,Nat.reduceAdd,List.length_cons,List.length_nil]
    simp only [e0,e1,e2,G4,List.length_map,aB,Nat.reduceMul,Nat.reduceBEq,Nat.reduceLT,Nat.reduceLeDiff,reduceCtorEq,Nat.reduceEqDiff,Nat.reduceAdd,Nat.beq]
end Go.Proofs.YtaaokejjmdbfaaaDoor.V

namespace Go.Proofs.YtaaokejjmdbfaaaDoor.V
theorem aaz:∀ a b:kC,eqF (fun x y:List dY=>decide (x.length=y.length)) a b=decide (bn a=bn b)
 |[],[]=>rfl
 |[],y :: b=>by simp [eqF,bn]
 |x :: a,[]=>by simp [eqF,bn]
 |x :: a,y :: b=>by
  have ih:=aaz a b
  unfold eqF at ih ⊢
  have e0:decide (bn (x :: a)=bn (y :: b))=(decide (x.length=y.length)&&decide (bn a=bn b)):=by
   rw [← Bool.decide_and]
   exact decide_eq_decide.2 (by simp only [bn,List.map_cons,List.cons.injEq];exact and_congr Int.ofNat_inj Iff.rfl)
  rw [e0,← ih]
  simp only [List.length_cons,List.zip_cons_cons,List.all_cons]
  have e2:decide (a.length+1=b.length+1)=decide (a.length=b.length):=decide_eq_decide.2 (by omega)
  rw [e2]
  cases decide (x.length=y.length)<;>cases decide (a.length=b.length)<;>simp
theorem aiG {x y:List dY}:cal env 79 [aY x,aY y]=some [(.bool (decide (x.length=y.length)),false)]:=by
 have eV:∀ v:List dY,aY v=.list 8 (v.map ng):=fun _=>rfl
 rw [eV,eV]
 by_cases c:x.length=y.length
 ·have G:((x.length:Int)==(y.length:Int))=true:=by simp [c]
  rw [decide_eq_true c]
  rw [au aeH rfl];simp only [VY,aG,Nat.reduceBEq,Nat.reduceLeDiff,Nat.reduceAdd,List.length_cons,List.length_nil]
  simp only [G,List.length_map,aB,Nat.reduceMul,Nat.reduceBEq,Nat.reduceLT,Nat.reduceLeDiff,reduceCtorEq,Nat.reduceEqDiff,Nat.reduceAdd,Nat.beq]
 ·have G:((x.length:Int)==(y.length:Int))=false:=by simp;omega
  rw [decide_eq_false c]
  rw [au aeH rfl];simp only [VY,aG,Nat.reduceBEq,Nat.reduceLeDiff,Nat.reduceAdd,List.length_cons,List.length_nil]
  simp only [G,List.length_map,aB,Nat.reduceMul,Nat.reduceBEq,Nat.reduceLT,Nat.reduceLeDiff,reduceCtorEq,Nat.reduceEqDiff,Nat.reduceAdd,Nat.beq]
theorem aiH {a b:kC} (hl:a.length≤lim):cal env 44 [.list 1 (a.map aY),.list 1 (b.map aY)]=some [(.bool (decide (bn a=bn b)),false)]:=by
 have e1:=air (enc:=aY) (enc2:=aY) (eq:=fun x y:List dY=>decide (x.length=y.length)) (l:=a) (m:=b) (gf:=79) (caps:=[]) (fun x _ y _=>aiG) (fun _=>rfl) (fun _=>rfl) hl
 rw [aaz] at e1
 rw [au ah0 rfl];simp only [Zt,aG,Nat.reduceBEq,Nat.reduceLeDiff,Nat.reduceAdd,List.length_cons,List.length_nil]
 simp only [e1,aB,Nat.reduceMul,Nat.reduceBEq,Nat.reduceLT,Nat.reduceLeDiff,reduceCtorEq,Nat.reduceEqDiff,Nat.reduceAdd,Nat.beq]
def yL:List Pt→Int
 |[]=>0
 |p :: l=>if nR p=0 then yL l else nR p
def sameAll (u:List Int) (l:List Pt):Bool:=l.all fun p=>decide (bn p.img=u)
def o7 (l:List Pt):Int :=
 if yL l=0 then
  if l.length<1∨4<l.length then 6
  else if sameAll (bn (l.getD 0 ⟨0,[],[],[]⟩).img) l then 0 else 22
 else yL l
theorem WI {l:List Pt} {i:Nat} (h:i<l.length):yL (l.drop i)=if nR l[i]=0 then yL (l.drop (i+1)) else nR l[i]:=by
 rw [List.drop_eq_getElem_cons h,yL]
theorem JJ {u:List Int} {l:List Pt} {i:Nat} (h:i<l.length):sameAll u (l.drop i)=(decide (bn l[i].img=u)&&sameAll u (l.drop (i+1))):=by
 rw [List.drop_eq_getElem_cons h];rfl
def resE (n:Nat) (e:Int) (a:AV):Option (Ex × St):=if e=0 then some (.normal,⟨sl n [(0,a),(2,.any)],[],[],none⟩) else some (.ret,⟨sl n [(0,a),(2,.pv (.int .i64 e))],[],[],none⟩)
def Tq (n:Nat) (t:Bool):Option (Ex × St):=if t then some (.normal,⟨sl n [(2,.any)],[],[],none⟩) else some (.ret,⟨sl n [(2,.pv (.int .i64 22))],[],[],none⟩)
theorem Tt (n:Nat):Tq n true=some (.normal,⟨sl n [(2,.any)],[],[],none⟩):=rfl
theorem Tv (n:Nat):Tq n false=some (.ret,⟨sl n [(2,.pv (.int .i64 22))],[],[],none⟩):=rfl
theorem agt {l:List Pt} (hl:l.length≤lim) (hf:∀ p∈l,WG p) {st:St} (h:st.head [0,8,9,10] st.boxes.length=some ⟨sl 43 [(0,.pv (.list 4 (l.map eP))),(8,.pv (.list 4 (l.map eP))),(9,.pv (.int .i64 l.length)),(10,.pv (.int .i64 (0:Nat)))],[],[],none⟩) :
  den env Jm st=resE 43 (yL (l.drop ((0:Nat)))) (.pv (.list 4 (l.map eP))):=by
 unfold Jm
 refine bJ (env:=env) (nb:=0) (l.length) (fun i=>⟨sl 43 [(0,.pv (.list 4 (l.map eP))),(8,.pv (.list 4 (l.map eP))),(9,.pv (.int .i64 l.length)),(10,.pv (.int .i64 i))],[],[],none⟩) (fun i=>resE 43 (yL (l.drop (i))) (.pv (.list 4 (l.map eP)))) h (fun _=>rfl) (fun _=>by simp only [aG,bD,Nat.reduceMul,Nat.reduceBEq,Nat.reduceLT,Nat.reduceLeDiff,Nat.reduceAdd,decide_true,Bool.and_self,Bool.true_and]) ?_ ?_
 ·intro i rb hi ih
  have hi1:=bP hi hl
  have F1:((i:Int)<(l.length:Int))=True:=eq_true (by omega)
  have e1:=aiF (p:=l[i]) (hf _ (List.getElem_mem hi))
  have hx:(l.map eP)[i]?=some (eP l[i]):=by rw [List.getElem?_map,List.getElem?_eq_getElem hi];rfl
  have P4:∀ a b c d:PV,part [a,b,c,d] 0 (some 4)=some (.agg [a,b,c,d]):=fun _ _ _ _=>rfl
  rw [WI hi]
  rw [gK] at e1 hx
  by_cases c:nR l[i]=0
  ·have G:((0:Int) != 0)=false:=rfl
   rw [if_pos c]
   rw [c] at e1
   simp only [Bo,F1,hx,e1,G,P4,ah hi,List.length_map,aB,Nat.reduceMul,Nat.reduceBEq,Nat.reduceLT,Nat.reduceLeDiff,reduceCtorEq,Nat.reduceEqDiff,Nat.reduceAdd,Nat.beq]
   rw [ih _ (by simp only [hi1,aB,Nat.reduceMul,Nat.reduceBEq,Nat.reduceLT,Nat.reduceLeDiff,reduceCtorEq,Nat.reduceEqDiff,Nat.reduceAdd,Nat.beq]<;>rfl)]
  ·have G:(nR l[i] != 0)=true:=by simpa using c
   rw [if_neg c]
   unfold resE
   rw [if_neg c]
   simp only [Bo,F1,hx,e1,G,P4,ah hi,List.length_map,aB,Nat.reduceMul,Nat.reduceBEq,Nat.reduceLT,Nat.reduceLeDiff,reduceCtorEq,Nat.reduceEqDiff,Nat.reduceAdd,Nat.beq]
 ·intro rb
  rw [List.drop_length]
  unfold yL resE
  rw [if_pos rfl]
  simp only [Bo,Int.lt_irrefl,List.length_map,aB,Nat.reduceMul,Nat.reduceBEq,Nat.reduceLT,Nat.reduceLeDiff,reduceCtorEq,Nat.reduceEqDiff,Nat.reduceAdd,Nat.beq]
theorem aaA {l:List Pt} {p0:Pt} (h0:l[0]?=some p0) (hl:l.length≤lim) (hf:∀ p∈l,WG p) {st:St} (h:st.head [0,28,29,30] st.boxes.length=some ⟨sl 43 [(0,.pv (.list 4 (l.map eP))),(28,.pv (.list 4 (l.map eP))),(29,.pv (.int .i64 l.length)),(30,.pv (.int .i64 (0:Nat)))],[],[],none⟩) :
  den env Jo st=Tq 43 (sameAll (bn p0.img) (l.drop ((0:Nat)))):=by
 unfold Jo
 refine bJ (env:=env) (nb:=0) (l.length) (fun i=>⟨sl 43 [(0,.pv (.list 4 (l.map eP))),(28,.pv (.list 4 (l.map eP))),(29,.pv (.int .i64 l.length)),(30,.pv (.int .i64 i))],[],[],none⟩) (fun i=>Tq 43 (sameAll (bn p0.img) (l.drop (i)))) h (fun _=>rfl) (fun _=>by simp only [aG,bD,Nat.reduceMul,Nat.reduceBEq,Nat.reduceLT,Nat.reduceLeDiff,Nat.reduceAdd,decide_true,Bool.and_self,Bool.true_and]) ?_ ?_
 ·intro i rb hi ih
  have hi1:=bP hi hl
  have F1:((i:Int)<(l.length:Int))=True:=eq_true (by omega)
  have hn:0<l.length:=by omega
  have e1:=aiH (a:=l[i].img) (b:=p0.img) (hf _ (List.getElem_mem hi)).2.2
  have hx:(l.map eP)[i]?=some (eP l[i]):=by rw [List.getElem?_map,List.getElem?_eq_getElem hi];rfl
  have hy:(l.map eP)[0]?=some (eP p0):=by rw [List.getElem?_map,h0];rfl
  have P4:∀ a b c d:PV,part [a,b,c,d] 0 (some 4)=some (.agg [a,b,c,d]):=fun _ _ _ _=>rfl
  have I0:index (.int .i64 0) l.length=some 0:=ah (i:=0) hn
  rw [JJ hi]
  rw [gK] at hx hy
  cases c:decide (bn l[i].img=bn p0.img) with
  |true =>
   rw [Bool.true_and]
   rw [c] at e1
   simp only [Bq,F1,hx,hy,e1,P4,I0,ah hi,List.length_map,aB,Nat.reduceMul,Nat.reduceBEq,Nat.reduceLT,Nat.reduceLeDiff,reduceCtorEq,Nat.reduceEqDiff,Nat.reduceAdd,Nat.beq]
   rw [ih _ (by simp only [hi1,aB,Nat.reduceMul,Nat.reduceBEq,Nat.reduceLT,Nat.reduceLeDiff,reduceCtorEq,Nat.reduceEqDiff,Nat.reduceAdd,Nat.beq]<;>rfl)]
  |false =>
   rw [Bool.false_and,Tv]
   rw [c] at e1
   simp only [Bq,F1,hx,hy,e1,P4,I0,ah hi,List.length_map,aB,Nat.reduceMul,Nat.reduceBEq,Nat.reduceLT,Nat.reduceLeDiff,reduceCtorEq,Nat.reduceEqDiff,Nat.reduceAdd,Nat.beq]
 ·intro rb
  rw [List.drop_length]
  unfold sameAll
  rw [List.all_nil,Tt]
  simp only [Bq,Int.lt_irrefl,List.length_map,aB,Nat.reduceMul,Nat.reduceBEq,Nat.reduceLT,Nat.reduceLeDiff,reduceCtorEq,Nat.reduceEqDiff,Nat.reduceAdd,Nat.beq]
theorem aiI {l:List Pt} (hl:l.length≤lim) (hf:∀ p∈l,WG p):cal env 56 [.list 4 (l.map eP)]=some [(.int .i64 (o7 l),false)]:=by
 unfold o7
 rw [au ah6 rfl];simp only [Zz,aG,Nat.reduceBEq,Nat.reduceLeDiff,Nat.reduceAdd,List.length_cons,List.length_nil]
 simp only [List.length_map,aB,Nat.reduceMul,Nat.reduceBEq,Nat.reduceLT,Nat.reduceLeDiff,reduceCtorEq,Nat.reduceEqDiff,Nat.reduceAdd,Nat.beq]
 rw [agt (l:=l) hl hf]
 rotate_left
 ·simp only [aG,bD,Nat.reduceMul,Nat.reduceBEq,Nat.reduceLT,Nat.reduceLeDiff,Nat.reduceAdd,decide_true,Bool.and_self,Bool.true_and]<;>rfl
 ·rw [List.drop_zero]
  unfold resE
  by_cases c:yL l=0
  ·rw [if_pos c,if_pos c]
   by_cases c1:l.length<1
   ·have G:((l.length:Int)<1)=True:=eq_true (by omega)
    rw [if_pos (.inl c1)]
    simp only [G,List.length_map,aB,Nat.reduceMul,Nat.reduceBEq,Nat.reduceLT,Nat.reduceLeDiff,reduceCtorEq,Nat.reduceEqDiff,Nat.reduceAdd,Nat.beq]
   ·have G:((l.length:Int)<1)=False:=eq_false (by omega)
    by_cases c2:l.length > 4
    ·have G2:((l.length:Int) > 4)=True:=eq_true (by omega)
     rw [if_pos (.inr c2)]
     simp only [G,G2,List.length_map,aB,Nat.reduceMul,Nat.reduceBEq,Nat.reduceLT,Nat.reduceLeDiff,reduceCtorEq,Nat.reduceEqDiff,Nat.reduceAdd,Nat.beq]
    ·have G2:((l.length:Int) > 4)=False:=eq_false (by omega)
     rw [if_neg (by omega)]
     simp only [G,G2,List.length_map,aB,Nat.reduceMul,Nat.reduceBEq,Nat.reduceLT,Nat.reduceLeDiff,reduceCtorEq,Nat.reduceEqDiff,Nat.reduceAdd,Nat.beq]
     have h0:l[0]?=some l[0]:=List.getElem?_eq_getElem (by omega)
     have hD:l.getD 0 ⟨0,[],[],[]⟩=l[0]:=by rw [List.getD_eq_getElem?_getD,h0];rfl
     rw [aaA h0 hl hf]
     rotate_left
     ·simp only [aG,bD,Nat.reduceMul,Nat.reduceBEq,Nat.reduceLT,Nat.reduceLeDiff,Nat.reduceAdd,decide_true,Bool.and_self,Bool.true_and]<;>rfl
     ·rw [List.drop_zero,hD]
      cases sameAll (bn l[0].img) l with
      |true =>
       rw [Tt]
       simp only [List.length_map,aB,Nat.reduceMul,Nat.reduceBEq,Nat.reduceLT,Nat.reduceLeDiff,reduceCtorEq,Nat.reduceEqDiff,Nat.reduceAdd,Nat.beq]
      |false =>
       rw [Tv]
       simp only [List.length_map,aB,Nat.reduceMul,Nat.reduceBEq,Nat.reduceLT,Nat.reduceLeDiff,reduceCtorEq,Nat.reduceEqDiff,Nat.reduceAdd,Nat.beq]
  ·rw [if_neg c,if_neg c]
   simp only [List.length_map,aB,Nat.reduceMul,Nat.reduceBEq,Nat.reduceLT,Nat.reduceLeDiff,reduceCtorEq,Nat.reduceEqDiff,Nat.reduceAdd,Nat.beq]
end Go.Proofs.YtaaokejjmdbfaaaDoor.V

namespace Go.Proofs.YtaaokejjmdbfaaaDoor.V
def Rf (b:Bm) (s:Int):Bool:=okB b&&(decide (0≤s)&&(decide (s<b.size)&&bit b.ws s.toNat))
theorem aeO {b:Bm} {s:Int}:cal env 89 [jU b,.int .i64 s]=some [(.bool (Rf b s),false)]:=by
 have e1:=aeM (b:=b)
 have P:∀ x y:PV,part [x,y] 0 (some 2)=some (.agg [x,y]):=fun _ _=>rfl
 have eA:jU b=.agg [.int .i64 b.size,.list 1 (b.ws.map eW)]:=rfl
 have Z0:((0:Int)==0)=true:=rfl
 have Z3:((3:Int)==0)=false:=rfl
 unfold Rf
 cases c:okB b with
 |false =>
  rw [mM c] at e1
  rw [eA] at e1 ⊢
  rw [au SX rfl];simp only [MZ,aG,Nat.reduceBEq,Nat.reduceLeDiff,Nat.reduceAdd,List.length_cons,List.length_nil]
  simp only [e1,Z3,P,aB,Nat.reduceMul,Nat.reduceBEq,Nat.reduceLT,Nat.reduceLeDiff,reduceCtorEq,Nat.reduceEqDiff,Nat.reduceAdd,Nat.beq]
 |true =>
  rw [sN c] at e1
  have hs:=jf c
  by_cases c0:0≤s
  ·have F0:(s ≥ 0)=True:=eq_true c0
   rw [decide_eq_true c0]
   by_cases c1:s<b.size
   ·have F1:(s<b.size)=True:=eq_true c1
    rw [decide_eq_true c1]
    obtain ⟨i,rfl⟩:∃ i:Nat,s=(i:Int):=⟨s.toNat,by omega⟩
    have h:i / 64<b.ws.length:=by omega
    have e2:=aeL (b:=b) (i:=i) h (by omega)
    have e9:(i:Int).toNat=i:=by omega
    rw [e9]
    rw [eA] at e1 e2 ⊢
    rw [au SX rfl];simp only [MZ,aG,Nat.reduceBEq,Nat.reduceLeDiff,Nat.reduceAdd,List.length_cons,List.length_nil]
    simp only [e1,e2,Z0,P,F0,F1,aB,Nat.reduceMul,Nat.reduceBEq,Nat.reduceLT,Nat.reduceLeDiff,reduceCtorEq,Nat.reduceEqDiff,Nat.reduceAdd,Nat.beq]
   ·have F1:(s<b.size)=False:=eq_false c1
    rw [decide_eq_false c1]
    rw [eA] at e1 ⊢
    rw [au SX rfl];simp only [MZ,aG,Nat.reduceBEq,Nat.reduceLeDiff,Nat.reduceAdd,List.length_cons,List.length_nil]
    simp only [e1,Z0,P,F0,F1,aB,Nat.reduceMul,Nat.reduceBEq,Nat.reduceLT,Nat.reduceLeDiff,reduceCtorEq,Nat.reduceEqDiff,Nat.reduceAdd,Nat.beq]
  ·have F0:(s ≥ 0)=False:=eq_false c0
   rw [decide_eq_false c0]
   rw [eA] at e1 ⊢
   rw [au SX rfl];simp only [MZ,aG,Nat.reduceBEq,Nat.reduceLeDiff,Nat.reduceAdd,List.length_cons,List.length_nil]
   simp only [e1,Z0,P,F0,aB,Nat.reduceMul,Nat.reduceBEq,Nat.reduceLT,Nat.reduceLeDiff,reduceCtorEq,Nat.reduceEqDiff,Nat.reduceAdd,Nat.beq]
end Go.Proofs.YtaaokejjmdbfaaaDoor.V

namespace Go.Proofs.YtaaokejjmdbfaaaDoor.V
def dir (a:Pt) (v:Nat):Bm:=a.dirty.getD v ⟨0,[]⟩
def mk2 (a b:Pt) (v k:Nat):Bool:=Rf (dir a v) (k:Int) || Rf (dir b v) (k:Int)
theorem JK {a:Pt} {v:Nat} (h:v<a.dirty.length):(a.dirty.map jU)[v]?=some (jU (dir a v)):=by
 rw [List.getElem?_map,List.getElem?_eq_getElem h]
 unfold dir
 rw [List.getD_eq_getElem?_getD,List.getElem?_eq_getElem h]
 rfl
theorem aiJ {a b:Pt} {v k:Nat} (ha:v<a.dirty.length) (hb:v<b.dirty.length):cal env 65 [eP a,eP b,.int .i64 v,.int .i64 k]=some [(.bool (mk2 a b v k),false)]:=by
 have e1:=aeO (b:=dir a v) (s:=(k:Int))
 have e2:=aeO (b:=dir b v) (s:=(k:Int))
 have eA:∀ b:Bm,jU b=.agg [.int .i64 b.size,.list 1 (b.ws.map eW)]:=fun _=>rfl
 have P2:∀ a b:PV,part [a,b] 0 (some 2)=some (.agg [a,b]):=fun _ _=>rfl
 have hx:=JK ha
 have hy:=JK hb
 unfold mk2
 rw [gK,gK]
 rw [eA] at e1 e2 hx hy
 cases c1:Rf (dir a v) (k:Int) with
 |true =>
  rw [c1] at e1
  rw [Bool.true_or]
  rw [au aeG rfl];simp only [VX,aG,Nat.reduceBEq,Nat.reduceLeDiff,Nat.reduceAdd,List.length_cons,List.length_nil]
  simp only [e1,P2,hx,ah ha,List.length_map,aB,Nat.reduceMul,Nat.reduceBEq,Nat.reduceLT,Nat.reduceLeDiff,reduceCtorEq,Nat.reduceEqDiff,Nat.reduceAdd,Nat.beq]
 |false =>
  rw [c1] at e1
  rw [Bool.false_or]
  rw [au aeG rfl];simp only [VX,aG,Nat.reduceBEq,Nat.reduceLeDiff,Nat.reduceAdd,List.length_cons,List.length_nil]
  simp only [e1,e2,P2,hx,hy,ah ha,ah hb,List.length_map,aB,Nat.reduceMul,Nat.reduceBEq,Nat.reduceLT,Nat.reduceLeDiff,reduceCtorEq,Nat.reduceEqDiff,Nat.reduceAdd,Nat.beq]
def xu (p:Nat→Bool) (n:Nat):List Nat:=(List.range n).filter p
theorem NM (p:Nat→Bool) (n:Nat):xu p (n+1)=if p n then xu p n++[n] else xu p n:=by
 unfold xu
 rw [List.range_succ,List.filter_append]
 cases h:p n<;>simp [h]
theorem agu {p:Nat→Bool} {n i:Nat} (h:i∈xu p n):i<n:=by
 simp only [xu,List.mem_filter,List.mem_range] at h;exact h.1
theorem TA (p:Nat→Bool) (n:Nat):(xu p n).length≤n:=by
 have:=List.length_filter_le p (List.range n);simpa [xu] using this
def jM (a:Pt) (i:Nat):Nat:=(a.img.getD i []).length
def BG (a b:Pt) (n:Nat):List (List lQ):=(List.range n).map fun i=>ext (mk2 a b i) (jM a i)
def qL (a b:Pt):Nat→Nat
 |0=>0
 |i+1=>qL a b i+(xu (mk2 a b i) (jM a i)).length
theorem DW (a b:Pt) (n:Nat):BG a b (n+1)=BG a b n++[ext (mk2 a b n) (jM a n)]:=by
 unfold BG;rw [List.range_succ,List.map_append];rfl
theorem yM (a b:Pt) (n:Nat):(BG a b n).length=n:=by simp [BG]
theorem JL {a:Pt} (b:Pt) (h:∀ i,jM a i≤4096):∀ n,qL a b n≤4096 * n
 |0=>Nat.le_refl _
 |n+1=>by
  have:=JL b h n
  have:=TA (mk2 a b n) (jM a n)
  have:=h n
  unfold qL
  omega
def sQ (l:List lQ):PV:=.list 2 (l.map gu)
def adK (n:Nat) (o:List (List lQ)) (c:Nat) (i:Nat) (l:List lQ) (c2:Nat) (bx:List Box):Option (Ex × St):=some (.normal,⟨sl n [(2,.aA 0 0),(3,.aA 1 0),(4,.any),(5,.any),(6,.row 1 (o.map sQ)),(7,.pv (.int .i64 ((c+c2:Nat):Int))),(8,.pv (.int .i64 i)),(9,.row 2 (l.map gu)),(71,.any),(75,.any)],bx,[],none⟩)
set_option maxRecDepth 20000 in
theorem agv {a b:Pt} {v c:Nat} {o:List (List lQ)} (ha:v<a.dirty.length) (hb:v<b.dirty.length) (hv:v<a.img.length) (hc:c≤1000000) (hn:jM a v≤4096) {st:St} (h:st.head [2,3,6,7,8,9,10,71,75] st.boxes.length=some ⟨sl 78 [(2,.aA 0 0),(3,.aA 1 0),(6,.row 1 (o.map sQ)),(7,.pv (.int .i64 ((c+(xu (mk2 a b v) ((0:Nat))).length:Nat):Int))),(8,.pv (.int .i64 v)),(9,.row 2 ((exts (xu (mk2 a b v) ((0:Nat)))).map gu)),(10,.pv (.int .i64 (0:Nat))),(71,.any),(75,.any)],[⟨false,yK a⟩,⟨false,yK b⟩],[],none⟩) :
  den env Jh st=adK 78 o c v (ext (mk2 a b v) (jM a v)) (xu (mk2 a b v) (jM a v)).length [⟨false,yK a⟩,⟨false,yK b⟩]:=by
 unfold Jh
 refine bJ (env:=env) (nb:=2) (jM a v) (fun i=>⟨sl 78 [(2,.aA 0 0),(3,.aA 1 0),(6,.row 1 (o.map sQ)),(7,.pv (.int .i64 ((c+(xu (mk2 a b v) (i)).length:Nat):Int))),(8,.pv (.int .i64 v)),(9,.row 2 ((exts (xu (mk2 a b v) (i))).map gu)),(10,.pv (.int .i64 i)),(71,.any),(75,.any)],[⟨false,yK a⟩,⟨false,yK b⟩],[],none⟩) (fun i=>adK 78 o c v (ext (mk2 a b v) (jM a v)) (xu (mk2 a b v) (jM a v)).length [⟨false,yK a⟩,⟨false,yK b⟩]) h (fun _=>rfl) (fun _=>by simp only [aG,bD,Nat.reduceMul,Nat.reduceBEq,Nat.reduceLT,Nat.reduceLeDiff,Nat.reduceAdd,decide_true,Bool.and_self,Bool.true_and]) ?_ ?_
 ·intro i rb hi ih
  have hi1:=bP hi (by unfold lim;omega)
  have eV:∀ v:List dY,aY v=.list 8 (v.map ng):=fun _=>rfl
  have hg:a.img.getD v []=a.img[v]:=by rw [List.getD_eq_getElem?_getD,List.getElem?_eq_getElem hv];rfl
  have hL:jM a v=a.img[v].length:=by unfold jM;rw [hg]
  have hx:(a.img.map aY)[v]?=some (aY a.img[v]):=by rw [List.getElem?_map,List.getElem?_eq_getElem hv];rfl
  have F1:((i:Int)<(a.img[v].length:Int))=True:=eq_true (by omega)
  have P4:∀ a b c d:PV,part [a,b,c,d] 0 (some 4)=some (.agg [a,b,c,d]):=fun _ _ _ _=>rfl
  have e1:=aiJ (k:=i) ha hb
  have hlen:=TA (mk2 a b v) i
  rw [eV] at hx
  rw [gK,gK] at e1
  cases cm:mk2 a b v i with
  |false =>
   rw [cm] at e1
   have hs:xu (mk2 a b v) (i+1)=xu (mk2 a b v) i:=by rw [NM,if_neg (by rw [cm];decide)]
   rw [hs] at ih
   simp only [vJ,F1,hx,e1,P4,eY,ah hv,List.length_map,aB,Nat.reduceMul,Nat.reduceBEq,Nat.reduceLT,Nat.reduceLeDiff,reduceCtorEq,Nat.reduceEqDiff,Nat.reduceAdd,Nat.beq]
   rw [ih _ (by simp only [hi1,eY,aB,Nat.reduceMul,Nat.reduceBEq,Nat.reduceLT,Nat.reduceLeDiff,reduceCtorEq,Nat.reduceEqDiff,Nat.reduceAdd,Nat.beq]<;>rfl)]
   all_goals rfl
  |true =>
   rw [cm] at e1
   have hs:xu (mk2 a b v) (i+1)=xu (mk2 a b v) i++[i]:=by rw [NM,if_pos cm]
   have hw:IntKind.i64.wrap (((c+(xu (mk2 a b v) i).length:Nat):Int)+1)=((c+(xu (mk2 a b v) i++[i]).length:Nat):Int):=by
    rw [bF (by omega),List.length_append]
    simp only [List.length_singleton]
    omega
   have hlim:lim=1073741824:=rfl
   rw [hs] at ih
   rcases mJ (xu (mk2 a b v) i) with h0|⟨p,j,h0⟩
   ·have e0:exts (xu (mk2 a b v) i)=[]:=by rw [h0];rfl
    have hE:(exts (xu (mk2 a b v) i++[i])).map gu=[.agg [.int .i64 i,.int .i64 1]]:=by rw [mF,e0];rfl
    rw [hE] at ih
    have F2:(((0:Nat):Int) > 0)=False:=eq_false (by omega)
    have F3:(0+1≤lim)=True:=eq_true (by omega)
    simp only [vJ,F1,F2,F3,hx,e1,e0,hw,P4,eY,ah hv,List.length_map,List.map_nil,List.length_nil,aB,Nat.reduceMul,Nat.reduceBEq,Nat.reduceLT,Nat.reduceLeDiff,reduceCtorEq,Nat.reduceEqDiff,Nat.reduceAdd,Nat.beq]
    rw [ih _ (by simp only [hi1,eY,aB,Nat.reduceMul,Nat.reduceBEq,Nat.reduceLT,Nat.reduceLeDiff,reduceCtorEq,Nat.reduceEqDiff,Nat.reduceAdd,Nat.beq]<;>rfl)]
    all_goals rfl
   ·obtain ⟨pre,⟨s,q⟩,e0,h1,h2,h3,h4⟩:=GI _ p rfl j
    rw [← h0] at e0
    have hji:j<i:=agu (p:=mk2 a b v) (show j∈xu (mk2 a b v) i by rw [h0];simp)
    have hpl:p.length+1≤i:=by rw [h0] at hlen;simpa using hlen
    simp only at h1 h2 h3
    have F2:(((pre.length+1:Nat):Int) > 0)=True:=eq_true (by omega)
    have F3:=GK (n:=pre.length) (by omega)
    have F4:IntKind.i64.wrap (s+q)=s+q:=bF (by omega)
    have F5:IntKind.i64.wrap (q+1)=q+1:=bF (by omega)
    have F6:(pre.length+1+1≤lim)=True:=eq_true (by omega)
    have F7:index (.int .i64 (pre.length:Int)) (pre.length+1)=some pre.length:=ah (by omega)
    by_cases c7:s+q=(i:Int)
    ·have hE:(exts (xu (mk2 a b v) i++[i])).map gu=pre.map gu++[.agg [.int .i64 s,.int .i64 (q+1)]]:=by rw [mF,e0,jG,if_pos c7,List.map_append];rfl
     rw [hE] at ih
     have G:(s+q==(i:Int))=true:=by simpa using c7
     simp only [vJ,F1,F2,F3,F4,F5,F6,F7,G,hx,e1,e0,hw,P4,eY,gu,ah hv,List.length_map,List.map_append,List.map_cons,List.map_nil,aB,Nat.reduceMul,Nat.reduceBEq,Nat.reduceLT,Nat.reduceLeDiff,reduceCtorEq,Nat.reduceEqDiff,Nat.reduceAdd,Nat.beq]
     rw [ih _ (by simp only [hi1,eY,gu,aB,Nat.reduceMul,Nat.reduceBEq,Nat.reduceLT,Nat.reduceLeDiff,reduceCtorEq,Nat.reduceEqDiff,Nat.reduceAdd,Nat.beq]<;>rfl)]
     all_goals rfl
    ·have hE:(exts (xu (mk2 a b v) i++[i])).map gu=pre.map gu++[.agg [.int .i64 s,.int .i64 q]]++[.agg [.int .i64 i,.int .i64 1]]:=by rw [mF,e0,jG,if_neg c7,List.map_append,List.map_append];rfl
     rw [hE] at ih
     have G:(s+q==(i:Int))=false:=by simpa using c7
     simp only [vJ,F1,F2,F3,F4,F5,F6,F7,G,hx,e1,e0,hw,P4,eY,gu,ah hv,List.length_map,List.map_append,List.map_cons,List.map_nil,aB,Nat.reduceMul,Nat.reduceBEq,Nat.reduceLT,Nat.reduceLeDiff,reduceCtorEq,Nat.reduceEqDiff,Nat.reduceAdd,Nat.beq]
     rw [ih _ (by simp only [hi1,eY,gu,aB,Nat.reduceMul,Nat.reduceBEq,Nat.reduceLT,Nat.reduceLeDiff,reduceCtorEq,Nat.reduceEqDiff,Nat.reduceAdd,Nat.beq]<;>rfl)]
     all_goals rfl
 ·intro rb
  have eV:∀ v:List dY,aY v=.list 8 (v.map ng):=fun _=>rfl
  have hg:a.img.getD v []=a.img[v]:=by rw [List.getD_eq_getElem?_getD,List.getElem?_eq_getElem hv];rfl
  have hL:jM a v=a.img[v].length:=by unfold jM;rw [hg]
  have hx:(a.img.map aY)[v]?=some (aY a.img[v]):=by rw [List.getElem?_map,List.getElem?_eq_getElem hv];rfl
  have F1:((jM a v:Int)<(a.img[v].length:Int))=False:=eq_false (by omega)
  rw [eV] at hx
  unfold adK ext xu
  simp only [vJ,F1,hx,eY,ah hv,List.length_map,aB,Nat.reduceMul,Nat.reduceBEq,Nat.reduceLT,Nat.reduceLeDiff,reduceCtorEq,Nat.reduceEqDiff,Nat.reduceAdd,Nat.beq]
set_option maxRecDepth 20000 in
theorem aaB {a b:Pt} (ha:a.dirty.length=a.img.length) (hb:a.img.length≤b.dirty.length) (hl:a.img.length≤8) (hn:∀ i,jM a i≤4096) {st:St} (h:st.head [2,3,6,7,8,71,75] st.boxes.length=some ⟨sl 78 [(2,.aA 0 0),(3,.aA 1 0),(6,.row 1 ((BG a b ((0:Nat))).map sQ)),(7,.pv (.int .i64 (qL a b ((0:Nat))))),(8,.pv (.int .i64 (0:Nat))),(71,.any),(75,.any)],[⟨false,yK a⟩,⟨false,yK b⟩],[],none⟩) :
  den env Jj st=some (.normal,⟨sl 78 [(4,.any),(5,.any),(6,.row 1 ((BG a b a.img.length).map sQ)),(7,.pv (.int .i64 (qL a b a.img.length)))],[⟨false,yK a⟩,⟨false,yK b⟩],[],none⟩):=by
 unfold Jj
 refine bJ (env:=env) (nb:=2) (a.img.length) (fun i=>⟨sl 78 [(2,.aA 0 0),(3,.aA 1 0),(6,.row 1 ((BG a b (i)).map sQ)),(7,.pv (.int .i64 (qL a b (i)))),(8,.pv (.int .i64 i)),(71,.any),(75,.any)],[⟨false,yK a⟩,⟨false,yK b⟩],[],none⟩) (fun i=>some (.normal,⟨sl 78 [(4,.any),(5,.any),(6,.row 1 ((BG a b a.img.length).map sQ)),(7,.pv (.int .i64 (qL a b a.img.length)))],[⟨false,yK a⟩,⟨false,yK b⟩],[],none⟩)) h (fun _=>rfl) (fun _=>by simp only [aG,bD,Nat.reduceMul,Nat.reduceBEq,Nat.reduceLT,Nat.reduceLeDiff,Nat.reduceAdd,decide_true,Bool.and_self,Bool.true_and]) ?_ ?_
 ·intro i rb hi ih
  have hi1:=bP hi (by unfold lim;omega)
  have F1:((i:Int)<(a.img.length:Int))=True:=eq_true (by omega)
  have hC:=JL b hn i
  have hs:(BG a b (i+1)).map sQ=(BG a b i).map sQ++[.list 2 ((ext (mk2 a b i) (jM a i)).map gu)]:=by rw [DW,List.map_append];rfl
  have hs2:qL a b (i+1)=qL a b i+(xu (mk2 a b i) (jM a i)).length:=rfl
  have F3:((BG a b i).length+1≤lim)=True:=eq_true (by rw [yM];unfold lim;omega)
  rw [hs,hs2] at ih
  simp only [Ji,F1,eY,List.length_map,aB,Nat.reduceMul,Nat.reduceBEq,Nat.reduceLT,Nat.reduceLeDiff,reduceCtorEq,Nat.reduceEqDiff,Nat.reduceAdd,Nat.beq]
  rw [agv (a:=a) (b:=b) (v:=i) (c:=qL a b i) (o:=BG a b i) (by omega) (by omega) hi (by omega) (hn i)]
  rotate_left
  ·rw [eY,eY]
   simp only [aG,bD,Nat.reduceMul,Nat.reduceBEq,Nat.reduceLT,Nat.reduceLeDiff,Nat.reduceAdd,decide_true,Bool.and_self,Bool.true_and]<;>rfl
  ·unfold adK
   simp only [F3,eY,List.length_map,aB,Nat.reduceMul,Nat.reduceBEq,Nat.reduceLT,Nat.reduceLeDiff,reduceCtorEq,Nat.reduceEqDiff,Nat.reduceAdd,Nat.beq]
   rw [ih _ (by simp only [hi1,eY,aB,Nat.reduceMul,Nat.reduceBEq,Nat.reduceLT,Nat.reduceLeDiff,reduceCtorEq,Nat.reduceEqDiff,Nat.reduceAdd,Nat.beq]<;>rfl)]
   all_goals rfl
 ·intro rb
  simp only [Ji,Int.lt_irrefl,eY,List.length_map,aB,Nat.reduceMul,Nat.reduceBEq,Nat.reduceLT,Nat.reduceLeDiff,reduceCtorEq,Nat.reduceEqDiff,Nat.reduceAdd,Nat.beq]
theorem aiK {a b:Pt} (ha:a.dirty.length=a.img.length) (hb:a.img.length≤b.dirty.length) (hl:a.img.length≤8) (hn:∀ i,jM a i≤4096):cal env 47 [eP a,eP b]=some [(.list 1 ((BG a b a.img.length).map sQ),true),(.int .i64 (qL a b a.img.length),false)]:=by
 rw [gK,gK]
 rw [au ah2 rfl];simp only [Zv,aG,Nat.reduceBEq,Nat.reduceLeDiff,Nat.reduceAdd,List.length_cons,List.length_nil]
 simp only [List.length_map,aB,Nat.reduceMul,Nat.reduceBEq,Nat.reduceLT,Nat.reduceLeDiff,reduceCtorEq,Nat.reduceEqDiff,Nat.reduceAdd,Nat.beq]
 rw [aaB (a:=a) (b:=b) ha hb hl hn]
 rotate_left
 ·rw [eY,eY]
  simp only [aG,bD,Nat.reduceMul,Nat.reduceBEq,Nat.reduceLT,Nat.reduceLeDiff,Nat.reduceAdd,decide_true,Bool.and_self,Bool.true_and]<;>rfl
 ·simp only [aB,Nat.reduceMul,Nat.reduceBEq,Nat.reduceLT,Nat.reduceLeDiff,reduceCtorEq,Nat.reduceEqDiff,Nat.reduceAdd,Nat.beq]
theorem aiL {a b:Pt} (ha:a.dirty.length=a.img.length) (hb:a.img.length≤b.dirty.length) (hl:a.img.length≤8) (hn:∀ i,jM a i≤4096):cal env 34 [eP a,eP b]=some [(.int .i64 (qL a b a.img.length),false)]:=by
 have e1:=aiK ha hb hl hn
 have P4:∀ a b c d:PV,part [a,b,c,d] 0 (some 4)=some (.agg [a,b,c,d]):=fun _ _ _ _=>rfl
 rw [gK,gK] at e1 ⊢
 rw [au ahW rfl];simp only [Zq,aG,Nat.reduceBEq,Nat.reduceLeDiff,Nat.reduceAdd,List.length_cons,List.length_nil]
 simp only [e1,P4,List.length_map,aB,Nat.reduceMul,Nat.reduceBEq,Nat.reduceLT,Nat.reduceLeDiff,reduceCtorEq,Nat.reduceEqDiff,Nat.reduceAdd,Nat.beq]
end Go.Proofs.YtaaokejjmdbfaaaDoor.V

namespace Go.Proofs.YtaaokejjmdbfaaaDoor.V
end Go.Proofs.YtaaokejjmdbfaaaDoor.V

namespace Go.Proofs.YtaaokejjmdbfaaaDoor.V
theorem agw {a b:Bm} (ha:okB a=true) (hb:okB b=true) (hs:a.size=b.size):nG a b=0∧okB (uK qp a b)=true∧(uK qp a b).size=a.size∧∀ s:Nat,(s:Int)<a.size→bit (uK qp a b).ws s=(bit a.ws s || bit b.ws s):=by
 have hE:nG a b=0:=by unfold nG;rw [if_neg (by rw [ha];decide),if_neg (by rw [hb];decide),if_neg (by simpa using hs)]
 obtain ⟨_,_,_,hl⟩:=both_ok hE
 have hO:uK qp a b=⟨a.size,lJ qp a.ws b.ws⟩:=by unfold uK;rw [if_pos hE]
 have hz:(lJ qp a.ws b.ws).length=a.ws.length:=by simp [lJ,hl]
 have hbit:∀ {i:Nat},i<64 * a.ws.length→bit (lJ qp a.ws b.ws) i=(bit a.ws i || bit b.ws i):=fun hi=>adG (g:=fun x y=>x || y) (fun x y j _=>BitVec.getLsbD_or) hl hi
 have h1:=jf ha
 rw [hO]
 refine ⟨hE,iL.2 ⟨⟨h1.1,h1.2.1,?_⟩,fun i hi=>?_⟩,rfl,fun s hlt=>hbit (by omega)⟩
 ·show ((lJ qp a.ws b.ws).length:Int)=_
  rw [hz];exact (iL.1 ha).1.2.2
 ·have hi:a.size≤(i:Int):=hi
  by_cases c:i<64 * a.ws.length
  ·show bit (lJ qp a.ws b.ws) i=false
   rw [hbit c,(iL.1 ha).2 i hi,(iL.1 hb).2 i (by omega)]
   rfl
  ·exact yH (by show 64 * (lJ qp a.ws b.ws).length≤i;rw [hz];omega)
theorem extC {p q:Nat→Bool} {m:Nat} (h:∀ t,t<m→p t=q t):ext p m=ext q m:=by
 unfold ext
 congr 1
 apply List.filter_congr
 intro t ht
 exact h t (List.mem_range.1 ht)
theorem NP:∀ {bs:List Bm} {vs:kC},xg bs vs=0→∀ i (h1:i<bs.length) (h2:i<vs.length),okB bs[i]=true∧bs[i].size=(vs[i].length:Int)
 |[],_,_,i,h1,_=>absurd h1 (Nat.not_lt_zero _)
 |_ :: _,[],_,i,_,h2=>absurd h2 (Nat.not_lt_zero _)
 |b :: bs,v :: vs,h,i,h1,h2=>by
  unfold xg at h
  split at h
  ·rename_i c;exact absurd h c
  ·rename_i c
   split at h
   ·cases h
   ·rename_i c2
    match i with
    |0 =>
     refine ⟨?_,by simpa using c2⟩
     cases hb:okB b with
     |true=>exact hb
     |false=>unfold DR at c;rw [hb] at c;exact absurd (by decide) c
    |i+1=>exact NP h i (by simpa using h1) (by simpa using h2)
theorem oh {p:Pt} (h:nR p=0):GN p.lin=true∧gW p.img=0∧p.dirty.length=p.img.length∧xg p.dirty p.img=0:=by
 unfold nR at h
 split at h
 ·cases h
 ·split at h
  ·cases h
  ·rename_i c
   split at h
   ·rename_i c2;exact absurd h c2
   ·rename_i c2
    split at h
    ·cases h
    ·rename_i c3
     exact ⟨by simpa using c,by simpa using c2,by simpa using c3,h⟩
theorem mO {im:kC} (h:gW im=0):im.length≤8∧∀ v∈im,v.length≤4096:=by
 unfold gW jF at h
 split at h
 ·cases h
 ·rename_i c
  split at h
  ·cases h
  ·rename_i c2
   unfold bn at c c2
   rw [List.length_map] at c
   refine ⟨by omega,fun v hv=>?_⟩
   simp only [Bool.not_eq_true,List.any_eq_false,List.mem_map,Bool.or_eq_true,decide_eq_true_eq,not_or] at c2
   have:=(c2 _ ⟨v,hv,rfl⟩).2
   omega
theorem WJ {a b:Pt} (h:bn a.img=bn b.img) (i:Nat):jM a i=jM b i:=by
 have e:∀ p:Pt,((bn p.img).getD i 0)=(jM p i:Int):=fun p=>by
  unfold bn jM
  rw [List.getD_eq_getElem?_getD,List.getD_eq_getElem?_getD,List.getElem?_map]
  cases p.img[i]?<;>rfl
 have:=e a
 rw [h,e b] at this
 omega
theorem NQ {a b:Pt} (h:bn a.img=bn b.img):a.img.length=b.img.length:=by
 have:=congrArg List.length h
 simpa [bn] using this
theorem aaC {p:Pt} (h:nR p=0) {v:Nat} (hv:v<p.img.length):okB (dir p v)=true∧(dir p v).size=(jM p v:Int):=by
 obtain ⟨_,_,h3,h4⟩:=oh h
 have:=NP h4 v (by omega) hv
 unfold dir jM
 rw [List.getD_eq_getElem?_getD,List.getElem?_eq_getElem (by omega),List.getD_eq_getElem?_getD,List.getElem?_eq_getElem hv]
 exact this
theorem TB {b:Bm} (h:okB b=true) {k:Nat} (hk:(k:Int)<b.size):Rf b (k:Int)=bit b.ws k:=by
 unfold Rf
 rw [h,Bool.true_and,decide_eq_true (by omega),Bool.true_and,decide_eq_true hk,Bool.true_and,Int.toNat_natCast]
theorem agx {a b:Pt} (ha:nR a=0) (hb:nR b=0) (hs:bn a.img=bn b.img) {v:Nat} (hv:v<a.img.length):nG (dir a v) (dir b v)=0∧bmX (uK qp (dir a v) (dir b v))=ext (mk2 a b v) (jM a v):=by
 have hv2:v<b.img.length:=by rw [← NQ hs];exact hv
 obtain ⟨a1,a2⟩:=aaC ha hv
 obtain ⟨b1,b2⟩:=aaC hb hv2
 have hL:=WJ hs v
 obtain ⟨g1,g2,g3,g4⟩:=agw a1 b1 (by rw [a2,b2,hL])
 refine ⟨g1,?_⟩
 unfold bmX Q8
 rw [if_pos g2,g3,a2,Int.toNat_natCast]
 apply extC
 intro t ht
 rw [g4 t (by omega)]
 unfold mk2
 rw [TB a1 (by omega),TB b1 (by omega)]
end Go.Proofs.YtaaokejjmdbfaaaDoor.V

namespace Go.Proofs.YtaaokejjmdbfaaaDoor.V
theorem Rh (l:List lQ) (i:Nat):(yG l i).length≤l.length+1:=by
 rcases mJ l with rfl|⟨p,x,rfl⟩
 ·simp [yG]
 ·rw [jG];split<;>simp
theorem NR (p:Nat→Bool):∀ n,(ext p n).length≤n
 |0=>Nat.le_refl _
 |n+1=>by
  rw [DJ]
  have:=NR p n
  have:=Rh (ext p n) n
  split<;>omega
theorem adL (p:Nat→Bool) (n:Nat):(∀ x∈ext p n,0≤x.start∧1≤x.count∧x.start+x.count≤(n:Int)):=by
 induction n with
 |zero=>intro x hx;cases hx
 |succ n ih =>
  rw [DJ]
  split
  ·rcases mJ (ext p n) with e|⟨pre,y,e⟩
   ·rw [e]
    intro x hx
    have:yG [] n=[⟨(n:Int),1⟩]:=rfl
    rw [this] at hx
    simp only [List.mem_singleton] at hx
    subst hx
    simp only;omega
   ·rw [e] at ih ⊢
    intro x hx
    rw [jG] at hx
    split at hx
    ·rcases List.mem_append.1 hx with h|h
     ·have:=ih x (by simp [h]);omega
     ·simp only [List.mem_singleton] at h
      have:=ih y (by simp)
      subst h;simp only;omega
    ·rcases List.mem_append.1 hx with h|h
     ·have:=ih x h;omega
     ·simp only [List.mem_singleton] at h
      subst h;simp only;omega
  ·intro x hx;have:=ih x hx;omega
end Go.Proofs.YtaaokejjmdbfaaaDoor.V

namespace Go.Proofs.YtaaokejjmdbfaaaDoor.V
def inE (e:lQ) (s:Nat):Bool:=decide (0<e.count)&&(decide (e.start≤(s:Int))&&decide ((s:Int)<e.start+e.count))
def inS (l:List lQ) (s:Nat):Bool:=l.any fun e=>inE e s
end Go.Proofs.YtaaokejjmdbfaaaDoor.V

namespace Go.Proofs.YtaaokejjmdbfaaaDoor.V
end Go.Proofs.YtaaokejjmdbfaaaDoor.V

namespace Go.Proofs.YtaaokejjmdbfaaaDoor.V
def lK (l:List lQ):Int:=(l.map fun x=>x.count).sum
theorem vK (l:List lQ) (x:lQ):lK (l++[x])=lK l+x.count:=by simp [lK]
theorem NS (p:Nat→Bool):∀ n,lK (ext p n)=(((List.range n).filter p).length:Int)
 |0=>rfl
 |n+1=>by
  have ih:=NS p n
  rw [DJ,List.range_succ,List.filter_append,List.length_append]
  cases h:p n with
  |false=>rw [List.filter_cons_of_neg (by simp [h])];simpa using ih
  |true =>
   rw [List.filter_cons_of_pos h,List.filter_nil,if_pos rfl]
   have:lK (yG (ext p n) n)=lK (ext p n)+1:=by
    rcases mJ (ext p n) with e|⟨pre,y,e⟩
    ·rw [e];rfl
    ·rw [e,jG]
     split
     ·rw [vK,vK]
      show lK pre+(y.count+1)=_
      omega
     ·rw [vK]
   rw [this,ih]
   simp
end Go.Proofs.YtaaokejjmdbfaaaDoor.V

namespace Go.Proofs.YtaaokejjmdbfaaaDoor.V
theorem WL {l:List lQ} {i:Nat} (h:i<l.length):lK (l.take (i+1))=lK (l.take i)+l[i].count:=by
 rw [List.take_add_one,List.getElem?_eq_getElem h,Option.toList_some,vK]
def okX (l:List lQ):Prop:=l.length≤4096∧∀ x∈l,0≤x.start∧0≤x.count∧x.start+x.count≤4096
theorem NT:∀ {l:List lQ},(∀ x∈l,0≤x.start∧0≤x.count∧x.start+x.count≤4096)→0≤lK l∧lK l≤4096 * (l.length:Int)
 |[],_=>⟨Int.le_refl _,Int.le_refl _⟩
 |x :: l,h=>by
  obtain ⟨h1,h2⟩:=NT (l:=l) fun y hy=>h y (List.mem_cons_of_mem _ hy)
  have h3:=h x List.mem_cons_self
  have e:lK (x :: l)=x.count+lK l:=by simp [lK]
  rw [e,List.length_cons]
  omega
theorem NU {l:List lQ} (h:okX l) (i:Nat):0≤lK (l.take i)∧lK (l.take i)≤16777216:=by
 have h1:=NT (l:=l.take i) fun x hx=>h.2 x (List.mem_of_mem_take hx)
 have h2:(l.take i).length≤l.length:=by rw [List.length_take];omega
 have:=h.1
 omega
def zH (l:List (List lQ)):Int:=(l.map lK).sum
theorem GV {l:List (List lQ)} {i:Nat} (h:i<l.length):zH (l.take (i+1))=zH (l.take i)+lK l[i]:=by
 rw [List.take_add_one,List.getElem?_eq_getElem h,Option.toList_some]
 unfold zH
 rw [List.map_append,List.sum_append]
 show _+(lK l[i]+0)=_
 rw [Int.add_zero]
theorem NV {l:List (List lQ)} (h:∀ x∈l,okX x):∀ i,0≤zH (l.take i)∧zH (l.take i)≤16777216 * (i:Int)
 |0=>⟨Int.le_refl _,Int.le_refl _⟩
 |i+1=>by
  have ih:=NV h i
  by_cases c:i<l.length
  ·rw [GV c]
   have:=NU (h _ (List.getElem_mem c)) l[i].length
   rw [List.take_length] at this
   omega
  ·rw [List.take_of_length_le (by omega:l.length≤i+1)]
   rw [List.take_of_length_le (by omega:l.length≤i)] at ih
   omega
theorem adM {l:List (List lQ)} {i:Nat} (h:i<l.length):(l.map sQ)[i]?=some (.list 2 (l[i].map gu)):=by rw [List.getElem?_map,List.getElem?_eq_getElem h];rfl
end Go.Proofs.YtaaokejjmdbfaaaDoor.V

namespace Go.Proofs.YtaaokejjmdbfaaaDoor
open Go.RowKit Go.ChangeShapes Go.WideShapes Go.ChangeAt
theorem NW {T:Tags} {w:World} {b:Bool} {v:Value} (h:rW T w [(.bool b,false)] v):v=.bool b:=by
 obtain ⟨arr,h1,h2,h3⟩:=h
 have ha:arr.size=1:=h1
 have e0:arr[0]?=some arr[0]:=Array.getElem?_eq_getElem (by omega)
 have hv:v=arr[0]:=by rw [h2,if_pos ha,Array.getD_eq_getD_getElem?,e0];rfl
 have hr:ay (fun b=>T b=.ro) w (.bool b) arr[0]:=h3 0 (.bool b,false) arr[0] rfl e0
 rw [hv]
 exact hr.oM
def JM (w:World):Prop:=jS (fun b=>if b<w.heap.size then .ro else .other) w
theorem Ri {P:Program} {env:Env} {f:Nat} {args:List PV} {vs:List Value} {w:World} (hE:Ag P env) (h:cal env f args=some [(.bool true,false)]) (hl:vs.length=args.length)
  (hr:∀ (i:Nat) x v,args[i]?=some x→vs[i]?=some v→ay (fun b=>b<w.heap.size) w x v) (hG:JM w):Calls P f vs.toArray w (fun e w'=>e=.returned (.bool true)∧Below w.heap.size w w'):=by
 obtain ⟨n,hn⟩:=wz h
 have hC:=(Gg hE hn).2 (fun b=>if b<w.heap.size then .ro else .other) w vs (fun b=>by
  by_cases hb:b<w.heap.size
  ·exact .inl (if_pos hb)
  ·exact .inr (if_neg hb)) (fun b hb=>if_neg (by omega)) hl (fun i x v hx hv=>(hr i x v hx hv).frame fun b hb _=>⟨if_pos hb,rfl⟩) hG
 refine hC.mono ?_
 rintro e w' ⟨v,T',rfl,h1,_,_,h2⟩
 exact ⟨by rw [NW h2],h1⟩
def JO (w:World):List PV→List Value→Prop
 |[],[]=>True
 |x :: xs,v :: vs=>ay (fun b=>b<w.heap.size) w x v∧JO w xs vs
 |_,_=>False
theorem JO.get {w:World}:∀ {xs:List PV} {vs:List Value},JO w xs vs→vs.length=xs.length∧∀ (i:Nat) x v,xs[i]?=some x→vs[i]?=some v→ay (fun b=>b<w.heap.size) w x v
 |[],[],_=>⟨rfl,fun i x v hx=>by simp at hx⟩
 |x :: xs,v :: vs,h=>by
  obtain ⟨h1,h2⟩:=h
  obtain ⟨k1,k2⟩:=h2.get
  refine ⟨by simp [k1],fun i y u hy hu=>?_⟩
  cases i with
  |zero=>cases hy;cases hu;exact h1
  |succ i=>exact k2 i y u hy hu
 |[],_ :: _,h=>h.elim
 |_ :: _,[],h=>h.elim
theorem WM {P:Program} {env:Env} {f:Nat} {args:List PV} {vs:List Value} {w:World} (hE:Ag P env) (h:cal env f args=some [(.bool true,false)]) (hr:JO w args vs) (hG:JM w:=by exact JM.none):Calls P f vs.toArray w (fun e w'=>e=.returned (.bool true)∧Below w.heap.size w w') :=
 Ri hE h hr.get.1 hr.get.2 hG
def JQ (w:World) (cs:List Value) (ps:List PV):Prop :=
 cs.length=ps.length∧(∀ c∈cs,c.oneCell'=true)∧∀ (j:Nat) x v,ps[j]?=some x→cs[j]?=some v→ay (fun b=>b<w.heap.size) w x v
def iF (P:Program) (t:TypeId) (n:Nat) (S:List PV→Prop):Prop :=
 P.cellsOf t=n∧∀ {H:Type} {enc:TypeId × Value→H} {w:World} {fuel:Nat} {cs:List Value} {x:DataW H × List MemPlace},DataW.trod enc P w 0 (fun _=>true) true fuel t cs=some x→∃ ps,S ps∧ps.length=n∧JQ w cs ps
def SInt (k:IntKind) (ps:List PV):Prop:=∃ n,(Lit.int k n).wf=true∧ps=[.int k n]
def aiN (ps:List PV):Prop:=∃ b,ps=[.bool b]
def aiO (n:Nat) (S:List PV→Prop) (ps:List PV):Prop:=ps.length=n∧∀ p∈ps,S [p]
def wrS (ps:List PV):PV:=ps.headD .void
def DX (n:Nat) (S:List PV→Prop) (wr:List PV→PV) (ps:List PV):Prop:=∃ es,ps=[.list n es]∧∀ x∈es,∃ q,S q∧x=wr q
def Rj:List (List PV→Prop)→List PV→Prop
 |[],ps=>ps=[]
 |S :: Ss,ps=>∃ p q,ps=p++q∧S p∧Rj Ss q
section
variable {P:Program} {t e:TypeId} {n m:Nat} {S:List PV→Prop} {k:IntKind}
theorem yN {w:World} {c:Value} {p:PV} (hc:c.oneCell'=true) (h:ay (fun b=>b<w.heap.size) w p c):JQ w [c] [p] :=
 ⟨rfl,fun x hx=>by rw [List.mem_singleton.1 hx];exact hc,fun j x v hx hv=>by
  cases j with
  |zero=>cases hx;cases hv;exact h
  |succ j=>simp at hx⟩
theorem iF.int (ht:P.underlying t=some (.int k)) (hc:P.cellsOf t=1):iF P t 1 (SInt k):=⟨hc,fun h=>by
 obtain ⟨n,rfl,_,hw⟩:=DataW.trod_int ht h
 exact ⟨[.int k n],⟨n,hw,rfl⟩,rfl,yN rfl (.int k n)⟩⟩
theorem iF.bool (ht:P.underlying t=some .bool) (hc:P.cellsOf t=1):iF P t 1 aiN:=⟨hc,fun h=>by
 obtain ⟨b,rfl,_⟩:=DataW.trod_bool ht h
 exact ⟨[.bool b],⟨b,rfl⟩,rfl,yN rfl (.bool b)⟩⟩
theorem zI {α:Type} {p:Nat→α→Prop}:∀ n:Nat,(∀ i,i<n→∃ y,p i y)→∃ l:List α,l.length=n∧∀ i x,l[i]?=some x→p i x
 |0,_=>⟨[],rfl,fun i x h=>by simp at h⟩
 |n+1,h=>by
  obtain ⟨l,h1,h2⟩:=zI n fun i hi=>h i (by omega)
  obtain ⟨y,hy⟩:=h n (by omega)
  refine ⟨l++[y],by simp [h1],fun i x hx=>?_⟩
  by_cases hi:i<n
  ·rw [List.getElem?_append_left (by omega)] at hx;exact h2 i x hx
  ·have:=(List.getElem?_eq_some_iff.1 hx).1
   obtain rfl:i=n:=by simp at this;omega
   rw [List.getElem?_append_right (by omega),h1,Nat.sub_self] at hx
   cases hx
   exact hy
theorem iF.arr (ht:P.underlying t=some (.array n e)) (he:iF P e 1 S) (hc:P.cellsOf t=n):iF P t n (aiO n S):=⟨hc,fun {H enc w fuel cs x} h=>by
 obtain ⟨xs,m,_,_,hl,hx,hE⟩:=DataW.trod_array ht h
 rw [hc] at hl
 obtain ⟨l,h1,h2⟩:=zI (p:=fun i (b:PV)=>S [b]∧∃ c,cs[i]?=some c∧c.oneCell'=true∧ay (fun b=>b<w.heap.size) w b c) n fun i hi=>by
  have:=hE i hi
  rw [List.getElem?_eq_getElem (by omega),he.1] at this
  obtain ⟨ps,g1,g2,g3,g4,g5⟩:=he.2 this
  match ps,g2 with
  |[p],_ =>
   have hci:cs[i]?=some cs[i]:=List.getElem?_eq_getElem (by omega)
   have h0:((cs.drop (i * 1)).take 1)[0]?=some cs[i]:=by
    rw [List.getElem?_take,if_pos (by decide),List.getElem?_drop]
    simpa using hci
   exact ⟨p,g1,cs[i],hci,g4 _ (List.mem_of_getElem? h0),g5 0 p _ rfl h0⟩
 refine ⟨l,⟨h1,fun p hp=>?_⟩,h1,by omega,fun c hc=>?_,fun j x v hx hv=>?_⟩
 ·obtain ⟨i,hi⟩:=List.mem_iff_getElem?.1 hp
  exact (h2 i p hi).1
 ·obtain ⟨i,hi⟩:=List.mem_iff_getElem?.1 hc
  have hil:i<l.length:=by
   have:=(List.getElem?_eq_some_iff.1 hi).1
   omega
  obtain ⟨_,c',e1,e2,_⟩:=h2 i l[i] (List.getElem?_eq_getElem hil)
  rw [hi] at e1;cases e1;exact e2
 ·obtain ⟨_,c',e1,_,e3⟩:=h2 j x hx
  rw [hv] at e1;cases e1;exact e3⟩
theorem DY {w:World} {b off:Nat} {v:Value} (h:w.cell? ⟨b,off,none⟩=some v):dD w b:=by
 unfold World.cell? at h
 split at h
 ·rename_i arr E q hb
  exact ⟨arr,E,q,hb⟩
 ·cases h
theorem iF.list {wr:List PV→PV} (ht:P.underlying t=some (.slice e)) (hc:P.cellsOf t=1) (hr:iF P e n S) (hpos:0<n) (hw:∀ ps,S ps→ps.length=n→(wr ps).cells=ps):iF P t 1 (DX n S wr):=⟨hc,fun {H enc w fuel cs x} h=>by
 rcases DataW.trod_slice ht h with ⟨rfl,_⟩|⟨a,len,cap,elems,rest,m,_,rfl,_,_,hl,hm,hel,hE,hR,_⟩
 ·exact ⟨[.list n []],⟨[],rfl,fun x hx=>by cases hx⟩,rfl,yN rfl (.nil n none)⟩
 ·obtain ⟨l,h1,h2⟩:=zI (p:=fun i (y:List Value × List PV)=>w.cells? 0 (a.add (i * n)) n=some y.1∧S y.2∧y.2.length=n∧JQ w y.1 y.2) len fun i hi=>by
   have:=hE i hi
   rw [List.getElem?_eq_getElem (by omega),hr.1,Option.bind_eq_some_iff] at this
   obtain ⟨c,h3,h4⟩:=this
   obtain ⟨ps,g1,g2,g3⟩:=hr.2 h4
   exact ⟨(c,ps),h3,g1,g2,g3⟩
  refine ⟨[.list n (l.map fun y=>wr y.2)],⟨_,rfl,fun x hx=>?_⟩,rfl,yN rfl ?_⟩
  ·obtain ⟨y,hy,rfl⟩:=List.mem_map.1 hx
   obtain ⟨i,hi⟩:=List.mem_iff_getElem?.1 hy
   exact ⟨y.2,(h2 i y hi).2.1,rfl⟩
  ·by_cases hcap:cap=0
   ·have:len=0:=by omega
    subst hcap;subst this
    have:l=[]:=List.eq_nil_of_length_eq_zero h1
    subst this
    exact .nil n (some a)
   ·-- there are cells
    have hcell:∃ off v,w.cell? ⟨a.block,off,none⟩=some v∧a.spot=none:=by
     have aeP:∀ (i:Nat) (c:List Value),w.cells? 0 (a.add (i * n)) n=some c→∃ off v,w.cell? ⟨a.block,off,none⟩=some v∧a.spot=none:=fun i c h3=>by
      obtain ⟨_,hc0,h4⟩:=World.cells?_some h3
      have h5:=h4 0 hpos
      rw [List.getElem?_eq_getElem (by omega)] at h5
      have hs:(a.add (i * n)).spot=none:=by simpa [Addr.add] using World.cell?_spot h5
      have hs0:a.spot=none:=by
       unfold Addr.add at hs
       split at hs
       ·exact hs
       ·rename_i hne
        by_cases h0:i * n=0
        ·rename_i q;exact absurd h0 (by simpa using hne)
        ·rcases Nat.eq_zero_or_pos i with hi0|hi0
         ·subst hi0;simp at h0
         ·-- the row begins at a: its first cell
          have:0<len∨len=0:=by omega
          rcases this with hlen|hlen
          ·obtain ⟨y,hy⟩:∃ y,l[0]?=some y:=⟨l[0],List.getElem?_eq_getElem (by omega)⟩
           obtain ⟨_,hc1,h6⟩:=World.cells?_some (h2 0 y hy).1
           have h7:=h6 0 hpos
           rw [List.getElem?_eq_getElem (by omega)] at h7
           simpa [Addr.add] using World.cell?_spot h7
          ·have hrl:0<rest.length:=by have:=(hR rfl).1;omega
           have:=(hR rfl).2 0 (by omega)
           have h8:rest[0]?=some rest[0]:=List.getElem?_eq_getElem hrl
           rw [h8,hr.1,hlen,Option.bind_eq_some_iff] at this
           obtain ⟨c1,h9,_⟩:=this
           obtain ⟨_,hc1,h6⟩:=World.cells?_some h9
           have h7:=h6 0 hpos
           rw [List.getElem?_eq_getElem (by omega)] at h7
           simpa [Addr.add] using World.cell?_spot h7
      obtain ⟨b,off,spot⟩:=a
      simp only at hs0
      subst hs0
      rw [Addr.add_lit,Addr.add_lit] at h5
      exact ⟨_,_,h5,rfl⟩
     rcases Nat.eq_zero_or_pos len with hlen|hlen
     ·have hrl:0<rest.length:=by have:=(hR rfl).1;omega
      have:=(hR rfl).2 0 (by omega)
      have h8:rest[0]?=some rest[0]:=List.getElem?_eq_getElem hrl
      rw [h8,hr.1,Option.bind_eq_some_iff] at this
      obtain ⟨c1,h9,_⟩:=this
      exact aeP _ c1 h9
     ·obtain ⟨y,hy⟩:∃ y,l[0]?=some y:=⟨l[0],List.getElem?_eq_getElem (by omega)⟩
      exact aeP 0 _ (h2 0 y hy).1
    obtain ⟨amj,v0,hv0,hspot⟩:=hcell
    obtain ⟨b,off,spot⟩:=a
    simp only at hspot hv0
    subst hspot
    have hC:dD w b:=DY hv0
    have hget:∀ (i:Nat) x,(l.map fun y=>wr y.2)[i]?=some x→∃ y,l[i]?=some y∧x=wr y.2:=fun i x hx=>by
     rw [List.getElem?_map] at hx
     cases e:l[i]? with
     |none=>rw [e] at hx;cases hx
     |some y=>rw [e] at hx;exact ⟨y,rfl,(Option.some.inj hx).symm⟩
    have hlen:(l.map fun y=>wr y.2).length=len:=by simp [h1]
    have:=ay.list (ok:=fun b=>b<w.heap.size) (w:=w) n (l.map fun y=>wr y.2) b off cap (fun i j=>(((l[i]?).map (·.1)).getD []).getD j default) hC.lt hC (by rw [hlen];exact hl) hm
     (fun x hx=>by
      obtain ⟨i,hi⟩:=List.mem_iff_getElem?.1 hx
      obtain ⟨y,hy,rfl⟩:=hget i x hi
      obtain ⟨_,g1,g2,_⟩:=h2 i y hy
      rw [hw _ g1 g2,g2])
     (fun i x j p hi hj=>by
      obtain ⟨y,hy,rfl⟩:=hget i x hi
      obtain ⟨g0,g1,g2,g3,g4,g5⟩:=h2 i y hy
      rw [hw _ g1 g2] at hj
      have hjn:j<n:=by have:=(List.getElem?_eq_some_iff.1 hj).1;omega
      obtain ⟨_,hc1,h6⟩:=World.cells?_some g0
      have h7:=h6 j hjn
      have hcj:y.1[j]?=some y.1[j]:=List.getElem?_eq_getElem (by omega)
      have hd:(((l[i]?).map (·.1)).getD []).getD j default=y.1[j]:=by
       rw [hy];simp [List.getD_eq_getElem?_getD,hcj]
      rw [hd]
      rw [hcj,Addr.add_lit,Addr.add_lit] at h7
      exact ⟨h7,g4 _ (List.mem_of_getElem? hcj)⟩)
     (fun i x j p hi hj=>by
      obtain ⟨y,hy,rfl⟩:=hget i x hi
      obtain ⟨g0,g1,g2,g3,g4,g5⟩:=h2 i y hy
      rw [hw _ g1 g2] at hj
      have hjn:j<n:=by have:=(List.getElem?_eq_some_iff.1 hj).1;omega
      have hcj:y.1[j]?=some y.1[j]:=List.getElem?_eq_getElem (by omega)
      have hd:(((l[i]?).map (·.1)).getD []).getD j default=y.1[j]:=by
       rw [hy];simp [List.getD_eq_getElem?_getD,hcj]
      rw [hd]
      exact g5 j p _ hj hcj)
    rw [hlen] at this
    exact this⟩
theorem JQ.append {w:World} {c1 c2:List Value} {p1 p2:List PV} (h1:JQ w c1 p1) (h2:JQ w c2 p2):JQ w (c1++c2) (p1++p2):=by
 obtain ⟨a1,a2,a3⟩:=h1
 obtain ⟨b1,b2,b3⟩:=h2
 refine ⟨by simp [a1,b1],fun c hc=>?_,fun j x v hx hv=>?_⟩
 ·rcases List.mem_append.1 hc with h|h
  ·exact a2 c h
  ·exact b2 c h
 ·by_cases hj:j<p1.length
  ·rw [List.getElem?_append_left hj] at hx
   rw [List.getElem?_append_left (by omega)] at hv
   exact a3 j x v hx hv
  ·rw [List.getElem?_append_right (by omega)] at hx
   rw [List.getElem?_append_right (by omega),a1] at hv
   exact b3 _ x v hx hv
inductive Rk (P:Program):Nat→List Field→List (List PV→Prop)→Nat→Prop
 |nil (o:Nat):Rk P o [] [] 0
 |cons {o n m:Nat} {f:Field} {fs:List Field} {S:List PV→Prop} {Ss:List (List PV→Prop)}:f.offset=o→iF P f.type n S→Rk P (o+n) fs Ss m→Rk P o (f :: fs) (S :: Ss) (n+m)
theorem Rk.read {o:Nat} {fs:List Field} {Ss:List (List PV→Prop)} (h:Rk P o fs Ss m) {H:Type} {enc:TypeId × Value→H} {w:World} {fuel:Nat} {cs:List Value} {xs:List (DataW H × List MemPlace)} (hl:cs.length=o+m)
  (hx:∀ (i:Nat) (f:Field),fs[i]?=some f→∃ x,DataW.trod enc P w 0 (fun _=>true) true fuel f.type ((cs.drop f.offset).take (P.cellsOf f.type))=some x):∃ ps,Rj Ss ps∧ps.length=m∧JQ w (cs.drop o) ps:=by
 induction h with
 |nil o=>exact ⟨[],rfl,rfl,by rw [List.drop_of_length_le (by omega)];exact (⟨rfl,fun c hc=>(by cases hc),fun j x v hx=>(by simp at hx)⟩:JQ w [] [])⟩
 |@cons o n m f fs S Ss h1 h2 h3 ih =>
  obtain ⟨x,h4⟩:=hx 0 f rfl
  rw [h2.1,h1] at h4
  obtain ⟨p,g1,g2,g3⟩:=h2.2 h4
  obtain ⟨q,k1,k2,k3⟩:=ih (by omega) (fun i f hf=>hx (i+1) f hf)
  refine ⟨p++q,⟨p,q,rfl,g1,k1⟩,by simp [g2,k2],?_⟩
  have:cs.drop o=(cs.drop o).take n++cs.drop (o+n):=by rw [← List.drop_drop,List.take_append_drop]
  rw [this]
  exact g3.append k3
theorem iF.struct {fs:Array Field} {Ss:List (List PV→Prop)} (ht:P.underlying t=some (.struct fs)) (hf:Rk P 0 fs.toList Ss n) (hc:P.cellsOf t=n):iF P t n (Rj Ss):=⟨hc,fun {H enc w fuel cs x} h=>by
 obtain ⟨xs,m,_,_,hl,hx,hE⟩:=DataW.trod_struct ht h
 obtain ⟨ps,h1,h2,h3⟩:=hf.read (xs:=xs) (enc:=enc) (w:=w) (fuel:=m) (cs:=cs) (by omega) (fun i f hi=>by
  have hi':fs[i]?=some f:=by simpa using hi
  have:=hE i f hi'
  have hil:i<xs.length:=by rw [hx];exact (Array.getElem?_eq_some_iff.1 hi').1
  exact ⟨xs[i],by rw [this,List.getElem?_eq_getElem hil]⟩)
 exact ⟨ps,h1,h2,by simpa using h3⟩⟩
theorem iF.adN {f0 f1 f2:Field} {n0 n1 n2:Nat} {S0 S1 S2:List PV→Prop} (ht:P.underlying t=some (.struct #[f0,f1,f2])) (h0:iF P f0.type n0 S0) (h1:iF P f1.type n1 S1) (h2:iF P f2.type n2 S2) (o0:f0.offset=0) (o1:f1.offset=0+n0) (o2:f2.offset=0+n0+n1) (hc:P.cellsOf t=n0+(n1+(n2+0))):iF P t (n0+(n1+(n2+0))) (Rj [S0,S1,S2]) :=
 iF.struct ht (show Rk P 0 [f0,f1,f2] [S0,S1,S2] (n0+(n1+(n2+0))) from .cons o0 h0 (.cons o1 h1 (.cons o2 h2 (.nil _)))) hc
theorem adO {H:Type} {enc:TypeId × Value→H} {w:World} {v:Value} {d:DataW H} {p:List MemPlace} (hr:iF P t 1 S) (hone:v.cells.toList=[v]) (h:DataW.Trod enc P w 0 (fun _=>true) true t v d p) :
  ∃ q,S [q]∧ay (fun b=>b<w.heap.size) w q v:=by
 obtain ⟨fuel,hf⟩:=h
 obtain ⟨ps,h1,h2,h3,h4,h5⟩:=hr.2 hf
 match ps,h2 with
 |[q],_=>exact ⟨q,h1,h5 0 q v rfl (by rw [hone];rfl)⟩
theorem adP {H:Type} {enc:TypeId × Value→H} {w:World} {arr:Array Value} {d:DataW H} {p:List MemPlace} (hr:iF P t n S) (h:DataW.Trod enc P w 0 (fun _=>true) true t (.agg arr) d p) :
  ∃ ps,S ps∧ay (fun b=>b<w.heap.size) w (.agg ps) (.agg arr):=by
 obtain ⟨fuel,hf⟩:=h
 obtain ⟨ps,h1,h2,h3,h4,h5⟩:=hr.2 hf
 have hc:(Value.agg arr).cells=arr:=rfl
 rw [hc] at h3 h4 h5
 refine ⟨ps,h1,.agg ps arr (by simpa using h3) (fun j v hv=>h4 v (List.mem_of_getElem? (i:=j) (by simpa using hv))) (fun j x v hx hv=>h5 j x v hx (by simpa using hv))⟩
theorem GX {H:Type} {enc:TypeId × Value→H} {w:World} {v:Value} {d:DataW H} {p:List MemPlace} {m:Reach} {base:Nat} (ht:P.underlying t=some (.slice e)) (hr:iF P t 1 S) (hv:Value.okWide P w m base t v) (h:DataW.Trod enc P w 0 (fun _=>true) true t v d p) :
  ∃ q,S [q]∧ay (fun b=>b<w.heap.size) w q v:=by
 obtain ⟨a,l,c,rfl⟩:=okWide_slice ht hv
 exact adO hr rfl h
theorem adQ {H:Type} {enc:TypeId × Value→H} {w:World} {v:Value} {d:DataW H} {p:List MemPlace} {m:Reach} {base:Nat} {c:Nat} (ht:P.underlying t=some (.array c e)) (hr:iF P t n S) (hv:Value.okWide P w m base t v) (h:DataW.Trod enc P w 0 (fun _=>true) true t v d p) :
  ∃ ps,S ps∧ay (fun b=>b<w.heap.size) w (.agg ps) v:=by
 simp only [Value.okWide,ht] at hv
 obtain ⟨cs,rfl,_,_⟩:=hv
 exact adP hr h
end
end Go.Proofs.YtaaokejjmdbfaaaDoor

namespace Go.Proofs.YtaaokejjmdbfaaaDoor
open Go.RowKit
theorem vM {w:World} {a:Addr} {v:Value} (h:w.cell? a=some v):∀ x:Later w,x.w.cell? a=some v:=fun x=>(x.below.cell (World.block_lt_of_cell? w a h)).trans h
structure kK (W:World) (g:Nat) where
 w:World
 grown:W.grownBy w (some g)
instance (W:World) (g:Nat):Nonempty (kK W g):=⟨⟨W,World.grownBy.refl _ _⟩⟩
theorem kK.of {W w:World} {g:Nat} (h:W.grownBy w (some g)):∃ x:kK W g,w=x.w:=⟨⟨w,h⟩,rfl⟩
theorem grown_drew (W:World) (row:Option Nat):W.grownBy W.drew row:=⟨rfl,rfl,rfl,Nat.le_refl _,fun _ _ _=>rfl⟩
theorem kK.drew (W:World) (g:Nat):∃ x:kK W g,W.drew=x.w:=kK.of (grown_drew _ _)
theorem mP {w:World} {g:Nat} {a:Addr} {v:Value} (h:w.cell? a=some v) (hne:a.block≠g):∀ x:kK w g,x.w.cell? a=some v:=fun x =>
 x.grown.cell h fun e=>hne (Option.some.inj e)
theorem Ar {a b c:World} {row:Option Nat} (h:a.grownBy b row) (k:b.grownBy c row):a.grownBy c row :=
 ⟨k.os.trans h.os,k.tape.trans h.tape,k.output.trans h.output,Nat.le_trans h.size k.size,fun i hi hr=>(k.block i (Nat.lt_of_lt_of_le hi h.size) hr).trans (h.block i hi hr)⟩
theorem WO {w w':World} {row:Option Nat} (h:w.grownBy w' none):w.grownBy w' row:=⟨h.os,h.tape,h.output,h.size,fun k hk _=>h.block k hk (by simp)⟩
theorem grown_below {B:Nat} {w w':World} {row:Option Nat} (h:w.grownBy w' row) (hB:B≤w.heap.size) (hr:∀ k,row=some k→B≤k):Below B w w':=(Below.refl B w).grown h hB hr
theorem below_grown {w w':World} (h:Below w.heap.size w w'):w.grownBy w' none:=⟨h.os,h.tape,h.output,h.size,fun k hk _=>h.block k hk⟩
theorem JR {w w1:World} {cs:Array Value} {T:TypeId} (hb:Below (w.alloc (.cells cs T)).heap.size (w.alloc (.cells cs T)) w1) {j:Nat} {v:Value} (h:cs[j]?=some v):w1.cell? ⟨w.heap.size,j,none⟩=some v:=by
 rw [hb.cell (p:=⟨w.heap.size,j,none⟩) (by simp),World.cell?_alloc_mark w cs T (0,0) j,h]
theorem yO (w:World) (E:TypeId) (cs:Array Value):∀ j u,cs.toList[j]?=some u→(w.alloc (.cells cs E)).cell? ((⟨w.heap.size,0,none⟩:Addr).add j)=some u:=fun j u hu=>by
 rw [Addr.add_lit,Nat.zero_add,World.cell?_alloc_mark w cs E (0,0) j]
 simpa using hu
theorem aaD {α:Type} {r:Rep α} {ok:Nat→Prop} {w w':World} {cs:List Value} {x:α} (h:r.rd ok w cs x) (hb:Below w.heap.size w w'):r.rd ok w' cs x :=
 r.mono (fun _ hb=>hb.1) (r.frame (fun b hb'=>hb.block b hb'.2) (r.live h))
theorem yP {α:Type} {r:Rep α} {ok:Nat→Prop} {w:World} {cs:List Value} {x:α} (h:r.rd ok w cs x) {o:Obj}:r.rd ok (w.alloc o) cs x:=aaD h ((Below.refl _ _).alloc (Nat.le_refl _) _)
def bW {α:Type} (r:Rep α) (tag:Nat→Nat) (ok:Nat→Prop) (w:World):Nat→List Value→List α→Prop
 |_,xs,[]=>xs=[]
 |i,xs,x :: l=>∃ c rest,xs=c++rest∧r.rd (fun b=>ok b∧tag b=i) w c x∧bW r tag ok w (i+1) rest l
section
variable {α:Type} {r:Rep α} {tag tag':Nat→Nat} {ok ok':Nat→Prop} {w w':World}
theorem bW.mono (hk:∀ b,ok b→ok' b):∀ {l:List α} {i:Nat} {xs:List Value},bW r tag ok w i xs l→bW r tag ok' w i xs l
 |[],_,_,h=>h
 |_ :: _,_,_,⟨c,rest,e,h1,h2⟩=>⟨c,rest,e,r.mono (fun b hb=>⟨hk b hb.1,hb.2⟩) h1,h2.mono hk⟩
theorem bW.retag (hk:∀ b,ok b→tag' b=tag b):∀ {l:List α} {i:Nat} {xs:List Value},bW r tag ok w i xs l→bW r tag' ok w i xs l
 |[],_,_,h=>h
 |_ :: _,_,_,⟨c,rest,e,h1,h2⟩=>⟨c,rest,e,r.mono (fun b hb=>⟨hb.1,by rw [hk b hb.1];exact hb.2⟩) h1,h2.retag hk⟩
theorem bW.live:∀ {l:List α} {i:Nat} {xs:List Value},bW r tag ok w i xs l→bW r tag (fun b=>ok b∧b<w.heap.size) w i xs l
 |[],_,_,h=>h
 |_ :: _,_,_,⟨c,rest,e,h1,h2⟩=>⟨c,rest,e,r.mono (fun b hb=>⟨⟨hb.1.1,hb.2⟩,hb.1.2⟩) (r.live h1),h2.live⟩
theorem bW.frame (hf:∀ b,ok b→w'.heap[b]?=w.heap[b]?):∀ {l:List α} {i:Nat} {xs:List Value},bW r tag ok w i xs l→bW r tag ok w' i xs l
 |[],_,_,h=>h
 |_ :: _,_,_,⟨c,rest,e,h1,h2⟩=>⟨c,rest,e,r.frame (fun b hb=>hf b hb.1) h1,h2.frame hf⟩
theorem bW.chunks:∀ {l:List α} {i:Nat} {xs:List Value},bW r tag ok w i xs l→Chunks r ok w xs l
 |[],_,_,h=>h
 |_ :: _,_,_,⟨c,rest,e,h1,h2⟩=>⟨c,rest,e,r.mono (fun b hb=>hb.1) h1,h2.chunks⟩
theorem bW.snoc {c:List Value} {x:α}:∀ {l:List α} {i:Nat} {xs:List Value},bW r tag ok w i xs l→r.rd (fun b=>ok b∧tag b=i+l.length) w c x→bW r tag ok w i (xs++c) (l++[x])
 |[],i,xs,h,hc=>by
  simp only [bW] at h
  subst h
  exact ⟨c,[],by simp,by simpa using hc,rfl⟩
 |y :: l,i,xs,⟨d,rest,e,h1,h2⟩,hc=>⟨d,rest++c,by rw [e,List.append_assoc],h1,h2.snoc (by rw [List.length_cons] at hc;rw [show i+1+l.length=i+(l.length+1) by omega];exact hc)⟩
theorem bW.pick:∀ {l:List α} {i:Nat} {xs:List Value},bW r tag ok w i xs l→∀ {k:Nat} {x:α},l[k]?=some x →
  ∃ c,(∀ j,j<r.sz→xs[k * r.sz+j]?=c[j]?)∧r.rd (fun b=>ok b∧tag b=i+k) w c x ∧
   ∀ (w':World) (x':α),(∀ b,ok b→tag b≠i+k→w'.heap[b]?=w.heap[b]?)→r.rd (fun b=>ok b∧tag b=i+k) w' c x'→bW r tag ok w' i xs (l.set k x')
 |[],_,_,_,k,x,hx=>by simp at hx
 |y :: l,i,xs,⟨c,rest,e,h1,h2⟩,0,x,hx=>by
  simp only [List.getElem?_cons_zero,Option.some.injEq] at hx
  subst hx
  refine ⟨c,fun j hj=>by rw [e,Nat.zero_mul,Nat.zero_add,List.getElem?_append_left (by rw [r.len h1];exact hj)],h1,fun w' x' hf hr=>?_⟩
  refine ⟨c,rest,e,hr,?_⟩
  -- the tail's elements bear other tags
  have:∀ {l:List α} {m:Nat} {xs:List Value},i<m→bW r tag ok w m xs l→bW r tag ok w' m xs l:=by
   intro l
   induction l with
   |nil=>intro m xs _ h;exact h
   |cons z l ih =>
    intro m xs hm h
    obtain ⟨d,rs,e',h3,h4⟩:=h
    exact ⟨d,rs,e',r.frame (fun b hb=>hf b hb.1 (by rw [hb.2];omega)) h3,ih (by omega) h4⟩
  exact this (Nat.lt_succ_self _) h2
 |y :: l,i,xs,⟨c,rest,e,h1,h2⟩,k+1,x,hx=>by
  obtain ⟨d,h3,h4,h5⟩:=h2.pick (k:=k) (x:=x) (by simpa using hx)
  have ei:i+1+k=i+(k+1):=by omega
  refine ⟨d,fun j hj=>?_,by rw [← ei];exact h4,fun w' x' hf hr=>?_⟩
  ·rw [e,List.getElem?_append_right (by rw [r.len h1,Nat.add_mul];omega),r.len h1,← h3 j hj]
   congr 1
   rw [Nat.add_mul];omega
  ·refine ⟨c,rest,e,r.frame (fun b hb=>hf b hb.1 (by rw [hb.2];omega)) h1,?_⟩
   exact h5 w' x' (fun b hb hne=>hf b hb (by rw [← ei];exact hne)) (by rw [ei];exact hr)
end
def jg {α:Type} (r:Rep α) (B F:Nat) (E:TypeId) (w:World) (v:Value) (l:List α):Prop :=
 ∃ tag xs,w.ownsRow B E r.sz v l.length xs∧bW r tag (fun b=>B≤b∧b<F∧Option.some b≠v.ownBlock) w 0 xs l
section
variable {α:Type} {r:Rep α} {B F:Nat} {E:TypeId} {w w':World} {v:Value} {l:List α}
theorem jg.nil (r:Rep α) (B F:Nat) (E:TypeId) (w:World):jg r B F E w (.slice none 0 0) []:=⟨fun _=>0,[],World.ownsRow_nil _ _ _ _,rfl⟩
theorem jg.up {F':Nat} (h:jg r B F E w v l) (hF:F≤F'):jg r B F' E w v l :=
 let ⟨tag,xs,h1,h2⟩:=h;⟨tag,xs,h1,h2.mono fun _ hb=>⟨hb.1,Nat.lt_of_lt_of_le hb.2.1 hF,hb.2.2⟩⟩
theorem jg.live (h:jg r B F E w v l):jg r B w.heap.size E w v l :=
 let ⟨tag,xs,h1,h2⟩:=h;⟨tag,xs,h1,h2.live.mono fun _ hb=>⟨hb.1.1,hb.2,hb.1.2.2⟩⟩
theorem jg.lt (h:jg r B F E w v l):∀ k,v.ownBlock=some k→B≤k∧k<w.heap.size:=let ⟨_,_,h1,_⟩:=h;h1.lt
theorem jg.below (h:jg r B F E w v l) (hb:Below w.heap.size w w'):jg r B F E w' v l:=by
 obtain ⟨tag,xs,h1,h2⟩:=h
 exact ⟨tag,xs,h1.kept (below_grown hb) (by cases v.ownBlock<;>simp),(bW.frame (fun b hb'=>hb.block b hb'.2) h2.live).mono fun b hb=>hb.1⟩
theorem jg.own (h:jg r B F E w v l):Own r B E (B≤·) w v l :=
 let ⟨_,xs,h1,h2⟩:=h;⟨xs,h1,h2.chunks.mono fun _ hb=>⟨hb.1,hb.2.2⟩⟩
theorem jg.sl (h:jg r B F E w v l):∃ a n c,v=.slice a n c∧Sl r (B≤·) w a n c l :=
 let ⟨a,n,c,e,h⟩:=h.own.sl;⟨a,n,c,e,h.mono fun _ hb=>hb.elim id id⟩
theorem qw {P:Program} {ops:Array Oper} {rest:List Oper} {o:Oper} {a:Act} {Q:Exit→Act→World→Prop} {T bytes:Nat} {z:Value} (ht:oI P T E r.sz bytes z) (hgd:o.guard=none) (s x:Operand)
  (ho:o.op=.call { callee:=.builtin .append,args:=#[s,x],argTypes:=#[T,T] }) (hs:a.eval s=v) (h:jg r B F E w v l) {ad:Addr} {c:Nat} (hx:a.eval x=.slice (some ad) 1 c)
  {y:α} {news:List Value} (hnews:∀ j u,news[j]?=some u→w.cell? (ad.add j)=some u) (hrd:r.rd (F≤·) w news y) (hown:∀ k,v.ownBlock=some k→k<F)
  (h63:l.length+1≤maxLen) (hby:(l.length+1) * bytes≤140737488355328) (hB:B≤F) (hF:F≤w.heap.size)
  (hk:∀ v' w',jg r B w'.heap.size E w' v' (l++[y])→w.grownBy w' v.ownBlock→(v'.ownBlock=v.ownBlock∨v'.ownBlock=some w.heap.size)→wpList P ops Q rest (a.put o.dst v') w'):wpList P ops Q (o :: rest) a w:=by
 refine wpList_plain hgd fun K hK=>?_
 obtain ⟨i,hi,hz0,hz1,hz2⟩:=info_parts ht.i
 obtain ⟨tag,xs,h1,h2⟩:=h
 obtain ⟨v',w',hr,h3,h4,_,h6⟩:=run_append_own_at (P:=P) w B T o.type E i z r.sz bytes ht.u hi hz0 hz1 hz2 ht.zs ht.pos v l.length xs h1 ad 1 c news (by rw [r.len hrd];simp) hnews (r.one hrd) h63 hby (by omega)
 unfold Oper.wp execOp
 simp only [ho,resolve,invoke,builtin,Sem.run_bind,Sem.run_pure,Result.andThen_ok,List.map_toArray,List.map_cons,List.map_nil,hs,hx,hr]
 refine hK _ _ (hk v' w' ?_ h4 h6)
 refine ⟨fun b=>if F≤b then l.length else tag b,xs++news,by rw [List.length_append];exact h3,?_⟩
 have hne:∀ b,b<w.heap.size→Option.some b≠v.ownBlock→Option.some b≠v'.ownBlock:=fun b hb hn=>by
  rcases h6 with h6|h6
  ·rw [h6];exact hn
  ·rw [h6];intro e;have:=Option.some.inj e;omega
 refine bW.snoc ?_ ?_
 ·have e1:bW r (fun b=>if F≤b then l.length else tag b) (fun b=>B≤b∧b<F∧Option.some b≠v.ownBlock) w 0 xs l:=h2.retag fun b hb=>by
   show (if F≤b then l.length else tag b)=tag b
   rw [if_neg (by omega)]
  refine (bW.frame (fun b hb=>h4.block b (by omega) hb.2.2) e1).mono fun b hb=>⟨hb.1,Nat.lt_of_lt_of_le hb.2.1 (Nat.le_trans hF h4.size),hne b (by omega) hb.2.2⟩
 ·have hno:∀ b,F≤b→Option.some b≠v.ownBlock:=fun b hb e=>by have:=hown b e.symm;omega
  refine r.mono (fun b hb=>⟨⟨by omega,Nat.lt_of_lt_of_le hb.2 h4.size,hne b hb.2 (hno b hb.1)⟩,?_⟩) (r.frame (fun b hb=>h4.block b hb.2 (hno b hb.1)) (r.live hrd))
  show (if F≤b then l.length else tag b)=0+l.length
  rw [if_pos hb.1,Nat.zero_add]
def aaE {α:Type} (r:Rep α) (ok:Nat→Prop) (w:World) (l:List α) (err:Int):Ending→World→Prop:=fun e w' =>
 ∃ a n c,e=.returned (.tuple #[.slice a n c,.int .i64 err])∧Sl r ok w' a n c l∧Below w.heap.size w w'
theorem aaE.mk {α:Type} {r:Rep α} {ok:Nat→Prop} {w w':World} {l:List α} {err err':Int} {a:Option Addr} {n c:Nat} (he:err'=err) (h:Sl r ok w' a n c l) (hB:Below w.heap.size w w') :
  aaE r ok w l err (.returned (.tuple #[.slice a n c,.int .i64 err'])) w':=⟨a,n,c,by rw [he],h,hB⟩
theorem Sl.nil0 {α:Type} (r:Rep α) (ok:Nat→Prop) (w:World):Sl r ok w none 0 0 []:=⟨rfl,Nat.le_refl _,Nat.zero_le _,fun _=>rfl,.inl rfl⟩
def Flat {α:Type} (r:Rep α):Prop:=∀ {ok ok':Nat→Prop} {w w':World} {cs:List Value} {x:α},r.rd ok w cs x→r.rd ok' w' cs x
theorem Flat.int:Flat tK:=fun h=>h
theorem Flat.sec:Flat nK:=fun h=>h
theorem Flat.u8:Flat u8R:=fun h=>h
theorem Flat.u64:Flat ajW:=fun h=>h
theorem Flat.bool:Flat ahq:=fun h=>h
theorem Chunks.flat {α:Type} {r:Rep α} (hf:Flat r) {ok ok':Nat→Prop} {w w':World}:∀ {l:List α} {xs:List Value},Chunks r ok w xs l→Chunks r ok' w' xs l
 |[],_,h=>h
 |_ :: _,_,⟨c,rest,e,h1,h2⟩=>⟨c,rest,e,hf h1,h2.flat hf⟩
theorem Src.flat {α:Type} {r:Rep α} (hf:Flat r) {ok ok':Nat→Prop} {w:World} {ao:Option Addr} {m c:Nat} {ys:List α} (h:Src r ok w ao m c ys):Src r ok' w ao m c ys :=
 let ⟨h1,h2,news,h3,h4⟩:=h;⟨h1,h2,news,h3,h4.flat hf⟩
theorem Own.aiP {α:Type} (r:Rep α) {B:Nat} {E:TypeId} {ok:Nat→Prop} {w:World} (hB:B≤w.heap.size):Own r B E ok (w.alloc (.cells #[] E)) (.slice (some ⟨w.heap.size,0,none⟩) 0 0) [] :=
 ⟨[],World.ownsRow_lit w #[] 0 hB (Nat.zero_le _) (by simp),rfl⟩
theorem jg.at (h:jg r B F E w v l) {k:Nat} {x:α} (hx:l[k]?=some x) :
  ∃ g cap c,∃ WQ:Nat→Prop,v=.slice (some ⟨g,0,none⟩) l.length cap∧B≤g∧g<w.heap.size∧(∀ j,j<r.sz→w.cell? ⟨g,k * r.sz+j,none⟩=c[j]?)∧r.rd WQ w c x∧(∀ b,WQ b→B≤b∧b<F∧b≠g) ∧
   ∀ (w':World) (x':α),(∀ b,b<w.heap.size→¬ WQ b→w'.heap[b]?=w.heap[b]?)→w'.os=w.os→w'.tape=w.tape→w'.output=w.output→w.heap.size≤w'.heap.size→r.rd WQ w' c x'→jg r B F E w' v (l.set k x'):=by
 obtain ⟨tag,xs,h1,h2⟩:=h
 have hk:=(List.getElem?_eq_some_iff.1 hx).1
 obtain ⟨g,cap,rfl,hBg,hg⟩:∃ g cap,v=.slice (some ⟨g,0,none⟩) l.length cap∧B≤g∧g<w.heap.size:=by
  rcases h1.2 with ⟨_,h0⟩|⟨g,cap,cur,hv,hb,hg,_⟩
  ·omega
  ·exact ⟨g,cap,hv,hb,(Array.getElem?_eq_some_iff.1 hg).1⟩
 obtain ⟨c,h3,h4,h5⟩:=h2.live.pick hx
 refine ⟨g,cap,c,_,rfl,hBg,hg,fun j hj=>?_,h4,fun b hb=>⟨hb.1.1.1,hb.1.1.2.1,fun e=>hb.1.1.2.2 (by rw [e];rfl)⟩,fun w' x' hf hos htp hout hsz hr=>?_⟩
 ·rw [← h3 j hj,h1.cellAt]
  calc k * r.sz+j<k * r.sz+r.sz:=by omega
   _=(k+1) * r.sz:=by rw [Nat.add_mul];omega
   _≤l.length * r.sz:=Nat.mul_le_mul_right _ (by omega)
 ·have h6:=h5 w' x' (fun b hb hne=>hf b hb.2 fun e=>hne (by simpa using e.2)) hr
  refine ⟨tag,xs,?_,h6.mono fun b hb=>hb.1⟩
  rw [List.length_set]
  have hgk:w'.heap[g]?=w.heap[g]?:=hf g hg fun e=>e.1.1.2.2 rfl
  obtain ⟨hl,⟨hv,h0⟩|⟨g',cap',cur,hv,r1,r2,r3⟩⟩:=h1
  ·cases hv
  ·cases hv
   exact ⟨hl,.inr ⟨g,cap,cur,rfl,r1,by rw [hgk];exact r2,r3⟩⟩
end
def fH {α:Type} (r:Rep α) (E:TypeId):Rep (List α) where
 sz:=1
 rd ok w cs l:=∃ v,cs=[v]∧(∀ b,v.ownBlock=some b→ok b)∧Own r 0 E (fun _=>False) w v l∧(l=[]→v=.slice none 0 0∨∃ g c,v=.slice (some ⟨g,0,none⟩) 0 c)
 len h:=by obtain ⟨v,rfl,_⟩:=h;rfl
 mono hk h:=let ⟨v,e,h1,h2⟩:=h;⟨v,e,fun b hb=>hk b (h1 b hb),h2⟩
 live h:=let ⟨v,e,h1,h2,h3⟩:=h;⟨v,e,fun b hb=>⟨h1 b hb,(h2.lt b hb).2⟩,h2,h3⟩
 frame hf h:=by
  obtain ⟨v,e,h1,⟨xs,h2,h3⟩,h4⟩:=h
  refine ⟨v,e,h1,⟨xs,⟨h2.1,?_⟩,(Chunks.frame (fun b hb=>hb.1.elim) h3)⟩,h4⟩
  rcases h2.2 with h0|⟨g,cap,cur,hv,hb,hg,rest⟩
  ·exact .inl h0
  ·refine .inr ⟨g,cap,cur,hv,hb,?_,rest⟩
   rw [hf g (h1 g (by rw [hv];rfl))];exact hg
 one h:=by
  obtain ⟨v,rfl,_,⟨xs,h2,_⟩,_⟩:=h
  intro u hu
  cases List.mem_singleton.1 hu
  rcases h2.2 with ⟨rfl,_⟩|⟨g,cap,cur,rfl,_⟩<;>rfl
theorem fH.sl {α:Type} {r:Rep α} {E:TypeId} {ok:Nat→Prop} {w:World} {v:Value} {l:List α} (hf:Flat r) (h:(fH r E).rd ok w [v] l):∃ a n c,v=.slice a n c∧Sl r ok w a n c l:=by
 obtain ⟨_,e,h1,h2,_⟩:=h
 cases e
 obtain ⟨a,n,c,rfl,h3⟩:=h2.sl
 refine ⟨a,n,c,rfl,h3.len,h3.cap,h3.bnd,h3.nil,h3.cells.imp id fun ⟨b,off,e,_,hb,hc⟩=>⟨b,off,e,h1 b (by rw [e];rfl),hb,fun i x hx=>let ⟨cs,g1,g2⟩:=hc i x hx;⟨cs,g1,hf g2⟩⟩⟩
theorem fH.mk {α:Type} {r:Rep α} {B:Nat} {E:TypeId} {w:World} {v:Value} {l:List α} (h:Own r B E (fun _=>False) w v l) (hv:l=[]→v=.slice none 0 0∨∃ g c,v=.slice (some ⟨g,0,none⟩) 0 c):(fH r E).rd (B≤·) w [v] l:=by
 refine ⟨v,rfl,fun b hb=>(h.lt b hb).1,?_,hv⟩
 obtain ⟨xs,h1,h2⟩:=h
 refine ⟨xs,⟨h1.1,h1.2.imp id fun ⟨g,cap,cur,a1,a2,a3⟩=>⟨g,cap,cur,a1,Nat.zero_le _,a3⟩⟩,h2⟩
section
variable {P:Program} {ops:Array Oper} {rest:List Oper} {o:Oper} {a:Act} {Q:Exit→Act→World→Prop} {α:Type} {r:Rep α} {B:Nat} {E:TypeId} {w:World}
theorem yQ {T bytes:Nat} {z:Value} (ht:oI P T E r.sz bytes z) (hg:o.guard=none) (l c:Operand) (hop:o.op=Op.makeSlice T l c)
  {kl kc:IntKind} {n:Nat} (hl:a.eval l=.int kl 0) (hc:a.eval c=.int kc (n:Int)) (b2:bytes * n≤281474976710656) (b3:n≤maxLen) (b4:B≤w.heap.size)
  (hK:∀ w',(∀ F,jg r B F E w' (.slice (some ⟨w.heap.size,0,none⟩) 0 n) [])→Below w.heap.size w w'→wpList P ops Q rest (a.put o.dst (.slice (some ⟨w.heap.size,0,none⟩) 0 n)) w'):wpList P ops Q (o :: rest) a w:=by
 obtain ⟨i,hi,hz0,hz1,hz2⟩:=info_parts ht.i
 refine wpList_make_own w hg l c T hop B E i z r.sz ht.u hi hz0 hz1 kl kc (n:Int) n hl hc rfl (by rw [hz2];exact b2) b3 b4 fun w' h1 h2=>hK w' (fun F=>⟨fun _=>0,[],h1,rfl⟩) (grown_below h2 (Nat.le_refl _) (fun k e=>by cases e))
end
section
variable {P:Program} {α:Type} {r:Rep α} {B:Nat} {E:TypeId} {w:World} {g cap:Nat} {l:List α}
theorem JU (h:Own r B E (fun _=>False) w (.slice (some ⟨g,0,none⟩) l.length cap) l) {s:Nat} {ys:List α} {news:List Value} (hn:Chunks r (fun _=>False) w news ys) (hs:s+ys.length≤l.length) (hne:l≠[]∨ys≠[]) :
  ∃ w',(storeCells ⟨g,s * r.sz,none⟩ news).run P w=.ok () w'∧Own r B E (fun _=>False) w' (.slice (some ⟨g,0,none⟩) l.length cap) (l.take s++ys++l.drop (s+ys.length))∧w.grownBy w' (some g)∧w'.heap.size=w.heap.size:=by
 obtain ⟨xs,h1,h2⟩:=h
 obtain ⟨hx,⟨hv,_⟩|⟨g',cap',cur,hv,hb,hg,hnc,hcm,hcs,ht⟩⟩:=h1
 ·cases hv
 ·cases hv
  have hnl:=hn.length
  have hxl:=h2.length
  have hfit:s * r.sz+0+news.length≤cur.size:=by
   rw [hcs,hnl,Nat.add_zero,← Nat.add_mul]
   exact Nat.mul_le_mul_right _ (by omega)
  have hrun:=run_storeCells_at P g (s * r.sz) E news 0 cur w hg hfit hn.one
  rw [Nat.add_zero] at hrun
  refine ⟨_,hrun,?_,⟨rfl,rfl,rfl,by simp,fun k _ hk=>setRow_other w g k _ (fun e=>hk (by simp [e]))⟩,by simp⟩
  have hlen':(l.take s++ys++l.drop (s+ys.length)).length=l.length:=by simp;omega
  have hcell:∀ i,(xs.take (s * r.sz)++news++xs.drop (s * r.sz+news.length))[i]?=if i<s * r.sz then xs[i]? else if i<s * r.sz+news.length then news[i - s * r.sz]? else xs[i]?:=by
   intro i
   have hs1:s * r.sz≤xs.length:=by rw [hxl];exact Nat.mul_le_mul_right _ (by omega)
   have e1:(xs.take (s * r.sz)).length=s * r.sz:=by rw [List.length_take];omega
   by_cases hi:i<s * r.sz
   ·rw [if_pos hi,List.append_assoc,List.getElem?_append_left (by rw [e1];exact hi),List.getElem?_take,if_pos hi]
   ·rw [if_neg hi]
    by_cases hi2:i<s * r.sz+news.length
    ·rw [if_pos hi2,List.getElem?_append_left (by rw [List.length_append,e1];exact hi2),List.getElem?_append_right (by rw [e1];omega),e1]
    ·rw [if_neg hi2,List.getElem?_append_right (by rw [List.length_append,e1];omega),List.length_append,e1,List.getElem?_drop]
     congr 1;omega
  refine ⟨xs.take (s * r.sz)++news++xs.drop (s * r.sz+news.length),⟨?_,.inr ⟨g,cap,_,by rw [hlen'],hb,setRow_heap w g cur _ E _ hg,by rw [hlen'];exact hnc,hcm,?_,?_⟩⟩,?_⟩
  ·rw [hlen',List.length_append,List.length_append,List.length_take,List.length_drop,hxl,hnl]
   have:(s+ys.length) * r.sz≤l.length * r.sz:=Nat.mul_le_mul_right _ hs
   rw [Nat.add_mul] at this
   omega
  ·rw [List.size_toArray,List.length_append,List.length_append,List.length_take,List.length_drop,Array.length_toList]
   omega
  ·rw [hlen',← ht]
   have hA:s * r.sz+news.length≤l.length * r.sz:=by rw [hnl,← Nat.add_mul];exact Nat.mul_le_mul_right _ hs
   have hB2:l.length * r.sz≤cur.size:=by rw [hcs];exact Nat.mul_le_mul_right _ hnc
   apply List.ext_getElem?
   intro i
   have e1:(cur.toList.take (s * r.sz)).length=s * r.sz:=by rw [List.length_take,Array.length_toList];omega
   have e2:((cur.toList.take (l.length * r.sz)).take (s * r.sz)).length=s * r.sz:=by simp only [List.length_take,Array.length_toList];omega
   by_cases hi:i<s * r.sz
   ·rw [List.getElem?_take,if_pos (by omega),List.append_assoc,List.getElem?_append_left (by rw [e1];exact hi),List.append_assoc,List.getElem?_append_left (by rw [e2];exact hi),List.getElem?_take,if_pos hi,List.getElem?_take,if_pos hi,List.getElem?_take,if_pos (by omega)]
   ·by_cases hi2:i<s * r.sz+news.length
    ·rw [List.getElem?_take,if_pos (by omega),List.getElem?_append_left (by rw [List.length_append,e1];exact hi2),List.getElem?_append_right (by rw [e1];omega),e1,
      List.getElem?_append_left (by rw [List.length_append,e2];exact hi2),List.getElem?_append_right (by rw [e2];omega),e2]
    ·rw [List.getElem?_take,List.getElem?_append_right (by rw [List.length_append,e1];omega),List.getElem?_append_right (by rw [List.length_append,e2];omega),List.length_append,List.length_append,e1,e2,List.getElem?_drop,List.getElem?_drop,List.getElem?_take]
     have:s * r.sz+news.length+(i - (s * r.sz+news.length))=i:=by omega
     rw [this]
  ·-- the elements
   have:=Chunks.Xy (r:=r) (ok:=fun b=>False∧Option.some b≠(Value.slice (some ⟨g,0,none⟩) l.length cap).ownBlock) (w:=w.setRow g (cur.toList.take (s * r.sz)++news++cur.toList.drop (s * r.sz+news.length)).toArray) (xs:=xs.take (s * r.sz)++news++xs.drop (s * r.sz+news.length)) (l:=l.take s++ys++l.drop (s+ys.length)) 0 (by
     rw [hlen',List.length_append,List.length_append,List.length_take,List.length_drop,hxl,hnl]
     have:(s+ys.length) * r.sz≤l.length * r.sz:=Nat.mul_le_mul_right _ hs
     rw [Nat.add_mul] at this
     omega) (fun i x hx=>by
     have key:∃ c w0,(∀ j,j<r.sz→(xs.take (s * r.sz)++news++xs.drop (s * r.sz+news.length))[i * r.sz+j]?=c[j]?)∧r.rd (fun _=>False) w0 c x:=by
      have es:(l.take s).length=s:=by rw [List.length_take];omega
      by_cases hi:i<s
      ·rw [List.append_assoc,List.getElem?_append_left (by rw [es];exact hi),List.getElem?_take,if_pos hi] at hx
       obtain ⟨c,h3,h4⟩:=h2.at hx
       refine ⟨c,w,fun j hj=>?_,r.mono (fun b hb=>hb.1) h4⟩
       rw [hcell,if_pos,h3 j hj]
       calc i * r.sz+j<i * r.sz+r.sz:=by omega
        _=(i+1) * r.sz:=by rw [Nat.add_mul];omega
        _≤s * r.sz:=Nat.mul_le_mul_right _ (by omega)
      ·by_cases hi2:i<s+ys.length
       ·rw [List.getElem?_append_left (by rw [List.length_append,es];exact hi2),List.getElem?_append_right (by rw [es];omega),es] at hx
        obtain ⟨c,h3,h4⟩:=hn.at hx
        refine ⟨c,w,fun j hj=>?_,h4⟩
        have e3:s * r.sz≤i * r.sz:=Nat.mul_le_mul_right _ (by omega)
        have e4:(i+1) * r.sz≤(s+ys.length) * r.sz:=Nat.mul_le_mul_right _ (by omega)
        rw [Nat.add_mul,Nat.add_mul] at e4
        rw [hcell,if_neg (by omega),if_pos (by rw [hnl];omega),← h3 j hj]
        congr 1
        rw [Nat.sub_mul];omega
       ·rw [List.getElem?_append_right (by rw [List.length_append,es];omega),List.length_append,es,List.getElem?_drop,show s+ys.length+(i - (s+ys.length))=i by omega] at hx
        obtain ⟨c,h3,h4⟩:=h2.at hx
        refine ⟨c,w,fun j hj=>?_,r.mono (fun b hb=>hb.1) h4⟩
        have e3:(s+ys.length) * r.sz≤i * r.sz:=Nat.mul_le_mul_right _ (by omega)
        rw [Nat.add_mul] at e3
        rw [hcell,if_neg (by omega),if_neg (by rw [hnl];omega),h3 j hj]
     obtain ⟨c,w0,h3,h4⟩:=key
     exact ⟨c,fun j hj=>by rw [Nat.zero_add];exact h3 j hj,r.mono (fun b hb=>hb.elim) (r.frame (fun b hb=>hb.elim) h4)⟩)
   simpa using this
end
def sS (a:Option Addr) (c lo sz:Nat):Option Addr:=if c=lo then a else a.map (·.add (lo * sz))
theorem NY {P:Program} {T E sz:Nat} (hT:P.underlying T=some (.slice E)) (hi:(P.info? E).map (·.size)=some sz) (a:Option Addr) (n c s:Nat) (h:s≤n) (w:World) :
  (Instr.sliceAt T (.slice a n c) (some (.int .i64 (s:Int))) none none).run P w=.ok (.slice (sS a c s sz) (n - s) (c - s)) w:=by
 have he:P.elem T=E:=by simp [Program.elem,hT]
 have hT':P.underlying T=some (.slice (P.elem T)):=by rw [he];exact hT
 have hz:(sizeOf (P.elem T)).run P w=.ok sz w:=by
  obtain ⟨i,hi,hs⟩:=Option.map_eq_some_iff.1 hi
  rw [he];simp [sizeOf,typeInfo,hi,hs]
 rw [run_sliceAt_slice w T _ _ _ _ hT',run_slice_l w T a n c hT' .i64 s (by omega) (by omega),hz,Result.andThen_ok]
 simp only [sliced,sS,Int.toNat_natCast]
theorem Sl.sub {α:Type} {r:Rep α} {ok:Nat→Prop} {w:World} {a:Option Addr} {n c:Nat} {l:List α} (h:Sl r ok w a n c l) {s k:Nat} (hk:s+k≤n):Sl r ok w (sS a c s r.sz) k (c - s) ((l.drop s).take k):=by
 have h1:=h.len
 have h2:=h.cap
 refine ⟨by simp;omega,by omega,Nat.le_trans (Nat.sub_le _ _) h.bnd,fun e=>?_,?_⟩
 ·unfold sS at e
  split at e
  ·omega
  ·have:a=none:=by simpa using e
   have:=h.nil this
   omega
 ·rcases h.cells with h0|⟨b,off,rfl,hb,hlt,hc⟩
  ·left;omega
  ·by_cases hk0:k=0
   ·exact .inl hk0
   ·refine .inr ⟨b,off+s * r.sz,?_,hb,hlt,fun i x hx=>?_⟩
    ·unfold sS
     rw [if_neg (by omega)]
     simp [Addr.add_lit]
    ·have hik:i<k:=by have:=(List.getElem?_eq_some_iff.1 hx).1;simp at this;omega
     rw [List.getElem?_take,if_pos hik,List.getElem?_drop] at hx
     obtain ⟨cs,g1,g2⟩:=hc (s+i) x hx
     refine ⟨cs,fun j hj=>?_,g2⟩
     rw [← g1 j hj,Nat.add_mul,Nat.add_assoc off]
section
variable {P:Program} {ops:Array Oper} {rest:List Oper} {o:Oper} {a:Act} {Q:Exit→Act→World→Prop} {α:Type} {r:Rep α} {B:Nat} {E:TypeId} {w:World} {g cap:Nat} {l:List α}
theorem DZ {T bytes:Nat} {z:Value} (ht:oI P T E r.sz bytes z) (hfl:Flat r) (hgd:o.guard=none) (d x:Operand)
  (ho:o.op=.call { callee:=.builtin .copy,args:=#[d,x],argTypes:=#[T,T] }) {s dl dc:Nat} (hd:a.eval d=.slice (some ⟨g,s * r.sz,none⟩) dl dc) {ao:Option Addr} {m c:Nat} (hx:a.eval x=.slice ao m c)
  (h:Own r B E (fun _=>False) w (.slice (some ⟨g,0,none⟩) l.length cap) l) {ok:Nat→Prop} {ys:List α} (hs:Sl r ok w ao m c ys) (hle:s+m≤l.length) (hm:0<m) (hdl:m≤dl)
  (hk:∀ w',Own r B E (fun _=>False) w' (.slice (some ⟨g,0,none⟩) l.length cap) (l.take s++ys++l.drop (s+ys.length))→w.grownBy w' (some g)→w'.heap.size=w.heap.size→wpList P ops Q rest (a.put o.dst (.int .i64 m)) w'):wpList P ops Q (o :: rest) a w:=by
 refine wpList_plain hgd fun K hK=>?_
 obtain ⟨i,hi,_,hz1,_⟩:=info_parts ht.i
 obtain ⟨hlen,hnil,news,hnews,hch⟩:=Src.Xz hs
 obtain ⟨ad,rfl⟩:∃ ad,ao=some ad:=by
  cases ao with
  |some ad=>exact ⟨ad,rfl⟩
  |none=>have:=(hnil rfl).1;omega
 have hnl:=hch.length
 obtain ⟨w',hst,h1,h2,h3⟩:=JU (P:=P) h (s:=s) (ys:=ys) (hch.flat hfl) (by omega) (.inr (by intro e;rw [e] at hlen;simp at hlen;omega))
 have hld:=run_loadCells_list (P:=P) (w:=w) ad news (hnews ad rfl)
 have hmin:Nat.min m dl=m:=Nat.min_eq_left hdl
 rw [hnl,hlen] at hld
 unfold Oper.wp execOp
 have hrun:(Builtin.copy_ #[T,T] o.type #[.slice (some ⟨g,s * r.sz,none⟩) dl dc,.slice (some ad) m c]).run P w=.ok (goInt m) w':=by
  simp [Builtin.copy_,run_underlying ht.u,Builtin.lenOf,Builtin.firstCells,sizeOf,typeInfo,hi,hz1,hmin,hld,hst]
 simp only [ho,resolve,invoke,builtin,Sem.run_bind,Sem.run_pure,Result.andThen_ok,List.map_toArray,List.map_cons,List.map_nil,hd,hx,hrun]
 exact hK _ _ (hk w' h1 h2 h3)
end
section
variable {ok:Nat→Prop} {w:World} {n c:Nat}
theorem Sl.wr {b off:Nat} {l:List (Int × Int × List dY)} (h:Sl (Kz tK (Kz tK (RX nK))) ok w (some ⟨b,off,none⟩) n c l) {k:Nat} {v s:Int} {d:List dY} (hx:l[k]?=some (v,s,d)) :
  ∃ a' n' c',w.cell? ⟨b,off+k * 3,none⟩=some (.int .i64 v)∧w.cell? ⟨b,off+k * 3+1,none⟩=some (.int .i64 s)∧w.cell? ⟨b,off+k * 3+2,none⟩=some (.slice a' n' c')∧kW v∧kW s∧Sl nK ok w a' n' c' d:=by
 obtain ⟨cs,h1,c1,c2,rfl,⟨rfl,hv⟩,c3,c4,rfl,⟨rfl,hs⟩,a',n',c',rfl,hd⟩:=h.at hx
 refine ⟨a',n',c',?_,?_,?_,hv,hs,hd⟩
 ·exact h1 0 (by show 0<3;omega)
 ·exact h1 1 (by show 1<3;omega)
 ·exact h1 2 (by show 2<3;omega)
theorem Sl.ext {b off:Nat} {l:List (Int × Int)} (h:Sl (Kz tK tK) ok w (some ⟨b,off,none⟩) n c l) {k:Nat} {s m:Int} (hx:l[k]?=some (s,m)) :
  w.cell? ⟨b,off+k * 2,none⟩=some (.int .i64 s)∧w.cell? ⟨b,off+k * 2+1,none⟩=some (.int .i64 m)∧kW s∧kW m:=by
 obtain ⟨cs,h1,c1,c2,rfl,⟨rfl,hv⟩,⟨rfl,hs⟩⟩:=h.at hx
 exact ⟨h1 0 (by show 0<2;omega),h1 1 (by show 1<2;omega),hv,hs⟩
end
end Go.Proofs.YtaaokejjmdbfaaaDoor

namespace Go.Proofs.YtaaokejjmdbfaaaDoor
open Go.RowKit
abbrev lS:Rep (List dY):=RX nK
abbrev Wr:=Int × Int × List dY
abbrev wrR:Rep Wr:=Kz tK (Kz tK lS)
theorem Tryd.mixed:Tryd.prog.follows .mixedOrders=true:=by kernel_rfl
theorem Tryd.aeQ:oI Tryd.prog 55 3 1 8 (.int .i64 0):=⟨Tryd.underlying55,by kernel_rfl,rfl,by decide⟩
theorem Tryd.aaF:oI Tryd.prog 76 78 8 8 (.agg #[.int .u8 0,.int .u8 0,.int .u8 0,.int .u8 0,.int .u8 0,.int .u8 0,.int .u8 0,.int .u8 0]):=⟨Tryd.underlying76,by kernel_rfl,rfl,by decide⟩
theorem Tryd.aaG:oI Tryd.prog 24 76 1 24 (.slice none 0 0):=⟨Tryd.underlying24,by kernel_rfl,rfl,by decide⟩
theorem Tryd.aiQ:oI Tryd.prog 50 87 3 40 (.agg #[.int .i64 0,.int .i64 0,.slice none 0 0]):=⟨Tryd.underlying50,by kernel_rfl,rfl,by decide⟩
theorem Tryd.aiR (x y:dY) (w:World):(Op.equalIn 10000 78 (.agg (aZ x).toArray) (.agg (aZ y).toArray)).run Tryd.prog w=.ok (x==y) w:=by
 obtain ⟨i,hi⟩:∃ i,Tryd.prog.info? 5=some i:=Option.isSome_iff_exists.1 (by kernel_rfl)
 exact Az (P:=Tryd.prog) Tryd.underlying78 Tryd.underlying5 hi (by kernel_rfl) x y w
theorem Tryd.TD {w:World} {b off:Nat} {x:dY} (h:∀ j,j<8→w.cell? ⟨b,off+j,none⟩=(aZ x)[j]?):(loadVar 78 ⟨b,off,none⟩).run Tryd.prog w=.ok (.agg (aZ x).toArray) w :=
 KA Tryd.underlying78 rfl (by rw [eU];kernel_rfl) fun j hj=>by rw [Addr.add_lit];exact h j (by rwa [eU] at hj)
theorem Tryd.NZ {ok:Nat→Prop} {w:World} {b off n c k:Nat} {l:List dY} {x:dY} (h:Sl nK ok w (some ⟨b,off,none⟩) n c l) (hx:l[k]?=some x) :
  ∀ w',lT w w'→(loadVar 78 ⟨b,off+k * 8,none⟩).run Tryd.prog w'=.ok (.agg (aZ x).toArray) w':=by
 rintro _ ⟨y,rfl⟩
 exact Tryd.TD ((h.below y.below).sec hx)
theorem oq {k:IntKind} {a b:Int} (h:a=b):Ending.returned (.int k a)=.returned (.int k b):=by rw [h]
theorem uM {a b:Bool} (h:a=b):Ending.returned (.bool a)=.returned (.bool b):=by rw [h]
theorem WR {n:Nat} (h:n≤maxLen):kW (n:Int):=by unfold kW maxLen at *;omega
theorem Sl.i64 {α:Type} {r:Rep α} {ok:Nat→Prop} {w:World} {a:Option Addr} {n c:Nat} {l:List α} (h:Sl r ok w a n c l):kW (n:Int):=WR (Nat.le_trans h.cap h.bnd)
theorem Sl.small {α:Type} {r:Rep α} {ok:Nat→Prop} {w:World} {a:Option Addr} {n c:Nat} {l:List α} (h:Sl r ok w a n c l):n≤9223372036854775807:=by
 have:=Nat.le_trans h.cap h.bnd;unfold maxLen at this;omega
theorem Fa {α:Type} {p:α→Bool} {l:List α} {k:Nat} {x:α} (h:l[k]?=some x):(l.take (k+1)).any p=((l.take k).any p || p x):=by
 rw [List.take_add_one,h];simp
theorem any_true {α:Type} {p:α→Bool} {l:List α} {k:Nat} {x:α} (h:l[k]?=some x) (hp:p x=true):l.any p=true:=by
 rw [List.any_eq_true];exact ⟨x,List.mem_of_getElem? h,hp⟩
theorem mY {α:Type} {l:List α} {k:Nat} {x:α} (h:l[k]?=some x):l.take (k+1)=l.take k++[x]:=by
 rw [List.take_add_one,h];rfl
theorem yR {α:Type} {l:List α} {n:Nat} (h:l.length=n):l.take n=l:=List.take_of_length_le (by omega)
end Go.Proofs.YtaaokejjmdbfaaaDoor

namespace Go.Proofs.YtaaokejjmdbfaaaDoor
open Go.RowKit
def lM (n:Int):Bool:=decide (n<1) || decide (4096<n)
def jF (l:List Int):Int:=if l.length<1∨8<l.length then 6 else if l.any lM then 2 else 0
def lens (im:List (List dY)):List Int:=im.map fun v=>(v.length:Int)
def sU (im:List (List dY)):Int:=jF (lens im)
end Go.Proofs.YtaaokejjmdbfaaaDoor

namespace Go.Proofs.YtaaokejjmdbfaaaDoor
open Go.RowKit
def kL (sizes:List Int) (vol start:Int) (len:Nat):Int :=
 if vol<0∨(sizes.length:Int)≤vol then 7 else if len=0 then 1
 else if start<0∨sizes.getD vol.toNat 0≤start∨sizes.getD vol.toNat 0 - start<len then 2 else 0
theorem BH {α:Type} {l:List α} {k:Nat} {x d:α} (h:l[k]?=some x):l.getD k d=x:=by simp [List.getD,h]
end Go.Proofs.YtaaokejjmdbfaaaDoor

namespace Go.Proofs.YtaaokejjmdbfaaaDoor
open Go.RowKit
end Go.Proofs.YtaaokejjmdbfaaaDoor

namespace Go.Proofs.YtaaokejjmdbfaaaDoor
open Go.RowKit
end Go.Proofs.YtaaokejjmdbfaaaDoor

namespace Go.Proofs.YtaaokejjmdbfaaaDoor
open Go.RowKit
theorem TF {x:Int} {w:World} (_hx:kW x):Calls Tryd.prog 103 #[.int .i64 x] w fun e w'=>e=.returned (.bool (lM x))∧Below w.heap.size w w':=by
 by_cases h1:x<1
 ·go_enter Tryd.func103,Tryd.ntmps103
  go_wp2
  go_ret
  exact ⟨uM (by simp [lM,h1]),Below.refl _ _⟩
 ·by_cases h2:4096<x
  ·go_enter Tryd.func103,Tryd.ntmps103
   go_wp2
   go_ret
   exact ⟨uM (by simp [lM,h2]),Below.refl _ _⟩
  ·go_enter Tryd.func103,Tryd.ntmps103
   go_wp2
   go_ret
   exact ⟨uM (by simp [lM];omega),Below.refl _ _⟩
set_option maxHeartbeats 1000000 in
theorem zJ {a:Option Addr} {n c:Nat} {l:List Int} {ok:Nat→Prop} {w:World} (h:Sl tK ok w a n c l) :
  Calls Tryd.prog 112 #[.slice a n c,.func (.func 103) #[] #[]] w fun e w'=>∃ z:Int,e=.returned (.int .i64 z)∧(0≤z ↔ l.any lM=true)∧kW z∧Below w.heap.size w w':=by
 have hs:=h.small
 go_enter Tryd.func112,Tryd.ntmps112
 go_wp2
 go_loopw [5,8] (fun _ i wr=>∃ k:Nat,k≤n∧i=.int .i64 k∧Hid ((l.take k).any lM=false)∧Below w.heap.size w wr) (fun _ i _=>n - (intOf i).toNat)
 case atStart=>exact ⟨0,Nat.zero_le _,rfl,rfl,Below.refl _ _⟩
 case round =>
  obtain ⟨k,hk,rfl,HT,hB⟩:=hrel
  by_cases hlt:k<n
  ·obtain ⟨b,off,rfl,_,_⟩:=h.addr hlt
   obtain ⟨x,hx⟩:=h.get hlt
   obtain ⟨hcell,hi⟩:=(h.below hB).int hx
   have HX:=Lib.hid hx
   clear hx
   cases hp:lM x with
   |true =>
    have HP:=Lib.hid hp
    have hcall:=TF (w:=wr) hi
    rw [hp] at hcall
    clear hp
    go_wp2_with (fail)
    refine hcall.mono ?_
    rintro e w1 ⟨rfl,hB1⟩
    go_wp2
    go_ret
    exact ⟨k,rfl,by rw [any_true HX.out HP.out];simp,by unfold kW;omega,hB.trans (hB1.mono hB.size)⟩
   |false =>
    have HP:=Lib.hid hp
    have hcall:=TF (w:=wr) hi
    rw [hp] at hcall
    clear hp
    go_wp2_with (fail)
    refine hcall.mono ?_
    rintro e w1 ⟨rfl,hB1⟩
    go_wp2
    go_roundw
    case rel=>exact ⟨k+1,by omega,by go_num,by show _=false;rw [Fa HX.out,HT.out,HP.out];rfl,hB.trans (hB1.mono hB.size)⟩
    case measure=>simp [intOf];omega
  ·go_wp2
   go_ret
   obtain rfl:k=n:=by omega
   have e:=HT.out
   rw [yR h.len] at e
   exact ⟨-1,rfl,by rw [e];simp,by unfold kW;omega,hB⟩
theorem JV {a:Option Addr} {n c:Nat} {l:List Int} {ok:Nat→Prop} {w:World} (h:Sl tK ok w a n c l) :
  Calls Tryd.prog 102 #[.slice a n c,.func (.func 103) #[] #[]] w fun e w'=>e=.returned (.bool (l.any lM))∧Below w.heap.size w w':=by
 go_enter Tryd.func102,Tryd.ntmps102
 go_wp2_with fail
 refine (zJ h).mono ?_
 rintro e w1 ⟨z,rfl,hz,hi,hB⟩
 unfold kW at hi
 cases hp:l.any lM with
 |true =>
  have hz0:0≤z:=hz.2 hp
  have HP:=Lib.hid hp
  clear hz hp
  go_wp2
  go_ret
  exact ⟨uM HP.out.symm,hB⟩
 |false =>
  have hz0:z<0:=by rw [hp] at hz;simp at hz;omega
  have HP:=Lib.hid hp
  clear hz hp
  go_wp2
  go_ret
  exact ⟨uM (by rw [HP.out];simp;omega),hB⟩
theorem D5 {a:Option Addr} {n c:Nat} {l:List Int} {ok:Nat→Prop} {w:World} (h:Sl tK ok w a n c l) :
  Calls Tryd.prog 82 #[.slice a n c] w fun e w'=>e=.returned (.int .i64 (jF l))∧Below w.heap.size w w':=by
 have hs:=h.small
 by_cases hn1:n<1
 ·obtain rfl:n=0:=by omega
  go_enter Tryd.func82,Tryd.ntmps82
  go_wp2
  go_ret
  exact ⟨by simp [jF,h.len],Below.refl _ _⟩
 by_cases hn8:8<n
 ·go_enter Tryd.func82,Tryd.ntmps82
  go_wp2
  go_ret
  exact ⟨oq (by rw [jF,if_pos (by rw [h.len];exact .inr hn8)]),Below.refl _ _⟩
 go_enter Tryd.func82,Tryd.ntmps82
 go_wp2_with fail
 refine (JV h).mono ?_
 rintro e w1 ⟨rfl,hB⟩
 cases hp:l.any lM with
 |true =>
  have HP:=Lib.hid hp;clear hp
  go_wp2
  go_ret
  exact ⟨oq (by rw [jF,if_neg (by rw [h.len];omega),if_pos HP.out]),hB⟩
 |false =>
  have HP:=Lib.hid hp;clear hp
  go_wp2
  go_ret
  exact ⟨oq (by rw [jF,if_neg (by rw [h.len];omega),HP.out];rfl),hB⟩
end Go.Proofs.YtaaokejjmdbfaaaDoor

namespace Go.Proofs.YtaaokejjmdbfaaaDoor
open Go.RowKit
theorem aaH {a:Option Addr} {n c:Nat} {l:List dY} {ok:Nat→Prop} {w:World} (h:Sl nK ok w a n c l) :
  Calls Tryd.prog 105 #[.slice a n c] w fun e w'=>∃ z:Int,e=.returned (.int .i64 z)∧tK.rd (w.heap.size≤·) w' [.int .i64 z] (l.length:Int)∧Below w.heap.size w w':=by
 have hs:=h.small
 go_enter Tryd.func105,Tryd.ntmps105
 go_wp2
 go_ret
 exact ⟨_,rfl,⟨by rw [h.len],by rw [h.len];exact h.i64⟩,Below.refl _ _⟩
set_option maxHeartbeats 1000000 in
theorem Rl {a:Option Addr} {n c:Nat} {l:List (List dY)} {ok:Nat→Prop} {w:World} (h:Sl lS ok w a n c l) (hn:n≤1000000) :
  Calls Tryd.prog 104 #[.slice a n c,.func (.func 105) #[] #[]] w fun e w'=>∃ v,e=.returned v∧jg tK w.heap.size w'.heap.size 3 w' v (l.map (fun v:List dY=>(v.length:Int)))∧Below w.heap.size w w':=by
 go_enter Tryd.func104,Tryd.ntmps104
 go_wp2_with (at_make;refine yQ (r:=tK) (B:=w.heap.size) Tryd.aeQ rfl _ _ rfl rfl rfl ?b2 ?b3 ?b4 ?_)
 case b2=>omega
 case b3=>unfold maxLen;omega
 case b4=>exact Nat.le_refl _
 intro w0 hown0 hB0
 have hs:=h.small
 go_wp2
 go_loopw [5,13] (fun v i wr=>∃ k:Nat,k≤n∧i=.int .i64 k∧jg tK w.heap.size wr.heap.size 3 wr v ((l.map (fun v:List dY=>(v.length:Int))).take k)∧Below w.heap.size w wr) (fun _ i _=>n - (intOf i).toNat)
 case atStart=>exact ⟨0,Nat.zero_le _,rfl,hown0 _,hB0⟩
 case round =>
  obtain ⟨k,hk,rfl,hown,hB⟩:=hrel
  by_cases hlt:k<n
  ·obtain ⟨b,off,rfl,_,_⟩:=h.addr hlt
   obtain ⟨x,hx⟩:=h.get hlt
   obtain ⟨a',n',c',hcell,hx'⟩:=(h.below hB).slice hx
   have hlen:((l.map (fun v:List dY=>(v.length:Int))).take k).length=k:=by have:=h.len;simp;omega
   have HL:=Lib.hid hlen;clear hlen
   have HX:=Lib.hid hx;clear hx
   go_wp2_with (fail)
   refine (aaH hx').mono ?_
   rintro e w1 ⟨z,rfl,hrd,hB1⟩
   have wE:=hown.lt
   have hz1:=hB1.size
   have hz:=hB.size
   go_wp2_with (at_builtin;refine qw Tryd.aeQ rfl _ _ rfl rfl ((hown.below hB1).below ((Below.refl _ _).alloc (Nat.le_refl _) _)) rfl (yO w1 3 #[.int .i64 z]) (yP hrd) (fun k hk=>(wE k hk).2) ?c1 ?c2 ?c3 ?c4 ?_)
   case c1=>rw [HL.out];unfold maxLen;omega
   case c2=>rw [HL.out];omega
   case c3=>omega
   case c4=>simp;omega
   intro v' w2 hown1 hgrow _
   go_wp2
   go_roundw
   case rel=>exact ⟨k+1,by omega,by go_num,by
    have e:(l.map (fun v:List dY=>(v.length:Int))).take (k+1)=(l.map (fun v:List dY=>(v.length:Int))).take k++[(fun v:List dY=>(v.length:Int)) x]:=mY (by rw [List.getElem?_map,HX.out];rfl)
    rw [e];exact hown1,((hB.trans (hB1.mono hB.size)).alloc (by omega) _).grown hgrow (by simp;omega) (fun k hk=>(wE k hk).1)⟩
   case measure=>simp [intOf];omega
  ·go_wp2
   go_ret
   obtain rfl:k=n:=by omega
   rw [yR (by rw [List.length_map];exact h.len)] at hown
   exact ⟨_,rfl,hown,hB⟩
theorem Rn {a:Option Addr} {n c:Nat} {im:List (List dY)} {ok:Nat→Prop} {w:World} (h:Sl lS ok w a n c im) (hn:n≤1000000) :
  Calls Tryd.prog 83 #[.slice a n c] w fun e w'=>∃ a' n' c',e=.returned (.slice a' n' c')∧Sl tK (w.heap.size≤·) w' a' n' c' (lens im)∧Below w.heap.size w w':=by
 go_enter Tryd.func83,Tryd.ntmps83
 go_wp2_with fail
 refine (Rl h hn).mono ?_
 rintro e w1 ⟨v,rfl,hown,hB⟩
 obtain ⟨a',n',c',rfl,h1⟩:=hown.sl
 go_wp2
 go_ret
 exact ⟨_,_,_,rfl,h1,hB⟩
theorem D6 {a:Option Addr} {n c:Nat} {im:List (List dY)} {ok:Nat→Prop} {w:World} (h:Sl lS ok w a n c im) (hn:n≤1000000) :
  Calls Tryd.prog 50 #[.slice a n c] w fun e w'=>e=.returned (.int .i64 (sU im))∧Below w.heap.size w w':=by
 go_enter Tryd.func50,Tryd.ntmps50
 go_wp2_with fail
 refine (Rn h hn).mono ?_
 rintro e w1 ⟨a',n',c',rfl,h1,hB⟩
 go_wp2_with fail
 refine (D5 h1).mono ?_
 rintro e w2 ⟨rfl,hB2⟩
 go_wp2
 go_ret
 exact ⟨rfl,hB.trans (hB2.mono hB.size)⟩
end Go.Proofs.YtaaokejjmdbfaaaDoor

namespace Go.Proofs.YtaaokejjmdbfaaaDoor
open Go.RowKit
def TG {α:Type} (e:Int) (l:List α):List α:=if e=0 then l else []
theorem aaI {α:Type} {e:Int} {l:List α} (h:e=0):TG e l=l:=if_pos h
theorem WS {α:Type} {e:Int} {l:List α} (h:¬ e=0):TG e l=[]:=if_neg h
set_option maxHeartbeats 1000000 in
theorem WT {a:Option Addr} {n c:Nat} {l:List dY} {ok:Nat→Prop} {w:World} (h:Sl nK ok w a n c l) (hn:n≤1000000) :
  Calls Tryd.prog 98 #[.slice a n c] w fun e w'=>∃ a' n' c',e=.returned (.slice a' n' c')∧(fH nK 78).rd (w.heap.size≤·) w' [.slice a' n' c'] l∧Below w.heap.size w w':=by
 have heq:=fun (a:Option Addr) (n c:Nat) (w:World)=>Lib.run_eql_slice_nil (P:=Tryd.prog) w 76 78 a n c 0 0 Tryd.underlying76
 cases a with
 |none =>
  have h0:l=[]:=List.eq_nil_of_length_eq_zero (by rw [h.len];have:=h.nil rfl;have:=h.cap;omega)
  have H0:=Lib.hid h0;clear h0
  go_enter Tryd.func98,Tryd.ntmps98
  go_wp2
  go_ret
  refine ⟨_,_,_,rfl,?_,Below.refl _ _⟩
  rw [H0.out]
  exact fH.mk (Own.nil _ _ _ _ _) (fun _=>.inl rfl)
 |some ad =>
  have hs:=h.small
  go_enter Tryd.func98,Tryd.ntmps98
  go_wp2_with (at_builtin;refine wI Tryd.aaF rfl _ _ rfl rfl (Own.aiP nK (ok:=fun _=>False) (Nat.le_refl _)) rfl ((Src.Xz (h.below ((Below.refl _ _).alloc (Nat.le_refl _) _))).flat Flat.sec) ?c1 ?c2 ?c3 ?_)
  case c1=>simp;unfold maxLen;omega
  case c2=>simp;omega
  case c3=>simp
  intro v' w1 hown hgrow hat
  obtain ⟨a',n',c',rfl,_⟩:=hown.sl
  go_wp2
  go_ret
  refine ⟨_,_,_,rfl,fH.mk (by simpa using hown) (fun e=>?_),((Below.refl _ _).alloc (Nat.le_refl _) _).grown hgrow (by simp) (fun k hk=>by cases hk;exact Nat.le_refl _)⟩
  subst e
  obtain ⟨xs,h1,_⟩:=hown
  rcases h1.2 with ⟨hv,_⟩|⟨g,cap,cur,hv,_⟩
  ·exact .inl hv
  ·exact .inr ⟨g,cap,by simpa using hv⟩
end Go.Proofs.YtaaokejjmdbfaaaDoor

namespace Go.Proofs.YtaaokejjmdbfaaaDoor
open Go.RowKit
def o8 (v:List dY):List dY:=v
theorem aaJ (l:List (List dY)):l.map o8=l:=List.map_id l
abbrev ou:Rep (List dY):=fH nK 78
set_option maxHeartbeats 1000000 in
theorem JW {a:Option Addr} {n c:Nat} {l:List (List dY)} {ok:Nat→Prop} {w:World} (h:Sl lS ok w a n c l) (hn:n≤1000000)(hv:∀ v∈l,v.length≤1000000) :
  Calls Tryd.prog 97 #[.slice a n c,.func (.func 98) #[] #[]] w fun e w'=>∃ v,e=.returned v∧jg ou w.heap.size w'.heap.size 76 w' v (l.map o8)∧Below w.heap.size w w':=by
 go_enter Tryd.func97,Tryd.ntmps97
 go_wp2_with (at_make;refine yQ (r:=ou) (B:=w.heap.size) Tryd.aaG rfl _ _ rfl rfl rfl ?b2 ?b3 ?b4 ?_)
 case b2=>omega
 case b3=>unfold maxLen;omega
 case b4=>exact Nat.le_refl _
 intro w0 hown0 hB0
 have hs:=h.small
 go_wp2
 go_loopw [5,13] (fun v i wr=>∃ k:Nat,k≤n∧i=.int .i64 k∧jg ou w.heap.size wr.heap.size 76 wr v ((l.map o8).take k)∧Below w.heap.size w wr) (fun _ i _=>n - (intOf i).toNat)
 case atStart=>exact ⟨0,Nat.zero_le _,rfl,hown0 _,hB0⟩
 case round =>
  obtain ⟨k,hk,rfl,hown,hB⟩:=hrel
  by_cases hlt:k<n
  ·obtain ⟨b,off,rfl,_,_⟩:=h.addr hlt
   obtain ⟨x,hx⟩:=h.get hlt
   obtain ⟨a',n',c',hcell,hx'⟩:=(h.below hB).slice hx;have hv':=hv x (List.mem_of_getElem? hx)
   have hlen:((l.map o8).take k).length=k:=by have:=h.len;simp;omega
   have HL:=Lib.hid hlen;clear hlen
   have HX:=Lib.hid hx;clear hx
   go_wp2_with (fail)
   refine (WT hx' (by rw [← hx'.len];exact hv')).mono ?_
   rintro e w1 ⟨a2,n2,c2,rfl,hrd,hB1⟩
   have wE:=hown.lt
   have hz1:=hB1.size
   have hz:=hB.size
   go_wp2_with (at_builtin;refine qw Tryd.aaG rfl _ _ rfl rfl ((hown.below hB1).below ((Below.refl _ _).alloc (Nat.le_refl _) _)) rfl (yO w1 76 #[.slice a2 n2 c2]) (yP hrd) (fun k hk=>(wE k hk).2) ?c1 ?c2 ?c3 ?c4 ?_)
   case c1=>rw [HL.out];unfold maxLen;omega
   case c2=>rw [HL.out];omega
   case c3=>omega
   case c4=>simp;omega
   intro v' w2 hown1 hgrow _
   go_wp2
   go_roundw
   case rel=>exact ⟨k+1,by omega,by go_num,by
    have e:(l.map o8).take (k+1)=(l.map o8).take k++[o8 x]:=mY (by rw [List.getElem?_map,HX.out];rfl)
    rw [e];exact hown1,((hB.trans (hB1.mono hB.size)).alloc (by omega) _).grown hgrow (by simp;omega) (fun k hk=>(wE k hk).1)⟩
   case measure=>simp [intOf];omega
  ·go_wp2
   go_ret
   obtain rfl:k=n:=by omega
   rw [yR (by rw [List.length_map];exact h.len)] at hown
   exact ⟨_,rfl,hown,hB⟩
theorem Ro {a:Option Addr} {n c:Nat} {im:List (List dY)} {ok:Nat→Prop} {w:World} (h:Sl lS ok w a n c im) (hn:n≤1000000) (hv:∀ v∈im,v.length≤1000000) :
  Calls Tryd.prog 75 #[.slice a n c] w fun e w'=>∃ v,e=.returned v∧jg ou w.heap.size w'.heap.size 76 w' v im∧Below w.heap.size w w':=by
 go_enter Tryd.func75,Tryd.ntmps75
 go_wp2_with fail
 refine (JW h hn hv).mono ?_
 rintro e w1 ⟨v,rfl,hown,hB⟩
 go_wp2
 go_ret
 exact ⟨_,rfl,by rw [aaJ] at hown;exact hown,hB⟩
theorem Sl.imp {α:Type} {r s:Rep α} {ok:Nat→Prop} {w:World} {a:Option Addr} {n c:Nat} {l:List α} (hz:s.sz=r.sz) (hi:∀ cs x,r.rd ok w cs x→s.rd ok w cs x) (h:Sl r ok w a n c l):Sl s ok w a n c l :=
 ⟨h.len,h.cap,h.bnd,h.nil,h.cells.imp id fun ⟨b,off,e,hb,hl,hc⟩=>⟨b,off,e,hb,hl,fun i x hx=>let ⟨cs,g1,g2⟩:=hc i x hx;⟨cs,by rw [hz];exact g1,hi cs x g2⟩⟩⟩
theorem JX {ok:Nat→Prop} {w:World} {cs:List Value} {x:List dY} (h:ou.rd ok w cs x):lS.rd ok w cs x:=by
 obtain ⟨v,rfl,h1⟩:=h
 obtain ⟨a,n,c,rfl,h2⟩:=fH.sl Flat.sec (v:=v) ⟨v,rfl,h1⟩
 exact ⟨a,n,c,rfl,h2⟩
theorem jg.img {B F:Nat} {E:TypeId} {w:World} {v:Value} {im:List (List dY)} (h:jg ou B F E w v im):∃ a n c,v=.slice a n c∧Sl lS (B≤·) w a n c im :=
 let ⟨a,n,c,e,h⟩:=h.sl;⟨a,n,c,e,Sl.imp (r:=ou) (s:=lS) rfl (fun _ _ g=>JX g) h⟩
set_option maxHeartbeats 2000000 in
theorem GY {a:Option Addr} {n c:Nat} {im:List (List dY)} {ok:Nat→Prop} {w:World} (h:Sl lS ok w a n c im) {vol start:Int} (hv:kW vol) (hst:kW start)
  {da:Option Addr} {dn dc:Nat} (hd:dn≤9223372036854775807) :
  Calls Tryd.prog 76 #[.slice a n c,.agg #[.int .i64 vol,.int .i64 start,.slice da dn dc]] w fun e w'=>e=.returned (.int .i64 (kL (lens im) vol start dn))∧Below w.heap.size w w':=by
 have hs:=h.small
 unfold kW at hv hst
 have hlen:(lens im).length=n:=by simp [lens,h.len]
 have HL:=Lib.hid hlen;clear hlen
 have hB0:Below w.heap.size w (w.alloc (.cells #[.int .i64 vol,.int .i64 start,.slice da dn dc] 87)):=(Below.refl _ _).alloc (Nat.le_refl _) _
 by_cases h1:vol<0
 ·go_enter Tryd.func76,Tryd.ntmps76
  go_wp2
  go_ret
  exact ⟨oq (by rw [kL,if_pos (.inl h1)]),hB0⟩
 obtain ⟨k,rfl⟩:=Int.eq_ofNat_of_zero_le (Int.not_lt.1 h1)
 by_cases h2:n≤k
 ·go_enter Tryd.func76,Tryd.ntmps76
  go_wp2
  go_ret
  exact ⟨oq (by rw [kL,if_pos (.inr (by rw [HL.out];omega))]),hB0⟩
 have hlt:k<n:=by omega
 obtain ⟨b,off,rfl,_,_⟩:=h.addr hlt
 obtain ⟨x,hx⟩:=h.get hlt
 have HX:Hid ((lens im)[k]?=some (x.length:Int)):=by show _=_;rw [lens,List.getElem?_map,hx];rfl
 obtain ⟨a',n',c',hcell,hx'⟩:=(h.below hB0).slice hx
 have hs':=hx'.small
 have hn':=hx'.len
 have HN:=Lib.hid hn';clear hn'
 clear hx
 by_cases h3:dn=0
 ·subst h3
  go_enter Tryd.func76,Tryd.ntmps76
  go_wp2
  go_ret
  exact ⟨oq (by rw [kL,if_neg (by rw [HL.out];omega),if_pos rfl]),hB0⟩
 have h3':0<dn:=by omega
 clear h3
 by_cases h4:start<0
 ·have d1:decide (start<0)=true:=by simp;omega
  go_enter Tryd.func76,Tryd.ntmps76
  go_wp2_with fail
  refine wp_region_quiet_lit (by kernel_rfl) (by kernel_rfl) ?_
  repeat (go_big_quiet_step (fail))
  refine wpQuiet_nil ?_
  rintro _ ⟨nq,rfl⟩
  go_wp2
  go_ret
  exact ⟨oq (by rw [kL,if_neg (by rw [HL.out];omega),if_neg (by omega),if_pos (.inl h4)]),below_drewN hB0 _⟩
 have h4':0≤start:=by omega
 have d1:decide (start<0)=false:=by simp;omega
 by_cases h5:(n':Int) - dn<start
 ·have d2:decide ((n':Int) - dn<start)=true:=by simp;omega
  go_enter Tryd.func76,Tryd.ntmps76
  go_wp2_with fail
  refine wp_region_quiet_lit (by kernel_rfl) (by kernel_rfl) ?_
  repeat (go_big_quiet_step (fail))
  refine wpQuiet_nil ?_
  rintro _ ⟨nq,rfl⟩
  go_wp2
  go_ret
  exact ⟨oq (by rw [kL,if_neg (by rw [HL.out];omega),if_neg (by omega),if_pos (by rw [Int.toNat_natCast,BH HX.out,HN.out];omega)]),below_drewN hB0 _⟩
 ·have h5':start≤(n':Int) - dn:=by omega
  have d2:decide ((n':Int) - dn<start)=false:=by simp;omega
  go_enter Tryd.func76,Tryd.ntmps76
  go_wp2_with fail
  refine wp_region_quiet_lit (by kernel_rfl) (by kernel_rfl) ?_
  repeat (go_big_quiet_step (fail))
  refine wpQuiet_nil ?_
  rintro _ ⟨nq,rfl⟩
  go_wp2
  go_ret
  exact ⟨oq (by rw [kL,if_neg (by rw [HL.out];omega),if_neg (by omega),if_neg (by rw [Int.toNat_natCast,BH HX.out,HN.out];omega)]),below_drewN hB0 _⟩
end Go.Proofs.YtaaokejjmdbfaaaDoor

namespace Go.Proofs.YtaaokejjmdbfaaaDoor
open Go.RowKit
theorem Tryd.aiS:(Tryd.prog.info? 78).map (·.size)=some 8:=by kernel_rfl
end Go.Proofs.YtaaokejjmdbfaaaDoor

namespace Go.Proofs.YtaaokejjmdbfaaaDoor
open Go.RowKit
def yS (l:List dY) (s:Nat) (d:List dY):List dY:=l.take s++d++l.drop (s+d.length)
def A8 (im:List (List dY)) (x:Wr):List (List dY):=im.set x.1.toNat (yS (im.getD x.1.toNat []) x.2.1.toNat x.2.2)
def xk (sz:List Int) (x:Wr):Int:=kL sz x.1 x.2.1 x.2.2.length
def dN (sz:List Int):List Wr→Nat→Int × Int
 |[],_=>(0,0)
 |x :: l,i=>if xk sz x≠0 then (i,xk sz x) else dN sz l (i+1)
def o9 (im:List (List dY)) (l:List Wr):List (List dY):=if sU im≠0 then [] else TG (dN (lens im) l 0).2 (l.foldl A8 im)
def pq (im:List (List dY)) (l:List Wr):Int:=if sU im≠0 then 0 else (dN (lens im) l 0).1
def pz (im:List (List dY)) (l:List Wr):Int:=if sU im≠0 then sU im else (dN (lens im) l 0).2
def pF (w:World) (im:List (List dY)) (l:List Wr):Ending→World→Prop:=fun e w' =>
 ∃ a n c,e=.returned (.tuple #[.slice a n c,.int .i64 (pq im l),.int .i64 (pz im l)])∧Sl lS (w.heap.size≤·) w' a n c (o9 im l)∧(a=none∨pz im l=0)∧Below w.heap.size w w'
theorem pF.mk {w w':World} {im:List (List dY)} {l:List Wr} {a:Option Addr} {n c:Nat} {i e:Int} (hi:i=pq im l) (he:e=pz im l) (h:Sl lS (w.heap.size≤·) w' a n c (o9 im l)) (hz:a=none∨pz im l=0) (hB:Below w.heap.size w w') :
  pF w im l (.returned (.tuple #[.slice a n c,.int .i64 i,.int .i64 e])) w':=⟨a,n,c,by rw [hi,he],h,hz,hB⟩
theorem Fb {sz:List Int} {l:List Wr} {k:Nat} {x:Wr} (hx:l[k]?=some x) (h:dN sz l 0=dN sz (l.drop k) k) (hf:xk sz x=0):dN sz l 0=dN sz (l.drop (k+1)) (k+1):=by
 obtain ⟨hk,rfl⟩:=List.getElem?_eq_some_iff.1 hx
 rw [h,List.drop_eq_getElem_cons hk,dN,if_neg (by rw [hf];decide)]
theorem JY {sz:List Int} {l:List Wr} {k:Nat} {x:Wr} (hx:l[k]?=some x) (h:dN sz l 0=dN sz (l.drop k) k) (hf:xk sz x≠0):dN sz l 0=((k:Int),xk sz x):=by
 obtain ⟨hk,rfl⟩:=List.getElem?_eq_some_iff.1 hx
 rw [h,List.drop_eq_getElem_cons hk,dN,if_pos hf]
theorem JZ {sz:List Int} {l:List Wr} {k:Nat} (hk:l.length≤k) (h:dN sz l 0=dN sz (l.drop k) k):dN sz l 0=(0,0):=by
 rw [h,List.drop_eq_nil_of_le hk,dN]
theorem uN {l d:List dY} {s:Nat} (h:s+d.length≤l.length):(yS l s d).length=l.length:=by
 unfold yS;simp;omega
theorem TI {im:List (List dY)} {v s:Int} {d:List dY} (h:xk (lens im) (v,s,d)=0):0≤v∧v<im.length∧0<d.length∧0≤s∧∃ x,im[v.toNat]?=some x∧s+d.length≤x.length:=by
 unfold xk kL at h
 simp only at h
 split at h
 ·omega
 ·rename_i h1
  split at h
  ·omega
  ·rename_i h2
   split at h
   ·omega
   ·rename_i h3
    have h4:v.toNat<im.length:=by simp [lens] at h1;omega
    have e:(lens im).getD v.toNat 0=((im[v.toNat]'h4).length:Int):=by simp [lens,List.getD,h4]
    rw [e] at h3
    simp [lens] at h1
    exact ⟨by omega,by omega,by omega,by omega,_,List.getElem?_eq_getElem h4,by omega⟩
theorem N7 {im:List (List dY)} {x:Wr} (h:xk (lens im) x=0):lens (A8 im x)=lens im:=by
 obtain ⟨v,s,d⟩:=x
 obtain ⟨h1,h2,h3,h4,y,hy,h5⟩:=TI h
 unfold lens A8
 rw [List.map_set]
 apply List.ext_getElem?
 intro i
 rw [List.getElem?_set]
 by_cases hi:v.toNat=i
 ·subst hi
  have hl:=(List.getElem?_eq_some_iff.1 hy).1
  simp only [List.length_map,if_true,if_pos hl,List.getElem?_map,hy,Option.map_some]
  rw [BH hy,uN (by omega)]
 ·rw [if_neg hi]
set_option maxHeartbeats 4000000 in
theorem Rq {a:Option Addr} {n c:Nat} {im:List (List dY)} {ok ok2:Nat→Prop} {w:World} (h:Sl lS ok w a n c im) (hn:n≤1000000) (hvs:∀ v∈im,v.length≤1000000)
  {la:Option Addr} {ln lc:Nat} {l:List Wr} (hl:Sl wrR ok2 w la ln lc l) :
  Calls Tryd.prog 39 #[.slice a n c,.slice la ln lc] w (pF w im l):=by
 by_cases he:sU im=0
 rotate_left
 ·have hb:(sU im != 0)=true:=by simp [he]
  have HE:=Lib.hid he;clear he
  go_enter Tryd.func39,Tryd.ntmps39
  go_wp2_with fail
  refine (D6 h hn).mono ?_
  rintro e w1 ⟨rfl,hB1⟩
  go_wp2
  go_ret3
  exact pF.mk (by rw [pq,if_pos HE.out]) (by rw [pz,if_pos HE.out]) (by rw [o9,if_pos HE.out];exact Sl.nil0 _ _ _) (.inl rfl) hB1
 have hb:(sU im != 0)=false:=by simp [he]
 have HE:=Lib.hid he;clear he
 have hls:=hl.small
 go_enter Tryd.func39,Tryd.ntmps39
 go_wp2_with fail
 refine (D6 h hn).mono ?_
 rintro e w1 ⟨rfl,hB1⟩
 go_wp2_with fail
 refine (Ro (h.below hB1) hn hvs).mono ?_
 rintro e w2 ⟨v0,rfl,hown0,hB2⟩
 have hB3:=hB1.trans (hB2.mono hB1.size)
 go_wp2
 go_loopw [21] (fun i wr=>∃ k:Nat,k≤ln∧i=.int .i64 k∧Hid (dN (lens im) l 0=dN (lens im) (l.drop k) k∧lens ((l.take k).foldl A8 im)=lens im)∧jg ou w1.heap.size wr.heap.size 76 wr v0 ((l.take k).foldl A8 im)∧Below w1.heap.size w1 wr) (fun i _=>ln - (intOf i).toNat)
 case atStart=>exact ⟨0,Nat.zero_le _,rfl,⟨rfl,rfl⟩,hown0,hB2⟩
 case round =>
  obtain ⟨k,hk,rfl,HK,hown,hB⟩:=hrel
  by_cases hlt:k<ln
  ·obtain ⟨b,off,rfl,_,_⟩:=hl.addr hlt
   obtain ⟨⟨v,s,d⟩,hx⟩:=hl.get hlt
   obtain ⟨da,dn,dc,hc0,hc1,hc2,hv,hs,hd⟩:=(hl.below (hB1.trans (hB.mono hB1.size))).wr hx
   have HX:=Lib.hid hx;clear hx
   obtain ⟨a2,n2,c2,rfl,WU⟩:=hown.img
   generalize hcur:(l.take k).foldl A8 im=cur at *
   have HC:=Lib.hid hcur;clear hcur
   have hds:=hd.small
   by_cases hf:kL (lens cur) v s dn=0
   rotate_left
   ·have hfb:(kL (lens cur) v s dn != 0)=true:=by simp [hf]
    have HF:=Lib.hid hf;clear hf
    go_wp2_with fail
    refine (GY (WU.below ((Below.refl _ _).alloc (Nat.le_refl _) _)) hv hs hds).mono ?_
    rintro e w3 ⟨rfl,hB4⟩
    go_wp2
    go_ret3
    have e0:dN (lens im) l 0=((k:Int),kL (lens cur) v s dn):=by
     have e1:xk (lens im) (v,s,d)=kL (lens cur) v s dn:=by unfold xk;rw [HK.out.2,hd.len]
     rw [← e1]
     exact JY HX.out HK.out.1 (by rw [e1];exact HF.out)
    exact pF.mk (by rw [pq,if_neg (by simp [HE.out]),e0]) (by rw [pz,if_neg (by simp [HE.out]),e0]) (by rw [o9,if_neg (by simp [HE.out]),e0,WS HF.out];exact Sl.nil0 _ _ _) (.inl rfl)
     ((hB1.trans (hB.mono hB1.size)).trans (((Below.refl _ _).alloc (Nat.le_refl _) _).trans (hB4.mono (by simp)) |>.mono (Nat.le_trans hB1.size hB.size)))
   ·have hfb:(kL (lens cur) v s dn != 0)=false:=by simp [hf]
    have hfw:xk (lens cur) (v,s,d)=0:=by unfold xk;rw [hd.len];exact hf
    obtain ⟨h1,h2,h3,h4,x,hx,h5⟩:=TI hfw
    obtain ⟨v,rfl⟩:=Int.eq_ofNat_of_zero_le h1
    obtain ⟨s,rfl⟩:=Int.eq_ofNat_of_zero_le h4
    rw [Int.toNat_natCast] at hx
    have HFW:=Lib.hid hfw;clear hfw
    have HF:=Lib.hid hf;clear hf
    have hdn:0<dn:=by rw [← hd.len];exact h3
    have h5':s+dn≤x.length:=by rw [hd.len] at h5;omega
    have h2':v<n2:=by rw [← WU.len];omega
    go_wp2_with fail
    refine (GY (WU.below ((Below.refl _ _).alloc (Nat.le_refl _) _)) hv hs hds).mono ?_
    rintro e w3 ⟨rfl,hB4⟩
    have hB5:Below wr.heap.size wr w3:=((Below.refl _ _).alloc (Nat.le_refl _) _).trans (hB4.mono (by simp))
    -- the row that is written
    obtain ⟨g,cap,cc,WQ,hvv,hBg,hg,hcc,⟨u,rfl,hub,hu,_⟩,agy,hput⟩:=((hown.below hB5).below ((Below.refl _ _).drew)).at hx
    cases hvv
    have hu':=hu
    obtain ⟨xs,hrow,_⟩:=hu
    obtain ⟨gi,J3,rfl⟩:∃ gi J3,u=.slice (some ⟨gi,0,none⟩) x.length J3:=by
     rcases hrow.2 with ⟨_,h0⟩|⟨gi,J3,cur',hvu,_⟩
     ·omega
     ·exact ⟨gi,J3,hvu⟩
    have hcap:x.length≤J3:=by obtain ⟨_,_,_,e,q⟩:=hu'.sl;cases e;exact q.cap
    have hcell:w3.cell? ⟨g,v,none⟩=some (.slice (some ⟨gi,0,none⟩) x.length J3):=by have:=hcc 0 Nat.zero_lt_one;simpa [ou,fH] using this
    have hgi:=agy gi (hub gi rfl)
    have hw3:=hB5.size
    have hl0:=mP (g:=gi) (JR hB4 (j:=0) rfl) (by show wr.heap.size≠gi;omega)
    have hl1:=mP (g:=gi) (JR hB4 (j:=1) rfl) (by show wr.heap.size≠gi;omega)
    have hl2:=mP (g:=gi) (JR hB4 (j:=2) rfl) (by show wr.heap.size≠gi;omega)
    have hl3:=mP (g:=gi) hcell (fun e=>hgi.2.2 e.symm)
    have hsl:=fun w=>NY Tryd.underlying76 Tryd.aiS (some ⟨gi,0,none⟩) x.length J3 s (by omega) w
    have hsub:sS (some ⟨gi,0,none⟩) J3 s 8=some ⟨gi,s * 8,none⟩:=by unfold sS;rw [if_neg (by omega)];simp [Addr.add_lit]
    rw [hsub] at hsl
    have HS:=Lib.hid hsub;clear hsub
    have aml:s≤x.length:=by omega
    clear h5 hcc
    go_wp2_with fail
    refine fJ (fun w'=>∃ x:kK (w3) (gi),w'=x.w) [([0,1,2,3,4,5,6,7,8,9],10)] [] Tryd.mixed (by kernel_rfl) (kK.drew _ _) ?_
    refine OA ?_
    simp only [pick,List.filterMap_cons,List.filterMap_nil,List.getElem?_toArray,List.getElem?_cons_succ,List.getElem?_cons_zero]
    change wpQuiet _ _ _ _ [_,_,_,_,_,_,_,_,_,_] _
    repeat (go_big_quiet_step (fail))
    refine wpQuiet_nil ?_
    change wpList _ _ _ [_] _ _
    refine DZ Tryd.aaF Flat.sec rfl _ _ rfl (s:=s) (r:=nK) rfl rfl hu' (ys:=d) (((hd.below hB5).below ((Below.refl _ _).drew))) (by omega) hdn (by omega) ?_
    intro w4 hrow4 WV akj
    have hgr:w3.grownBy w4 (some gi):=Ar (grown_drew _ _) WV
    have hown4:=hput w4 (yS x s d) (fun b hb hne=>WV.block b hb (fun e=>hne (by rw [Option.some.inj e];exact hub gi rfl))) WV.os WV.tape WV.output WV.size ⟨_,rfl,hub,hrow4,fun e=>by
     have:=uN (l:=x) (d:=d) (s:=s) (by rw [hd.len];omega)
     rw [e] at this;simp at this;omega⟩
    have e1:A8 cur ((v:Int),(s:Int),d)=cur.set v (yS x s d):=by
     unfold A8;rw [Int.toNat_natCast,Int.toNat_natCast,BH hx]
    have H1:=Lib.hid e1;clear e1
    have HXX:=Lib.hid hx;clear hx
    go_wp2_with fail
    refine ⟨kK.of hgr,?_⟩
    refine iQ ?_
    simp only [pick,List.filterMap_cons,List.filterMap_nil,List.getElem?_toArray,List.getElem?_cons_succ,List.getElem?_cons_zero]
    change wpQuiet _ _ _ _ [] _
    repeat (go_big_quiet_step (fail))
    refine wpQuiet_nil ?_
    go_wp2
    go_roundw
    case rel =>
     refine ⟨k+1,by omega,by go_num,?_,?_,(hB.trans (hB5.mono hB.size)).grown hgr (by have:=hB.size;omega) (fun j hj=>by cases hj;omega)⟩
     ·show _∧_
      have hfw:xk (lens im) ((v:Int),(s:Int),d)=0:=by rw [← HK.out.2];exact HFW.out
      refine ⟨Fb HX.out HK.out.1 hfw,?_⟩
      rw [mY HX.out,List.foldl_append,HC.out]
      show lens (A8 cur _)=_
      rw [N7 HFW.out,HK.out.2]
     ·rw [mY HX.out,List.foldl_append,HC.out]
      show jg _ _ _ _ _ _ (A8 cur _)
      rw [H1.out]
      exact hown4.up (by have:=hgr.size;omega)
    case measure=>simp [intOf];omega
  ·obtain rfl:k=ln:=by omega
   obtain ⟨a2,n2,c2,rfl,WU⟩:=hown.img
   go_wp2
   go_ret3
   have e0:=JZ (Nat.le_of_eq hl.len) HK.out.1
   rw [yR hl.len] at WU
   exact pF.mk (by rw [pq,if_neg (by simp [HE.out]),e0]) (by rw [pz,if_neg (by simp [HE.out]),e0]) (by rw [o9,if_neg (by simp [HE.out]),e0,aaI rfl];exact WU.mono fun b hb=>Nat.le_trans hB1.size hb) (.inr (by rw [pz,if_neg (by simp [HE.out]),e0]))
    (hB1.trans (hB.mono hB1.size))
end Go.Proofs.YtaaokejjmdbfaaaDoor

namespace Go.Proofs.YtaaokejjmdbfaaaDoor
open Go.RowKit V
theorem Rt {w:World} {b o:Nat} {u:Value} (h:w.cell? ⟨b,o,none⟩=some u):dD w b:=by
 unfold World.cell? at h
 simp only at h
 split at h
 ·rename_i e;exact ⟨_,_,_,e⟩
 ·cases h
theorem xq {α:Type} {r:Rep α} {enc:α→PV} {ok:Nat→Prop} {w:World} {l:List α} {sz:Nat} {v:Value} (hsz:sz=r.sz) (hc:∀ x,(enc x).cells.length=r.sz)
  (hr:∀ x∈l,∀ (cs:List Value),cs.length=r.sz→(∀ (j:Nat) p u,(enc x).cells[j]?=some p→cs[j]?=some u→ay ok w p u)→r.rd ok w cs x) (h:ay ok w (.list sz (l.map enc)) v):∃ a n c,v=.slice a n c∧Sl r ok w a n c l:=by
 generalize he:l.map enc=es at h
 cases h with
 |nil _ a =>
  have:l=[]:=by simpa using he
  subst this
  exact ⟨a,0,0,rfl,⟨rfl,Nat.le_refl _,Nat.zero_le _,fun _=>rfl,.inl rfl⟩⟩
 |list _ _ b off c cv h1 h2 h3 h4 h6 h7 h8 =>
  subst hsz he
  refine ⟨_,_,c,rfl,⟨by simp,h3,h4,(fun e=>by cases e),.inr ⟨b,off,rfl,h1,h2.lt,fun i x hx=>?_⟩⟩⟩
  have hi:(l.map enc)[i]?=some (enc x):=by simp [hx]
  refine ⟨(List.range r.sz).map (cv i),fun j hj=>?_,hr x (List.mem_of_getElem? hx) _ (by simp) fun j p u hp hu=>?_⟩
  ·have hj':j<(enc x).cells.length:=by rw [hc];exact hj
   rw [(h7 i _ j _ hi (List.getElem?_eq_getElem hj')).1]
   simp [hj]
  ·have hj:j<r.sz:=by have:=(List.getElem?_eq_some_iff.1 hp).1;rw [hc] at this;exact this
   have:u=cv i j:=by simp [hj] at hu;exact hu.symm
   rw [this]
   exact h8 i _ j _ hi hp
theorem sV {α:Type} {r:Rep α} {enc:α→PV} {ok ok':Nat→Prop} {w:World} {l:List α} {a:Option Addr} {n c:Nat} (hk:∀ b,ok b→b<w.heap.size→ok' b) (hp0:0<r.sz) (hc:∀ x,(enc x).cells.length=r.sz)
  (hr:∀ x∈l,∀ (cs:List Value),cs.length=r.sz→r.rd ok w cs x→∀ (j:Nat) p u,(enc x).cells[j]?=some p→cs[j]?=some u→u.oneCell'=true∧ay ok' w p u) (hz:l=[]→c=0) (h:Sl r ok w a n c l):ay ok' w (.list r.sz (l.map enc)) (.slice a n c):=by
 obtain ⟨h1,h2,h3,h4,h5⟩:=h
 by_cases hl:l=[]
 ·have:=hz hl
  subst hl
  have:n=0:=by simpa using h1.symm
  subst this
  have:c=0:=by omega
  subst this
  exact .nil _ _
 ·rcases h5 with h5|⟨b,off,rfl,hb,hlt,h6⟩
  ·exact absurd (List.eq_nil_of_length_eq_zero (by omega)) hl
  ·have hn:n=(l.map enc).length:=by simp [h1]
   rw [hn]
   have key:∀ (i:Nat) (x:α) (j:Nat) (p:PV),l[i]?=some x→(enc x).cells[j]?=some p→∃ u,w.cell? ⟨b,off+i * r.sz+j,none⟩=some u∧u.oneCell'=true∧ay ok' w p u:=by
    intro i x j p hx hp
    obtain ⟨cs,g1,g2⟩:=h6 i x hx
    have hj:j<r.sz:=by have:=(List.getElem?_eq_some_iff.1 hp).1;rw [hc] at this;exact this
    have hl2:=r.len g2
    have hu:cs[j]?=some (cs[j]'(by omega)):=List.getElem?_eq_getElem (by omega)
    obtain ⟨k1,k2⟩:=hr x (List.mem_of_getElem? hx) cs hl2 g2 j p _ hp hu
    exact ⟨_,by rw [g1 j hj,hu],k1,k2⟩
   have get:∀ {i:Nat} {e:PV},(l.map enc)[i]?=some e→∃ x,l[i]?=some x∧e=enc x:=by
    intro i e he
    rw [List.getElem?_map] at he
    cases hx:l[i]? with
    |none=>rw [hx] at he;cases he
    |some x=>rw [hx] at he;cases he;exact ⟨x,rfl,rfl⟩
   have hce:dD w b:=by
    cases l with
    |nil=>exact absurd rfl hl
    |cons x l =>
     have hj:0<(enc x).cells.length:=by rw [hc];exact hp0
     obtain ⟨u,k1,_⟩:=key 0 x 0 _ rfl (List.getElem?_eq_getElem hj)
     exact Rt k1
   refine .list _ _ b off c (fun i j=>(w.cell? ⟨b,off+i * r.sz+j,none⟩).getD undef) (hk b hb hlt) hce (by simp;omega) h3 (fun e he=>?_) (fun i e j x hi hj=>?_) fun i e j x hi hj=>?_
   ·obtain ⟨x,_,rfl⟩:=List.mem_map.1 he;exact hc x
   ·obtain ⟨x',hx,rfl⟩:=get hi
    obtain ⟨u,k1,k2,k3⟩:=key i x' j x hx hj
    rw [k1];exact ⟨rfl,k2⟩
   ·obtain ⟨x',hx,rfl⟩:=get hi
    obtain ⟨u,k1,k2,k3⟩:=key i x' j x hx hj
    rw [k1];exact k3
theorem BI {ok:Nat→Prop} {w:World} {l:List dY} {v:Value} (h:ay ok w (aY l) v):∃ a n c,v=.slice a n c∧Sl nK ok w a n c l:=by
 refine xq (r:=nK) (enc:=ng) rfl (fun x=>iY x) (fun x _ cs hl hcs=>?_) h
 show cs=aZ x
 refine List.ext_getElem? fun j=>?_
 by_cases hj:j<8
 ·have h1:cs[j]?=some (cs[j]'(by rw [hl];exact hj)):=List.getElem?_eq_getElem _
  have h2:(ng x).cells[j]?=some (.int .u8 ((x.toList[j]'(by simpa using hj)).toNat:Int)):=by
   show (lq x)[j]?=_
   have hj':j<x.toList.length:=by simpa using hj
   simp only [lq,List.getElem?_map,List.getElem?_eq_getElem hj',Option.map_some]
  have:=(hcs j _ _ h2 h1).bU
  have hj':j<x.toList.length:=by simpa using hj
  rw [h1,this]
  simp only [aZ,List.getElem?_map,List.getElem?_eq_getElem hj',Option.map_some]
 ·have e1:cs.length=8:=hl
  rw [List.getElem?_eq_none (by omega),List.getElem?_eq_none (by rw [eU];omega)]
theorem agz {ok:Nat→Prop} {w:World} {l:List (List dY)} {v:Value} (h:ay ok w (.list 1 (l.map aY)) v):∃ a n c,v=.slice a n c∧Sl lS ok w a n c l:=by
 refine xq (r:=lS) (enc:=aY) rfl (fun x=>rfl) (fun x _ cs hl hcs=>?_) h
 match cs,hl with
 |[u],_ =>
  obtain ⟨a,n,c,rfl,hs⟩:=BI (hcs 0 _ u rfl rfl)
  exact ⟨a,n,c,rfl,hs⟩
theorem agA {ok:Nat→Prop} {w:World} {l:List iW} {v:Value} (hok:∀ x∈l,nD x.volume=true∧nD x.start=true) (h:ay ok w (.list 3 (l.map vZ)) v):∃ a n c,v=.slice a n c∧Sl wrR ok w a n c (l.map fun x=>(x.volume,x.start,x.data)):=by
 have:∃ a n c,v=.slice a n c∧Sl (α:=iW) ⟨3,fun ok w cs x=>wrR.rd ok w cs (x.volume,x.start,x.data),fun h=>wrR.len h,fun hk h=>wrR.mono hk h,fun h=>wrR.live h,fun hf h=>wrR.frame hf h,fun h=>wrR.one h⟩ ok w a n c l:=by
  refine xq rfl (fun x=>rfl) (fun x hx cs hl hcs=>?_) h
  match cs,hl with
  |[u,u2,u3],_ =>
   have e1:=(hcs 0 _ u rfl rfl).bU
   have e2:=(hcs 1 _ u2 rfl rfl).bU
   obtain ⟨a,n,c,rfl,hs⟩:=BI (l:=x.data) (hcs 2 _ u3 rfl rfl)
   obtain ⟨o1,o2⟩:=hok x hx
   simp only [nD,Bool.and_eq_true,decide_eq_true_eq] at o1 o2
   exact ⟨[u],[u2,.slice a n c],rfl,⟨by rw [e1],o1⟩,⟨[u2],[.slice a n c],rfl,⟨by rw [e2],o2⟩,a,n,c,rfl,hs⟩⟩
 obtain ⟨a,n,c,rfl,h1,h2,h3,h4,h5⟩:=this
 refine ⟨a,n,c,rfl,⟨by simpa using h1,h2,h3,h4,h5.imp id fun ⟨b,off,g1,g2,g3,g4⟩=>⟨b,off,g1,g2,g3,fun i x hx=>?_⟩⟩⟩
 rw [List.getElem?_map] at hx
 cases hx':l[i]? with
 |none=>rw [hx'] at hx;cases hx
 |some y=>rw [hx'] at hx;cases hx;exact g4 i y hx'
theorem adS {ok ok':Nat→Prop} {w:World} {l:List (List dY)} {a:Option Addr} {n c:Nat} (hk:∀ b,ok b→b<w.heap.size→ok' b) (hz:l=[]→c=0) (hne:∀ x∈l,x≠[]) (h:Sl lS ok w a n c l):ay ok' w (.list 1 (l.map aY)) (.slice a n c):=by
 refine sV (r:=lS) (enc:=aY) hk (by decide) (fun x=>rfl) (fun x hx cs hl hrd j p u hp hu=>?_) hz h
 obtain ⟨a,n,c,rfl,hs⟩:=hrd
 match j with
 |j+1=>simp [aY,PV.cells] at hp
 |0 =>
  cases hp
  cases hu
  refine ⟨rfl,sV (r:=nK) (enc:=ng) hk (by decide) (fun x=>iY x) (fun s _ cs hl hrd j p u hp hu=>?_) (fun e=>absurd e (hne x hx)) hs⟩
  have hrd:cs=aZ s:=hrd
  subst hrd
  simp only [aZ,List.getElem?_map,Option.map_eq_some_iff] at hu
  have hp:(lq s)[j]?=some p:=hp
  simp only [lq,List.getElem?_map,Option.map_eq_some_iff] at hp
  obtain ⟨b,h1,rfl⟩:=hu
  obtain ⟨b',h2,rfl⟩:=hp
  rw [h1] at h2
  cases h2
  exact ⟨rfl,.int _ _⟩
theorem GZ (sz:List Int) (x:iW):yu sz x=xk sz (x.volume,x.start,x.data):=by
 simp only [xk,kL,yu]
 repeat' split
 all_goals first|rfl|omega
theorem zK (sz:List Int):∀ (l:List iW) (i:Nat),qJ sz l i=dN sz (l.map fun x=>(x.volume,x.start,x.data)) i
 |[],_=>rfl
 |x :: l,i=>by rw [List.map_cons,qJ,dN,GZ,zK sz l (i+1)]
theorem Ru (im:List (List dY)) (l:List iW):Dj im l=pz im (l.map fun x=>(x.volume,x.start,x.data)):=by
 unfold Dj pz;rw [zK];rfl
theorem agB (im:List (List dY)) (l:List iW):apI im l=pq im (l.map fun x=>(x.volume,x.start,x.data)):=by
 unfold apI pq;rw [zK];rfl
theorem adT (im:List (List dY)) (x:iW):VT im x=A8 im (x.volume,x.start,x.data):=rfl
theorem TJ:∀ (l:List iW) (im:List (List dY)),l.foldl VT im=(l.map fun x=>(x.volume,x.start,x.data)).foldl A8 im
 |[],_=>rfl
 |x :: l,im=>by rw [List.map_cons,List.foldl_cons,List.foldl_cons,adT,TJ l]
theorem agC (im:List (List dY)) (l:List iW):uI im l=o9 im (l.map fun x=>(x.volume,x.start,x.data)):=by
 unfold uI o9
 rw [Ru,TJ]
 unfold pz TG
 by_cases h:sU im=0
 ·simp [h]
 ·simp [h]
theorem aaK {im:List (List dY)} {x:iW} (h:yu (gZ im) x=0):gZ (VT im x)=gZ im:=by
 rw [GZ] at h
 exact N7 h
theorem D7:∀ (l:List iW) (im:List (List dY)) (i:Nat),(qJ (gZ im) l i).2=0→gZ (l.foldl VT im)=gZ im
 |[],_,_,_=>rfl
 |x :: l,im,i,h=>by
  unfold qJ at h
  split at h
  ·rename_i h2;exact absurd h h2
  ·rename_i h2
   have h2:yu (gZ im) x=0:=by omega
   have e:=aaK h2
   rw [List.foldl_cons,D7 l (VT im x) (i+1) (by rw [e];exact h),e]
theorem oD {im:List (List dY)} {l:List iW} (h:Dj im l=0):gZ (uI im l)=gZ im:=by
 unfold uI
 rw [if_pos h]
 unfold Dj at h
 split at h
 ·rename_i h2;exact absurd h h2
 ·exact D7 l im 0 h
theorem aaL {im:List (List dY)} (h:yt (gZ im)=0):im≠[]∧∀ v∈im,v≠[]:=by
 unfold yt at h
 split at h
 ·cases h
 ·rename_i h1
  split at h
  ·cases h
  ·rename_i h2
   refine ⟨fun e=>by subst e;simp [gZ] at h1,fun v hv e=>?_⟩
   subst e
   refine h2 (List.any_eq_true.2 ⟨0,?_,by decide⟩)
   exact List.mem_map.2 ⟨[],hv,rfl⟩
theorem Rw {im:List (List dY)} {l:List iW}:(Dj im l=0→uI im l≠[])∧∀ v∈uI im l,v≠[]:=by
 by_cases h:Dj im l=0
 ·have h0:yt (gZ im)=0:=by
   unfold Dj at h
   split at h
   ·rename_i h2;exact absurd h h2
   ·omega
  have:=aaL (im:=uI im l) (by rw [oD h];exact h0)
  exact ⟨fun _=>this.1,this.2⟩
 ·exact ⟨fun e=>absurd e h,fun v hv=>by unfold uI at hv;rw [if_neg h] at hv;cases hv⟩
theorem aaM {f:Nat} (hc:callable Tryd.prog f=true) (hA:∀ {a:Option Addr} {n c:Nat} {im:List (List dY)} {ok ok2:Nat→Prop} {w:World},Sl lS ok w a n c im→n≤1000000→(∀ v∈im,v.length≤1000000) →
  ∀ {la:Option Addr} {ln lc:Nat} {l:List Wr},Sl wrR ok2 w la ln lc l→Calls Tryd.prog f #[.slice a n c,.slice la ln lc] w (pF w im l)) :
  ∀ args rs,sK args=some rs→callable Tryd.prog f=true∧lZ Tryd.prog f args rs:=fun args rs h=>by
 obtain ⟨im,l,rfl,hw,hn,hv,rfl⟩:=VU h
 refine ⟨hc,fun T0 w vs h1 h2 h3 h4 _=>?_⟩
 match vs,h3 with
 |[v0,v1],_ =>
  obtain ⟨a,n,c,rfl,hs⟩:=agz (h4 0 _ v0 rfl rfl)
  obtain ⟨la,ln,lc,rfl,hl⟩:=agA hw (h4 1 _ v1 rfl rfl)
  refine (hA hs (by rw [← hs.len];exact hn) hv hl).mono ?_
  rintro e w' ⟨a',n',c',rfl,hr,hz,hB⟩
  rw [← agB,← Ru]
  rw [← agC] at hr
  rw [← Ru] at hz
  refine ⟨_,fun b=>if w.heap.size≤b∧b<w'.heap.size then .ro else T0 b,rfl,hB,fun b hb=>if_neg (by omega),fun b hb=>?_,#[_,_,_],rfl,rfl,fun i r u hr' hu=>?_⟩
  ·show (if _ then _ else T0 b)=_
   rw [if_neg (by omega)];exact h2 b (by have:=hB.size;omega)
  ·match i with
   |0 =>
    cases hr';cases hu
    refine adS (ok:=(w.heap.size≤·)) (fun b hb hlt=>if_pos ⟨hb,hlt⟩) (fun e=>?_) Rw.2 hr
    rcases hz with hz|hz
    ·exact hr.nil hz
    ·exact absurd e (Rw.1 hz)
   |1=>cases hr';cases hu;exact .int _ _
   |2=>cases hr';cases hu;exact .int _ _
   |i+3=>simp at hr'
theorem WW:∀ args rs,sK args=some rs→callable Tryd.prog 39=true∧lZ Tryd.prog 39 args rs:=aaM (by kernel_rfl) fun h hn hv _ _ _ _ hl=>Rq h hn hv hl
end Go.Proofs.YtaaokejjmdbfaaaDoor

namespace Go.Proofs.YtaaokejjmdbfaaaDoor
open Go.RowKit V
def Rx (f:Nat) (fn:jd):Env:=fun k=>if k=f then some (.code fn) else none
theorem WX {P:Program} {f:Nat} {fn:jd} (h:dF P f fn=true):Ag P (Rx f fn):=fun k d hk=>by
 unfold Rx at hk
 split at hk
 ·rename_i e;subst e;cases hk;exact h
 ·cases hk
def emR (n:Nat):Rep Unit where
 sz:=n
 rd _ _ cs _:=cs.length=n∧∀ u∈cs,u.oneCell'=true
 len h:=h.1
 mono _ h:=h
 live h:=h
 frame _ h:=h
 one h:=h.2
theorem Flat.em (n:Nat):Flat (emR n):=fun h=>h
theorem agD {ok:Nat→Prop} {w:World} {sz:Nat} {v:Value} (h:ay ok w (.list sz []) v):∃ a c,v=.slice a 0 c∧Sl (emR sz) (fun _=>True) w a 0 c []:=by
 obtain ⟨l,hl⟩:∃ l:List PV,l=[]:=⟨_,rfl⟩
 rw [← hl] at h
 cases h with
 |nil _ a=>exact ⟨a,0,rfl,⟨rfl,Nat.le_refl _,Nat.zero_le _,fun _=>rfl,.inl rfl⟩⟩
 |list _ _ b off c cv h1 h2 h3 h4 h6 h7 h8=>subst hl;exact ⟨_,c,rfl,⟨rfl,Nat.zero_le _,h4,(fun e=>by cases e),.inl rfl⟩⟩
--+
theorem aiU:oI Tryd.prog 55 3 1 8 (.int .i64 0):=⟨Tryd.underlying55,by kernel_rfl,rfl,by decide⟩
set_option maxHeartbeats 1000000 in
theorem aaN {a:Option Addr} {n c:Nat} {l:List Unit} {ok:Nat→Prop} {w:World} (h:Sl (emR 1) ok w a n c l) (hn:n≤1000000) :
  Calls Tryd.prog 35 #[.slice a n c] w fun e w'=>∃ a' n' c',e=.returned (.slice a' n' c')∧(fH (emR 1) 3).rd (w.heap.size≤·) w' [.slice a' n' c'] l∧Below w.heap.size w w':=by
 have heq:=fun (a:Option Addr) (n c:Nat) (w:World)=>Lib.run_eql_slice_nil (P:=Tryd.prog) w 55 3 a n c 0 0 Tryd.underlying55
 cases a with
 |none =>
  have h0:l=[]:=List.eq_nil_of_length_eq_zero (by rw [h.len];have:=h.nil rfl;have:=h.cap;omega)
  have H0:=Lib.hid h0;clear h0
  go_enter Tryd.func35,Tryd.ntmps35
  go_wp2
  go_ret
  refine ⟨_,_,_,rfl,?_,Below.refl _ _⟩
  rw [H0.out]
  exact fH.mk (Own.nil _ _ _ _ _) (fun _=>.inl rfl)
 |some ad =>
  have hs:n≤9223372036854775807:=by have:=Nat.le_trans h.cap h.bnd;unfold maxLen at this;omega
  go_enter Tryd.func35,Tryd.ntmps35
  go_wp2_with (at_builtin;refine wI aiU rfl _ _ rfl rfl (Own.aiP (emR 1) (ok:=fun _=>False) (Nat.le_refl _)) rfl ((Src.Xz (h.below ((Below.refl _ _).alloc (Nat.le_refl _) _))).flat (Flat.em 1)) ?c1 ?c2 ?c3 ?_)
  case c1=>simp;unfold maxLen;omega
  case c2=>simp;omega
  case c3=>simp
  intro v' w1 hown hgrow hat
  obtain ⟨a',n',c',rfl,_⟩:=hown.sl
  go_wp2
  go_ret
  refine ⟨_,_,_,rfl,fH.mk (by simpa using hown) (fun e=>?_),((Below.refl _ _).alloc (Nat.le_refl _) _).grown hgrow (by simp) (fun k hk=>by cases hk;exact Nat.le_refl _)⟩
  subst e
  obtain ⟨xs,h1,_⟩:=hown
  rcases h1.2 with ⟨hv,_⟩|⟨g,cap,cur,hv,_⟩
  ·exact .inl hv
  ·exact .inr ⟨g,cap,by simpa using hv⟩
theorem Ry:dF Tryd.prog 35 ado=true:=by kernel_rfl
theorem J4 {en:Env} (hen:en 35=some (.code ado)) {e:PV} {es:List PV} (hl:(e :: es).length≤lim):cal en 35 [.list 1 (e :: es)]=some [(.list 1 (e :: es),true)]:=by
 have F1:(es.length+1≤lim)=True:=eq_true (by simpa using hl)
 rw [au hen rfl]
 simp only [ado]
 simp only [start,aP,aX,aN,aW,aI,aJ,aO,aT,Nat.reduceAdd,Nat.reduceSub]
 simp only [F1,aT,dK,reduceCtorEq,Nat.reduceEqDiff,Nat.reduceAdd,Nat.reduceLT,Nat.reduceLeDiff,Nat.beq]
theorem Rz:∀ args rs,Dh 1 args=some rs→callable Tryd.prog 35=true∧lZ Tryd.prog 35 args rs:=fun args rs h=>by
 unfold Dh at h
 split at h
 case h_2=>cases h
 rename_i sz es
 split at h
 case isFalse=>cases h
 rename_i hc
 obtain ⟨rfl,hl⟩:=hc
 cases h
 cases es with
 |cons e es =>
  obtain ⟨n,hn⟩:=wz (J4 (en:=Rx 35 ado) (if_pos rfl) hl)
  exact Gg (WX Ry) hn
 |nil =>
  refine ⟨by kernel_rfl,fun T0 w vs h1 h2 h3 h4 _=>?_⟩
  match vs,h3 with
  |[v],_ =>
   have hv:=h4 0 _ v rfl rfl
   obtain ⟨a,c,rfl,hsl⟩:=agD hv
   refine (aaN (ok:=fun _=>True) hsl (by omega)).mono ?_
   rintro e w' ⟨a',n',c',rfl,hrd,hB⟩
   obtain ⟨v,hv,hb,⟨xs,hown,_⟩,hnil⟩:=hrd
   obtain rfl:Value.slice a' n' c'=v:=by simpa using hv
   rcases hown.2 with ⟨e1,_⟩|⟨g,cap,cur,e1,_,hg,_,hm,hs,_⟩
   ·refine ⟨_,T0,rfl,hB,fun _ _=>rfl,fun b hb=>h2 b (by have:=hB.size;omega),#[_],rfl,rfl,fun i r u hr hu=>?_⟩
    cases i with
    |zero=>cases hr;cases hu;exact .inl ⟨rfl,none,e1⟩
    |succ i=>simp at hr
   ·have hg0:w.heap.size≤g:=hb g (by rw [e1];rfl)
    have hgl:g<w'.heap.size:=(Array.getElem?_eq_some_iff.1 hg).1
    refine ⟨_,fun b=>if b=g then .row (.part 0 0) else T0 b,rfl,hB,fun b hb=>if_neg (by omega),fun b hb=>?_,#[_],rfl,rfl,fun i r u hr hu=>?_⟩
    ·show (if b=g then _ else T0 b)=_
     rw [if_neg (by omega)];exact h2 b (by have:=hB.size;omega)
    ·cases i with
     |zero =>
      cases hr;cases hu
      exact .inr ⟨g,cap,cur,_,e1,if_pos rfl,hg,hs,Nat.zero_le _,hm,(fun e he=>by cases he),fun i e j x hi=>by simp at hi⟩
     |succ i=>simp at hr
end Go.Proofs.YtaaokejjmdbfaaaDoor

namespace Go.Proofs.YtaaokejjmdbfaaaDoor.V
theorem rC {a b:kC} (h:bn a=bn b):a.length=b.length∧∀ i (h1:i<a.length) (h2:i<b.length),a[i].length=b[i].length:=by
 have hl:a.length=b.length:=by simpa [bn] using congrArg List.length h
 refine ⟨hl,fun i h1 h2=>?_⟩
 have:=congrArg (fun l=>l[i]?) h
 simp only [bn,List.getElem?_map,List.getElem?_eq_getElem h1,List.getElem?_eq_getElem h2,Option.map_some,Option.some.injEq] at this
 omega
end Go.Proofs.YtaaokejjmdbfaaaDoor.V

namespace Go.Proofs.YtaaokejjmdbfaaaDoor.V
end Go.Proofs.YtaaokejjmdbfaaaDoor.V

namespace Go.Proofs.YtaaokejjmdbfaaaDoor.V
def okW (l:List iW):Prop:=∀ w∈l,nD w.volume=true∧nD w.start=true
theorem aiV {im:kC} {l:List iW} (hw:okW l) (hl:im.length≤1000000) (hr:∀ v∈im,v.length≤1000000):cal env 39 [.list 1 (im.map aY),.list 3 (l.map vZ)]=some [(.list 1 ((uI im l).map aY),false),(.int .i64 (apI im l),false),(.int .i64 (Dj im l),false)] :=
 (II ahY).trans (QI hw hl hr)
theorem WY {a b:kC} (h:gZ a=gZ b) (hl:b.length≤9) (hr:∀ v∈b,v.length≤24):a.length≤9∧∀ v∈a,v.length≤24:=by
 obtain ⟨h1,h2⟩:=rC (a:=a) (b:=b) h
 refine ⟨by omega,fun v hv=>?_⟩
 obtain ⟨i,hi,rfl⟩:=List.mem_iff_getElem.1 hv
 rw [h2 i hi (by omega)]
 exact hr _ (List.getElem_mem _)
theorem WZ {im:kC} {l:List iW} (hl:im.length≤9) (hr:∀ v∈im,v.length≤24):(uI im l).length≤9∧∀ v∈uI im l,v.length≤24:=by
 by_cases h:Dj im l=0
 ·exact WY (oD h) hl hr
 ·unfold uI;rw [if_neg h];simp
theorem TK {im:kC} {l:List iW} (h:Dj im l=0):yt (gZ im)=0:=by
 unfold Dj at h
 split at h
 ·rename_i h2;exact absurd h h2
 ·omega
end Go.Proofs.YtaaokejjmdbfaaaDoor.V

namespace Go.Proofs.YtaaokejjmdbfaaaDoor.V
theorem D8 {a b:kC} (h:gZ a=gZ b) (v:Nat):(a.getD v []).length=(b.getD v []).length:=by
 obtain ⟨h1,h2⟩:=rC (a:=a) (b:=b) h
 rw [List.getD_eq_getElem?_getD,List.getD_eq_getElem?_getD]
 by_cases hv:v<a.length
 ·rw [List.getElem?_eq_getElem hv,List.getElem?_eq_getElem (by omega:v<b.length)]
  exact h2 v hv (by omega)
 ·rw [List.getElem?_eq_none (by omega),List.getElem?_eq_none (by omega)]
end Go.Proofs.YtaaokejjmdbfaaaDoor.V

namespace Go.Proofs.YtaaokejjmdbfaaaDoor.V
end Go.Proofs.YtaaokejjmdbfaaaDoor.V

namespace Go.Proofs.YtaaokejjmdbfaaaDoor.V
theorem adU {n:Int} (h:0≤n):((iH n).toNat:Int)=iH n:=by unfold iH;omega
def newE (n:Int):Int:=if n<0∨n > 4096 then 2 else 0
def tH (n:Int):Bm:=if n<0∨n > 4096 then ⟨0,[]⟩ else ⟨n,List.replicate (iH n).toNat 0⟩
def yT (size:Int) (e:lQ):Bool:=decide (0≤e.start)&&decide (0≤e.count)&&decide (e.start≤size)&&decide (e.count≤size - e.start)
theorem vN {size:Int} {e:lQ}:yT size e=true ↔ 0≤e.start∧0≤e.count∧e.start≤size∧e.count≤size - e.start:=by
 unfold yT;simp [and_assoc]
def yU (f:Wd→Wd→Wd) (ws:List Wd) (e:lQ):List Wd:=ws.mapIdx fun k w=>f w (wC k e.start (e.start+e.count))
theorem qx (f:Wd→Wd→Wd) (ws:List Wd) (e:lQ):(yU f ws e).length=ws.length:=by simp [yU]
def J5 (b:Bm) (e:lQ):Int:=if okB b=false then 3 else if yT b.size e=false then 2 else 0
def Oz (f:Wd→Wd→Wd) (b:Bm) (e:lQ):Bm:=if J5 b e=0 then ⟨b.size,yU f b.ws e⟩ else ⟨0,[]⟩
def RD (x y:Wd):Wd:=x &&& ~~~y
end Go.Proofs.YtaaokejjmdbfaaaDoor.V

namespace Go.Proofs.YtaaokejjmdbfaaaDoor.V
def frB (b:Bm) (l:List lQ):Bm:=l.foldl (fun b e=>Oz qp b e) b
def frE:Bm→List lQ→Int
 |_,[]=>0
 |b,e :: l=>if J5 b e=0 then frE (Oz qp b e) l else J5 b e
def fxE (n:Int) (l:List lQ):Int:=if newE n=0 then frE (tH n) l else newE n
def W9 (n:Int) (l:List lQ):Bm:=if fxE n l=0 then frB (tH n) l else ⟨0,[]⟩
end Go.Proofs.YtaaokejjmdbfaaaDoor.V

namespace Go.Proofs.YtaaokejjmdbfaaaDoor.V
theorem aiW {n:Int}:cal env 94 [.int .i64 n]=some [(jU (tH n),false),(.int .i64 (newE n),false)]:=by
 have hz:=DT
 unfold newE tH
 by_cases c0:n<0
 ·rw [if_pos (.inl c0),if_pos (.inl c0),hz]
  have F0:(n<0)=True:=eq_true c0
  rw [au ZT rfl];simp only [QV,aG,Nat.reduceBEq,Nat.reduceLeDiff,Nat.reduceAdd,List.length_cons,List.length_nil]
  simp only [F0,aB,Nat.reduceMul,Nat.reduceBEq,Nat.reduceLT,Nat.reduceLeDiff,reduceCtorEq,Nat.reduceEqDiff,Nat.reduceAdd,Nat.beq]
 ·have F0:(n<0)=False:=eq_false c0
  by_cases c1:n > 4096
  ·rw [if_pos (.inr c1),if_pos (.inr c1),hz]
   have F1:(n > 4096)=True:=eq_true c1
   rw [au ZT rfl];simp only [QV,aG,Nat.reduceBEq,Nat.reduceLeDiff,Nat.reduceAdd,List.length_cons,List.length_nil]
   simp only [F0,F1,aB,Nat.reduceMul,Nat.reduceBEq,Nat.reduceLT,Nat.reduceLeDiff,reduceCtorEq,Nat.reduceEqDiff,Nat.reduceAdd,Nat.beq]
  ·have F1:(n > 4096)=False:=eq_false c1
   rw [if_neg (by omega),if_neg (by omega)]
   have W1:IntKind.i64.wrap (n+63)=n+63:=bF (by omega)
   have Q1:(n+63).tdiv 64=iH n:=by unfold iH;exact Int.tdiv_eq_ediv_of_nonneg (by omega)
   have hw:0≤iH n∧iH n≤64:=by unfold iH;omega
   have W2:IntKind.i64.wrap (iH n)=iH n:=bF (by omega)
   have F3:(0≤iH n)=True:=eq_true hw.1
   have F4:(iH n≤(lim:Int))=True:=eq_true (by unfold lim;omega)
   have F5:(iH n≤iH n)=True:=eq_true (Int.le_refl _)
   have z0:eW 0=.int .u64 0:=rfl
   have z64:((64:Int)=0)=False:=eq_false (by omega)
   unfold jU
   rw [List.map_replicate,z0]
   rw [au ZT rfl];simp only [QV,aG,Nat.reduceBEq,Nat.reduceLeDiff,Nat.reduceAdd,List.length_cons,List.length_nil]
   simp only [F0,F1,W1,W2,Q1,F3,F4,F5,z64,aB,Nat.reduceMul,Nat.reduceBEq,Nat.reduceLT,Nat.reduceLeDiff,reduceCtorEq,Nat.reduceEqDiff,Nat.reduceAdd,Nat.beq]
end Go.Proofs.YtaaokejjmdbfaaaDoor.V

namespace Go.Proofs.YtaaokejjmdbfaaaDoor.V
theorem agE {n:Nat} (h:n≤4096):newE (n:Int)=0∧okB (tH (n:Int))=true∧(tH (n:Int)).size=(n:Int)∧∀ s,bit (tH (n:Int)).ws s=false:=by
 have e1:newE (n:Int)=0:=by unfold newE;rw [if_neg (by omega)]
 have e2:tH (n:Int)=⟨n,List.replicate (iH n).toNat 0⟩:=by unfold tH;rw [if_neg (by omega)]
 have hb:∀ s,bit (List.replicate (iH n).toNat (0:Wd)) s=false:=fun s=>by
  unfold bit
  rw [List.getD_eq_getElem?_getD,List.getElem?_replicate]
  split<;>simp
 rw [e2]
 refine ⟨e1,iL.2 ⟨⟨by show (0:Int)≤(n:Int);omega,by show (n:Int)≤4096;omega,?_⟩,fun i _=>hb i⟩,rfl,hb⟩
 show ((List.replicate (iH n).toNat (0:Wd)).length:Int)=iH n
 rw [List.length_replicate]
 exact adU (by omega)
theorem adW (ws:List Wd) (e:lQ):yU qp ws e=setW ws e.start (e.start+e.count):=rfl
theorem agF {b:Bm} {e:lQ} (h:okB b=true) (hf:yT b.size e=true):J5 b e=0∧okB (Oz qp b e)=true∧(Oz qp b e).size=b.size∧∀ s:Nat,(s:Int)<b.size→bit (Oz qp b e).ws s=(bit b.ws s || decide (e.start≤(s:Int)∧(s:Int)<e.start+e.count)):=by
 have hE:J5 b e=0:=by unfold J5;rw [if_neg (by rw [h];decide),if_neg (by rw [hf];decide)]
 have hO:Oz qp b e=⟨b.size,setW b.ws e.start (e.start+e.count)⟩:=by unfold Oz;rw [if_pos hE,adW]
 have hs:=jf h
 have hf:=vN.1 hf
 rw [hO]
 have hl:(setW b.ws e.start (e.start+e.count)).length=b.ws.length:=by simp [setW]
 refine ⟨hE,iL.2 ⟨⟨hs.1,hs.2.1,?_⟩,fun i hi=>?_⟩,rfl,fun s hlt=>yJ (by omega)⟩
 ·show ((setW b.ws e.start (e.start+e.count)).length:Int)=_
  rw [hl];exact (iL.1 h).1.2.2
 ·have hi:b.size≤(i:Int):=hi
  by_cases c:i<64 * b.ws.length
  ·show bit (setW b.ws e.start (e.start+e.count)) i=false
   rw [yJ c,(iL.1 h).2 i hi,decide_eq_false (by omega)]
   rfl
  ·exact yH (by show 64 * (setW b.ws e.start (e.start+e.count)).length≤i;rw [hl];omega)
end Go.Proofs.YtaaokejjmdbfaaaDoor.V

namespace Go.Proofs.YtaaokejjmdbfaaaDoor.V
theorem agG {size:Int} {e:lQ} (hs:0≤size∧size≤4096):cal env 113 [gu e,.int .i64 size]=some [(.bool (yT size e),false)]:=by
 unfold yT gu
 by_cases c0:0≤e.start
 ·have F0:(e.start ≥ 0)=True:=eq_true c0
  rw [decide_eq_true c0]
  by_cases c1:0≤e.count
  ·have F1:(e.count ≥ 0)=True:=eq_true c1
   rw [decide_eq_true c1]
   by_cases c2:e.start≤size
   ·have F2:(e.start≤size)=True:=eq_true c2
    have W:IntKind.i64.wrap (size - e.start)=size - e.start:=bF (by omega)
    rw [decide_eq_true c2]
    rw [au JE rfl];simp only [Am,aG,Nat.reduceBEq,Nat.reduceLeDiff,Nat.reduceAdd,List.length_cons,List.length_nil]
    simp only [F0,F1,F2,W,aB,Nat.reduceMul,Nat.reduceBEq,Nat.reduceLT,Nat.reduceLeDiff,reduceCtorEq,Nat.reduceEqDiff,Nat.reduceAdd,Nat.beq]
   ·have F2:(e.start≤size)=False:=eq_false c2
    rw [decide_eq_false c2]
    rw [au JE rfl];simp only [Am,aG,Nat.reduceBEq,Nat.reduceLeDiff,Nat.reduceAdd,List.length_cons,List.length_nil]
    simp only [F0,F1,F2,aB,Nat.reduceMul,Nat.reduceBEq,Nat.reduceLT,Nat.reduceLeDiff,reduceCtorEq,Nat.reduceEqDiff,Nat.reduceAdd,Nat.beq]
  ·have F1:(e.count ≥ 0)=False:=eq_false c1
   rw [decide_eq_false c1]
   rw [au JE rfl];simp only [Am,aG,Nat.reduceBEq,Nat.reduceLeDiff,Nat.reduceAdd,List.length_cons,List.length_nil]
   simp only [F0,F1,aB,Nat.reduceMul,Nat.reduceBEq,Nat.reduceLT,Nat.reduceLeDiff,reduceCtorEq,Nat.reduceEqDiff,Nat.reduceAdd,Nat.beq]
 ·have F0:(e.start ≥ 0)=False:=eq_false c0
  rw [decide_eq_false c0]
  rw [au JE rfl];simp only [Am,aG,Nat.reduceBEq,Nat.reduceLeDiff,Nat.reduceAdd,List.length_cons,List.length_nil]
  simp only [F0,aB,Nat.reduceMul,Nat.reduceBEq,Nat.reduceLT,Nat.reduceLeDiff,reduceCtorEq,Nat.reduceEqDiff,Nat.reduceAdd,Nat.beq]
theorem adX {ws:List Wd} {q:Nat} {x:Wd} (i:Nat) (hq:q<ws.length):bit (ws.set q x) i=if i / 64=q then x.getLsbD (i % 64) else bit ws i:=by
 unfold bit
 rw [List.getD_eq_getElem?_getD,List.getD_eq_getElem?_getD,List.getElem?_set]
 by_cases c:q=i / 64
 ·rw [if_pos c,if_pos c.symm,if_pos hq]
  rfl
 ·rw [if_neg c,if_neg (fun h=>c h.symm)]
theorem TL {r k:Nat} (hk:k<64):((1:Wd) <<< r).getLsbD k=decide (k=r):=by
 rw [BitVec.getLsbD_shiftLeft,show (1:Wd)=1#64 from rfl,BitVec.getLsbD_one]
 by_cases c:k=r
 ·subst c;simp [hk]
 ·rw [decide_eq_false c]
  by_cases c2:k<r
  ·simp [c2]
  ·have:¬ (k - r=0):=by omega
   simp [c2,this]
theorem adY (x y:Wd) (k:Nat):(qp x y).getLsbD k=(x.getLsbD k || y.getLsbD k):=BitVec.getLsbD_or
theorem adZ (x y:Wd) {k:Nat} (h:k<64):(RD x y).getLsbD k=(x.getLsbD k&&!y.getLsbD k):=by
 unfold RD
 rw [BitVec.getLsbD_and,BitVec.getLsbD_not,decide_eq_true h,Bool.true_and]
theorem ad1 {F:Wd→Wd→Wd} (hF:F=qp∨F=RD) {ws:List Wd} {s j:Nat} (hq:(s+j) / 64<ws.length) :
  (yU F ws ⟨(s:Int),(j:Int)⟩).set ((s+j) / 64) (F ((yU F ws ⟨(s:Int),(j:Int)⟩)[(s+j) / 64]'(by rw [qx];exact hq)) ((1:Wd) <<< ((s+j) % 64)))=yU F ws ⟨(s:Int),((j+1:Nat):Int)⟩:=by
 have hq2:(s+j) / 64<(yU F ws ⟨(s:Int),(j:Int)⟩).length:=by rw [qx];exact hq
 apply aaq
 ·rw [List.length_set,qx,qx]
 intro i hi
 rw [List.length_set,qx] at hi
 rw [adX i hq2]
 rcases hF with rfl|rfl
 ·have e1:∀ j:Nat,yU qp ws ⟨(s:Int),(j:Int)⟩=setW ws s (s+j):=fun _=>rfl
  have e2:bit (yU qp ws ⟨(s:Int),((j+1:Nat):Int)⟩) i=(bit ws i || decide ((s:Int)≤(i:Int)∧(i:Int)<(s:Int)+((j+1:Nat):Int))):=yJ hi
  have e3:bit (yU qp ws ⟨(s:Int),(j:Int)⟩) i=(bit ws i || decide ((s:Int)≤(i:Int)∧(i:Int)<(s:Int)+(j:Int))):=yJ hi
  rw [e2]
  by_cases c:i / 64=(s+j) / 64
  ·rw [if_pos c]
   rw [adY,TL (Nat.mod_lt _ (by decide))]
   have e4:=qK (ws:=yU qp ws ⟨(s:Int),(j:Int)⟩) (i:=i) (by rw [c];exact hq2)
   rw [e3] at e4
   have e5:(yU qp ws ⟨(s:Int),(j:Int)⟩)[i / 64]'(by rw [c];exact hq2)=(yU qp ws ⟨(s:Int),(j:Int)⟩)[(s+j) / 64]:=by simp only [c]
   rw [e5] at e4
   rw [← e4,Bool.or_assoc]
   congr 1
   rw [Bool.eq_iff_iff,Bool.or_eq_true,decide_eq_true_eq,decide_eq_true_eq,decide_eq_true_eq]
   omega
  ·rw [if_neg c,e3]
   congr 1
   rw [Bool.eq_iff_iff,decide_eq_true_eq,decide_eq_true_eq]
   have:i≠s+j:=fun h=>c (by rw [h])
   omega
 ·have e2:bit (yU RD ws ⟨(s:Int),((j+1:Nat):Int)⟩) i=(bit ws i&&!decide ((s:Int)≤(i:Int)∧(i:Int)<(s:Int)+((j+1:Nat):Int))):=JH hi
  have e3:bit (yU RD ws ⟨(s:Int),(j:Int)⟩) i=(bit ws i&&!decide ((s:Int)≤(i:Int)∧(i:Int)<(s:Int)+(j:Int))):=JH hi
  rw [e2]
  by_cases c:i / 64=(s+j) / 64
  ·rw [if_pos c]
   rw [adZ _ _ (Nat.mod_lt _ (by decide)),TL (Nat.mod_lt _ (by decide))]
   have e4:=qK (ws:=yU RD ws ⟨(s:Int),(j:Int)⟩) (i:=i) (by rw [c];exact hq2)
   rw [e3] at e4
   have e5:(yU RD ws ⟨(s:Int),(j:Int)⟩)[i / 64]'(by rw [c];exact hq2)=(yU RD ws ⟨(s:Int),(j:Int)⟩)[(s+j) / 64]:=by simp only [c]
   rw [e5] at e4
   rw [← e4,Bool.and_assoc]
   congr 1
   rw [Bool.eq_iff_iff,Bool.and_eq_true,Bool.not_eq_true',Bool.not_eq_true',Bool.not_eq_true',decide_eq_false_iff_not,decide_eq_false_iff_not,decide_eq_false_iff_not]
   omega
  ·rw [if_neg c,e3]
   congr 2
   rw [Bool.eq_iff_iff,decide_eq_true_eq,decide_eq_true_eq]
   have:i≠s+j:=fun h=>c (by rw [h])
   omega
theorem ad2 {F:Wd→Wd→Wd} (hF:F=qp∨F=RD) (ws:List Wd) (s:Nat):yU F ws ⟨(s:Int),((0:Nat):Int)⟩=ws:=by
 apply aaq
 ·rw [qx]
 intro i hi
 rw [qx] at hi
 rcases hF with rfl|rfl
 ·have e:bit (yU qp ws ⟨(s:Int),((0:Nat):Int)⟩) i=(bit ws i || decide ((s:Int)≤(i:Int)∧(i:Int)<(s:Int)+((0:Nat):Int))):=yJ hi
  rw [e,decide_eq_false (by omega),Bool.or_false]
 ·have e:bit (yU RD ws ⟨(s:Int),((0:Nat):Int)⟩) i=(bit ws i&&!decide ((s:Int)≤(i:Int)∧(i:Int)<(s:Int)+((0:Nat):Int))):=JH hi
  rw [e,decide_eq_false (by omega)]
  simp
set_option maxRecDepth 20000 in
theorem ad3 {b:Bm} {s c:Nat} {t:Bool} {F:Wd→Wd→Wd} (hF:(t=true∧F=qp)∨(t=false∧F=RD)) (hw:b.ws.length≤64) (hsc:s+c≤64 * b.ws.length) {st:St} (h:st.head [2,4,6,8,9] st.boxes.length=some ⟨sl 67 [(2,.pv (.bool t)),(4,.aA 1 0),(6,.aA 2 0),(8,.aA 3 0),(9,.pv (.int .i64 ((s+(0:Nat):Nat):Int)))],[⟨false,[.pv (.int .i64 b.size),.pv (.list 1 (b.ws.map eW))]⟩,⟨false,[.pv (.int .i64 (s:Int)),.pv (.int .i64 (c:Int))]⟩,⟨false,[.pv (.int .i64 0),.row 1 []]⟩,⟨false,[.pv (.int .i64 b.size),.row 1 ((yU F b.ws ⟨(s:Int),(((0:Nat):Nat):Int)⟩).map eW)]⟩],[],none⟩) :
  den env Dn st=some (.normal,⟨sl 67 [(6,.aA 2 0),(7,.any),(8,.aA 3 0)],[⟨false,[.pv (.int .i64 b.size),.pv (.list 1 (b.ws.map eW))]⟩,⟨false,[.pv (.int .i64 (s:Int)),.pv (.int .i64 (c:Int))]⟩,⟨false,[.pv (.int .i64 0),.row 1 []]⟩,⟨false,[.pv (.int .i64 b.size),.row 1 ((yU F b.ws ⟨(s:Int),(c:Int)⟩).map eW)]⟩],[],none⟩):=by
 unfold Dn
 refine bJ (env:=env) (nb:=4) (c) (fun i=>⟨sl 67 [(2,.pv (.bool t)),(4,.aA 1 0),(6,.aA 2 0),(8,.aA 3 0),(9,.pv (.int .i64 ((s+i:Nat):Int)))],[⟨false,[.pv (.int .i64 b.size),.pv (.list 1 (b.ws.map eW))]⟩,⟨false,[.pv (.int .i64 (s:Int)),.pv (.int .i64 (c:Int))]⟩,⟨false,[.pv (.int .i64 0),.row 1 []]⟩,⟨false,[.pv (.int .i64 b.size),.row 1 ((yU F b.ws ⟨(s:Int),((i:Nat):Int)⟩).map eW)]⟩],[],none⟩) (fun i=>some (.normal,⟨sl 67 [(6,.aA 2 0),(7,.any),(8,.aA 3 0)],[⟨false,[.pv (.int .i64 b.size),.pv (.list 1 (b.ws.map eW))]⟩,⟨false,[.pv (.int .i64 (s:Int)),.pv (.int .i64 (c:Int))]⟩,⟨false,[.pv (.int .i64 0),.row 1 []]⟩,⟨false,[.pv (.int .i64 b.size),.row 1 ((yU F b.ws ⟨(s:Int),(c:Int)⟩).map eW)]⟩],[],none⟩)) h (fun _=>rfl) (fun _=>by simp only [aG,bD,Nat.reduceMul,Nat.reduceBEq,Nat.reduceLT,Nat.reduceLeDiff,Nat.reduceAdd,decide_true,Bool.and_self,Bool.true_and]) ?_ ?_
 ·intro i rb hi ih
  have hi1:IntKind.i64.wrap (((s+i:Nat):Int)+1)=((s+(i+1):Nat):Int):=by rw [bF (by omega)];omega
  have W0:IntKind.i64.wrap ((s:Int)+(c:Int))=(s:Int)+(c:Int):=bF (by omega)
  have F1:(((s+i:Nat):Int)<(s:Int)+(c:Int))=True:=eq_true (by omega)
  have hq:(s+i) / 64<b.ws.length:=by omega
  have hF':F=qp∨F=RD:=hF.elim (fun h=>.inl h.2) (fun h=>.inr h.2)
  have T1:((s+i:Nat):Int).tdiv 64=(((s+i) / 64:Nat):Int):=by rw [Int.tdiv_eq_ediv_of_nonneg (by omega)];omega
  have T2:((s+i:Nat):Int).tmod 64=(((s+i) % 64:Nat):Int):=by rw [Int.tmod_eq_emod_of_nonneg (by omega)];omega
  have W1:IntKind.i64.wrap (((s+i) / 64:Nat):Int)=(((s+i) / 64:Nat):Int):=bF (by omega)
  have W3:IntKind.i64.wrap (((s+i) % 64:Nat):Int)=(((s+i) % 64:Nat):Int):=bF (by omega)
  have W2:IntKind.u64.wrap (((s+i) % 64:Nat):Int)=(((s+i) % 64:Nat):Int):=by rw [DL];omega
  have S0:((((s+i) % 64:Nat):Int)<0)=False:=eq_false (by omega)
  have S1:=aeK 1 (s:=(((s+i) % 64:Nat):Int)) (n:=(s+i) % 64) rfl
  have B1:((1:Wd).toNat:Int)=1:=rfl
  rw [B1] at S1
  have hI:index (.int .i64 (((s+i) / 64:Nat):Int)) b.ws.length=some ((s+i) / 64):=ah hq
  obtain ⟨cw,hcw⟩:∃ cw,cw=yU F b.ws ⟨(s:Int),(i:Int)⟩:=⟨_,rfl⟩
  have hlen:cw.length=b.ws.length:=by rw [hcw];exact qx ..
  have hqc:(s+i) / 64<cw.length:=by omega
  have hst:cw.set ((s+i) / 64) (F cw[(s+i) / 64] ((1:Wd) <<< ((s+i) % 64)))=yU F b.ws ⟨(s:Int),((i+1:Nat):Int)⟩:=by
   subst hcw
   exact ad1 hF' hq
  have hg:(cw.map eW)[(s+i) / 64]?=some (.int .u64 (cw[(s+i) / 64].toNat:Int)):=by rw [List.getElem?_map,List.getElem?_eq_getElem hqc];rfl
  have hset:(cw.map eW).set ((s+i) / 64) (.int .u64 ((F cw[(s+i) / 64] ((1:Wd) <<< ((s+i) % 64))).toNat:Int))=(yU F b.ws ⟨(s:Int),((i+1:Nat):Int)⟩).map eW:=by
   rw [← hst,List.map_set];rfl
  rw [← hcw]
  clear hcw hst
  rcases hF with ⟨rfl,rfl⟩|⟨rfl,rfl⟩
  ·have S2:=aiv cw[(s+i) / 64] ((1:Wd) <<< ((s+i) % 64))
   unfold qp at hset
   simp only [yD,F1,W0,W1,W2,W3,T1,T2,S0,S1,S2,z64,hI,hg,hset,hlen,List.length_map,aB,Nat.reduceMul,Nat.reduceBEq,Nat.reduceLT,Nat.reduceLeDiff,reduceCtorEq,Nat.reduceEqDiff,Nat.reduceAdd,Nat.beq]
   rw [ih _ (by simp only [hi1,aB,Nat.reduceMul,Nat.reduceBEq,Nat.reduceLT,Nat.reduceLeDiff,reduceCtorEq,Nat.reduceEqDiff,Nat.reduceAdd,Nat.beq]<;>rfl)]
  ·have S2:=aas cw[(s+i) / 64] ((1:Wd) <<< ((s+i) % 64))
   unfold RD at hset
   simp only [yD,F1,W0,W1,W2,W3,T1,T2,S0,S1,S2,z64,hI,hg,hset,hlen,List.length_map,aB,Nat.reduceMul,Nat.reduceBEq,Nat.reduceLT,Nat.reduceLeDiff,reduceCtorEq,Nat.reduceEqDiff,Nat.reduceAdd,Nat.beq]
   rw [ih _ (by simp only [hi1,aB,Nat.reduceMul,Nat.reduceBEq,Nat.reduceLT,Nat.reduceLeDiff,reduceCtorEq,Nat.reduceEqDiff,Nat.reduceAdd,Nat.beq]<;>rfl)]
 ·intro rb
  have W0:IntKind.i64.wrap ((s:Int)+(c:Int))=(s:Int)+(c:Int):=bF (by omega)
  have F1:(((s+c:Nat):Int)<(s:Int)+(c:Int))=False:=eq_false (by omega)
  simp only [yD,F1,W0,aB,Nat.reduceMul,Nat.reduceBEq,Nat.reduceLT,Nat.reduceLeDiff,reduceCtorEq,Nat.reduceEqDiff,Nat.reduceAdd,Nat.beq]
theorem agH {b:Bm} {e:lQ} {t:Bool} {F:Wd→Wd→Wd} (hF:(t=true∧F=qp)∨(t=false∧F=RD)) :
  cal env 107 [jU b,gu e,.bool t]=some [(jU (Oz F b e),false),(.int .i64 (J5 b e),false)]:=by
 have e1:=aeM (b:=b)
 have Z0:((0:Int) != 0)=false:=rfl
 have Z3:((3:Int) != 0)=true:=rfl
 have hz:=DT
 have eA:∀ b:Bm,jU b=.agg [.int .i64 b.size,.list 1 (b.ws.map eW)]:=fun _=>rfl
 have eX:∀ e:lQ,gu e=.agg [.int .i64 e.start,.int .i64 e.count]:=fun _=>rfl
 have P2:∀ a b:PV,part [a,b] 0 (some 2)=some (.agg [a,b]):=fun _ _=>rfl
 unfold Oz
 cases c1:okB b with
 |false =>
  have hE:J5 b e=3:=by unfold J5;rw [if_pos c1]
  rw [hE,if_neg (by decide),hz]
  rw [mM c1] at e1
  rw [eA] at e1 ⊢;rw [eX]
  rw [au QW rfl];simp only [Dp,aG,Nat.reduceBEq,Nat.reduceLeDiff,Nat.reduceAdd,List.length_cons,List.length_nil]
  simp only [e1,Z3,P2,aB,Nat.reduceMul,Nat.reduceBEq,Nat.reduceLT,Nat.reduceLeDiff,reduceCtorEq,Nat.reduceEqDiff,Nat.reduceAdd,Nat.beq]
 |true =>
  rw [sN c1] at e1
  have hsz:=jf c1
  have e2:=agG (size:=b.size) (e:=e) ⟨hsz.1,hsz.2.1⟩
  cases c2:yT b.size e with
  |false =>
   have hE:J5 b e=2:=by unfold J5;rw [if_neg (by rw [c1];decide),if_pos c2]
   rw [hE,if_neg (by decide),hz]
   rw [c2] at e2
   rw [eA] at e1 ⊢;rw [eX] at e2 ⊢
   rw [au QW rfl];simp only [Dp,aG,Nat.reduceBEq,Nat.reduceLeDiff,Nat.reduceAdd,List.length_cons,List.length_nil]
   simp only [e1,e2,Z0,P2,aB,Nat.reduceMul,Nat.reduceBEq,Nat.reduceLT,Nat.reduceLeDiff,reduceCtorEq,Nat.reduceEqDiff,Nat.reduceAdd,Nat.beq]
  |true =>
   have hE:J5 b e=0:=by unfold J5;rw [if_neg (by rw [c1];decide),if_neg (by rw [c2];decide)]
   rw [hE,if_pos rfl]
   rw [c2] at e2
   have hfi:=vN.1 c2
   have k1:=agq (b:=b) (by unfold lim;omega)
   obtain ⟨s,c⟩:=e
   simp only at hfi
   obtain ⟨s,rfl⟩:∃ m:Nat,s=(m:Int):=⟨s.toNat,by omega⟩
   obtain ⟨c,rfl⟩:∃ m:Nat,c=(m:Int):=⟨c.toNat,by omega⟩
   have hF':F=qp∨F=RD:=hF.elim (fun h=>.inl h.2) (fun h=>.inr h.2)
   rw [eA] at e1 k1;rw [eX] at e2;rw [eA,eX,eA]
   rw [au QW rfl];simp only [Dp,aG,Nat.reduceBEq,Nat.reduceLeDiff,Nat.reduceAdd,List.length_cons,List.length_nil]
   simp only [e1,e2,k1,Z0,P2,List.length_map,aB,Nat.reduceMul,Nat.reduceBEq,Nat.reduceLT,Nat.reduceLeDiff,reduceCtorEq,Nat.reduceEqDiff,Nat.reduceAdd,Nat.beq]
   rw [ad3 (b:=b) (s:=s) (c:=c) (t:=t) (F:=F) hF (by omega) (by omega)]
   rotate_left
   ·rw [ad2 hF']
    simp only [aG,bD,Nat.reduceMul,Nat.reduceBEq,Nat.reduceLT,Nat.reduceLeDiff,Nat.reduceAdd,decide_true,Bool.and_self,Bool.true_and]<;>rfl
   ·simp only [e1,e2,k1,Z0,P2,List.length_map,aB,Nat.reduceMul,Nat.reduceBEq,Nat.reduceLT,Nat.reduceLeDiff,reduceCtorEq,Nat.reduceEqDiff,Nat.reduceAdd,Nat.beq]
--+
theorem aiX {b:Bm} {e:lQ}:cal env 95 [jU b,gu e]=some [(jU (Oz qp b e),false),(.int .i64 (J5 b e),false)]:=by
 have e1:=agH (b:=b) (e:=e) (t:=true) (F:=qp) (.inl ⟨rfl,rfl⟩)
 have eA:∀ a:Bm,jU a=.agg [.int .i64 a.size,.list 1 (a.ws.map eW)]:=fun _=>rfl
 have eX:gu e=.agg [.int .i64 e.start,.int .i64 e.count]:=rfl
 have P2:∀ a b:PV,part [a,b] 0 (some 2)=some (.agg [a,b]):=fun _ _=>rfl
 rw [eA,eA,eX] at e1 ⊢
 rw [au aiq rfl];simp only [ZQ,aG,Nat.reduceBEq,Nat.reduceLeDiff,Nat.reduceAdd,List.length_cons,List.length_nil]
 simp only [e1,P2,aB,Nat.reduceMul,Nat.reduceBEq,Nat.reduceLT,Nat.reduceLeDiff,reduceCtorEq,Nat.reduceEqDiff,Nat.reduceAdd,Nat.beq]
end Go.Proofs.YtaaokejjmdbfaaaDoor.V

namespace Go.Proofs.YtaaokejjmdbfaaaDoor.V
theorem RF {α β:Type} {keep post:List Nat} {id nb:Nat} {b:ak} {l:List α} (i0:Nat) (S:Nat→β→St) (R:Nat→List α→β→Option (Ex × St)) (P:Nat→β→Prop) (b0:β) {st:St} (h:st.head keep st.boxes.length=some (S i0 b0)) (hl:l.length≤lim) (hi0:i0≤l.length) (hP:P i0 b0)
  (hS:∀ i c,(S i c).boxes.length=nb) (hh:∀ i c,(S i c).head keep nb=some (S i c))
  (step:∀ i x r c rb,i<l.length→l[i]?=some x→l.drop (i+1)=r→((i:Int)<(l.length:Int))=True→IntKind.i64.wrap ((i:Int)+1)=((i+1:Nat):Int)→P i c →
   (∀ c' s,P (i+1) c'→s.head keep nb=some (S (i+1) c')→iq env id post nb (den env rb s)=R (i+1) r c')→iq env id post nb ((den env b (S i c)).bind (next env rb))=R i (x :: r) c)
  (last:∀ c rb,P l.length c→iq env id post nb ((den env b (S l.length c)).bind (next env rb))=R l.length [] c) :
  den env (.clean keep post (.block id (.loop keep b))) st=R i0 (l.drop i0) b0:=by
 refine vI (fun p:Nat × β=>S p.1 p.2) (fun p=>R p.1 (l.drop p.1) p.2) (fun p=>p.1≤l.length∧P p.1 p.2) (fun p=>l.length - p.1) (i0,b0) h ⟨hi0,hP⟩ (fun p=>hS p.1 p.2) (fun p=>hh p.1 p.2) ?_
 rintro ⟨i,c⟩ rb ⟨hi,hp⟩ ih
 by_cases hn:i=l.length
 ·subst hn
  simp only [List.drop_length]
  exact last c rb hp
 ·have hlt:i<l.length:=by simp only at hi;omega
  simp only
  rw [List.drop_eq_getElem_cons hlt]
  refine step i _ _ c rb hlt (List.getElem?_eq_getElem hlt) rfl (eq_true (by omega)) (bP hlt hl) hp fun c' s hp' hs=>?_
  exact ih (i+1,c') (by simp only;omega) ⟨by simp only;omega,hp'⟩ s hs
theorem RG {α β:Type} {keep post:List Nat} {id nb:Nat} {b:ak} {l:List α} (S:Nat→β→St) (R:Nat→List α→β→Option (Ex × St)) (P:Nat→β→Prop) (b0:β) {st:St} (h:st.head keep st.boxes.length=some (S 0 b0)) (hl:l.length≤lim) (hP:P 0 b0)
  (hS:∀ i c,(S i c).boxes.length=nb) (hh:∀ i c,(S i c).head keep nb=some (S i c))
  (step:∀ i x r c rb,i<l.length→l[i]?=some x→l.drop (i+1)=r→((i:Int)<(l.length:Int))=True→IntKind.i64.wrap ((i:Int)+1)=((i+1:Nat):Int)→P i c →
   (∀ c' s,P (i+1) c'→s.head keep nb=some (S (i+1) c')→iq env id post nb (den env rb s)=R (i+1) r c')→iq env id post nb ((den env b (S i c)).bind (next env rb))=R i (x :: r) c)
  (last:∀ c rb,P l.length c→iq env id post nb ((den env b (S l.length c)).bind (next env rb))=R l.length [] c) :
  den env (.clean keep post (.block id (.loop keep b))) st=R 0 l b0:=by
 have:=RF (l:=l) 0 S R P b0 h hl (Nat.zero_le _) hP hS hh step last
 rwa [List.drop_zero] at this
end Go.Proofs.YtaaokejjmdbfaaaDoor.V

namespace Go.Proofs.YtaaokejjmdbfaaaDoor.V
def N8:Bm × Int→List lQ→Bm × Int
 |p,[]=>p
 |p,e :: l=>if p.2=0 then N8 (Oz qp p.1 e,J5 p.1 e) l else p
theorem J6 {p:Bm × Int} (h:p.2≠0) (l:List lQ):N8 p l=p:=by
 cases l with
 |nil=>rfl
 |cons e l=>unfold N8;rw [if_neg h]
theorem aaP:∀ (l:List lQ) (b:Bm),N8 (b,0) l=if frE b l=0 then (frB b l,0) else (⟨0,[]⟩,frE b l)
 |[],b=>by unfold N8 frE;rfl
 |e :: l,b=>by
  unfold N8 frE
  rw [if_pos rfl]
  simp only
  by_cases c:J5 b e=0
  ·rw [if_pos c,c,aaP l]
   rfl
  ·rw [if_neg c,J6 (by exact c),if_neg c]
   unfold Oz
   rw [if_neg c]
theorem agI (n:Int) (l:List lQ):N8 (tH n,newE n) l=(W9 n l,fxE n l):=by
 by_cases c:newE n=0
 ·have hE:fxE n l=frE (tH n) l:=by unfold fxE;rw [if_pos c]
  rw [c,aaP]
  unfold W9
  rw [hE]
  by_cases c2:frE (tH n) l=0
  ·rw [if_pos c2,if_pos c2,c2]
  ·rw [if_neg c2,if_neg c2]
 ·have hE:fxE n l=newE n:=by unfold fxE;rw [if_neg c]
  rw [J6 (by exact c)]
  unfold W9
  rw [hE,if_neg c]
  unfold newE at c
  split at c
  ·rename_i h
   unfold tH
   rw [if_pos h]
  ·exact absurd rfl c
def aaQ (b:Bm):List BV:=[.pv (.int .i64 b.size),.pv (.list 1 (b.ws.map eW))]
theorem vO (b:Bm):aaQ b=[.pv (.int .i64 b.size),.pv (.list 1 (b.ws.map eW))]:=rfl
theorem agJ {l:List lQ} {p:Bm × Int} (hl:l.length≤lim) {st:St} (h:st.head [1,4,6,7,8] st.boxes.length=some ⟨sl 35 [(1,.pv (.list 2 (l.map gu))),(4,.aA 0 0),(6,.aA 1 0),(7,.pv (.int .i64 p.2)),(8,.pv (.int .i64 (0:Nat)))],[⟨false,[.pv (.int .i64 0),.row 1 []]⟩,⟨false,aaQ p.1⟩],[],none⟩) :
  den env Jq st=some (.normal,⟨sl 35 [(4,.aA 0 0),(5,.any),(6,.aA 1 0),(7,.pv (.int .i64 (N8 p l).2))],[⟨false,[.pv (.int .i64 0),.row 1 []]⟩,⟨false,aaQ (N8 p l).1⟩],[],none⟩):=by
 unfold Jq
 refine RG (l:=l) (nb:=2) (fun i (p:Bm × Int)=>⟨sl 35 [(1,.pv (.list 2 (l.map gu))),(4,.aA 0 0),(6,.aA 1 0),(7,.pv (.int .i64 p.2)),(8,.pv (.int .i64 i))],[⟨false,[.pv (.int .i64 0),.row 1 []]⟩,⟨false,aaQ p.1⟩],[],none⟩)
  (fun _ r p=>some (.normal,⟨sl 35 [(4,.aA 0 0),(5,.any),(6,.aA 1 0),(7,.pv (.int .i64 (N8 p r).2))],[⟨false,[.pv (.int .i64 0),.row 1 []]⟩,⟨false,aaQ (N8 p r).1⟩],[],none⟩)) (fun _ _=>True) p h hl trivial (fun _ _=>rfl) (fun _ _=>by simp only [aG,bD,Nat.reduceMul,Nat.reduceBEq,Nat.reduceLT,Nat.reduceLeDiff,Nat.reduceAdd,decide_true,Bool.and_self,Bool.true_and]) ?_ ?_
 ·rintro i x r ⟨b,q⟩ rb hi hx hr F1 hi1 - ih
  have eA:∀ b:Bm,jU b=.agg [.int .i64 b.size,.list 1 (b.ws.map eW)]:=fun _=>rfl
  have eX:∀ e:lQ,gu e=.agg [.int .i64 e.start,.int .i64 e.count]:=fun _=>rfl
  have P2:∀ a b:PV,part [a,b] 0 (some 2)=some (.agg [a,b]):=fun _ _=>rfl
  have hg:(l.map gu)[i]?=some (gu x):=by rw [List.getElem?_map,hx];rfl
  rw [eX] at hg
  by_cases c:q=0
  ·subst c
   have Z:((0:Int)==0)=true:=rfl
   have e1:=aiX (b:=b) (e:=x)
   have hP:N8 (b,0) (x :: r)=N8 (Oz qp b x,J5 b x) r:=by
    conv=>lhs;unfold N8
    rw [if_pos rfl]
   rw [hP]
   have ih':=fun s=>ih (Oz qp b x,J5 b x) s trivial
   simp only at ih'
   generalize Oz qp b x=b2 at *
   generalize J5 b x=q2 at *
   rw [eA,eA,eX] at e1
   simp only [Bz,F1,Z,hg,e1,P2,ah hi,List.length_map,vO,aB,Nat.reduceMul,Nat.reduceBEq,Nat.reduceLT,Nat.reduceLeDiff,reduceCtorEq,Nat.reduceEqDiff,Nat.reduceAdd,Nat.beq]
   rw [ih' _ (by simp only [hi1,vO,aB,Nat.reduceMul,Nat.reduceBEq,Nat.reduceLT,Nat.reduceLeDiff,reduceCtorEq,Nat.reduceEqDiff,Nat.reduceAdd,Nat.beq]<;>rfl)]
   rfl
  ·have Z:(q==0)=false:=by simpa using c
   rw [J6 (by exact c)]
   simp only [Bz,F1,Z,List.length_map,vO,aB,Nat.reduceMul,Nat.reduceBEq,Nat.reduceLT,Nat.reduceLeDiff,reduceCtorEq,Nat.reduceEqDiff,Nat.reduceAdd,Nat.beq]
 ·rintro ⟨b,q⟩ rb -
  unfold N8
  simp only [Bz,Int.lt_irrefl,List.length_map,vO,aB,Nat.reduceMul,Nat.reduceBEq,Nat.reduceLT,Nat.reduceLeDiff,reduceCtorEq,Nat.reduceEqDiff,Nat.reduceAdd,Nat.beq]
theorem aiY {l:List lQ} {n:Int} (hl:l.length≤lim):cal env 71 [.int .i64 n,.list 2 (l.map gu)]=some [(jU (W9 n l),false),(.int .i64 (fxE n l),false)]:=by
 have e0:=aiW (n:=n)
 have eA:∀ b:Bm,jU b=.agg [.int .i64 b.size,.list 1 (b.ws.map eW)]:=fun _=>rfl
 have P2:∀ a b:PV,part [a,b] 0 (some 2)=some (.agg [a,b]):=fun _ _=>rfl
 have hP:=agI n l
 have h1:(N8 (tH n,newE n) l).1=W9 n l:=by rw [hP]
 have h2:(N8 (tH n,newE n) l).2=fxE n l:=by rw [hP]
 rw [← h1,← h2]
 generalize tH n=b0 at *
 generalize newE n=q0 at *
 simp only [eA] at e0 ⊢
 rw [au aib rfl];simp only [ZF,aG,Nat.reduceBEq,Nat.reduceLeDiff,Nat.reduceAdd,List.length_cons,List.length_nil]
 simp only [e0,P2,List.length_map,aB,Nat.reduceMul,Nat.reduceBEq,Nat.reduceLT,Nat.reduceLeDiff,reduceCtorEq,Nat.reduceEqDiff,Nat.reduceAdd,Nat.beq]
 rw [agJ (l:=l) (p:=(b0,q0)) hl]
 rotate_left
 ·rw [vO]
  simp only [aG,bD,Nat.reduceMul,Nat.reduceBEq,Nat.reduceLT,Nat.reduceLeDiff,Nat.reduceAdd,decide_true,Bool.and_self,Bool.true_and]<;>rfl
 ·rw [vO]
  simp only [P2,aB,Nat.reduceMul,Nat.reduceBEq,Nat.reduceLT,Nat.reduceLeDiff,reduceCtorEq,Nat.reduceEqDiff,Nat.reduceAdd,Nat.beq]
end Go.Proofs.YtaaokejjmdbfaaaDoor.V

namespace Go.Proofs.YtaaokejjmdbfaaaDoor.V
theorem ad4 {size:Int} {e:lQ} (h:yT size e=true) (s:Nat):inE e s=decide (e.start≤(s:Int)∧(s:Int)<e.start+e.count):=by
 have h:=vN.1 h
 unfold inE
 rw [Bool.eq_iff_iff]
 simp only [Bool.and_eq_true,decide_eq_true_eq]
 omega
theorem aeR:∀ (l:List lQ) {b:Bm},okB b=true→(∀ e∈l,yT b.size e=true)→frE b l=0∧okB (frB b l)=true∧(frB b l).size=b.size∧∀ s:Nat,(s:Int)<b.size→bit (frB b l).ws s=(bit b.ws s || inS l s)
 |[],b,h,_=>⟨rfl,h,rfl,fun s _=>by simp [frB,inS]⟩
 |e :: l,b,h,hf=>by
  obtain ⟨k1,k2,k3,k4⟩:=agF h (hf e (by simp))
  obtain ⟨g1,g2,g3,g4⟩:=aeR l k2 (fun x hx=>by rw [k3];exact hf x (by simp [hx]))
  refine ⟨?_,g2,g3.trans k3,fun s hs=>?_⟩
  ·unfold frE
   rw [if_pos k1]
   exact g1
  ·have:=g4 s (by rw [k3];exact hs)
   show bit (frB (Oz qp b e) l).ws s=_
   rw [this,k4 s hs,← ad4 (hf e (by simp)) s,Bool.or_assoc]
   rfl
theorem aiZ {n:Nat} {l:List lQ} (hn:n≤4096) (h:∀ e∈l,0≤e.start∧1≤e.count∧e.start+e.count≤(n:Int)):fxE n l=0∧W9 n l=frB (tH n) l∧okB (W9 n l)=true∧(W9 n l).size=(n:Int)∧∀ s:Nat,s<n→bit (W9 n l).ws s=inS l s:=by
 obtain ⟨h1,h2,h3,h4⟩:=agE hn
 obtain ⟨g1,g2,g3,g4⟩:=aeR l h2 (fun e he=>by
  obtain ⟨q1,q2,q3⟩:=h e he
  rw [h3]
  exact vN.2 (by omega))
 have e1:fxE n l=0:=by unfold fxE;rw [if_pos h1];exact g1
 have e2:W9 n l=frB (tH n) l:=by unfold W9;rw [if_pos e1]
 rw [e2]
 refine ⟨e1,rfl,g2,g3.trans h3,fun s hs=>?_⟩
 rw [g4 s (by rw [h3];omega),h4 s,Bool.false_or]
end Go.Proofs.YtaaokejjmdbfaaaDoor.V
