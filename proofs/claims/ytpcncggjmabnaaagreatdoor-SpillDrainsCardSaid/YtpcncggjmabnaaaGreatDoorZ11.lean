/-
  Part 11 of the texts that the statement stands on.
-/
import Derived.Test.YtpcncggjmabnaaaGreatDoorZ10
import Derived.ProofKit
import Derived.SizedLaws
import Derived.OpenShut
import Derived.Deep.Strs
import Derived.Test.YtpcncggjmabnaaaGreatDoorRows
import Derived.WalkSmall
import Derived.WalkSpells
import Derived.Lib.SliceRun
import Derived.Test.YtpcncggjmabnaaaGreatDoorChecked
set_option linter.all false
namespace Go.Proofs.YtpcncggjmabnaaaGreatDoor.V
def adF:List BV:=[.pv (.int .i64 0),.pv (.list 1 []),.pv (.list 5 []),.pv (.bool false),.pv (.int .i64 0),.pv (.int .i64 0),.pv (.list 2 [])]
def adG:List BV:=[.pv (.int .i64 0),.pv (.int .i64 0),.pv (.int .i64 0),.pv (.list 1 []),.pv (.list 3 [])]
theorem OU:adF=[.pv (.int .i64 0),.pv (.list 1 []),.pv (.list 5 []),.pv (.bool false),.pv (.int .i64 0),.pv (.int .i64 0),.pv (.list 2 [])]:=rfl
theorem OV:adG=[.pv (.int .i64 0),.pv (.int .i64 0),.pv (.int .i64 0),.pv (.list 1 []),.pv (.list 3 [])]:=rfl
def OW (s:mJ) (l:List AV) (r:List AV) (b:Bool):Option (Ex × St) :=
 if b then some (.normal,⟨sl 84 [(1,l.headD .any),(2,(l.drop 1).headD .any),(3,.aS 0 0),(6,.aS 1 0),(7,.aS 2 0),(8,.any)],[⟨false,iP s⟩,⟨false,SC⟩,⟨false,zCy⟩],[],none⟩)
 else some (.ret,⟨sl 84 [(1,l.headD .any),(2,(l.drop 1).headD .any),(3,.aS 0 0),(6,.aS 1 0),(7,.aS 2 0),(8,.pv (.int .i64 22))],[⟨false,iP s⟩,⟨false,adF⟩,⟨false,adG⟩],[],none⟩)
theorem y7 (s:mJ) (a b:AV) (r:List AV):OW s [a,b] r true=some (.normal,⟨sl 84 [(1,a),(2,b),(3,.aS 0 0),(6,.aS 1 0),(7,.aS 2 0),(8,.any)],[⟨false,iP s⟩,⟨false,SC⟩,⟨false,zCy⟩],[],none⟩):=rfl
theorem OX (s:mJ) (a b:AV) (r:List AV):OW s [a,b] r false=some (.ret,⟨sl 84 [(1,a),(2,b),(3,.aS 0 0),(6,.aS 1 0),(7,.aS 2 0),(8,.pv (.int .i64 22))],[⟨false,iP s⟩,⟨false,adF⟩,⟨false,adG⟩],[],none⟩):=rfl
theorem Gz {s:mJ} {im:jl} {t:Int} (hl:im.length≤1000) (hls:im.length=s.sz.length) {st:St} (h:st.head [1,2,3,6,7,11] st.boxes.length=some ⟨sl 84 [(1,.pv (.list 1 (im.map bC))),(2,.pv (.int .i64 t)),(3,.aS 0 0),(6,.aS 1 0),(7,.aS 2 0),(11,.pv (.int .i64 (0:Nat)))],[⟨false,iP s⟩,⟨false,SC⟩,⟨false,zCy⟩],[],none⟩) :
  den env EY st=OW s [.pv (.list 1 (im.map bC)),.pv (.int .i64 t)] [] (wW im s.sz ((0:Nat))):=by
 unfold EY
 refine bF (env:=env) (nb:=3) (im.length) (fun i=>⟨sl 84 [(1,.pv (.list 1 (im.map bC))),(2,.pv (.int .i64 t)),(3,.aS 0 0),(6,.aS 1 0),(7,.aS 2 0),(11,.pv (.int .i64 i))],[⟨false,iP s⟩,⟨false,SC⟩,⟨false,zCy⟩],[],none⟩) (fun i=>OW s [.pv (.list 1 (im.map bC)),.pv (.int .i64 t)] [] (wW im s.sz (i))) h (fun _=>rfl) (fun _=>by simp only [aO,bG,Nat.reduceMul,Nat.reduceBEq,Nat.reduceLT,Nat.reduceLeDiff,Nat.reduceAdd,decide_true,Bool.and_self,Bool.true_and]) ?_ ?_
 ·intro i rb hi ih
  have hi2:i<s.sz.length:=by omega
  have hi1:=bH hi (by unfold lim;omega)
  have F1:((i:Int)<(im.length:Int))=True:=eq_true (by omega)
  have hx:=oW hi
  have hy:(s.sz.map eI)[i]?=some (.int .i64 s.sz[i]):=by rw [List.getElem?_map,List.getElem?_eq_getElem hi2];rfl
  have J:=ak (k:=.i64) hi2
  rw [DT hi hi2]
  by_cases c:(im[i].length:Int)=s.sz[i]
  ·have B1:((im[i].length:Int) != s.sz[i])=false:=by simp [c]
   have O:AY im[i] s.sz[i]=true:=by unfold AY;simp [c]
   rw [O,Bool.true_and]
   simp only [yR,F1,B1,hx,hy,J,aW,iq,jF,ak hi,List.length_map,aI,Nat.reduceMul,Nat.reduceBEq,Nat.reduceLT,Nat.reduceLeDiff,reduceCtorEq,Nat.reduceEqDiff,Nat.reduceAdd,Nat.beq]
   rw [ih _ (by simp only [hi1,aW,iq,jF,aI,Nat.reduceMul,Nat.reduceBEq,Nat.reduceLT,Nat.reduceLeDiff,reduceCtorEq,Nat.reduceEqDiff,Nat.reduceAdd,Nat.beq]<;>rfl)]
   try rfl
  ·have B1:((im[i].length:Int) != s.sz[i])=true:=by simp [c]
   have O:AY im[i] s.sz[i]=false:=by unfold AY;simp [c]
   rw [O,Bool.false_and,OX]
   simp only [yR,F1,B1,hx,hy,J,aW,iq,jF,OU,OV,ak hi,List.length_map,aI,Nat.reduceMul,Nat.reduceBEq,Nat.reduceLT,Nat.reduceLeDiff,reduceCtorEq,Nat.reduceEqDiff,Nat.reduceAdd,Nat.beq]
 ·intro rb
  rw [JV,y7]
  simp only [yR,Int.lt_irrefl,aW,iq,jF,List.length_map,aI,Nat.reduceMul,Nat.reduceBEq,Nat.reduceLT,Nat.reduceLeDiff,reduceCtorEq,Nat.reduceEqDiff,Nat.reduceAdd,Nat.beq]
set_option maxRecDepth 20000 in
set_option maxHeartbeats 1000000 in
theorem af6 {s:mJ} {im:jl} {t:Int} (hq:Nz s) (hi:smI im):cal env 27 [oH s,.list 1 (im.map bC),.int .i64 t]=some [(oH (JW s im t),false),(jc (vT s im t),false),(.int .i64 (wY s im t),false)]:=by
 have e1:=afQ hq
 have e2:=afj (im:=im) (by have:=hi.ln;unfold lim;omega)
 have hln:=hi.ln
 have Z0:((0:Int) != 0)=false:=rfl
 rw [OQ,OT]
 unfold wY
 rw [fB] at e1
 rw [fB s]
 by_cases c1:yG s=0
 rotate_left
 ·have Z:(yG s != 0)=true:=by simp [c1]
  rw [if_neg c1,if_neg c1,if_neg c1,lg,lq]
  rw [ah xX rfl];simp only [yF,aO,Nat.reduceBEq,Nat.reduceLeDiff,Nat.reduceAdd,List.length_cons,List.length_nil]
  simp only [e1,Z,fQ,fC,List.length_map,aI,Nat.reduceMul,Nat.reduceBEq,Nat.reduceLT,Nat.reduceLeDiff,reduceCtorEq,Nat.reduceEqDiff,Nat.reduceAdd,Nat.beq]
 obtain ⟨k1,k2,k3⟩:=XV c1
 rw [c1] at e1
 rw [if_pos c1]
 by_cases c2:kN im=0
 rotate_left
 ·have Z:(kN im != 0)=true:=by simp [c2]
  rw [if_neg c2,if_neg c2,if_neg c2,lg,lq]
  rw [ah xX rfl];simp only [yF,aO,Nat.reduceBEq,Nat.reduceLeDiff,Nat.reduceAdd,List.length_cons,List.length_nil]
  simp only [e1,e2,Z0,Z,fQ,fC,List.length_map,aI,Nat.reduceMul,Nat.reduceBEq,Nat.reduceLT,Nat.reduceLeDiff,reduceCtorEq,Nat.reduceEqDiff,Nat.reduceAdd,Nat.beq]
 rw [c2] at e2
 rw [if_pos c2]
 cases co:s.ov with
 |false =>
  rw [co] at e1
  rw [if_neg Bool.false_ne_true,if_neg (by decide),if_neg (by decide),lg,lq]
  rw [ah xX rfl];simp only [yF,aO,Nat.reduceBEq,Nat.reduceLeDiff,Nat.reduceAdd,List.length_cons,List.length_nil]
  simp only [co,e1,e2,Z0,fQ,fC,List.length_map,aI,Nat.reduceMul,Nat.reduceBEq,Nat.reduceLT,Nat.reduceLeDiff,reduceCtorEq,Nat.reduceEqDiff,Nat.reduceAdd,Nat.beq]
 |true =>
  rcases k3 with ⟨_,g1,g2,g3⟩|⟨g,_⟩
  rotate_left
  ·rw [co] at g;cases g
  rw [co] at e1
  rw [if_pos rfl]
  by_cases c6:im.length=s.sz.length
  rotate_left
  ·have B6:((im.length:Int) != (s.sz.length:Int))=true:=by simp;omega
   have c3:wX im s.sz=false:=by unfold wX;rw [decide_eq_false c6,Bool.false_and]
   rw [c3,if_neg Bool.false_ne_true,if_neg (by decide),if_neg (by decide),lg,lq]
   rw [ah xX rfl];simp only [yF,aO,Nat.reduceBEq,Nat.reduceLeDiff,Nat.reduceAdd,List.length_cons,List.length_nil]
   simp only [co,e1,e2,Z0,B6,fQ,fC,List.length_map,aI,Nat.reduceMul,Nat.reduceBEq,Nat.reduceLT,Nat.reduceLeDiff,reduceCtorEq,Nat.reduceEqDiff,Nat.reduceAdd,Nat.beq]
  have B6:((im.length:Int) != (s.sz.length:Int))=false:=by simp;omega
  have hX:wX im s.sz=wW im s.sz 0:=by unfold wX;rw [decide_eq_true c6,Bool.true_and]
  cases c3:wX im s.sz with
  |false =>
   rw [hX] at c3
   rw [if_neg Bool.false_ne_true,if_neg (by decide),if_neg (by decide),lg,lq]
   rw [ah xX rfl];simp only [yF,aO,Nat.reduceBEq,Nat.reduceLeDiff,Nat.reduceAdd,List.length_cons,List.length_nil]
   simp only [co,e1,e2,Z0,B6,fQ,fC,List.length_map,aI,Nat.reduceMul,Nat.reduceBEq,Nat.reduceLT,Nat.reduceLeDiff,reduceCtorEq,Nat.reduceEqDiff,Nat.reduceAdd,Nat.beq]
   rw [Gz (s:=s) (im:=im) (t:=t) (by omega) c6 (by simp only [aW,iq,jF,co];simp only [aO,bG,Nat.reduceMul,Nat.reduceBEq,Nat.reduceLT,Nat.reduceLeDiff,Nat.reduceAdd,decide_true,Bool.and_self,Bool.true_and]<;>rfl),c3,OX]
   simp only [aW,OU,OV,co,fQ,fC,aI,Nat.reduceMul,Nat.reduceBEq,Nat.reduceLT,Nat.reduceLeDiff,reduceCtorEq,Nat.reduceEqDiff,Nat.reduceAdd,Nat.beq]
  |true =>
   have c3':=c3
   rw [hX] at c3'
   rw [if_pos rfl]
   by_cases c4:t<0
   ·have F4:=eq_true c4
    rw [if_pos (Or.inl c4:t<0∨t > 1073741824),if_neg (by decide),if_neg (by decide),lg,lq]
    rw [ah xX rfl];simp only [yF,aO,Nat.reduceBEq,Nat.reduceLeDiff,Nat.reduceAdd,List.length_cons,List.length_nil]
    simp only [co,e1,e2,Z0,B6,fQ,fC,List.length_map,aI,Nat.reduceMul,Nat.reduceBEq,Nat.reduceLT,Nat.reduceLeDiff,reduceCtorEq,Nat.reduceEqDiff,Nat.reduceAdd,Nat.beq]
    rw [Gz (s:=s) (im:=im) (t:=t) (by omega) c6 (by simp only [aW,iq,jF,co];simp only [aO,bG,Nat.reduceMul,Nat.reduceBEq,Nat.reduceLT,Nat.reduceLeDiff,Nat.reduceAdd,decide_true,Bool.and_self,Bool.true_and]<;>rfl),c3',y7]
    simp only [F4,aW,iq,jF,co,fQ,fC,aI,Nat.reduceMul,Nat.reduceBEq,Nat.reduceLT,Nat.reduceLeDiff,reduceCtorEq,Nat.reduceEqDiff,Nat.reduceAdd,Nat.beq]
   have F4:=eq_false c4
   by_cases c5:t > 1073741824
   ·have F5:=eq_true c5
    rw [if_pos (Or.inr c5:t<0∨t > 1073741824),if_neg (by decide),if_neg (by decide),lg,lq]
    rw [ah xX rfl];simp only [yF,aO,Nat.reduceBEq,Nat.reduceLeDiff,Nat.reduceAdd,List.length_cons,List.length_nil]
    simp only [co,e1,e2,Z0,B6,fQ,fC,List.length_map,aI,Nat.reduceMul,Nat.reduceBEq,Nat.reduceLT,Nat.reduceLeDiff,reduceCtorEq,Nat.reduceEqDiff,Nat.reduceAdd,Nat.beq]
    rw [Gz (s:=s) (im:=im) (t:=t) (by omega) c6 (by simp only [aW,iq,jF,co];simp only [aO,bG,Nat.reduceMul,Nat.reduceBEq,Nat.reduceLT,Nat.reduceLeDiff,Nat.reduceAdd,decide_true,Bool.and_self,Bool.true_and]<;>rfl),c3',y7]
    simp only [F4,F5,aW,iq,jF,co,fQ,fC,aI,Nat.reduceMul,Nat.reduceBEq,Nat.reduceLT,Nat.reduceLeDiff,reduceCtorEq,Nat.reduceEqDiff,Nat.reduceAdd,Nat.beq]
   have F5:=eq_false c5
   rw [if_neg (show ¬ (t<0∨t > 1073741824) by omega),if_pos rfl,if_pos rfl]
   have e6:=af0 (X5 g3 c3 hi)
   rw [fB]
   have hD:jc (qw s im t)=.agg [.int .i64 s.fs,.int .i64 s.ls,.int .i64 t,.list 1 [],.list 3 ((Gy im (s.dt.map nJ)).map iL)]:=rfl
   rw [hD]
   rw [show [qw s im t].map jc=[jc (qw s im t)] from rfl,hD]
   generalize (Gy im (s.dt.map nJ)).map iL=WW at *
   rw [ah xX rfl];simp only [yF,aO,Nat.reduceBEq,Nat.reduceLeDiff,Nat.reduceAdd,List.length_cons,List.length_nil]
   simp only [co,e1,e2,Z0,B6,fQ,fC,List.map_nil,List.length_map,aI,Nat.reduceMul,Nat.reduceBEq,Nat.reduceLT,Nat.reduceLeDiff,reduceCtorEq,Nat.reduceEqDiff,Nat.reduceAdd,Nat.beq]
   rw [Gz (s:=s) (im:=im) (t:=t) (by omega) c6 (by simp only [aW,iq,jF,co];simp only [aO,bG,Nat.reduceMul,Nat.reduceBEq,Nat.reduceLT,Nat.reduceLeDiff,Nat.reduceAdd,decide_true,Bool.and_self,Bool.true_and]<;>rfl),c3',y7]
   simp only [F4,F5,e6,aW,iq,jF,co,fQ,fC,aI,Nat.reduceMul,Nat.reduceBEq,Nat.reduceLT,Nat.reduceLeDiff,reduceCtorEq,Nat.reduceEqDiff,Nat.reduceAdd,Nat.beq]
def X7 (im:jl):Bool:=(im.all fun v=>decide (v.length≤400))&&decide (im.length≤10)
theorem aaA {im:jl} (h:X7 im=true):smI im:=by
 unfold X7 at h
 simp only [Bool.and_eq_true,List.all_eq_true,decide_eq_true_eq] at h
 exact ⟨h.2,h.1⟩
def szI (im:jl):Prop:=im.length≤140737488351232
theorem SH {l:jl} {i:Nat} (h:i<l.length):(l.drop i).all (fun v=>decide (v.length≤400))=(decide (l[i].length≤400)&&(l.drop (i+1)).all (fun v=>decide (v.length≤400))):=by
 rw [List.drop_eq_getElem_cons h];rfl
def OY (k1 k2:List (Nat × AV)) (b:Bool):Option (Ex × St):=if b then some (.normal,⟨sl 19 k1,[],[],none⟩) else some (.ret,⟨sl 19 k2,[],[],none⟩)
theorem OZ (k1 k2:List (Nat × AV)):OY k1 k2 true=some (.normal,⟨sl 19 k1,[],[],none⟩):=rfl
theorem O1 (k1 k2:List (Nat × AV)):OY k1 k2 false=some (.ret,⟨sl 19 k2,[],[],none⟩):=rfl
theorem adH {l:jl} (hz:szI l) {st:St} (h:st.head [0,3] st.boxes.length=some ⟨sl 19 [(0,.pv (.list 1 (l.map bC))),(3,.pv (.int .i64 (0:Nat)))],[],[],none⟩) :
  den env EX st=OY [(0,.pv (.list 1 (l.map bC))),(2,.any)] [(0,.pv (.list 1 (l.map bC))),(2,.pv (.bool false))] ((l.drop ((0:Nat))).all fun v=>decide (v.length≤400)):=by
 unfold EX
 refine bF (env:=env) (nb:=0) (l.length) (fun i=>⟨sl 19 [(0,.pv (.list 1 (l.map bC))),(3,.pv (.int .i64 i))],[],[],none⟩) (fun i=>OY [(0,.pv (.list 1 (l.map bC))),(2,.any)] [(0,.pv (.list 1 (l.map bC))),(2,.pv (.bool false))] ((l.drop (i)).all fun v=>decide (v.length≤400))) h (fun _=>rfl) (fun _=>by simp only [aO,bG,Nat.reduceMul,Nat.reduceBEq,Nat.reduceLT,Nat.reduceLeDiff,Nat.reduceAdd,decide_true,Bool.and_self,Bool.true_and]) ?_ ?_
 ·intro i rb hi ih
  have hll:l.length≤140737488351232:=hz
  have hi1:IntKind.i64.wrap ((i:Int)+1)=((i+1:Nat):Int):=by rw [bJ (by omega)];omega
  have F1:((i:Int)<(l.length:Int))=True:=eq_true (by omega)
  have hx:=oW hi
  rw [SH hi]
  by_cases c:l[i].length≤400
  ·have G:((l[i].length:Int) > 400)=False:=eq_false (by omega)
   rw [decide_eq_true c,Bool.true_and]
   simp only [yQ,F1,G,hx,ak hi,List.length_map,aI,Nat.reduceMul,Nat.reduceBEq,Nat.reduceLT,Nat.reduceLeDiff,reduceCtorEq,Nat.reduceEqDiff,Nat.reduceAdd,Nat.beq]
   rw [ih _ (by simp only [hi1,aI,Nat.reduceMul,Nat.reduceBEq,Nat.reduceLT,Nat.reduceLeDiff,reduceCtorEq,Nat.reduceEqDiff,Nat.reduceAdd,Nat.beq]<;>rfl)]
   try rfl
  ·have G:((l[i].length:Int) > 400)=True:=eq_true (by omega)
   rw [decide_eq_false c,Bool.false_and,O1]
   simp only [yQ,F1,G,hx,ak hi,List.length_map,aI,Nat.reduceMul,Nat.reduceBEq,Nat.reduceLT,Nat.reduceLeDiff,reduceCtorEq,Nat.reduceEqDiff,Nat.reduceAdd,Nat.beq]
 ·intro rb
  rw [List.drop_length,List.all_nil,OZ]
  simp only [yQ,Int.lt_irrefl,List.length_map,aI,Nat.reduceMul,Nat.reduceBEq,Nat.reduceLT,Nat.reduceLeDiff,reduceCtorEq,Nat.reduceEqDiff,Nat.reduceAdd,Nat.beq]
theorem af7 {l:jl} (hz:szI l):cal env 25 [.list 1 (l.map bC)]=some [(.bool (X7 l),false)]:=by
 unfold X7
 rw [ah aeO rfl];simp only [VB,aO,Nat.reduceBEq,Nat.reduceLeDiff,Nat.reduceAdd,List.length_cons,List.length_nil]
 simp only [List.length_map,aI,Nat.reduceMul,Nat.reduceBEq,Nat.reduceLT,Nat.reduceLeDiff,reduceCtorEq,Nat.reduceEqDiff,Nat.reduceAdd,Nat.beq]
 rw [adH (l:=l) hz (by simp only [aO,bG,Nat.reduceMul,Nat.reduceBEq,Nat.reduceLT,Nat.reduceLeDiff,Nat.reduceAdd,decide_true,Bool.and_self,Bool.true_and]<;>rfl),List.drop_zero]
 cases l.all fun v=>decide (v.length≤400) with
 |false=>rw [O1,Bool.false_and];simp only [aI,Nat.reduceMul,Nat.reduceBEq,Nat.reduceLT,Nat.reduceLeDiff,reduceCtorEq,Nat.reduceEqDiff,Nat.reduceAdd,Nat.beq]
 |true =>
  rw [OZ,Bool.true_and]
  by_cases c:l.length≤10
  ·have G:((l.length:Int)≤10)=True:=eq_true (by omega)
   rw [decide_eq_true c]
   simp only [G,List.length_map,aI,Nat.reduceMul,Nat.reduceBEq,Nat.reduceLT,Nat.reduceLeDiff,reduceCtorEq,Nat.reduceEqDiff,Nat.reduceAdd,Nat.beq]
  ·have G:((l.length:Int)≤10)=False:=eq_false (by omega)
   rw [decide_eq_false c]
   simp only [G,List.length_map,aI,Nat.reduceMul,Nat.reduceBEq,Nat.reduceLT,Nat.reduceLeDiff,reduceCtorEq,Nat.reduceEqDiff,Nat.reduceAdd,Nat.beq]
theorem O4 {s:mJ} {im:jl} {t:Int} (hq:Nz s) (hi:smI im):okQ (JW s im t):=by
 unfold JW
 split
 ·rename_i h
  unfold wY at h
  split at h
  rotate_left
  ·rename_i k;exact absurd h k
  rename_i h1
  split at h
  rotate_left
  ·rename_i k;exact absurd h k
  split at h
  rotate_left
  ·exact absurd h (by decide)
  rename_i h3
  split at h
  rotate_left
  ·exact absurd h (by decide)
  rename_i h4
  obtain ⟨k1,k2,k3⟩:=XV h1
  rcases k3 with ⟨_,g1,g2,g3⟩|⟨g,_⟩
  rotate_left
  ·rw [h3] at g;cases g
  obtain ⟨w1,w2⟩:=X6 g3 h4 hi
  refine ⟨hq.ok.1,by show 1≤lim;decide,Nat.zero_le _,fun c hc=>?_,fun b hb=>(by cases hb)⟩
  have hc:c∈[qw s im t]:=hc
  rw [List.mem_singleton.1 hc]
  exact JR ⟨Nat.zero_le _,w1,w2⟩
 ·exact afY
theorem aaB {s:mJ} {im:jl} {t:Int} (hq:Nz s) (hi:smI im):(vT s im t).pos.length≤lim∧(vT s im t).ws.length≤lim∧∀ x∈(vT s im t).ws,x.data.length≤lim:=by
 have hz:Ny aaz:=⟨Nat.zero_le _,Nat.zero_le _,fun x hx=>by cases hx⟩
 have hS:=O4 (t:=t) hq hi
 unfold vT
 by_cases c:wY s im t=0
 ·rw [if_pos c]
  unfold JW at hS
  rw [if_pos c] at hS
  exact hS.4 _ (List.mem_singleton.2 rfl)
 ·rw [if_neg c]
  exact JR hz
set_option maxRecDepth 40000 in
set_option maxHeartbeats 1000000 in
theorem ahN {s:mJ} {im:jl} {t:Int} (hz:szQ s) (hI:szI im):cal env 6 [oH s,.list 1 (im.map bC),.int .i64 t]=some [(.bool true,false)]:=by
 have a1:=XJ
 have e0:=afX hz
 have e01:=af7 hI
 cases c0:AQ s with
 |false =>
  rw [c0] at e0
  rw [fB] at *
  rw [ah acn rfl];simp only [fn6,aO,Nat.reduceBEq,Nat.reduceLeDiff,Nat.reduceAdd,List.length_cons,List.length_nil]
  simp only [a1,e0,fQ,fC,List.length_map,aI,Nat.reduceMul,Nat.reduceBEq,Nat.reduceLT,Nat.reduceLeDiff,reduceCtorEq,Nat.reduceEqDiff,Nat.reduceAdd,Nat.beq]
 |true =>
  rw [c0] at e0
  cases c1:X7 im with
  |false =>
   rw [c1] at e01
   rw [fB] at e0
   rw [fB]
   rw [ah acn rfl];simp only [fn6,aO,Nat.reduceBEq,Nat.reduceLeDiff,Nat.reduceAdd,List.length_cons,List.length_nil]
   simp only [a1,e0,e01,fQ,fC,List.length_map,aI,Nat.reduceMul,Nat.reduceBEq,Nat.reduceLT,Nat.reduceLeDiff,reduceCtorEq,Nat.reduceEqDiff,Nat.reduceAdd,Nat.beq]
  |true =>
   rw [c1] at e01
   have hq:=X0 c0
   have hi:=aaA c1
   have e1:=af5 (t:=t) hq hi
   have e2:=af6 (t:=t) hq hi
   have e3:=afE (O4 (t:=t) hq hi)
   obtain ⟨f1,f2,f3⟩:=aaB (t:=t) hq hi
   have e8:=abb (b:=(vT s im t).base) (n:=(vT s im t).num) (t:=(vT s im t).time) (p:=(vT s im t).pos) (w:=(vT s im t).ws) f1 f2 f3
   unfold wM at e8
   have N:(wY s im t==wY s im t)=true:=by simp
   generalize JW s im t=q at *
   generalize wY s im t=e at *
   generalize vT s im t=y at *
   rw [fB]
   rw [fB] at e0
   rw [fB,Gv] at e1 e2
   rw [fB q] at e1 e2 e3
   rw [ah acn rfl];simp only [fn6,aO,Nat.reduceBEq,Nat.reduceLeDiff,Nat.reduceAdd,List.length_cons,List.length_nil]
   simp only [a1,e0,e01,e1,e2,e3,e8,N,fQ,fC,List.length_map,aI,Nat.reduceMul,Nat.reduceBEq,Nat.reduceLT,Nat.reduceLeDiff,reduceCtorEq,Nat.reduceEqDiff,Nat.reduceAdd,Nat.beq]
end Go.Proofs.YtpcncggjmabnaaaGreatDoor.V

namespace Go.Proofs.YtpcncggjmabnaaaGreatDoor
open Go.RowKit Go.ChangeShapes Go.WideShapes Go.ChangeAt
theorem JX {T:Tags} {w:World} {b:Bool} {v:Value} (h:pV T w [(.bool b,false)] v):v=.bool b:=by
 obtain ⟨arr,h1,h2,h3⟩:=h
 have ha:arr.size=1:=h1
 have e0:arr[0]?=some arr[0]:=Array.getElem?_eq_getElem (by omega)
 have hv:v=arr[0]:=by rw [h2,if_pos ha,Array.getD_eq_getD_getElem?,e0];rfl
 have hr:aP (fun b=>T b=.ro) w (.bool b) arr[0]:=h3 0 (.bool b,false) arr[0] rfl e0
 rw [hv]
 exact hr.kF
def GH (w:World):Prop:=jD (fun b=>if b<w.heap.size then .ro else .other) w
theorem NP {P:Program} {env:Env} {f:Nat} {args:List PV} {vs:List Value} {w:World} (hE:xR P env) (h:cal env f args=some [(.bool true,false)]) (hl:vs.length=args.length)
  (hr:∀ (i:Nat) x v,args[i]?=some x→vs[i]?=some v→aP (fun b=>b<w.heap.size) w x v) (hG:GH w):Calls P f vs.toArray w (fun e w'=>e=.returned (.bool true)∧Below w.heap.size w w'):=by
 obtain ⟨n,hn⟩:=lF h
 have hC:=(rW hE hn).2 (fun b=>if b<w.heap.size then .ro else .other) w vs (fun b=>by
  by_cases hb:b<w.heap.size
  ·exact .inl (if_pos hb)
  ·exact .inr (if_neg hb)) (fun b hb=>if_neg (by omega)) hl (fun i x v hx hv=>(hr i x v hx hv).frame fun b hb _=>⟨if_pos hb,rfl⟩) hG
 refine hC.mono ?_
 rintro e w' ⟨v,T',rfl,h1,_,_,h2⟩
 exact ⟨by rw [JX h2],h1⟩
def GI (w:World):List PV→List Value→Prop
 |[],[]=>True
 |x :: xs,v :: vs=>aP (fun b=>b<w.heap.size) w x v∧GI w xs vs
 |_,_=>False
theorem GI.get {w:World}:∀ {xs:List PV} {vs:List Value},GI w xs vs→vs.length=xs.length∧∀ (i:Nat) x v,xs[i]?=some x→vs[i]?=some v→aP (fun b=>b<w.heap.size) w x v
 |[],[],_=>⟨rfl,fun i x v hx=>by simp at hx⟩
 |x :: xs,v :: vs,h=>by
  obtain ⟨h1,h2⟩:=h
  obtain ⟨k1,k2⟩:=h2.get
  refine ⟨by simp [k1],fun i y u hy hu=>?_⟩
  cases i with
  |zero=>cases hy;cases hu;exact h1
  |succ i=>exact k2 i y u hy hu
 |[],_ :: _,h=>h.elim
 |_ :: _,[],h=>h.elim
theorem SI {P:Program} {env:Env} {f:Nat} {args:List PV} {vs:List Value} {w:World} (hE:xR P env) (h:cal env f args=some [(.bool true,false)]) (hr:GI w args vs) (hG:GH w:=by exact GH.none):Calls P f vs.toArray w (fun e w'=>e=.returned (.bool true)∧Below w.heap.size w w') :=
 NP hE h hr.get.1 hr.get.2 hG
def wZ (w:World) (cs:List Value) (ps:List PV):Prop :=
 cs.length=ps.length∧(∀ c∈cs,c.oneCell'=true)∧∀ (j:Nat) x v,ps[j]?=some x→cs[j]?=some v→aP (fun b=>b<w.heap.size) w x v
def dI (P:Program) (t:TypeId) (n:Nat) (S:List PV→Prop):Prop :=
 P.cellsOf t=n∧∀ {H:Type} {enc:TypeId × Value→H} {w:World} {fuel:Nat} {cs:List Value} {x:DataW H × List MemPlace},DataW.trod enc P w 0 (fun _=>true) true fuel t cs=some x→∃ ps,S ps∧ps.length=n∧wZ w cs ps
def SInt (k:IntKind) (ps:List PV):Prop:=∃ n,(Lit.int k n).wf=true∧ps=[.int k n]
def X8 (ps:List PV):Prop:=∃ b,ps=[.bool b]
def adI (n:Nat) (S:List PV→Prop) (ps:List PV):Prop:=ps.length=n∧∀ p∈ps,S [p]
def wrS (ps:List PV):PV:=ps.headD .void
def yj (n:Nat) (S:List PV→Prop) (wr:List PV→PV) (ps:List PV):Prop:=∃ es,ps=[.list n es]∧∀ x∈es,∃ q,S q∧x=wr q
def qZ:List (List PV→Prop)→List PV→Prop
 |[],ps=>ps=[]
 |S :: Ss,ps=>∃ p q,ps=p++q∧S p∧qZ Ss q
section
variable {P:Program} {t e:TypeId} {n m:Nat} {S:List PV→Prop} {k:IntKind}
theorem oZ {w:World} {c:Value} {p:PV} (hc:c.oneCell'=true) (h:aP (fun b=>b<w.heap.size) w p c):wZ w [c] [p] :=
 ⟨rfl,fun x hx=>by rw [List.mem_singleton.1 hx];exact hc,fun j x v hx hv=>by
  cases j with
  |zero=>cases hx;cases hv;exact h
  |succ j=>simp at hx⟩
theorem dI.int (ht:P.underlying t=some (.int k)) (hc:P.cellsOf t=1):dI P t 1 (SInt k):=⟨hc,fun h=>by
 obtain ⟨n,rfl,_,hw⟩:=DataW.trod_int ht h
 exact ⟨[.int k n],⟨n,hw,rfl⟩,rfl,oZ rfl (.int k n)⟩⟩
theorem dI.bool (ht:P.underlying t=some .bool) (hc:P.cellsOf t=1):dI P t 1 X8:=⟨hc,fun h=>by
 obtain ⟨b,rfl,_⟩:=DataW.trod_bool ht h
 exact ⟨[.bool b],⟨b,rfl⟩,rfl,oZ rfl (.bool b)⟩⟩
theorem su {α:Type} {p:Nat→α→Prop}:∀ n:Nat,(∀ i,i<n→∃ y,p i y)→∃ l:List α,l.length=n∧∀ i x,l[i]?=some x→p i x
 |0,_=>⟨[],rfl,fun i x h=>by simp at h⟩
 |n+1,h=>by
  obtain ⟨l,h1,h2⟩:=su n fun i hi=>h i (by omega)
  obtain ⟨y,hy⟩:=h n (by omega)
  refine ⟨l++[y],by simp [h1],fun i x hx=>?_⟩
  by_cases hi:i<n
  ·rw [List.getElem?_append_left (by omega)] at hx;exact h2 i x hx
  ·have:=(List.getElem?_eq_some_iff.1 hx).1
   obtain rfl:i=n:=by simp at this;omega
   rw [List.getElem?_append_right (by omega),h1,Nat.sub_self] at hx
   cases hx
   exact hy
theorem dI.arr (ht:P.underlying t=some (.array n e)) (he:dI P e 1 S) (hc:P.cellsOf t=n):dI P t n (adI n S):=⟨hc,fun {H enc w fuel cs x} h=>by
 obtain ⟨xs,m,_,_,hl,hx,hE⟩:=DataW.trod_array ht h
 rw [hc] at hl
 obtain ⟨l,h1,h2⟩:=su (p:=fun i (b:PV)=>S [b]∧∃ c,cs[i]?=some c∧c.oneCell'=true∧aP (fun b=>b<w.heap.size) w b c) n fun i hi=>by
  have:=hE i hi
  rw [List.getElem?_eq_getElem (by omega),he.1] at this
  obtain ⟨ps,g1,g2,g3,g4,g5⟩:=he.2 this
  match ps,g2 with
  |[p],_ =>
   have hci:cs[i]?=some cs[i]:=List.getElem?_eq_getElem (by omega)
   have h0:((cs.drop (i * 1)).take 1)[0]?=some cs[i]:=by
    rw [List.getElem?_take,if_pos (by decide),List.getElem?_drop]
    simpa using hci
   exact ⟨p,g1,cs[i],hci,g4 _ (List.mem_of_getElem? h0),g5 0 p _ rfl h0⟩
 refine ⟨l,⟨h1,fun p hp=>?_⟩,h1,by omega,fun c hc=>?_,fun j x v hx hv=>?_⟩
 ·obtain ⟨i,hi⟩:=List.mem_iff_getElem?.1 hp
  exact (h2 i p hi).1
 ·obtain ⟨i,hi⟩:=List.mem_iff_getElem?.1 hc
  have hil:i<l.length:=by
   have:=(List.getElem?_eq_some_iff.1 hi).1
   omega
  obtain ⟨_,c',e1,e2,_⟩:=h2 i l[i] (List.getElem?_eq_getElem hil)
  rw [hi] at e1;cases e1;exact e2
 ·obtain ⟨_,c',e1,_,e3⟩:=h2 j x hx
  rw [hv] at e1;cases e1;exact e3⟩
theorem tZ {w:World} {b off:Nat} {v:Value} (h:w.cell? ⟨b,off,none⟩=some v):bY w b:=by
 unfold World.cell? at h
 split at h
 ·rename_i arr E q hb
  exact ⟨arr,E,q,hb⟩
 ·cases h
theorem dI.list {wr:List PV→PV} (ht:P.underlying t=some (.slice e)) (hc:P.cellsOf t=1) (hr:dI P e n S) (hpos:0<n) (hw:∀ ps,S ps→ps.length=n→(wr ps).cells=ps):dI P t 1 (yj n S wr):=⟨hc,fun {H enc w fuel cs x} h=>by
 rcases DataW.trod_slice ht h with ⟨rfl,_⟩|⟨a,len,cap,elems,rest,m,_,rfl,_,_,hl,hm,hel,hE,hR,_⟩
 ·exact ⟨[.list n []],⟨[],rfl,fun x hx=>by cases hx⟩,rfl,oZ rfl (.nil n none)⟩
 ·obtain ⟨l,h1,h2⟩:=su (p:=fun i (y:List Value × List PV)=>w.cells? 0 (a.add (i * n)) n=some y.1∧S y.2∧y.2.length=n∧wZ w y.1 y.2) len fun i hi=>by
   have:=hE i hi
   rw [List.getElem?_eq_getElem (by omega),hr.1,Option.bind_eq_some_iff] at this
   obtain ⟨c,h3,h4⟩:=this
   obtain ⟨ps,g1,g2,g3⟩:=hr.2 h4
   exact ⟨(c,ps),h3,g1,g2,g3⟩
  refine ⟨[.list n (l.map fun y=>wr y.2)],⟨_,rfl,fun x hx=>?_⟩,rfl,oZ rfl ?_⟩
  ·obtain ⟨y,hy,rfl⟩:=List.mem_map.1 hx
   obtain ⟨i,hi⟩:=List.mem_iff_getElem?.1 hy
   exact ⟨y.2,(h2 i y hi).2.1,rfl⟩
  ·by_cases hcap:cap=0
   ·have:len=0:=by omega
    subst hcap;subst this
    have:l=[]:=List.eq_nil_of_length_eq_zero h1
    subst this
    exact .nil n (some a)
   ·-- there are cells
    have hcell:∃ off v,w.cell? ⟨a.block,off,none⟩=some v∧a.spot=none:=by
     have JY:∀ (i:Nat) (c:List Value),w.cells? 0 (a.add (i * n)) n=some c→∃ off v,w.cell? ⟨a.block,off,none⟩=some v∧a.spot=none:=fun i c h3=>by
      obtain ⟨_,hc0,h4⟩:=World.cells?_some h3
      have h5:=h4 0 hpos
      rw [List.getElem?_eq_getElem (by omega)] at h5
      have hs:(a.add (i * n)).spot=none:=by simpa [Addr.add] using World.cell?_spot h5
      have hs0:a.spot=none:=by
       unfold Addr.add at hs
       split at hs
       ·exact hs
       ·rename_i hne
        by_cases h0:i * n=0
        ·rename_i q;exact absurd h0 (by simpa using hne)
        ·rcases Nat.eq_zero_or_pos i with hi0|hi0
         ·subst hi0;simp at h0
         ·-- the row begins at a: its first cell
          have:0<len∨len=0:=by omega
          rcases this with hlen|hlen
          ·obtain ⟨y,hy⟩:∃ y,l[0]?=some y:=⟨l[0],List.getElem?_eq_getElem (by omega)⟩
           obtain ⟨_,hc1,h6⟩:=World.cells?_some (h2 0 y hy).1
           have h7:=h6 0 hpos
           rw [List.getElem?_eq_getElem (by omega)] at h7
           simpa [Addr.add] using World.cell?_spot h7
          ·have hrl:0<rest.length:=by have:=(hR rfl).1;omega
           have:=(hR rfl).2 0 (by omega)
           have h8:rest[0]?=some rest[0]:=List.getElem?_eq_getElem hrl
           rw [h8,hr.1,hlen,Option.bind_eq_some_iff] at this
           obtain ⟨c1,h9,_⟩:=this
           obtain ⟨_,hc1,h6⟩:=World.cells?_some h9
           have h7:=h6 0 hpos
           rw [List.getElem?_eq_getElem (by omega)] at h7
           simpa [Addr.add] using World.cell?_spot h7
      obtain ⟨b,off,spot⟩:=a
      simp only at hs0
      subst hs0
      rw [Addr.add_lit,Addr.add_lit] at h5
      exact ⟨_,_,h5,rfl⟩
     rcases Nat.eq_zero_or_pos len with hlen|hlen
     ·have hrl:0<rest.length:=by have:=(hR rfl).1;omega
      have:=(hR rfl).2 0 (by omega)
      have h8:rest[0]?=some rest[0]:=List.getElem?_eq_getElem hrl
      rw [h8,hr.1,Option.bind_eq_some_iff] at this
      obtain ⟨c1,h9,_⟩:=this
      exact JY _ c1 h9
     ·obtain ⟨y,hy⟩:∃ y,l[0]?=some y:=⟨l[0],List.getElem?_eq_getElem (by omega)⟩
      exact JY 0 _ (h2 0 y hy).1
    obtain ⟨ahO,v0,hv0,hspot⟩:=hcell
    obtain ⟨b,off,spot⟩:=a
    simp only at hspot hv0
    subst hspot
    have hC:bY w b:=tZ hv0
    have hget:∀ (i:Nat) x,(l.map fun y=>wr y.2)[i]?=some x→∃ y,l[i]?=some y∧x=wr y.2:=fun i x hx=>by
     rw [List.getElem?_map] at hx
     cases e:l[i]? with
     |none=>rw [e] at hx;cases hx
     |some y=>rw [e] at hx;exact ⟨y,rfl,(Option.some.inj hx).symm⟩
    have hlen:(l.map fun y=>wr y.2).length=len:=by simp [h1]
    have:=aP.list (ok:=fun b=>b<w.heap.size) (w:=w) n (l.map fun y=>wr y.2) b off cap (fun i j=>(((l[i]?).map (·.1)).getD []).getD j default) hC.lt hC (by rw [hlen];exact hl) hm
     (fun x hx=>by
      obtain ⟨i,hi⟩:=List.mem_iff_getElem?.1 hx
      obtain ⟨y,hy,rfl⟩:=hget i x hi
      obtain ⟨_,g1,g2,_⟩:=h2 i y hy
      rw [hw _ g1 g2,g2])
     (fun i x j p hi hj=>by
      obtain ⟨y,hy,rfl⟩:=hget i x hi
      obtain ⟨g0,g1,g2,g3,g4,g5⟩:=h2 i y hy
      rw [hw _ g1 g2] at hj
      have hjn:j<n:=by have:=(List.getElem?_eq_some_iff.1 hj).1;omega
      obtain ⟨_,hc1,h6⟩:=World.cells?_some g0
      have h7:=h6 j hjn
      have hcj:y.1[j]?=some y.1[j]:=List.getElem?_eq_getElem (by omega)
      have hd:(((l[i]?).map (·.1)).getD []).getD j default=y.1[j]:=by
       rw [hy];simp [List.getD_eq_getElem?_getD,hcj]
      rw [hd]
      rw [hcj,Addr.add_lit,Addr.add_lit] at h7
      exact ⟨h7,g4 _ (List.mem_of_getElem? hcj)⟩)
     (fun i x j p hi hj=>by
      obtain ⟨y,hy,rfl⟩:=hget i x hi
      obtain ⟨g0,g1,g2,g3,g4,g5⟩:=h2 i y hy
      rw [hw _ g1 g2] at hj
      have hjn:j<n:=by have:=(List.getElem?_eq_some_iff.1 hj).1;omega
      have hcj:y.1[j]?=some y.1[j]:=List.getElem?_eq_getElem (by omega)
      have hd:(((l[i]?).map (·.1)).getD []).getD j default=y.1[j]:=by
       rw [hy];simp [List.getD_eq_getElem?_getD,hcj]
      rw [hd]
      exact g5 j p _ hj hcj)
    rw [hlen] at this
    exact this⟩
theorem wZ.append {w:World} {c1 c2:List Value} {p1 p2:List PV} (h1:wZ w c1 p1) (h2:wZ w c2 p2):wZ w (c1++c2) (p1++p2):=by
 obtain ⟨a1,a2,a3⟩:=h1
 obtain ⟨b1,b2,b3⟩:=h2
 refine ⟨by simp [a1,b1],fun c hc=>?_,fun j x v hx hv=>?_⟩
 ·rcases List.mem_append.1 hc with h|h
  ·exact a2 c h
  ·exact b2 c h
 ·by_cases hj:j<p1.length
  ·rw [List.getElem?_append_left hj] at hx
   rw [List.getElem?_append_left (by omega)] at hv
   exact a3 j x v hx hv
  ·rw [List.getElem?_append_right (by omega)] at hx
   rw [List.getElem?_append_right (by omega),a1] at hv
   exact b3 _ x v hx hv
inductive BN (P:Program):Nat→List Field→List (List PV→Prop)→Nat→Prop
 |nil (o:Nat):BN P o [] [] 0
 |cons {o n m:Nat} {f:Field} {fs:List Field} {S:List PV→Prop} {Ss:List (List PV→Prop)}:f.offset=o→dI P f.type n S→BN P (o+n) fs Ss m→BN P o (f :: fs) (S :: Ss) (n+m)
theorem BN.read {o:Nat} {fs:List Field} {Ss:List (List PV→Prop)} (h:BN P o fs Ss m) {H:Type} {enc:TypeId × Value→H} {w:World} {fuel:Nat} {cs:List Value} {xs:List (DataW H × List MemPlace)} (hl:cs.length=o+m)
  (hx:∀ (i:Nat) (f:Field),fs[i]?=some f→∃ x,DataW.trod enc P w 0 (fun _=>true) true fuel f.type ((cs.drop f.offset).take (P.cellsOf f.type))=some x):∃ ps,qZ Ss ps∧ps.length=m∧wZ w (cs.drop o) ps:=by
 induction h with
 |nil o=>exact ⟨[],rfl,rfl,by rw [List.drop_of_length_le (by omega)];exact (⟨rfl,fun c hc=>(by cases hc),fun j x v hx=>(by simp at hx)⟩:wZ w [] [])⟩
 |@cons o n m f fs S Ss h1 h2 h3 ih =>
  obtain ⟨x,h4⟩:=hx 0 f rfl
  rw [h2.1,h1] at h4
  obtain ⟨p,g1,g2,g3⟩:=h2.2 h4
  obtain ⟨q,k1,k2,k3⟩:=ih (by omega) (fun i f hf=>hx (i+1) f hf)
  refine ⟨p++q,⟨p,q,rfl,g1,k1⟩,by simp [g2,k2],?_⟩
  have:cs.drop o=(cs.drop o).take n++cs.drop (o+n):=by rw [← List.drop_drop,List.take_append_drop]
  rw [this]
  exact g3.append k3
theorem dI.struct {fs:Array Field} {Ss:List (List PV→Prop)} (ht:P.underlying t=some (.struct fs)) (hf:BN P 0 fs.toList Ss n) (hc:P.cellsOf t=n):dI P t n (qZ Ss):=⟨hc,fun {H enc w fuel cs x} h=>by
 obtain ⟨xs,m,_,_,hl,hx,hE⟩:=DataW.trod_struct ht h
 obtain ⟨ps,h1,h2,h3⟩:=hf.read (xs:=xs) (enc:=enc) (w:=w) (fuel:=m) (cs:=cs) (by omega) (fun i f hi=>by
  have hi':fs[i]?=some f:=by simpa using hi
  have:=hE i f hi'
  have hil:i<xs.length:=by rw [hx];exact (Array.getElem?_eq_some_iff.1 hi').1
  exact ⟨xs[i],by rw [this,List.getElem?_eq_getElem hil]⟩)
 exact ⟨ps,h1,h2,by simpa using h3⟩⟩
theorem dI.O5 {f0 f1:Field} {n0 n1:Nat} {S0 S1:List PV→Prop} (ht:P.underlying t=some (.struct #[f0,f1])) (h0:dI P f0.type n0 S0) (h1:dI P f1.type n1 S1) (o0:f0.offset=0) (o1:f1.offset=0+n0) (hc:P.cellsOf t=n0+(n1+0)):dI P t (n0+(n1+0)) (qZ [S0,S1]) :=
 dI.struct ht (show BN P 0 [f0,f1] [S0,S1] (n0+(n1+0)) from .cons o0 h0 (.cons o1 h1 (.nil _))) hc
theorem dI.O6 {f0 f1 f2:Field} {n0 n1 n2:Nat} {S0 S1 S2:List PV→Prop} (ht:P.underlying t=some (.struct #[f0,f1,f2])) (h0:dI P f0.type n0 S0) (h1:dI P f1.type n1 S1) (h2:dI P f2.type n2 S2) (o0:f0.offset=0) (o1:f1.offset=0+n0) (o2:f2.offset=0+n0+n1) (hc:P.cellsOf t=n0+(n1+(n2+0))):dI P t (n0+(n1+(n2+0))) (qZ [S0,S1,S2]) :=
 dI.struct ht (show BN P 0 [f0,f1,f2] [S0,S1,S2] (n0+(n1+(n2+0))) from .cons o0 h0 (.cons o1 h1 (.cons o2 h2 (.nil _)))) hc
theorem dI.O7 {f0 f1 f2 f3 f4:Field} {n0 n1 n2 n3 n4:Nat} {S0 S1 S2 S3 S4:List PV→Prop} (ht:P.underlying t=some (.struct #[f0,f1,f2,f3,f4])) (h0:dI P f0.type n0 S0) (h1:dI P f1.type n1 S1) (h2:dI P f2.type n2 S2) (h3:dI P f3.type n3 S3) (h4:dI P f4.type n4 S4) (o0:f0.offset=0) (o1:f1.offset=0+n0) (o2:f2.offset=0+n0+n1) (o3:f3.offset=0+n0+n1+n2) (o4:f4.offset=0+n0+n1+n2+n3) (hc:P.cellsOf t=n0+(n1+(n2+(n3+(n4+0))))):dI P t (n0+(n1+(n2+(n3+(n4+0))))) (qZ [S0,S1,S2,S3,S4]) :=
 dI.struct ht (show BN P 0 [f0,f1,f2,f3,f4] [S0,S1,S2,S3,S4] (n0+(n1+(n2+(n3+(n4+0))))) from .cons o0 h0 (.cons o1 h1 (.cons o2 h2 (.cons o3 h3 (.cons o4 h4 (.nil _)))))) hc
theorem dI.O8 {f0 f1 f2 f3 f4 f5 f6:Field} {n0 n1 n2 n3 n4 n5 n6:Nat} {S0 S1 S2 S3 S4 S5 S6:List PV→Prop} (ht:P.underlying t=some (.struct #[f0,f1,f2,f3,f4,f5,f6])) (h0:dI P f0.type n0 S0) (h1:dI P f1.type n1 S1) (h2:dI P f2.type n2 S2) (h3:dI P f3.type n3 S3) (h4:dI P f4.type n4 S4) (h5:dI P f5.type n5 S5) (h6:dI P f6.type n6 S6) (o0:f0.offset=0) (o1:f1.offset=0+n0) (o2:f2.offset=0+n0+n1) (o3:f3.offset=0+n0+n1+n2) (o4:f4.offset=0+n0+n1+n2+n3) (o5:f5.offset=0+n0+n1+n2+n3+n4) (o6:f6.offset=0+n0+n1+n2+n3+n4+n5) (hc:P.cellsOf t=n0+(n1+(n2+(n3+(n4+(n5+(n6+0))))))):dI P t (n0+(n1+(n2+(n3+(n4+(n5+(n6+0))))))) (qZ [S0,S1,S2,S3,S4,S5,S6]) :=
 dI.struct ht (show BN P 0 [f0,f1,f2,f3,f4,f5,f6] [S0,S1,S2,S3,S4,S5,S6] (n0+(n1+(n2+(n3+(n4+(n5+(n6+0))))))) from .cons o0 h0 (.cons o1 h1 (.cons o2 h2 (.cons o3 h3 (.cons o4 h4 (.cons o5 h5 (.cons o6 h6 (.nil _)))))))) hc
theorem aaC {H:Type} {enc:TypeId × Value→H} {w:World} {v:Value} {d:DataW H} {p:List MemPlace} (hr:dI P t 1 S) (hone:v.cells.toList=[v]) (h:DataW.Trod enc P w 0 (fun _=>true) true t v d p) :
  ∃ q,S [q]∧aP (fun b=>b<w.heap.size) w q v:=by
 obtain ⟨fuel,hf⟩:=h
 obtain ⟨ps,h1,h2,h3,h4,h5⟩:=hr.2 hf
 match ps,h2 with
 |[q],_=>exact ⟨q,h1,h5 0 q v rfl (by rw [hone];rfl)⟩
theorem aaD {H:Type} {enc:TypeId × Value→H} {w:World} {v:Value} {d:DataW H} {p:List MemPlace} {m:Reach} {base:Nat} (ht:P.underlying t=some (.int k)) (hr:dI P t 1 S) (hv:Value.okWide P w m base t v) (h:DataW.Trod enc P w 0 (fun _=>true) true t v d p) :
  ∃ q,S [q]∧aP (fun b=>b<w.heap.size) w q v:=by
 have:v.cells.toList=[v]:=by
  simp only [Value.okWide,ht,Cell.okWide] at hv
  cases v<;>simp_all [Cell.ok,Value.cells]
 exact aaC hr this h
end
end Go.Proofs.YtpcncggjmabnaaaGreatDoor

namespace Go.Proofs.YtpcncggjmabnaaaGreatDoor
open Go.RowKit
structure xg (W:World) (g:Nat) where
 w:World
 grown:W.grownBy w (some g)
instance (W:World) (g:Nat):Nonempty (xg W g):=⟨⟨W,World.grownBy.refl _ _⟩⟩
theorem xg.of {W w:World} {g:Nat} (h:W.grownBy w (some g)):∃ x:xg W g,w=x.w:=⟨⟨w,h⟩,rfl⟩
theorem grown_drew (W:World) (row:Option Nat):W.grownBy W.drew row:=⟨rfl,rfl,rfl,Nat.le_refl _,fun _ _ _=>rfl⟩
theorem xg.drew (W:World) (g:Nat):∃ x:xg W g,W.drew=x.w:=xg.of (grown_drew _ _)
theorem below_grown {w w':World} (h:Below w.heap.size w w'):w.grownBy w' none:=⟨h.os,h.tape,h.output,h.size,fun k hk _=>h.block k hk⟩
def dX {α:Type} (r:Rep α) (tag:Nat→Nat) (ok:Nat→Prop) (w:World):Nat→List Value→List α→Prop
 |_,xs,[]=>xs=[]
 |i,xs,x :: l=>∃ c rest,xs=c++rest∧r.rd (fun b=>ok b∧tag b=i) w c x∧dX r tag ok w (i+1) rest l
section
variable {α:Type} {r:Rep α} {tag tag':Nat→Nat} {ok ok':Nat→Prop} {w w':World}
theorem dX.mono (hk:∀ b,ok b→ok' b):∀ {l:List α} {i:Nat} {xs:List Value},dX r tag ok w i xs l→dX r tag ok' w i xs l
 |[],_,_,h=>h
 |_ :: _,_,_,⟨c,rest,e,h1,h2⟩=>⟨c,rest,e,r.mono (fun b hb=>⟨hk b hb.1,hb.2⟩) h1,h2.mono hk⟩
theorem dX.retag (hk:∀ b,ok b→tag' b=tag b):∀ {l:List α} {i:Nat} {xs:List Value},dX r tag ok w i xs l→dX r tag' ok w i xs l
 |[],_,_,h=>h
 |_ :: _,_,_,⟨c,rest,e,h1,h2⟩=>⟨c,rest,e,r.mono (fun b hb=>⟨hb.1,by rw [hk b hb.1];exact hb.2⟩) h1,h2.retag hk⟩
theorem dX.live:∀ {l:List α} {i:Nat} {xs:List Value},dX r tag ok w i xs l→dX r tag (fun b=>ok b∧b<w.heap.size) w i xs l
 |[],_,_,h=>h
 |_ :: _,_,_,⟨c,rest,e,h1,h2⟩=>⟨c,rest,e,r.mono (fun b hb=>⟨⟨hb.1.1,hb.2⟩,hb.1.2⟩) (r.live h1),h2.live⟩
theorem dX.frame (hf:∀ b,ok b→w'.heap[b]?=w.heap[b]?):∀ {l:List α} {i:Nat} {xs:List Value},dX r tag ok w i xs l→dX r tag ok w' i xs l
 |[],_,_,h=>h
 |_ :: _,_,_,⟨c,rest,e,h1,h2⟩=>⟨c,rest,e,r.frame (fun b hb=>hf b hb.1) h1,h2.frame hf⟩
theorem dX.chunks:∀ {l:List α} {i:Nat} {xs:List Value},dX r tag ok w i xs l→Chunks r ok w xs l
 |[],_,_,h=>h
 |_ :: _,_,_,⟨c,rest,e,h1,h2⟩=>⟨c,rest,e,r.mono (fun b hb=>hb.1) h1,h2.chunks⟩
theorem dX.pick:∀ {l:List α} {i:Nat} {xs:List Value},dX r tag ok w i xs l→∀ {k:Nat} {x:α},l[k]?=some x →
  ∃ c,(∀ j,j<r.sz→xs[k * r.sz+j]?=c[j]?)∧r.rd (fun b=>ok b∧tag b=i+k) w c x ∧
   ∀ (w':World) (x':α),(∀ b,ok b→tag b≠i+k→w'.heap[b]?=w.heap[b]?)→r.rd (fun b=>ok b∧tag b=i+k) w' c x'→dX r tag ok w' i xs (l.set k x')
 |[],_,_,_,k,x,hx=>by simp at hx
 |y :: l,i,xs,⟨c,rest,e,h1,h2⟩,0,x,hx=>by
  simp only [List.getElem?_cons_zero,Option.some.injEq] at hx
  subst hx
  refine ⟨c,fun j hj=>by rw [e,Nat.zero_mul,Nat.zero_add,List.getElem?_append_left (by rw [r.len h1];exact hj)],h1,fun w' x' hf hr=>?_⟩
  refine ⟨c,rest,e,hr,?_⟩
  -- the tail's elements bear other tags
  have:∀ {l:List α} {m:Nat} {xs:List Value},i<m→dX r tag ok w m xs l→dX r tag ok w' m xs l:=by
   intro l
   induction l with
   |nil=>intro m xs _ h;exact h
   |cons z l ih =>
    intro m xs hm h
    obtain ⟨d,rs,e',h3,h4⟩:=h
    exact ⟨d,rs,e',r.frame (fun b hb=>hf b hb.1 (by rw [hb.2];omega)) h3,ih (by omega) h4⟩
  exact this (Nat.lt_succ_self _) h2
 |y :: l,i,xs,⟨c,rest,e,h1,h2⟩,k+1,x,hx=>by
  obtain ⟨d,h3,h4,h5⟩:=h2.pick (k:=k) (x:=x) (by simpa using hx)
  have ei:i+1+k=i+(k+1):=by omega
  refine ⟨d,fun j hj=>?_,by rw [← ei];exact h4,fun w' x' hf hr=>?_⟩
  ·rw [e,List.getElem?_append_right (by rw [r.len h1,Nat.add_mul];omega),r.len h1,← h3 j hj]
   congr 1
   rw [Nat.add_mul];omega
  ·refine ⟨c,rest,e,r.frame (fun b hb=>hf b hb.1 (by rw [hb.2];omega)) h1,?_⟩
   exact h5 w' x' (fun b hb hne=>hf b hb (by rw [← ei];exact hne)) (by rw [ei];exact hr)
end
def ru {α:Type} (r:Rep α) (B F:Nat) (E:TypeId) (w:World) (v:Value) (l:List α):Prop :=
 ∃ tag xs,w.ownsRow B E r.sz v l.length xs∧dX r tag (fun b=>B≤b∧b<F∧Option.some b≠v.ownBlock) w 0 xs l
section
variable {α:Type} {r:Rep α} {B F:Nat} {E:TypeId} {w w':World} {v:Value} {l:List α}
theorem ru.nil (r:Rep α) (B F:Nat) (E:TypeId) (w:World):ru r B F E w (.slice none 0 0) []:=⟨fun _=>0,[],World.ownsRow_nil _ _ _ _,rfl⟩
theorem ru.live (h:ru r B F E w v l):ru r B w.heap.size E w v l :=
 let ⟨tag,xs,h1,h2⟩:=h;⟨tag,xs,h1,h2.live.mono fun _ hb=>⟨hb.1.1,hb.2,hb.1.2.2⟩⟩
theorem ru.lt (h:ru r B F E w v l):∀ k,v.ownBlock=some k→B≤k∧k<w.heap.size:=let ⟨_,_,h1,_⟩:=h;h1.lt
theorem ru.below (h:ru r B F E w v l) (hb:Below w.heap.size w w'):ru r B F E w' v l:=by
 obtain ⟨tag,xs,h1,h2⟩:=h
 exact ⟨tag,xs,h1.kept (below_grown hb) (by cases v.ownBlock<;>simp),(dX.frame (fun b hb'=>hb.block b hb'.2) h2.live).mono fun b hb=>hb.1⟩
theorem ru.own (h:ru r B F E w v l):Own r B E (B≤·) w v l :=
 let ⟨_,xs,h1,h2⟩:=h;⟨xs,h1,h2.chunks.mono fun _ hb=>⟨hb.1,hb.2.2⟩⟩
theorem ru.sl (h:ru r B F E w v l):∃ a n c,v=.slice a n c∧Sl r (B≤·) w a n c l :=
 let ⟨a,n,c,e,h⟩:=h.own.sl;⟨a,n,c,e,h.mono fun _ hb=>hb.elim id id⟩
def X9 {α:Type} (r:Rep α) (ok:Nat→Prop) (w:World) (l:List α) (err:Int):Ending→World→Prop:=fun e w' =>
 ∃ a n c,e=.returned (.tuple #[.slice a n c,.int .i64 err])∧Sl r ok w' a n c l∧Below w.heap.size w w'
theorem X9.mk {α:Type} {r:Rep α} {ok:Nat→Prop} {w w':World} {l:List α} {err err':Int} {a:Option Addr} {n c:Nat} (he:err'=err) (h:Sl r ok w' a n c l) (hB:Below w.heap.size w w') :
  X9 r ok w l err (.returned (.tuple #[.slice a n c,.int .i64 err'])) w':=⟨a,n,c,by rw [he],h,hB⟩
def Flat {α:Type} (r:Rep α):Prop:=∀ {ok ok':Nat→Prop} {w w':World} {cs:List Value} {x:α},r.rd ok w cs x→r.rd ok' w' cs x
theorem Flat.int:Flat Ko:=fun h=>h
theorem Flat.u8:Flat u8R:=fun h=>h
theorem Flat.u64:Flat ahr:=fun h=>h
theorem Flat.bool:Flat aee:=fun h=>h
theorem Chunks.flat {α:Type} {r:Rep α} (hf:Flat r) {ok ok':Nat→Prop} {w w':World}:∀ {l:List α} {xs:List Value},Chunks r ok w xs l→Chunks r ok' w' xs l
 |[],_,h=>h
 |_ :: _,_,⟨c,rest,e,h1,h2⟩=>⟨c,rest,e,hf h1,h2.flat hf⟩
theorem Src.flat {α:Type} {r:Rep α} (hf:Flat r) {ok ok':Nat→Prop} {w:World} {ao:Option Addr} {m c:Nat} {ys:List α} (h:Src r ok w ao m c ys):Src r ok' w ao m c ys :=
 let ⟨h1,h2,news,h3,h4⟩:=h;⟨h1,h2,news,h3,h4.flat hf⟩
theorem Own.adJ {α:Type} (r:Rep α) {B:Nat} {E:TypeId} {ok:Nat→Prop} {w:World} (hB:B≤w.heap.size):Own r B E ok (w.alloc (.cells #[] E)) (.slice (some ⟨w.heap.size,0,none⟩) 0 0) [] :=
 ⟨[],World.ownsRow_lit w #[] 0 hB (Nat.zero_le _) (by simp),rfl⟩
theorem ru.at (h:ru r B F E w v l) {k:Nat} {x:α} (hx:l[k]?=some x) :
  ∃ g cap c,∃ okk:Nat→Prop,v=.slice (some ⟨g,0,none⟩) l.length cap∧B≤g∧g<w.heap.size∧(∀ j,j<r.sz→w.cell? ⟨g,k * r.sz+j,none⟩=c[j]?)∧r.rd okk w c x∧(∀ b,okk b→B≤b∧b<F∧b≠g) ∧
   ∀ (w':World) (x':α),(∀ b,b<w.heap.size→¬ okk b→w'.heap[b]?=w.heap[b]?)→w'.os=w.os→w'.tape=w.tape→w'.output=w.output→w.heap.size≤w'.heap.size→r.rd okk w' c x'→ru r B F E w' v (l.set k x'):=by
 obtain ⟨tag,xs,h1,h2⟩:=h
 have hk:=(List.getElem?_eq_some_iff.1 hx).1
 obtain ⟨g,cap,rfl,hBg,hg⟩:∃ g cap,v=.slice (some ⟨g,0,none⟩) l.length cap∧B≤g∧g<w.heap.size:=by
  rcases h1.2 with ⟨_,h0⟩|⟨g,cap,cur,hv,hb,hg,_⟩
  ·omega
  ·exact ⟨g,cap,hv,hb,(Array.getElem?_eq_some_iff.1 hg).1⟩
 obtain ⟨c,h3,h4,h5⟩:=h2.live.pick hx
 refine ⟨g,cap,c,_,rfl,hBg,hg,fun j hj=>?_,h4,fun b hb=>⟨hb.1.1.1,hb.1.1.2.1,fun e=>hb.1.1.2.2 (by rw [e];rfl)⟩,fun w' x' hf hos htp hout hsz hr=>?_⟩
 ·rw [← h3 j hj,h1.cellAt]
  calc k * r.sz+j<k * r.sz+r.sz:=by omega
   _=(k+1) * r.sz:=by rw [Nat.add_mul];omega
   _≤l.length * r.sz:=Nat.mul_le_mul_right _ (by omega)
 ·have h6:=h5 w' x' (fun b hb hne=>hf b hb.2 fun e=>hne (by simpa using e.2)) hr
  refine ⟨tag,xs,?_,h6.mono fun b hb=>hb.1⟩
  rw [List.length_set]
  have hgk:w'.heap[g]?=w.heap[g]?:=hf g hg fun e=>e.1.1.2.2 rfl
  obtain ⟨hl,⟨hv,h0⟩|⟨g',cap',cur,hv,r1,r2,r3⟩⟩:=h1
  ·cases hv
  ·cases hv
   exact ⟨hl,.inr ⟨g,cap,cur,rfl,r1,by rw [hgk];exact r2,r3⟩⟩
end
def jr {α:Type} (r:Rep α) (E:TypeId):Rep (List α) where
 sz:=1
 rd ok w cs l:=∃ v,cs=[v]∧(∀ b,v.ownBlock=some b→ok b)∧Own r 0 E (fun _=>False) w v l∧(l=[]→v=.slice none 0 0∨∃ g c,v=.slice (some ⟨g,0,none⟩) 0 c)
 len h:=by obtain ⟨v,rfl,_⟩:=h;rfl
 mono hk h:=let ⟨v,e,h1,h2⟩:=h;⟨v,e,fun b hb=>hk b (h1 b hb),h2⟩
 live h:=let ⟨v,e,h1,h2,h3⟩:=h;⟨v,e,fun b hb=>⟨h1 b hb,(h2.lt b hb).2⟩,h2,h3⟩
 frame hf h:=by
  obtain ⟨v,e,h1,⟨xs,h2,h3⟩,h4⟩:=h
  refine ⟨v,e,h1,⟨xs,⟨h2.1,?_⟩,(Chunks.frame (fun b hb=>hb.1.elim) h3)⟩,h4⟩
  rcases h2.2 with h0|⟨g,cap,cur,hv,hb,hg,rest⟩
  ·exact .inl h0
  ·refine .inr ⟨g,cap,cur,hv,hb,?_,rest⟩
   rw [hf g (h1 g (by rw [hv];rfl))];exact hg
 one h:=by
  obtain ⟨v,rfl,_,⟨xs,h2,_⟩,_⟩:=h
  intro u hu
  cases List.mem_singleton.1 hu
  rcases h2.2 with ⟨rfl,_⟩|⟨g,cap,cur,rfl,_⟩<;>rfl
theorem jr.sl {α:Type} {r:Rep α} {E:TypeId} {ok:Nat→Prop} {w:World} {v:Value} {l:List α} (hf:Flat r) (h:(jr r E).rd ok w [v] l):∃ a n c,v=.slice a n c∧Sl r ok w a n c l:=by
 obtain ⟨_,e,h1,h2,_⟩:=h
 cases e
 obtain ⟨a,n,c,rfl,h3⟩:=h2.sl
 refine ⟨a,n,c,rfl,h3.len,h3.cap,h3.bnd,h3.nil,h3.cells.imp id fun ⟨b,off,e,_,hb,hc⟩=>⟨b,off,e,h1 b (by rw [e];rfl),hb,fun i x hx=>let ⟨cs,g1,g2⟩:=hc i x hx;⟨cs,g1,hf g2⟩⟩⟩
theorem jr.mk {α:Type} {r:Rep α} {B:Nat} {E:TypeId} {w:World} {v:Value} {l:List α} (h:Own r B E (fun _=>False) w v l) (hv:l=[]→v=.slice none 0 0∨∃ g c,v=.slice (some ⟨g,0,none⟩) 0 c):(jr r E).rd (B≤·) w [v] l:=by
 refine ⟨v,rfl,fun b hb=>(h.lt b hb).1,?_,hv⟩
 obtain ⟨xs,h1,h2⟩:=h
 refine ⟨xs,⟨h1.1,h1.2.imp id fun ⟨g,cap,cur,a1,a2,a3⟩=>⟨g,cap,cur,a1,Nat.zero_le _,a3⟩⟩,h2⟩
section
variable {P:Program} {ops:Array Oper} {rest:List Oper} {o:Oper} {a:Act} {Q:Exit→Act→World→Prop} {α:Type} {r:Rep α} {B:Nat} {E:TypeId} {w:World}
end
section
variable {P:Program} {α:Type} {r:Rep α} {B:Nat} {E:TypeId} {w:World} {g cap:Nat} {l:List α}
end
def GK (a:Option Addr) (c lo sz:Nat):Option Addr:=if c=lo then a else a.map (·.add (lo * sz))
theorem Sl.sub {α:Type} {r:Rep α} {ok:Nat→Prop} {w:World} {a:Option Addr} {n c:Nat} {l:List α} (h:Sl r ok w a n c l) {s k:Nat} (hk:s+k≤n):Sl r ok w (GK a c s r.sz) k (c - s) ((l.drop s).take k):=by
 have h1:=h.len
 have h2:=h.cap
 refine ⟨by simp;omega,by omega,Nat.le_trans (Nat.sub_le _ _) h.bnd,fun e=>?_,?_⟩
 ·unfold GK at e
  split at e
  ·omega
  ·have:a=none:=by simpa using e
   have:=h.nil this
   omega
 ·rcases h.cells with h0|⟨b,off,rfl,hb,hlt,hc⟩
  ·left;omega
  ·by_cases hk0:k=0
   ·exact .inl hk0
   ·refine .inr ⟨b,off+s * r.sz,?_,hb,hlt,fun i x hx=>?_⟩
    ·unfold GK
     rw [if_neg (by omega)]
     simp [Addr.add_lit]
    ·have hik:i<k:=by have:=(List.getElem?_eq_some_iff.1 hx).1;simp at this;omega
     rw [List.getElem?_take,if_pos hik,List.getElem?_drop] at hx
     obtain ⟨cs,g1,g2⟩:=hc (s+i) x hx
     refine ⟨cs,fun j hj=>?_,g2⟩
     rw [← g1 j hj,Nat.add_mul,Nat.add_assoc off]
section
variable {P:Program} {ops:Array Oper} {rest:List Oper} {o:Oper} {a:Act} {Q:Exit→Act→World→Prop} {α:Type} {r:Rep α} {B:Nat} {E:TypeId} {w:World} {g cap:Nat} {l:List α}
end
section
variable {ok:Nat→Prop} {w:World} {n c:Nat}
theorem Sl.wr {b off:Nat} {l:List (Int × Int × List nK)} (h:Sl (SX Ko (SX Ko (N7 abo))) ok w (some ⟨b,off,none⟩) n c l) {k:Nat} {v s:Int} {d:List nK} (hx:l[k]?=some (v,s,d)) :
  ∃ a' n' c',w.cell? ⟨b,off+k * 3,none⟩=some (.int .i64 v)∧w.cell? ⟨b,off+k * 3+1,none⟩=some (.int .i64 s)∧w.cell? ⟨b,off+k * 3+2,none⟩=some (.slice a' n' c')∧uj v∧uj s∧Sl abo ok w a' n' c' d:=by
 obtain ⟨cs,h1,c1,c2,rfl,⟨rfl,hv⟩,c3,c4,rfl,⟨rfl,hs⟩,a',n',c',rfl,hd⟩:=h.at hx
 refine ⟨a',n',c',?_,?_,?_,hv,hs,hd⟩
 ·exact h1 0 (by show 0<3;omega)
 ·exact h1 1 (by show 1<3;omega)
 ·exact h1 2 (by show 2<3;omega)
theorem Sl.ext {b off:Nat} {l:List (Int × Int)} (h:Sl (SX Ko Ko) ok w (some ⟨b,off,none⟩) n c l) {k:Nat} {s m:Int} (hx:l[k]?=some (s,m)) :
  w.cell? ⟨b,off+k * 2,none⟩=some (.int .i64 s)∧w.cell? ⟨b,off+k * 2+1,none⟩=some (.int .i64 m)∧uj s∧uj m:=by
 obtain ⟨cs,h1,c1,c2,rfl,⟨rfl,hv⟩,⟨rfl,hs⟩⟩:=h.at hx
 exact ⟨h1 0 (by show 0<2;omega),h1 1 (by show 1<2;omega),hv,hs⟩
end
end Go.Proofs.YtpcncggjmabnaaaGreatDoor

namespace Go.Proofs.YtpcncggjmabnaaaGreatDoor
open Go.RowKit
abbrev abj:Rep (List nK):=N7 abo
abbrev Wr:=Int × Int × List nK
def aaE:nK:=Vector.replicate 8 0
theorem Tryz.mixed:Tryz.prog.follows .mixedOrders=true:=by kernel_rfl
theorem SK {n:Nat} (h:n≤maxLen):uj (n:Int):=by unfold uj maxLen at *;omega
theorem Sl.i64 {α:Type} {r:Rep α} {ok:Nat→Prop} {w:World} {a:Option Addr} {n c:Nat} {l:List α} (h:Sl r ok w a n c l):uj (n:Int):=SK (Nat.le_trans h.cap h.bnd)
end Go.Proofs.YtpcncggjmabnaaaGreatDoor

namespace Go.Proofs.YtpcncggjmabnaaaGreatDoor
open Go.RowKit
def aaF (n:Int):Bool:=decide (n<1) || decide (4096<n)
def aX (l:List Int):Int:=if l.length<1∨8<l.length then 6 else if l.any aaF then 2 else 0
def lens (im:List (List nK)):List Int:=im.map fun v=>(v.length:Int)
def xk (im:List (List nK)):Int:=aX (lens im)
end Go.Proofs.YtpcncggjmabnaaaGreatDoor

namespace Go.Proofs.YtpcncggjmabnaaaGreatDoor
open Go.RowKit
def Ya (sizes:List Int) (vol start:Int) (len:Nat):Int :=
 if vol<0∨(sizes.length:Int)≤vol then 7 else if len=0 then 1
 else if start<0∨sizes.getD vol.toNat 0≤start∨sizes.getD vol.toNat 0 - start<len then 2 else 0
end Go.Proofs.YtpcncggjmabnaaaGreatDoor

namespace Go.Proofs.YtpcncggjmabnaaaGreatDoor
open Go.RowKit
def dF (im:List (List nK)) (vol start:Int) (len:Nat):Int:=if xk im≠0 then xk im else Ya (lens im) vol start len
end Go.Proofs.YtpcncggjmabnaaaGreatDoor

namespace Go.Proofs.YtpcncggjmabnaaaGreatDoor
open Go.RowKit
end Go.Proofs.YtpcncggjmabnaaaGreatDoor

namespace Go.Proofs.YtpcncggjmabnaaaGreatDoor
open Go.RowKit
end Go.Proofs.YtpcncggjmabnaaaGreatDoor

namespace Go.Proofs.YtpcncggjmabnaaaGreatDoor
open Go.RowKit
end Go.Proofs.YtpcncggjmabnaaaGreatDoor

namespace Go.Proofs.YtpcncggjmabnaaaGreatDoor
open Go.RowKit
def af8 {α:Type} (e:Int) (l:List α):List α:=if e=0 then l else []
def zeros (n:Int):List nK:=List.replicate n.toNat aaE
def dH (l:List Int):List (List nK):=l.map zeros
end Go.Proofs.YtpcncggjmabnaaaGreatDoor

namespace Go.Proofs.YtpcncggjmabnaaaGreatDoor
open Go.RowKit
theorem Sl.imp {α:Type} {r s:Rep α} {ok:Nat→Prop} {w:World} {a:Option Addr} {n c:Nat} {l:List α} (hz:s.sz=r.sz) (hi:∀ cs x,r.rd ok w cs x→s.rd ok w cs x) (h:Sl r ok w a n c l):Sl s ok w a n c l :=
 ⟨h.len,h.cap,h.bnd,h.nil,h.cells.imp id fun ⟨b,off,e,hb,hl,hc⟩=>⟨b,off,e,hb,hl,fun i x hx=>let ⟨cs,g1,g2⟩:=hc i x hx;⟨cs,by rw [hz];exact g1,hi cs x g2⟩⟩⟩
end Go.Proofs.YtpcncggjmabnaaaGreatDoor

namespace Go.Proofs.YtpcncggjmabnaaaGreatDoor
open Go.RowKit
end Go.Proofs.YtpcncggjmabnaaaGreatDoor

namespace Go.Proofs.YtpcncggjmabnaaaGreatDoor
open Go.RowKit
def aaG (l:List nK) (s:Nat) (d:List nK):List nK:=l.take s++d++l.drop (s+d.length)
def ahP (im:List (List nK)) (x:Wr):List (List nK):=im.set x.1.toNat (aaG (im.getD x.1.toNat []) x.2.1.toNat x.2.2)
def adx (sz:List Int) (x:Wr):Int:=Ya sz x.1 x.2.1 x.2.2.length
def vU (sz:List Int):List Wr→Nat→Int × Int
 |[],_=>(0,0)
 |x :: l,i=>if adx sz x≠0 then (i,adx sz x) else vU sz l (i+1)
def JZ (im:List (List nK)) (l:List Wr):List (List nK):=if xk im≠0 then [] else af8 (vU (lens im) l 0).2 (l.foldl ahP im)
def J3 (im:List (List nK)) (l:List Wr):Int:=if xk im≠0 then 0 else (vU (lens im) l 0).1
def GL (im:List (List nK)) (l:List Wr):Int:=if xk im≠0 then xk im else (vU (lens im) l 0).2
def J4 (w:World) (im:List (List nK)) (l:List Wr):Ending→World→Prop:=fun e w' =>
 ∃ a n c,e=.returned (.tuple #[.slice a n c,.int .i64 (J3 im l),.int .i64 (GL im l)])∧Sl abj (w.heap.size≤·) w' a n c (JZ im l)∧(a=none∨GL im l=0)∧Below w.heap.size w w'
theorem J4.mk {w w':World} {im:List (List nK)} {l:List Wr} {a:Option Addr} {n c:Nat} {i e:Int} (hi:i=J3 im l) (he:e=GL im l) (h:Sl abj (w.heap.size≤·) w' a n c (JZ im l)) (hz:a=none∨GL im l=0) (hB:Below w.heap.size w w') :
  J4 w im l (.returned (.tuple #[.slice a n c,.int .i64 i,.int .i64 e])) w':=⟨a,n,c,by rw [hi,he],h,hz,hB⟩
end Go.Proofs.YtpcncggjmabnaaaGreatDoor

namespace Go.Proofs.YtpcncggjmabnaaaGreatDoor
open Go.RowKit V
end Go.Proofs.YtpcncggjmabnaaaGreatDoor

namespace Go.Proofs.YtpcncggjmabnaaaGreatDoor
open Go.RowKit V
def AZ (f:Nat) (fn:eX):Env:=fun k=>if k=f then some (.code fn) else none
theorem xq {P:Program} {f:Nat} {fn:eX} (h:bD P f fn=true):xR P (AZ f fn):=fun k d hk=>by
 unfold AZ at hk
 split at hk
 ·rename_i e;subst e;cases hk;exact h
 ·cases hk
def Yb (n:Nat):Rep Unit where
 sz:=n
 rd _ _ cs _:=cs.length=n∧∀ u∈cs,u.oneCell'=true
 len h:=h.1
 mono _ h:=h
 live h:=h
 frame _ h:=h
 one h:=h.2
theorem Flat.em (n:Nat):Flat (Yb n):=fun h=>h
theorem NQ {ok:Nat→Prop} {w:World} {sz:Nat} {v:Value} (h:aP ok w (.list sz []) v):∃ a c,v=.slice a 0 c∧Sl (Yb sz) (fun _=>True) w a 0 c []:=by
 obtain ⟨l,hl⟩:∃ l:List PV,l=[]:=⟨_,rfl⟩
 rw [← hl] at h
 cases h with
 |nil _ a=>exact ⟨a,0,rfl,⟨rfl,Nat.le_refl _,Nat.zero_le _,fun _=>rfl,.inl rfl⟩⟩
 |list _ _ b off c cv h1 h2 h3 h4 h6 h7 h8=>subst hl;exact ⟨_,c,rfl,⟨rfl,Nat.zero_le _,h4,(fun e=>by cases e),.inl rfl⟩⟩
--+
theorem af9:y8 Tryz.prog 74 79 8 8 (.agg #[.int .u8 0,.int .u8 0,.int .u8 0,.int .u8 0,.int .u8 0,.int .u8 0,.int .u8 0,.int .u8 0]):=⟨Tryz.underlying74,by kernel_rfl,rfl,by decide⟩
set_option maxHeartbeats 1000000 in
theorem Yc {a:Option Addr} {n c:Nat} {l:List Unit} {ok:Nat→Prop} {w:World} (h:Sl (Yb 8) ok w a n c l) (hn:n≤1000000) :
  Calls Tryz.prog 86 #[.slice a n c] w fun e w'=>∃ a' n' c',e=.returned (.slice a' n' c')∧(jr (Yb 8) 79).rd (w.heap.size≤·) w' [.slice a' n' c'] l∧Below w.heap.size w w':=by
 have heq:=fun (a:Option Addr) (n c:Nat) (w:World)=>Lib.run_eql_slice_nil (P:=Tryz.prog) w 74 79 a n c 0 0 Tryz.underlying74
 cases a with
 |none =>
  have h0:l=[]:=List.eq_nil_of_length_eq_zero (by rw [h.len];have:=h.nil rfl;have:=h.cap;omega)
  have H0:=Lib.hid h0;clear h0
  go_enter Tryz.func86,Tryz.ntmps86
  go_wp2
  go_ret
  refine ⟨_,_,_,rfl,?_,Below.refl _ _⟩
  rw [H0.out]
  exact jr.mk (Own.nil _ _ _ _ _) (fun _=>.inl rfl)
 |some ad =>
  have hs:n≤9223372036854775807:=by have:=Nat.le_trans h.cap h.bnd;unfold maxLen at this;omega
  go_enter Tryz.func86,Tryz.ntmps86
  go_wp2_with (at_builtin;refine sK af9 rfl _ _ rfl rfl (Own.adJ (Yb 8) (ok:=fun _=>False) (Nat.le_refl _)) rfl ((Src.SY (h.below ((Below.refl _ _).alloc (Nat.le_refl _) _))).flat (Flat.em 8)) ?c1 ?c2 ?c3 ?_)
  case c1=>simp;unfold maxLen;omega
  case c2=>simp;omega
  case c3=>simp
  intro v' w1 hown hgrow hat
  obtain ⟨a',n',c',rfl,_⟩:=hown.sl
  go_wp2
  go_ret
  refine ⟨_,_,_,rfl,jr.mk (by simpa using hown) (fun e=>?_),((Below.refl _ _).alloc (Nat.le_refl _) _).grown hgrow (by simp) (fun k hk=>by cases hk;exact Nat.le_refl _)⟩
  subst e
  obtain ⟨xs,h1,_⟩:=hown
  rcases h1.2 with ⟨hv,_⟩|⟨g,cap,cur,hv,_⟩
  ·exact .inl hv
  ·exact .inr ⟨g,cap,by simpa using hv⟩
theorem NR:bD Tryz.prog 86 Z7=true:=by kernel_rfl
theorem GN {en:Env} (hen:en 86=some (.code Z7)) {e:PV} {es:List PV} (hl:(e :: es).length≤lim):cal en 86 [.list 8 (e :: es)]=some [(.list 8 (e :: es),true)]:=by
 have F1:(es.length+1≤lim)=True:=eq_true (by simpa using hl)
 rw [ah hen rfl]
 simp only [Z7]
 simp only [start,aG,aN,aC,aK,aA,aB,aF,aJ,Nat.reduceAdd,Nat.reduceSub]
 simp only [F1,aJ,aY,reduceCtorEq,Nat.reduceEqDiff,Nat.reduceAdd,Nat.reduceLT,Nat.reduceLeDiff,Nat.beq]
theorem NS:∀ args rs,jR 8 args=some rs→callable Tryz.prog 86=true∧mW Tryz.prog 86 args rs:=fun args rs h=>by
 unfold jR at h
 split at h
 case h_2=>cases h
 rename_i sz es
 split at h
 case isFalse=>cases h
 rename_i hc
 obtain ⟨rfl,hl⟩:=hc
 cases h
 cases es with
 |cons e es =>
  obtain ⟨n,hn⟩:=lF (GN (en:=AZ 86 Z7) (if_pos rfl) hl)
  exact rW (xq NR) hn
 |nil =>
  refine ⟨by kernel_rfl,fun T0 w vs h1 h2 h3 h4 _=>?_⟩
  match vs,h3 with
  |[v],_ =>
   have hv:=h4 0 _ v rfl rfl
   obtain ⟨a,c,rfl,hsl⟩:=NQ hv
   refine (Yc (ok:=fun _=>True) hsl (by omega)).mono ?_
   rintro e w' ⟨a',n',c',rfl,hrd,hB⟩
   obtain ⟨v,hv,hb,⟨xs,hown,_⟩,hnil⟩:=hrd
   obtain rfl:Value.slice a' n' c'=v:=by simpa using hv
   rcases hown.2 with ⟨e1,_⟩|⟨g,cap,cur,e1,_,hg,_,hm,hs,_⟩
   ·refine ⟨_,T0,rfl,hB,fun _ _=>rfl,fun b hb=>h2 b (by have:=hB.size;omega),#[_],rfl,rfl,fun i r u hr hu=>?_⟩
    cases i with
    |zero=>cases hr;cases hu;exact .inl ⟨rfl,none,e1⟩
    |succ i=>simp at hr
   ·have hg0:w.heap.size≤g:=hb g (by rw [e1];rfl)
    have hgl:g<w'.heap.size:=(Array.getElem?_eq_some_iff.1 hg).1
    refine ⟨_,fun b=>if b=g then .row (.part 0 0) else T0 b,rfl,hB,fun b hb=>if_neg (by omega),fun b hb=>?_,#[_],rfl,rfl,fun i r u hr hu=>?_⟩
    ·show (if b=g then _ else T0 b)=_
     rw [if_neg (by omega)];exact h2 b (by have:=hB.size;omega)
    ·cases i with
     |zero =>
      cases hr;cases hu
      exact .inr ⟨g,cap,cur,_,e1,if_pos rfl,hg,hs,Nat.zero_le _,hm,(fun e he=>by cases he),fun i e j x hi=>by simp at hi⟩
     |succ i=>simp at hr
--+
theorem aga:y8 Tryz.prog 22 3 1 8 (.int .i64 0):=⟨Tryz.underlying22,by kernel_rfl,rfl,by decide⟩
set_option maxHeartbeats 1000000 in
theorem Yd {a:Option Addr} {n c:Nat} {l:List Unit} {ok:Nat→Prop} {w:World} (h:Sl (Yb 1) ok w a n c l) (hn:n≤1000000) :
  Calls Tryz.prog 39 #[.slice a n c] w fun e w'=>∃ a' n' c',e=.returned (.slice a' n' c')∧(jr (Yb 1) 3).rd (w.heap.size≤·) w' [.slice a' n' c'] l∧Below w.heap.size w w':=by
 have heq:=fun (a:Option Addr) (n c:Nat) (w:World)=>Lib.run_eql_slice_nil (P:=Tryz.prog) w 22 3 a n c 0 0 Tryz.underlying22
 cases a with
 |none =>
  have h0:l=[]:=List.eq_nil_of_length_eq_zero (by rw [h.len];have:=h.nil rfl;have:=h.cap;omega)
  have H0:=Lib.hid h0;clear h0
  go_enter Tryz.func39,Tryz.ntmps39
  go_wp2
  go_ret
  refine ⟨_,_,_,rfl,?_,Below.refl _ _⟩
  rw [H0.out]
  exact jr.mk (Own.nil _ _ _ _ _) (fun _=>.inl rfl)
 |some ad =>
  have hs:n≤9223372036854775807:=by have:=Nat.le_trans h.cap h.bnd;unfold maxLen at this;omega
  go_enter Tryz.func39,Tryz.ntmps39
  go_wp2_with (at_builtin;refine sK aga rfl _ _ rfl rfl (Own.adJ (Yb 1) (ok:=fun _=>False) (Nat.le_refl _)) rfl ((Src.SY (h.below ((Below.refl _ _).alloc (Nat.le_refl _) _))).flat (Flat.em 1)) ?c1 ?c2 ?c3 ?_)
  case c1=>simp;unfold maxLen;omega
  case c2=>simp;omega
  case c3=>simp
  intro v' w1 hown hgrow hat
  obtain ⟨a',n',c',rfl,_⟩:=hown.sl
  go_wp2
  go_ret
  refine ⟨_,_,_,rfl,jr.mk (by simpa using hown) (fun e=>?_),((Below.refl _ _).alloc (Nat.le_refl _) _).grown hgrow (by simp) (fun k hk=>by cases hk;exact Nat.le_refl _)⟩
  subst e
  obtain ⟨xs,h1,_⟩:=hown
  rcases h1.2 with ⟨hv,_⟩|⟨g,cap,cur,hv,_⟩
  ·exact .inl hv
  ·exact .inr ⟨g,cap,by simpa using hv⟩
theorem NT:bD Tryz.prog 39 ZQ=true:=by kernel_rfl
theorem GR {en:Env} (hen:en 39=some (.code ZQ)) {e:PV} {es:List PV} (hl:(e :: es).length≤lim):cal en 39 [.list 1 (e :: es)]=some [(.list 1 (e :: es),true)]:=by
 have F1:(es.length+1≤lim)=True:=eq_true (by simpa using hl)
 rw [ah hen rfl]
 simp only [ZQ]
 simp only [start,aG,aN,aC,aK,aA,aB,aF,aJ,Nat.reduceAdd,Nat.reduceSub]
 simp only [F1,aJ,aY,reduceCtorEq,Nat.reduceEqDiff,Nat.reduceAdd,Nat.reduceLT,Nat.reduceLeDiff,Nat.beq]
theorem NU:∀ args rs,jR 1 args=some rs→callable Tryz.prog 39=true∧mW Tryz.prog 39 args rs:=fun args rs h=>by
 unfold jR at h
 split at h
 case h_2=>cases h
 rename_i sz es
 split at h
 case isFalse=>cases h
 rename_i hc
 obtain ⟨rfl,hl⟩:=hc
 cases h
 cases es with
 |cons e es =>
  obtain ⟨n,hn⟩:=lF (GR (en:=AZ 39 ZQ) (if_pos rfl) hl)
  exact rW (xq NT) hn
 |nil =>
  refine ⟨by kernel_rfl,fun T0 w vs h1 h2 h3 h4 _=>?_⟩
  match vs,h3 with
  |[v],_ =>
   have hv:=h4 0 _ v rfl rfl
   obtain ⟨a,c,rfl,hsl⟩:=NQ hv
   refine (Yd (ok:=fun _=>True) hsl (by omega)).mono ?_
   rintro e w' ⟨a',n',c',rfl,hrd,hB⟩
   obtain ⟨v,hv,hb,⟨xs,hown,_⟩,hnil⟩:=hrd
   obtain rfl:Value.slice a' n' c'=v:=by simpa using hv
   rcases hown.2 with ⟨e1,_⟩|⟨g,cap,cur,e1,_,hg,_,hm,hs,_⟩
   ·refine ⟨_,T0,rfl,hB,fun _ _=>rfl,fun b hb=>h2 b (by have:=hB.size;omega),#[_],rfl,rfl,fun i r u hr hu=>?_⟩
    cases i with
    |zero=>cases hr;cases hu;exact .inl ⟨rfl,none,e1⟩
    |succ i=>simp at hr
   ·have hg0:w.heap.size≤g:=hb g (by rw [e1];rfl)
    have hgl:g<w'.heap.size:=(Array.getElem?_eq_some_iff.1 hg).1
    refine ⟨_,fun b=>if b=g then .row (.part 0 0) else T0 b,rfl,hB,fun b hb=>if_neg (by omega),fun b hb=>?_,#[_],rfl,rfl,fun i r u hr hu=>?_⟩
    ·show (if b=g then _ else T0 b)=_
     rw [if_neg (by omega)];exact h2 b (by have:=hB.size;omega)
    ·cases i with
     |zero =>
      cases hr;cases hu
      exact .inr ⟨g,cap,cur,_,e1,if_pos rfl,hg,hs,Nat.zero_le _,hm,(fun e he=>by cases he),fun i e j x hi=>by simp at hi⟩
     |succ i=>simp at hr
--+
theorem agb:y8 Tryz.prog 91 134 1 8 (.int .u64 0):=⟨Tryz.underlying91,by kernel_rfl,rfl,by decide⟩
set_option maxHeartbeats 1000000 in
theorem Ye {a:Option Addr} {n c:Nat} {l:List Unit} {ok:Nat→Prop} {w:World} (h:Sl (Yb 1) ok w a n c l) (hn:n≤1000000) :
  Calls Tryz.prog 80 #[.slice a n c] w fun e w'=>∃ a' n' c',e=.returned (.slice a' n' c')∧(jr (Yb 1) 134).rd (w.heap.size≤·) w' [.slice a' n' c'] l∧Below w.heap.size w w':=by
 have heq:=fun (a:Option Addr) (n c:Nat) (w:World)=>Lib.run_eql_slice_nil (P:=Tryz.prog) w 91 134 a n c 0 0 Tryz.underlying91
 cases a with
 |none =>
  have h0:l=[]:=List.eq_nil_of_length_eq_zero (by rw [h.len];have:=h.nil rfl;have:=h.cap;omega)
  have H0:=Lib.hid h0;clear h0
  go_enter Tryz.func80,Tryz.ntmps80
  go_wp2
  go_ret
  refine ⟨_,_,_,rfl,?_,Below.refl _ _⟩
  rw [H0.out]
  exact jr.mk (Own.nil _ _ _ _ _) (fun _=>.inl rfl)
 |some ad =>
  have hs:n≤9223372036854775807:=by have:=Nat.le_trans h.cap h.bnd;unfold maxLen at this;omega
  go_enter Tryz.func80,Tryz.ntmps80
  go_wp2_with (at_builtin;refine sK agb rfl _ _ rfl rfl (Own.adJ (Yb 1) (ok:=fun _=>False) (Nat.le_refl _)) rfl ((Src.SY (h.below ((Below.refl _ _).alloc (Nat.le_refl _) _))).flat (Flat.em 1)) ?c1 ?c2 ?c3 ?_)
  case c1=>simp;unfold maxLen;omega
  case c2=>simp;omega
  case c3=>simp
  intro v' w1 hown hgrow hat
  obtain ⟨a',n',c',rfl,_⟩:=hown.sl
  go_wp2
  go_ret
  refine ⟨_,_,_,rfl,jr.mk (by simpa using hown) (fun e=>?_),((Below.refl _ _).alloc (Nat.le_refl _) _).grown hgrow (by simp) (fun k hk=>by cases hk;exact Nat.le_refl _)⟩
  subst e
  obtain ⟨xs,h1,_⟩:=hown
  rcases h1.2 with ⟨hv,_⟩|⟨g,cap,cur,hv,_⟩
  ·exact .inl hv
  ·exact .inr ⟨g,cap,by simpa using hv⟩
theorem NV:bD Tryz.prog 80 Z5=true:=by kernel_rfl
theorem GU {en:Env} (hen:en 80=some (.code Z5)) {e:PV} {es:List PV} (hl:(e :: es).length≤lim):cal en 80 [.list 1 (e :: es)]=some [(.list 1 (e :: es),true)]:=by
 have F1:(es.length+1≤lim)=True:=eq_true (by simpa using hl)
 rw [ah hen rfl]
 simp only [Z5]
 simp only [start,aG,aN,aC,aK,aA,aB,aF,aJ,Nat.reduceAdd,Nat.reduceSub]
 simp only [F1,aJ,aY,reduceCtorEq,Nat.reduceEqDiff,Nat.reduceAdd,Nat.reduceLT,Nat.reduceLeDiff,Nat.beq]
theorem NW:∀ args rs,jR 1 args=some rs→callable Tryz.prog 80=true∧mW Tryz.prog 80 args rs:=fun args rs h=>by
 unfold jR at h
 split at h
 case h_2=>cases h
 rename_i sz es
 split at h
 case isFalse=>cases h
 rename_i hc
 obtain ⟨rfl,hl⟩:=hc
 cases h
 cases es with
 |cons e es =>
  obtain ⟨n,hn⟩:=lF (GU (en:=AZ 80 Z5) (if_pos rfl) hl)
  exact rW (xq NV) hn
 |nil =>
  refine ⟨by kernel_rfl,fun T0 w vs h1 h2 h3 h4 _=>?_⟩
  match vs,h3 with
  |[v],_ =>
   have hv:=h4 0 _ v rfl rfl
   obtain ⟨a,c,rfl,hsl⟩:=NQ hv
   refine (Ye (ok:=fun _=>True) hsl (by omega)).mono ?_
   rintro e w' ⟨a',n',c',rfl,hrd,hB⟩
   obtain ⟨v,hv,hb,⟨xs,hown,_⟩,hnil⟩:=hrd
   obtain rfl:Value.slice a' n' c'=v:=by simpa using hv
   rcases hown.2 with ⟨e1,_⟩|⟨g,cap,cur,e1,_,hg,_,hm,hs,_⟩
   ·refine ⟨_,T0,rfl,hB,fun _ _=>rfl,fun b hb=>h2 b (by have:=hB.size;omega),#[_],rfl,rfl,fun i r u hr hu=>?_⟩
    cases i with
    |zero=>cases hr;cases hu;exact .inl ⟨rfl,none,e1⟩
    |succ i=>simp at hr
   ·have hg0:w.heap.size≤g:=hb g (by rw [e1];rfl)
    have hgl:g<w'.heap.size:=(Array.getElem?_eq_some_iff.1 hg).1
    refine ⟨_,fun b=>if b=g then .row (.part 0 0) else T0 b,rfl,hB,fun b hb=>if_neg (by omega),fun b hb=>?_,#[_],rfl,rfl,fun i r u hr hu=>?_⟩
    ·show (if b=g then _ else T0 b)=_
     rw [if_neg (by omega)];exact h2 b (by have:=hB.size;omega)
    ·cases i with
     |zero =>
      cases hr;cases hu
      exact .inr ⟨g,cap,cur,_,e1,if_pos rfl,hg,hs,Nat.zero_le _,hm,(fun e he=>by cases he),fun i e j x hi=>by simp at hi⟩
     |succ i=>simp at hr
end Go.Proofs.YtpcncggjmabnaaaGreatDoor

namespace Go.Proofs.YtpcncggjmabnaaaGreatDoor
open Go.RowKit
def Yf (w w':World) (b:Nat):Prop:=w.heap.size≤w'.heap.size∧w'.os=w.os∧w'.tape=w.tape∧w'.output=w.output∧∀ c,c<w.heap.size→c≠b→w'.heap[c]?=w.heap[c]?
theorem Yf.alloc (w:World) (b:Nat) (o:Obj):Yf w (w.alloc o) b:=⟨by simp,rfl,rfl,rfl,fun c hc _=>Below.heap_alloc _ _ _ hc⟩
theorem Yf.set {w w':World} {b:Nat} (h:Yf w w' b) (k:Nat) (v:Value):Yf w (w'.setCell ⟨b,k,none⟩ v) b :=
 ⟨by simpa [World.setCell] using h.1,h.2.1,h.2.2.1,h.2.2.2.1,fun c hc hne=>by
  rw [← h.2.2.2.2 c hc hne]
  exact Below.heap_setCell w' _ v c fun e=>hne e⟩
end Go.Proofs.YtpcncggjmabnaaaGreatDoor
