/-
  Part 5 of the texts that the statement stands on.
-/
import Derived.Test.YtpcncggjmabnaaaGreatDoorZ4
set_option linter.all false
namespace Go.Proofs.YtpcncggjmabnaaaGreatDoor.V
def ckC (z:List Int) (b n t:Int) (p:List Int) (w:List bP):Int:=if aP z=0 then (if Dj b n t p=0 then uN (bn z) none w else Dj b n t p) else aP z
theorem UH {z:List Int} {b n t:Int} {p:List Int} {w:List bP} (hz:z.length≤lim) (hl:w.length≤lim) (hd:∀ x∈w,x.data.length≤lim) (hp:p.length≤20) :
  cal env 42 [Zd b n t p w,.list 1 (z.map eI)]=some [(.int .i64 (ckC z b n t p w),false)]:=by
 have e1:=VW hz
 by_cases cz:aP z=0
 rotate_left
 ·rw [if_neg cz] at e1
  have Z:(aP z != 0)=true:=by simp [cz]
  unfold Zd ckC
  rw [if_neg cz]
  rw [ah Qk rfl];simp only [KI];simp only [start,aN,aT,aJ,aS,aG,aH,aK,aQ,Nat.reduceAdd,Nat.reduceSub]
  simp only [e1,Z,bK,reduceCtorEq,Nat.reduceEqDiff,Nat.reduceAdd,Nat.reduceLT,Nat.reduceLeDiff,Nat.beq]
 rw [cz,if_pos rfl] at e1
 have e4:=ajO hz hl hd
 rw [wkE,if_pos cz] at e4
 have hk:ckC z b n t p w=if Dj b n t p=0 then uN (bn z) none w else Dj b n t p:=if_pos cz
 rw [hk]
 clear hk
 generalize uN (bn z) none w=E at *
 have e2:=ac4 (n:=t) (a:=0) (b:=1073741824)
 have e3:=amy hp
 have Z:((0:Int) != 0)=false:=rfl
 unfold Zd Dj
 by_cases c1:b<0∨n≤b∨n > 1073741824
 ·rw [if_pos c1,if_neg (by decide)]
  rw [ah Qk rfl];simp only [KI];simp only [start,aN,aT,aJ,aS,aG,aH,aK,aQ,Nat.reduceAdd,Nat.reduceSub]
  simp only [e1,Z,bK,reduceCtorEq,Nat.reduceEqDiff,Nat.reduceAdd,Nat.reduceLT,Nat.reduceLeDiff,Nat.beq]
  by_cases d1:b<0
  ·simp only [eq_true d1,bK,reduceCtorEq,Nat.reduceEqDiff,Nat.reduceAdd,Nat.reduceLT,Nat.reduceLeDiff,Nat.beq]
  ·have d1:=eq_false d1
   by_cases d2:n≤b
   ·simp only [d1,eq_true d2,bK,reduceCtorEq,Nat.reduceEqDiff,Nat.reduceAdd,Nat.reduceLT,Nat.reduceLeDiff,Nat.beq]
   ·have d3:n > 1073741824:=by simp only [d1,false_or] at c1;omega
    simp only [d1,eq_false d2,eq_true d3,bK,reduceCtorEq,Nat.reduceEqDiff,Nat.reduceAdd,Nat.reduceLT,Nat.reduceLeDiff,Nat.beq]
 ·rw [if_neg c1]
  have G1:(b<0)=False:=eq_false (by omega)
  have G2:(n≤b)=False:=eq_false (by omega)
  have G3:(n > 1073741824)=False:=eq_false (by omega)
  by_cases c2:t<0∨t > 1073741824
  ·rw [if_pos c2,if_neg (by decide)]
   have G4:(decide ((0:Int)≤t)&&decide (t≤1073741824))=false:=by simp;omega
   rw [G4] at e2
   rw [ah Qk rfl];simp only [KI];simp only [start,aN,aT,aJ,aS,aG,aH,aK,aQ,Nat.reduceAdd,Nat.reduceSub]
   simp only [e1,e2,G1,G2,G3,Z,bK,reduceCtorEq,Nat.reduceEqDiff,Nat.reduceAdd,Nat.reduceLT,Nat.reduceLeDiff,Nat.beq]
  ·rw [if_neg c2]
   have G4:(decide ((0:Int)≤t)&&decide (t≤1073741824))=true:=by simp;omega
   rw [G4] at e2
   by_cases c3:ac5 p=0
   ·rw [c3] at e3
    rw [c3,if_pos rfl]
    rw [ah Qk rfl];simp only [KI];simp only [start,aN,aT,aJ,aS,aG,aH,aK,aQ,Nat.reduceAdd,Nat.reduceSub]
    simp only [e1,e2,e3,e4,G1,G2,G3,Z,bK,reduceCtorEq,Nat.reduceEqDiff,Nat.reduceAdd,Nat.reduceLT,Nat.reduceLeDiff,Nat.beq]
   ·have G5:(ac5 p != 0)=true:=by simp [c3]
    rw [if_neg c3]
    rw [ah Qk rfl];simp only [KI];simp only [start,aN,aT,aJ,aS,aG,aH,aK,aQ,Nat.reduceAdd,Nat.reduceSub]
    simp only [e1,e2,e3,G1,G2,G3,G5,Z,bK,reduceCtorEq,Nat.reduceEqDiff,Nat.reduceAdd,Nat.reduceLT,Nat.reduceLeDiff,Nat.beq]
end Go.Proofs.YtpcncggjmabnaaaGreatDoor.V

namespace Go.Proofs.YtpcncggjmabnaaaGreatDoor.V
end Go.Proofs.YtpcncggjmabnaaaGreatDoor.V

namespace Go.Proofs.YtpcncggjmabnaaaGreatDoor.V
end Go.Proofs.YtpcncggjmabnaaaGreatDoor.V

namespace Go.Proofs.YtpcncggjmabnaaaGreatDoor.V
end Go.Proofs.YtpcncggjmabnaaaGreatDoor.V

namespace Go.Proofs.YtpcncggjmabnaaaGreatDoor.V
structure kJ where
 lm:Int
 sz:List Int
 cy:List jk
 ov:Bool
 fs:Int
 ls:Int
 dt:List Bm
def kK (s:kJ):PV:=.agg [.int .i64 s.lm,.list 1 (s.sz.map eI),.list 5 (s.cy.map eP),.bool s.ov,.int .i64 s.fs,.int .i64 s.ls,.list 2 (s.dt.map iW)]
theorem bW (s:kJ):kK s=.agg [.int .i64 s.lm,.list 1 (s.sz.map eI),.list 5 (s.cy.map eP),.bool s.ov,.int .i64 s.fs,.int .i64 s.ls,.list 2 (s.dt.map iW)]:=rfl
def Qy:kJ:=⟨0,[],[],false,0,0,[]⟩
theorem kE:kK Qy=.agg [.int .i64 0,.list 1 [],.list 5 [],.bool false,.int .i64 0,.int .i64 0,.list 2 []]:=rfl
theorem ac7 (n:Int) (z:List Int):kK ⟨n,z,[],false,0,0,[]⟩=.agg [.int .i64 n,.list 1 (z.map eI),.list 5 [],.bool false,.int .i64 0,.int .i64 0,.list 2 []]:=rfl
theorem dh (a b c d e f g:PV):part [a,b,c,d,e,f,g] 0 (some 7)=some (.agg [a,b,c,d,e,f,g]):=rfl
theorem iq (a b c d e:PV):part [a,b,c,d,e] 0 (some 5)=some (.agg [a,b,c,d,e]):=rfl
theorem sN (a b:PV):part [a,b] 0 (some 2)=some (.agg [a,b]):=rfl
theorem UJ {es:List PV} (hl:es.length≤lim):cal env 39 [.list 1 es]=some [(.list 1 es,true)]:=(xq alT).trans (if_pos ⟨rfl,hl⟩)
def Jg (z:List Int) (n:Int):Int:=if aP z=0 then (if n<1∨n > 1024 then 2 else 0) else aP z
def agF (z:List Int) (n:Int):kJ:=if Jg z n=0 then ⟨n,z,[],false,0,0,[]⟩ else Qy
theorem amA {z:List Int} {n:Int} (hz:z.length≤lim):cal env 11 [.list 1 (z.map eI),.int .i64 n]=some [(kK (agF z n),false),(.int .i64 (Jg z n),false)]:=by
 have e1:=VW hz
 have e2:=UJ (es:=z.map eI) (by rw [List.length_map];exact hz)
 unfold agF Jg
 by_cases c:aP z=0
 ·rw [c,if_pos rfl] at e1
  rw [if_pos c]
  have Z:((0:Int) != 0)=false:=rfl
  by_cases c1:n<1
  ·have F1:=eq_true c1
   rw [if_pos (Or.inl c1:n<1∨n > 1024),if_neg (by decide),kE]
   rw [ah VT rfl];simp only [Py,aB,Nat.reduceBEq,Nat.reduceLeDiff,Nat.reduceAdd,List.length_cons,List.length_nil]
   simp only [e1,Z,F1,dh,ak,Nat.reduceMul,Nat.reduceBEq,Nat.reduceLT,Nat.reduceLeDiff,reduceCtorEq,Nat.reduceEqDiff,Nat.reduceAdd,Nat.beq]
  ·have F1:=eq_false c1
   by_cases c2:n > 1024
   ·have F2:=eq_true c2
    rw [if_pos (Or.inr c2:n<1∨n > 1024),if_neg (by decide),kE]
    rw [ah VT rfl];simp only [Py,aB,Nat.reduceBEq,Nat.reduceLeDiff,Nat.reduceAdd,List.length_cons,List.length_nil]
    simp only [e1,Z,F1,F2,dh,ak,Nat.reduceMul,Nat.reduceBEq,Nat.reduceLT,Nat.reduceLeDiff,reduceCtorEq,Nat.reduceEqDiff,Nat.reduceAdd,Nat.beq]
   ·have F2:=eq_false c2
    rw [if_neg (show ¬ (n<1∨n > 1024) by omega),if_pos rfl,ac7]
    rw [ah VT rfl];simp only [Py,aB,Nat.reduceBEq,Nat.reduceLeDiff,Nat.reduceAdd,List.length_cons,List.length_nil]
    simp only [e1,e2,Z,F1,F2,dh,ak,Nat.reduceMul,Nat.reduceBEq,Nat.reduceLT,Nat.reduceLeDiff,reduceCtorEq,Nat.reduceEqDiff,Nat.reduceAdd,Nat.beq]
 ·rw [if_neg c] at e1
  rw [if_neg c,if_neg c,kE]
  have Z:(aP z != 0)=true:=by simp [c]
  rw [ah VT rfl];simp only [Py,aB,Nat.reduceBEq,Nat.reduceLeDiff,Nat.reduceAdd,List.length_cons,List.length_nil]
  simp only [e1,Z,dh,ak,Nat.reduceMul,Nat.reduceBEq,Nat.reduceLT,Nat.reduceLeDiff,reduceCtorEq,Nat.reduceEqDiff,Nat.reduceAdd,Nat.beq]
theorem ajP {z:List Int} (hz:z.length≤1000) (hs:∀ x∈z,1≤x∧x≤4096) {st:St} (h:st.head [0,5,6,25] st.boxes.length=some ⟨sl 27 [(0,.pv (.list 1 (z.map eI))),(5,.row 1 ((bn (z.take ((0:Nat)))).map aX)),(6,.pv (.int .i64 (0:Nat))),(25,.any)],[],[],none⟩) :
  den env KF st=some (.normal,⟨sl 27 [(2,.any),(3,.any),(5,.row 1 ((bn z).map aX))],[],[],none⟩):=by
 unfold KF
 refine bC (env:=env) (z.length) (fun i=>⟨sl 27 [(0,.pv (.list 1 (z.map eI))),(5,.row 1 ((bn (z.take (i))).map aX)),(6,.pv (.int .i64 i)),(25,.any)],[],[],none⟩) (fun i=>some (.normal,⟨sl 27 [(2,.any),(3,.any),(5,.row 1 ((bn z).map aX))],[],[],none⟩)) h (fun _=>rfl) (fun _=>by simp only [aB,bg,Nat.reduceMul,Nat.reduceBEq,Nat.reduceLT,Nat.reduceLeDiff,Nat.reduceAdd,decide_true,Bool.and_self,Bool.true_and]) ?_ ?_
 ·intro i rb hi ih
  have hi1:=bG hi (by unfold lim;omega)
  have F1:((i:Int)<(z.length:Int))=True:=eq_true (by omega)
  have q:=hs _ (List.getElem_mem hi)
  have F2:(0≤z[i])=True:=eq_true (by omega)
  have F3:(z[i]≤z[i])=True:=eq_true (Int.le_refl _)
  have F4:(z[i]≤(lim:Int))=True:=eq_true (by unfold lim;omega)
  have hx:(z.map eI)[i]?=some (.int .i64 z[i]):=by rw [List.getElem?_map,List.getElem?_eq_getElem hi];rfl
  have F5:(((bn (z.take i)).map aX).length+1≤lim)=True:=eq_true (by rw [List.length_map,iV,List.length_take];unfold lim;omega)
  have hs2:(bn (z.take (i+1))).map aX=(bn (z.take i)).map aX++[.list 8 (List.replicate z[i].toNat (.agg [.int .u8 0,.int .u8 0,.int .u8 0,.int .u8 0,.int .u8 0,.int .u8 0,.int .u8 0,.int .u8 0]))]:=by
   rw [List.take_succ_eq_append_getElem hi]
   unfold bn
   rw [List.map_append,List.map_append]
   congr 1
   simp only [List.map_cons,List.map_nil,aX,List.map_replicate]
   rfl
  rw [hs2] at ih
  simp only [KE,F1,F2,F3,F4,F5,hx,au hi,List.length_map,ak,Nat.reduceMul,Nat.reduceBEq,Nat.reduceLT,Nat.reduceLeDiff,reduceCtorEq,Nat.reduceEqDiff,Nat.reduceAdd,Nat.beq] at *
  simp only [F5,ak,Nat.reduceMul,Nat.reduceBEq,Nat.reduceLT,Nat.reduceLeDiff,reduceCtorEq,Nat.reduceEqDiff,Nat.reduceAdd,Nat.beq]
  rw [ih _ (by simp only [hi1,ak,Nat.reduceMul,Nat.reduceBEq,Nat.reduceLT,Nat.reduceLeDiff,reduceCtorEq,Nat.reduceEqDiff,Nat.reduceAdd,Nat.beq]<;>rfl)]
 ·intro rb
  rw [List.take_length]
  simp only [KE,Int.lt_irrefl,List.length_map,ak,Nat.reduceMul,Nat.reduceBEq,Nat.reduceLT,Nat.reduceLeDiff,reduceCtorEq,Nat.reduceEqDiff,Nat.reduceAdd,Nat.beq]
theorem amB {z:List Int} (hz:z.length≤1000):cal env 31 [.list 1 (z.map eI)]=some [(.list 1 ((if aP z=0 then bn z else []).map aX),true),(.int .i64 (aP z),false)]:=by
 have e1:=ahS (l:=z) (by unfold lim;omega)
 by_cases c:aP z=0
 ·have hs:∀ x∈z,1≤x∧x≤4096:=by
   intro x hx
   have h:=c
   unfold aP at h
   split at h
   ·omega
   ·split at h
    ·omega
    ·rename_i h2
     simp only [List.any_eq_true,not_exists,not_and,Bool.not_eq_true] at h2
     have:=h2 x hx
     simp at this
     omega
  rw [c] at e1
  rw [if_pos c,c]
  have Z:((0:Int) != 0)=false:=rfl
  rw [ah ahF rfl];simp only [YH,aB,Nat.reduceBEq,Nat.reduceLeDiff,Nat.reduceAdd,List.length_cons,List.length_nil]
  simp only [e1,Z,ak,Nat.reduceMul,Nat.reduceBEq,Nat.reduceLT,Nat.reduceLeDiff,reduceCtorEq,Nat.reduceEqDiff,Nat.reduceAdd,Nat.beq]
  rw [ajP hz hs (by simp only [aB,bg,Nat.reduceMul,Nat.reduceBEq,Nat.reduceLT,Nat.reduceLeDiff,Nat.reduceAdd,decide_true,Bool.and_self,Bool.true_and]<;>rfl)]
  simp only [e1,Z,ak,Nat.reduceMul,Nat.reduceBEq,Nat.reduceLT,Nat.reduceLeDiff,reduceCtorEq,Nat.reduceEqDiff,Nat.reduceAdd,Nat.beq]
 ·rw [if_neg c]
  have Z:(aP z != 0)=true:=by simp [c]
  rw [ah ahF rfl];simp only [YH,aB,Nat.reduceBEq,Nat.reduceLeDiff,Nat.reduceAdd,List.length_cons,List.length_nil]
  simp only [e1,Z,ak,Nat.reduceMul,Nat.reduceBEq,Nat.reduceLT,Nat.reduceLeDiff,reduceCtorEq,Nat.reduceEqDiff,Nat.reduceAdd,Nat.beq]
end Go.Proofs.YtpcncggjmabnaaaGreatDoor.V
