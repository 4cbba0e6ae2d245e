/-
  Part 9 of the texts that the statement stands on.
-/
import Derived.Test.YtpcncggjmabnaaaGreatDoorZ8
set_option linter.all false
namespace Go.Proofs.YtpcncggjmabnaaaGreatDoor.V
theorem amV {c:jk} {s:kJ} (hc:Bf c) (hw:ny s.sz c.ws) (hz:s.sz.length≤1000) (hd:Wu s.sz s.dt):OT env 79 (.own (ag2 s)) [eP c,.dR [.func 75 []] 0]=some ([(kK { s with dt:=Gz c.ws s.dt },false),(.int .i64 0,false)],none):=by
 have e1:=ah2 (z:=s.sz) (cs:=[c]) (s:=s) (fun x hx=>by rw [List.mem_singleton.1 hx];exact ⟨hc,hw⟩) hz hd (by simp)
 rw [show zX s.dt [c]=Gz c.ws s.dt from rfl,qY,show [c].map eP=[eP c] from rfl,jU] at e1
 rw [xk amd rfl,qY,jU,bW]
 rw [bW] at e1
 simp only [ab4,aB,Nat.reduceBEq,Nat.reduceLeDiff,Nat.reduceAdd,List.length_cons,List.length_nil]
 simp only [e1,iq,dh,List.length_map,ak,Nat.reduceMul,Nat.reduceBEq,Nat.reduceLT,Nat.reduceLeDiff,reduceCtorEq,Nat.reduceEqDiff,Nat.reduceAdd,Nat.beq]
theorem akl {z:List Int} {dt:List Bm} (hz:z.length≤1000) (hd:dt.length≤1000) (hs:∀ x∈z,1≤x∧x≤4096) {x0 x2 x3 x4 x5:BV} {A2:PV} {c:jk} {st:St} (h:st.head [2,3,4,5,27,28,29] st.boxes.length=some ⟨sl 62 [(2,.pv A2),(3,.aI 0 0),(4,.aI 1 0),(5,.aI 2 0),(27,.ref (.cell 0 1) 0 z.length),(28,.pv (.int .i64 z.length)),(29,.pv (.int .i64 (0:Nat)))],[⟨false,[x0,.row 1 (z.map eI),x2,x3,x4,x5,.row 2 ((dt++(z.take ((0:Nat))).map og).map iW)]⟩,⟨false,rP c⟩,⟨false,Ho⟩],[],none⟩) :
  den env LV st=some (.normal,⟨sl 62 [(2,.pv A2),(3,.aI 0 0),(4,.aI 1 0),(5,.aI 2 0),(6,.any)],[⟨false,[x0,.row 1 (z.map eI),x2,x3,x4,x5,.row 2 ((dt++z.map og).map iW)]⟩,⟨false,rP c⟩,⟨false,Ho⟩],[],none⟩):=by
 unfold LV
 refine bC (env:=env) (nb:=3) (z.length) (fun i=>⟨sl 62 [(2,.pv A2),(3,.aI 0 0),(4,.aI 1 0),(5,.aI 2 0),(27,.ref (.cell 0 1) 0 z.length),(28,.pv (.int .i64 z.length)),(29,.pv (.int .i64 i))],[⟨false,[x0,.row 1 (z.map eI),x2,x3,x4,x5,.row 2 ((dt++(z.take (i)).map og).map iW)]⟩,⟨false,rP c⟩,⟨false,Ho⟩],[],none⟩) (fun i=>some (.normal,⟨sl 62 [(2,.pv A2),(3,.aI 0 0),(4,.aI 1 0),(5,.aI 2 0),(6,.any)],[⟨false,[x0,.row 1 (z.map eI),x2,x3,x4,x5,.row 2 ((dt++z.map og).map iW)]⟩,⟨false,rP c⟩,⟨false,Ho⟩],[],none⟩)) h (fun _=>rfl) (fun _=>by simp only [aB,bg,Nat.reduceMul,Nat.reduceBEq,Nat.reduceLT,Nat.reduceLeDiff,Nat.reduceAdd,decide_true,Bool.and_self,Bool.true_and]) ?_ ?_
 ·intro i rb hi ih
  have hi1:=bG hi (by unfold lim;omega)
  have F1:((i:Int)<(z.length:Int))=True:=eq_true (by omega)
  have hx:=MI hi
  have q:=hs _ (List.getElem_mem hi)
  have e1:=amR (n:=z[i])
  rw [show newE z[i]=0 by unfold newE;rw [if_neg (by omega)],show iW (og z[i])=.agg [.int .i64 (og z[i]).size,.list 1 ((og z[i]).ws.map eW)] from rfl] at e1
  have Z:((0:Int) != 0)=false:=rfl
  have F5:((dt++(z.take i).map og).length+1≤lim)=True:=eq_true (by rw [List.length_append,List.length_map,List.length_take];unfold lim;omega)
  have hh:(dt++(z.take (i+1)).map og).map iW=(dt++(z.take i).map og).map iW++[.agg [.int .i64 (og z[i]).size,.list 1 ((og z[i]).ws.map eW)]]:=by
   rw [List.take_succ_eq_append_getElem hi,List.map_append (f:=og),← List.append_assoc,List.map_append (f:=iW) (l₂:=[z[i]].map og)];rfl
  rw [hh] at ih
  simp only [LU,F1,F5,e1,Z,hx,sN,dL,eU,au hi,List.length_map,ak,Nat.reduceMul,Nat.reduceBEq,Nat.reduceLT,Nat.reduceLeDiff,reduceCtorEq,Nat.reduceEqDiff,Nat.reduceAdd,Nat.beq]
  rw [ih _ (by simp only [hi1,dL,eU,ak,Nat.reduceMul,Nat.reduceBEq,Nat.reduceLT,Nat.reduceLeDiff,reduceCtorEq,Nat.reduceEqDiff,Nat.reduceAdd,Nat.beq]<;>rfl)]
  rfl
 ·intro rb
  rw [List.take_length]
  simp only [LU,Int.lt_irrefl,dL,eU,List.length_map,ak,Nat.reduceMul,Nat.reduceBEq,Nat.reduceLT,Nat.reduceLeDiff,reduceCtorEq,Nat.reduceEqDiff,Nat.reduceAdd,Nat.beq]
theorem adL {z:List Int} (hs:∀ x∈z,1≤x∧x≤4096):Wu z (z.map og):=by
 refine ⟨by rw [List.length_map],fun v h=>?_⟩
 have hv:v<z.length:=by rw [List.length_map] at h;exact h
 have q:=hs _ (List.getElem_mem hv)
 have e1:(z.map og)[v]=og ((z[v].toNat:Nat):Int):=by rw [List.getElem_map];congr 1;omega
 obtain ⟨k1,k2,k3,k4⟩:=aj2 (n:=z[v].toNat) (by omega)
 rw [e1]
 refine ⟨k2,k3.trans ?_⟩
 rw [List.getD_eq_getElem?_getD,List.getElem?_eq_getElem hv]
 show _=z[v]
 omega
def UW (s:kJ) (c:jk):kJ:=if (s.cy.length:Int)<s.lm then { s with cy:=s.cy++[c] } else { s with cy:=[],ov:=true,dt:=zX (s.sz.map og) (s.cy++[c]) }
theorem amW {c:jk} {s:kJ} (hq:Hl s) (hc:Bf c) (hs:∀ x∈s.sz,1≤x∧x≤4096) (hd0:s.dt=[]) (hw:∀ x∈s.cy++[c],ny s.sz x.ws):OT env 77 (.own (ag2 s)) [eP c,.dR [.func 75 []] 0]=some ([(kK (UW s c),false),(.int .i64 0,false)],none):=by
 have hcy:=hq.cy
 have e2:=V7 hc
 have akm:(s.cy++[c]).map eP=s.cy.map eP++[eP c]:=by rw [List.map_append];rfl
 have F5:(s.cy.length+1≤lim)=True:=eq_true (by unfold lim;omega)
 unfold UW
 rw [xk amc rfl]
 rw [jU] at e2 akm ⊢
 by_cases k:(s.cy.length:Int)<s.lm
 ·have G:=eq_true k
  rw [if_pos k,bW,qY,akm]
  simp only [YQ,aB,Nat.reduceBEq,Nat.reduceLeDiff,Nat.reduceAdd,List.length_cons,List.length_nil]
  simp only [e2,G,F5,iq,dh,dL,List.length_map,ak,Nat.reduceMul,Nat.reduceBEq,Nat.reduceLT,Nat.reduceLeDiff,reduceCtorEq,Nat.reduceEqDiff,Nat.reduceAdd,Nat.beq]
 ·have G:=eq_false k
  have e3:=ah2 (z:=s.sz) (cs:=s.cy++[c]) (s:={ s with cy:=[],ov:=true,dt:=s.sz.map og }) (fun x hx=>⟨by
   rcases List.mem_append.1 hx with h|h
   ·exact hq.c1 x h
   ·rw [List.mem_singleton.1 h];exact hc,hw x hx⟩) hq.sz (adL hs) (by simp;omega)
  rw [qY,bW] at e3
  rw [if_neg k,bW,qY]
  rw [akm] at e3
  simp only [List.map_nil] at e3 ⊢
  simp only [YQ,aB,Nat.reduceBEq,Nat.reduceLeDiff,Nat.reduceAdd,List.length_cons,List.length_nil]
  simp only [e2,G,F5,iq,dh,dL,List.length_map,ak,Nat.reduceMul,Nat.reduceBEq,Nat.reduceLT,Nat.reduceLeDiff,reduceCtorEq,Nat.reduceEqDiff,Nat.reduceAdd,Nat.beq]
  rw [akl (z:=s.sz) (dt:=s.dt) hq.sz hq.dt hs (by simp only [dL,eU,hd0];simp only [aB,bg,Nat.reduceMul,Nat.reduceBEq,Nat.reduceLT,Nat.reduceLeDiff,Nat.reduceAdd,decide_true,Bool.and_self,Bool.true_and]<;>rfl)]
  simp only [e3,hd0,F5,iq,dh,dL,eU,List.nil_append,List.length_map,ak,Nat.reduceMul,Nat.reduceBEq,Nat.reduceLT,Nat.reduceLeDiff,reduceCtorEq,Nat.reduceEqDiff,Nat.reduceAdd,Nat.beq]
end Go.Proofs.YtpcncggjmabnaaaGreatDoor.V

namespace Go.Proofs.YtpcncggjmabnaaaGreatDoor.V
theorem uQ {z:List Int} (h:aP z=0):∀ x∈z,1≤x∧x≤4096:=by
 intro x hx
 unfold aP at h
 split at h
 ·omega
 ·split at h
  ·omega
  ·rename_i h2
   simp only [List.any_eq_true,not_exists,not_and,Bool.not_eq_true] at h2
   have:=h2 x hx
   simp at this
   omega
theorem zY {im:iw}:∀ {l:List bP} {p:Option bP},uN im p l=0→∀ w∈l,aV im w=0
 |[],_,_=>fun w hw=>by cases hw
 |x :: l,p,h=>by
  rw [qp] at h
  by_cases c:aV im x=0
  ·rw [if_neg (by simpa using c)] at h
   have h2:uN im (some x) l=0:=by
    cases p with
    |none=>exact h
    |some y =>
     by_cases cb:uM y x=true
     ·have h:(if uM y x=true then 3 else uN im (some x) l)=0:=h
      rw [if_pos cb] at h
      omega
     ·have h:(if uM y x=true then 3 else uN im (some x) l)=0:=h
      rw [if_neg cb] at h
      exact h
   intro w hw
   rcases List.mem_cons.1 hw with e|e
   ·rw [e];exact c
   ·exact zY h2 w e
  ·rw [if_pos c] at h
   exact absurd h c
theorem Wv {z:List Int} {ws:List bP} (h:∀ w∈ws,aV (bn z) w=0) (hz:∀ x∈z,1≤x∧x≤4096):ny z ws:=by
 intro v hv e he
 obtain ⟨w,hw,e1,rfl⟩:=DK he
 obtain ⟨q1,q2,q3,q4⟩:=lF (h w hw)
 have hl:((bn z).getD w.volume.toNat []).length=(z.getD v 0).toNat:=by
  rw [e1]
  have:(bn z).getD ((v:Int)).toNat []=List.replicate z[v].toNat vF:=by
   rw [Int.toNat_natCast,List.getD_eq_getElem?_getD]
   unfold bn
   rw [List.getElem?_map,List.getElem?_eq_getElem hv]
   rfl
  rw [this,List.length_replicate,List.getD_eq_getElem?_getD,List.getElem?_eq_getElem hv]
  rfl
 have:=hz _ (List.getElem_mem hv)
 have e2:z.getD v 0=z[v]:=by rw [List.getD_eq_getElem?_getD,List.getElem?_eq_getElem hv];rfl
 rw [hl] at q4
 rw [e2] at q4 ⊢
 exact jB.2 ⟨q3,by show (0:Int)≤(w.data.length:Int);omega,by show w.start≤z[v];omega,by show (w.data.length:Int)≤z[v] - w.start;omega⟩
theorem FU {z:List Int} {c:jk} (h:wE z c=0):aP z=0∧Dj c.base c.num c.time c.pos=0∧uN (bn z) none c.ws=0:=by
 unfold wE ckC at h
 split at h
 ·rename_i h1
  split at h
  ·rename_i h2
   exact ⟨h1,h2,h⟩
  ·rename_i h2;exact absurd h h2
 ·rename_i h1;exact absurd h h1
theorem zZ {z:List Int} {c:jk} (h:wE z c=0):ny z c.ws:=by
 obtain ⟨h1,_,h3⟩:=FU h
 exact Wv (zY h3) (uQ h1)
theorem DN {z:List Int}:∀ {cy:List jk} {f l:Int},yF z f cy l=true→∀ c∈cy,wE z c=0
 |[],_,_,_=>fun c hc=>by cases hc
 |x :: cy,f,l,h=>by
  simp only [yF,Bool.and_eq_true,beq_iff_eq] at h
  intro c hc
  rcases List.mem_cons.1 hc with e|e
  ·rw [e];exact h.1
  ·exact DN h.2.2 c e
theorem wF {dt:List Bm} {z:List Int} (h:yG dt z=true):Wu z dt:=by
 rw [UL] at h
 simp only [Bool.and_eq_true,decide_eq_true_eq] at h
 refine ⟨h.1,fun v hv=>?_⟩
 have hv2:v<z.length:=by rw [← h.1];exact hv
 have h2:=h.2
 unfold FK at h2
 rw [List.drop_zero,List.drop_zero,List.all_eq_true] at h2
 have h3:=h2 (dt[v],z[v]) (by
  have:(dt.zip z)[v]'(by rw [List.length_zip];omega)=(dt[v],z[v]):=List.getElem_zip
  rw [← this];exact List.getElem_mem _)
 unfold UK at h3
 simp only [Bool.and_eq_true,beq_iff_eq] at h3
 refine ⟨?_,?_⟩
 ·cases hb:okB dt[v] with
  |true=>rfl
  |false=>rw [yB hb] at h3;omega
 ·rw [h3.2,List.getD_eq_getElem?_getD,List.getElem?_eq_getElem hv2];rfl
theorem qZ {s:kJ} (h:l9 s=0):aP s.sz=0∧(1≤s.lm∧s.lm≤1024∧0≤s.fs∧s.fs≤s.ls∧s.ls≤1073741824)∧((s.ov=true∧s.cy=[]∧s.fs≠s.ls∧yG s.dt s.sz=true)∨(s.ov=false∧s.dt=[]∧(s.cy.length:Int)≤s.lm∧yF s.sz s.fs s.cy s.ls=true)):=by
 unfold l9 at h
 by_cases h1:aP s.sz=0
 ·rw [if_pos h1] at h
  by_cases h2:s.lm<1∨s.lm > 1024∨s.fs<0∨s.fs > s.ls∨s.ls > 1073741824
  ·rw [if_pos h2] at h;omega
  ·rw [if_neg h2] at h
   refine ⟨h1,by omega,?_⟩
   cases ho:s.ov with
   |true =>
    rw [ho,if_pos rfl] at h
    split at h
    ·rename_i h3
     simp only [Bool.and_eq_true,decide_eq_true_eq] at h3
     exact .inl ⟨rfl,h3.1,h3.2.1,h3.2.2⟩
    ·omega
   |false =>
    rw [ho,if_neg Bool.false_ne_true] at h
    split at h
    ·rename_i h3
     simp only [Bool.and_eq_true,decide_eq_true_eq] at h3
     exact .inr ⟨rfl,h3.1,h3.2.1,h3.2.2⟩
    ·omega
 ·rw [if_neg h1] at h;exact absurd h h1
def xR (s:kJ) (c:jk):Int:=if l9 s=0 then (if wE s.sz c=0 then (if c.base=s.ls then 0 else 15) else wE s.sz c) else l9 s
def gB (s:kJ) (c:jk):kJ:=if xR s c=0 then (if s.ov then { s with dt:=Gz c.ws s.dt,ls:=c.num } else { UW s c with ls:=c.num }) else Qy
theorem amX:cal env 43 []=some [(.agg [.func 77 [.dR [.func 75 []] 0],.func 79 [.dR [.func 75 []] 0]],false)]:=by
 rw [ah alU rfl];simp only [abL,aB,Nat.reduceBEq,Nat.reduceLeDiff,Nat.reduceAdd,List.length_cons,List.length_nil]
 simp only [sN,ak,Nat.reduceMul,Nat.reduceBEq,Nat.reduceLT,Nat.reduceLeDiff,reduceCtorEq,Nat.reduceEqDiff,Nat.reduceAdd,Nat.beq]
end Go.Proofs.YtpcncggjmabnaaaGreatDoor.V

namespace Go.Proofs.YtpcncggjmabnaaaGreatDoor.V
set_option maxRecDepth 20000 in
theorem amY {s:kJ} {c:jk} (hq:Hl s) (hc:Bf c):cal env 16 [kK s,eP c]=some [(kK (gB s c),false),(.int .i64 (xR s c),false)]:=by
 have e1:=V6 hq
 have e2:=UH (z:=s.sz) (b:=c.base) (n:=c.num) (t:=c.time) (p:=c.pos) (w:=c.ws) (by have:=hq.sz;unfold lim;omega) (Nat.le_trans hc.2.1 (by decide)) (fun x hx=>Nat.le_trans (hc.2.2 x hx) (by decide)) hc.1
 rw [show ckC s.sz c.base c.num c.time c.pos c.ws=wE s.sz c from rfl] at e2
 unfold Zd at e2
 have e3:=amX
 have e4:=ah0 (s:=s)
 have e5:=adi hq
 have Z0:((0:Int) != 0)=false:=rfl
 have I0:index (.int .i64 0) 2=some 0:=rfl
 have I1:index (.int .i64 1) 2=some 1:=rfl
 have HS:(kK (gB s c))=(if xR s c=0 then (if s.ov then kK { s with dt:=Gz c.ws s.dt,ls:=c.num } else kK { UW s c with ls:=c.num }) else kK Qy):=by
  unfold gB
  split
  ·split<;>rfl
  ·rfl
 rw [HS]
 unfold xR
 rw [bW] at e1 e4 e5
 rw [bW s,jU]
 by_cases c1:l9 s=0
 rotate_left
 ·have Z:(l9 s != 0)=true:=by simp [c1]
  rw [if_neg c1,if_neg c1,kE]
  rw [ah Qj rfl];simp only [Ku,aB,Nat.reduceBEq,Nat.reduceLeDiff,Nat.reduceAdd,List.length_cons,List.length_nil]
  simp only [e1,Z,dh,iq,List.length_map,ak,Nat.reduceMul,Nat.reduceBEq,Nat.reduceLT,Nat.reduceLeDiff,reduceCtorEq,Nat.reduceEqDiff,Nat.reduceAdd,Nat.beq]
 rw [c1] at e1
 rw [if_pos c1]
 by_cases c2:wE s.sz c=0
 rotate_left
 ·have Z:(wE s.sz c != 0)=true:=by simp [c2]
  rw [if_neg c2,if_neg c2,kE]
  rw [ah Qj rfl];simp only [Ku,aB,Nat.reduceBEq,Nat.reduceLeDiff,Nat.reduceAdd,List.length_cons,List.length_nil]
  simp only [e1,e2,Z,Z0,dh,iq,List.length_map,ak,Nat.reduceMul,Nat.reduceBEq,Nat.reduceLT,Nat.reduceLeDiff,reduceCtorEq,Nat.reduceEqDiff,Nat.reduceAdd,Nat.beq]
 rw [c2] at e2
 rw [if_pos c2]
 by_cases c3:c.base=s.ls
 rotate_left
 ·have Z:(c.base != s.ls)=true:=by simp [c3]
  rw [if_neg c3,if_neg (by decide),kE]
  rw [ah Qj rfl];simp only [Ku,aB,Nat.reduceBEq,Nat.reduceLeDiff,Nat.reduceAdd,List.length_cons,List.length_nil]
  simp only [e1,e2,Z,Z0,dh,iq,List.length_map,ak,Nat.reduceMul,Nat.reduceBEq,Nat.reduceLT,Nat.reduceLeDiff,reduceCtorEq,Nat.reduceEqDiff,Nat.reduceAdd,Nat.beq]
 have Z3:(c.base != s.ls)=false:=by simp [c3]
 rw [if_pos c3,if_pos rfl]
 obtain ⟨k1,k2,k3⟩:=qZ c1
 have hw:=zZ c2
 cases co:s.ov with
 |true =>
  rcases k3 with ⟨_,g1,g2,g3⟩|⟨g,_⟩
  rotate_left
  ·rw [co] at g;cases g
  have e6:=amV (s:=s) hc hw hq.sz (wF g3)
  rw [qY,bW,jU,co] at e6
  rw [co] at e1 e4 e5
  rw [if_pos rfl,bW]
  rw [if_pos rfl] at e4
  rw [ah Qj rfl];simp only [Ku,aB,Nat.reduceBEq,Nat.reduceLeDiff,Nat.reduceAdd,List.length_cons,List.length_nil]
  simp only [co,e1,e2,e3,e4,e5,e6,I1,Z0,Z3,dh,iq,List.length_map,ak,Nat.reduceMul,Nat.reduceBEq,Nat.reduceLT,Nat.reduceLeDiff,reduceCtorEq,Nat.reduceEqDiff,Nat.reduceAdd,Nat.beq]
 |false =>
  rcases k3 with ⟨g,_⟩|⟨_,g1,g2,g3⟩
  ·rw [co] at g;cases g
  have e6:=amW (s:=s) (c:=c) hq hc (uQ k1) g1 (fun x hx=>by
   rcases List.mem_append.1 hx with h|h
   ·exact zZ (DN g3 x h)
   ·rw [List.mem_singleton.1 h];exact hw)
  generalize UW s c=q at e6 ⊢
  rw [qY,bW,jU,co] at e6
  rw [co] at e1 e4 e5
  rw [if_neg Bool.false_ne_true,bW]
  rw [if_neg Bool.false_ne_true] at e4
  rw [ah Qj rfl];simp only [Ku,aB,Nat.reduceBEq,Nat.reduceLeDiff,Nat.reduceAdd,List.length_cons,List.length_nil]
  simp only [co,e1,e2,e3,e4,e5,e6,I0,Z0,Z3,dh,iq,List.length_map,ak,Nat.reduceMul,Nat.reduceBEq,Nat.reduceLT,Nat.reduceLeDiff,reduceCtorEq,Nat.reduceEqDiff,Nat.reduceAdd,Nat.beq]
end Go.Proofs.YtpcncggjmabnaaaGreatDoor.V

namespace Go.Proofs.YtpcncggjmabnaaaGreatDoor.V
end Go.Proofs.YtpcncggjmabnaaaGreatDoor.V

namespace Go.Proofs.YtpcncggjmabnaaaGreatDoor.V
end Go.Proofs.YtpcncggjmabnaaaGreatDoor.V

namespace Go.Proofs.YtpcncggjmabnaaaGreatDoor.V
end Go.Proofs.YtpcncggjmabnaaaGreatDoor.V

namespace Go.Proofs.YtpcncggjmabnaaaGreatDoor.V
end Go.Proofs.YtpcncggjmabnaaaGreatDoor.V

namespace Go.Proofs.YtpcncggjmabnaaaGreatDoor.V
end Go.Proofs.YtpcncggjmabnaaaGreatDoor.V

namespace Go.Proofs.YtpcncggjmabnaaaGreatDoor.V
end Go.Proofs.YtpcncggjmabnaaaGreatDoor.V

namespace Go.Proofs.YtpcncggjmabnaaaGreatDoor.V
end Go.Proofs.YtpcncggjmabnaaaGreatDoor.V

namespace Go.Proofs.YtpcncggjmabnaaaGreatDoor.V
def dN (l:List bP):Int:=(l.map fun w=>(w.data.length:Int)).sum
theorem UY (l:List bP) (x:bP):dN (l++[x])=dN l+x.data.length:=by simp [dN]
theorem FV {l:List bP} {i:Nat} (h:i<l.length):dN (l.take (i+1))=dN (l.take i)+(l[i].data.length:Int):=by
 rw [List.take_succ_eq_append_getElem h,UY]
theorem Bv {k:Nat}:∀ {l:List bP},(∀ w∈l,w.data.length≤k)→0≤dN l∧dN l≤(k * l.length:Nat)
 |[],_=>by simp [dN]
 |x :: l,h=>by
  have:=Bv (l:=l) fun w hw=>h w (by simp [hw])
  have hx:=h x (by simp)
  have e:dN (x :: l)=(x.data.length:Int)+dN l:=by simp [dN]
  rw [e,List.length_cons,Nat.mul_add,Nat.mul_one];omega
theorem UZ {l:List bP} (hd:∀ w∈l,w.data.length≤10000) (hl:l.length≤1000000) {st:St} (h:st.head [0,3,4] st.boxes.length=some ⟨[.pv (.list 3 (l.map dZ)),.any,.any,.pv (.int .i64 (dN (l.take (0:Nat)))),.pv (.int .i64 (0:Nat)),.any,.any,.any,.any,.any,.any,.any,.any,.any,.any,.any,.any,.any,.any,.any],[],[],none⟩) :
  den env zJ st=some (.normal,⟨[.any,.any,.any,.pv (.int .i64 (dN l)),.any,.any,.any,.any,.any,.any,.any,.any,.any,.any,.any,.any,.any,.any,.any,.any],[],[],none⟩):=by
 unfold zJ
 refine bC (env:=env) (l.length) (fun i=>⟨[.pv (.list 3 (l.map dZ)),.any,.any,.pv (.int .i64 (dN (l.take i))),.pv (.int .i64 i),.any,.any,.any,.any,.any,.any,.any,.any,.any,.any,.any,.any,.any,.any,.any],[],[],none⟩) (fun i=>some (.normal,⟨[.any,.any,.any,.pv (.int .i64 (dN l)),.any,.any,.any,.any,.any,.any,.any,.any,.any,.any,.any,.any,.any,.any,.any,.any],[],[],none⟩)) h (fun _=>rfl) (fun _=>rfl) ?_ ?_
 ·intro i rb hi ih
  have hi1:=bG hi (Nat.le_trans hl (by decide))
  have F1:((i:Int)<(l.length:Int))=True:=eq_true (by omega)
  have h1:=Bv (l:=l.take i) fun w hw=>hd w (List.mem_of_mem_take hw)
  have h2:=hd _ (List.getElem_mem hi)
  have h3:(l.take i).length≤1000000:=by rw [List.length_take];omega
  have W:IntKind.i64.wrap (dN (l.take i)+(l[i].data.length:Int))=dN (l.take (i+1)):=by rw [FV hi];exact bf (by omega)
  simp only [zI,F1,W,dZ,au hi,List.getElem?_map,List.getElem?_eq_getElem hi,bK,reduceCtorEq,Nat.reduceEqDiff,Nat.reduceAdd,Nat.reduceLT,Nat.reduceLeDiff,Nat.beq]
  rw [ih _ (by simp only [hi1];rfl)]
 ·intro rb
  simp only [zI,Int.lt_irrefl,bK,reduceCtorEq,Nat.reduceEqDiff,Nat.reduceAdd,Nat.reduceLT,Nat.reduceLeDiff,Nat.beq]
  rfl
theorem amZ {l:List bP} (hd:∀ w∈l,w.data.length≤10000) (hl:l.length≤1000000):cal env 35 [.list 3 (l.map dZ)]=some [(.int .i64 (dN l),false)]:=by
 rw [ah ahG rfl];simp only [YI];simp only [start,aN,aT,aJ,aS,aG,aH,aK,aQ,Nat.reduceAdd,Nat.reduceSub]
 simp only [List.length_map,bK,reduceCtorEq,Nat.reduceEqDiff,Nat.reduceAdd,Nat.reduceLT,Nat.reduceLeDiff,Nat.beq]
 rw [UZ hd hl]
 rotate_left
 ·rfl
 ·simp only [bK,reduceCtorEq,Nat.reduceEqDiff,Nat.reduceAdd,Nat.reduceLT,Nat.reduceLeDiff,Nat.beq]
end Go.Proofs.YtpcncggjmabnaaaGreatDoor.V

namespace Go.Proofs.YtpcncggjmabnaaaGreatDoor
open V
def szW (l:List bP):Prop:=∀ x∈l,x.data.length≤140737488351232
theorem Jk:∀ l:List bP,0≤dN l
 |[]=>by simp [dN]
 |x :: l=>by
  have:=Jk l
  have e:dN (x :: l)=(x.data.length:Int)+dN l:=by simp [dN]
  omega
end Go.Proofs.YtpcncggjmabnaaaGreatDoor

namespace Go.Proofs.YtpcncggjmabnaaaGreatDoor.V
namespace Z24
theorem UZ {l:List bP} (hd:szW l) (hl:l.length≤1000) {st:St} (h:st.head [0,3,4] st.boxes.length=some ⟨sl 20 [(0,.pv (.list 3 (l.map dZ))),(3,.pv (.int .i64 (dN (l.take ((0:Nat)))))),(4,.pv (.int .i64 (0:Nat)))],[],[],none⟩) :
  den env zJ st=some (.normal,⟨sl 20 [(2,.any),(3,.pv (.int .i64 (dN l)))],[],[],none⟩):=by
 unfold zJ
 refine bC (env:=env) (nb:=0) (l.length) (fun i=>⟨sl 20 [(0,.pv (.list 3 (l.map dZ))),(3,.pv (.int .i64 (dN (l.take (i))))),(4,.pv (.int .i64 i))],[],[],none⟩) (fun i=>some (.normal,⟨sl 20 [(2,.any),(3,.pv (.int .i64 (dN l)))],[],[],none⟩)) h (fun _=>rfl) (fun _=>by simp only [aB,bg,Nat.reduceMul,Nat.reduceBEq,Nat.reduceLT,Nat.reduceLeDiff,Nat.reduceAdd,decide_true,Bool.and_self,Bool.true_and]) ?_ ?_
 ·intro i rb hi ih
  have hi1:=bG hi (Nat.le_trans hl (by decide))
  have F1:((i:Int)<(l.length:Int))=True:=eq_true (by omega)
  have hx:=uK hi
  have h1:=Bv (l:=l.take i) fun w hw=>hd w (List.mem_of_mem_take hw)
  have h2:=hd _ (List.getElem_mem hi)
  have h3:(l.take i).length≤1000:=by rw [List.length_take];omega
  have W:IntKind.i64.wrap (dN (l.take i)+(l[i].data.length:Int))=dN (l.take (i+1)):=by rw [FV hi];exact bf (by omega)
  simp only [zI,F1,hx,W,jA,au hi,List.length_map,ak,Nat.reduceMul,Nat.reduceBEq,Nat.reduceLT,Nat.reduceLeDiff,reduceCtorEq,Nat.reduceEqDiff,Nat.reduceAdd,Nat.beq]
  rw [ih _ (by simp only [hi1,ak,Nat.reduceMul,Nat.reduceBEq,Nat.reduceLT,Nat.reduceLeDiff,reduceCtorEq,Nat.reduceEqDiff,Nat.reduceAdd,Nat.beq]<;>rfl)]
 ·intro rb
  rw [List.take_length]
  simp only [zI,Int.lt_irrefl,List.length_map,ak,Nat.reduceMul,Nat.reduceBEq,Nat.reduceLT,Nat.reduceLeDiff,reduceCtorEq,Nat.reduceEqDiff,Nat.reduceAdd,Nat.beq]
theorem ako {l:List bP} (hd:szW l) (hl:l.length≤1000):cal env 35 [.list 3 (l.map dZ)]=some [(.int .i64 (dN l),false)]:=by
 rw [ah ahG rfl];simp only [YI,aB,Nat.reduceBEq,Nat.reduceLeDiff,Nat.reduceAdd,List.length_cons,List.length_nil]
 simp only [ak,Nat.reduceMul,Nat.reduceBEq,Nat.reduceLT,Nat.reduceLeDiff,reduceCtorEq,Nat.reduceEqDiff,Nat.reduceAdd,Nat.beq]
 rw [UZ hd hl (by simp only [List.take_zero];simp only [aB,bg,Nat.reduceMul,Nat.reduceBEq,Nat.reduceLT,Nat.reduceLeDiff,Nat.reduceAdd,decide_true,Bool.and_self,Bool.true_and]<;>rfl)]
 simp only [ak,Nat.reduceMul,Nat.reduceBEq,Nat.reduceLT,Nat.reduceLeDiff,reduceCtorEq,Nat.reduceEqDiff,Nat.reduceAdd,Nat.beq]
end Z24
open Z24
def Zn (l:List bP):Bool:=decide (l.length≤40)&&decide (dN l≤400)
theorem am0 {l:List bP} (hd:szW l):cal env 15 [.list 3 (l.map dZ)]=some [(.bool (Zn l),false)]:=by
 unfold Zn
 by_cases h:l.length≤40
 ·have e1:=ako hd (by omega)
  have F1:((l.length:Int)≤40)=True:=eq_true (by omega)
  rw [decide_eq_true h,Bool.true_and]
  by_cases k:dN l≤400
  ·have F2:=eq_true k
   rw [decide_eq_true k]
   rw [ah ach rfl];simp only [Uo,aB,Nat.reduceBEq,Nat.reduceLeDiff,Nat.reduceAdd,List.length_cons,List.length_nil]
   simp only [e1,F1,F2,List.length_map,ak,Nat.reduceMul,Nat.reduceBEq,Nat.reduceLT,Nat.reduceLeDiff,reduceCtorEq,Nat.reduceEqDiff,Nat.reduceAdd,Nat.beq]
  ·have F2:=eq_false k
   rw [decide_eq_false k]
   rw [ah ach rfl];simp only [Uo,aB,Nat.reduceBEq,Nat.reduceLeDiff,Nat.reduceAdd,List.length_cons,List.length_nil]
   simp only [e1,F1,F2,List.length_map,ak,Nat.reduceMul,Nat.reduceBEq,Nat.reduceLT,Nat.reduceLeDiff,reduceCtorEq,Nat.reduceEqDiff,Nat.reduceAdd,Nat.beq]
 ·have F1:((l.length:Int)≤40)=False:=eq_false (by omega)
  rw [decide_eq_false h,Bool.false_and]
  rw [ah ach rfl];simp only [Uo,aB,Nat.reduceBEq,Nat.reduceLeDiff,Nat.reduceAdd,List.length_cons,List.length_nil]
  simp only [F1,List.length_map,ak,Nat.reduceMul,Nat.reduceBEq,Nat.reduceLT,Nat.reduceLeDiff,reduceCtorEq,Nat.reduceEqDiff,Nat.reduceAdd,Nat.beq]
theorem akp {l:List bP} (h:Zn l=true):l.length≤40∧dN l≤400∧∀ x∈l,x.data.length≤400:=by
 unfold Zn at h
 simp only [Bool.and_eq_true,decide_eq_true_eq] at h
 refine ⟨h.1,h.2,?_⟩
 have:∀ {m:List bP},∀ x∈m,(x.data.length:Int)≤dN m:=by
  intro m
  induction m with
  |nil=>intro x hx;cases hx
  |cons y m ih =>
   intro x hx
   have hp:=(Jk m)
   have e:dN (y :: m)=(y.data.length:Int)+dN m:=by simp [dN]
   rw [e]
   rcases List.mem_cons.1 hx with h|h
   ·rw [h];omega
   ·have:=ih x h;omega
 intro x hx
 have:=this x hx
 omega
theorem Zo {α:Type} {p:α→Bool} {l:List α} {i:Nat} (h:i<l.length):(l.drop i).all p=(p l[i]&&(l.drop (i+1)).all p):=by rw [List.drop_eq_getElem_cons h];rfl
theorem adM {α:Type} {p:α→Bool} (l:List α):(l.drop l.length).all p=true:=by rw [List.drop_length];rfl
def Hr:jk:=⟨0,0,0,[],[]⟩
theorem rQ:eP Hr=.agg [.int .i64 0,.int .i64 0,.int .i64 0,.list 1 [],.list 3 []]:=rfl
def frC (s:kJ):jk:=if l9 s=0 then s.cy.headD Hr else Hr
def frO (s:kJ):Bool:=(l9 s==0)&&!s.cy.isEmpty
--+
theorem ah5 {s:kJ} (hq:Hl s):cal env 18 [kK s]=some [(eP (frC s),false),(.bool (frO s),false)]:=by
 have e1:=V6 hq
 rw [bW] at e1 ⊢
 unfold frC frO
 by_cases c:l9 s=0
 ·rw [c] at e1
  rw [if_pos c,c]
  have Z:((0:Int) != 0)=false:=rfl
  have Z2:((0:Int)==0)=true:=rfl
  cases hc:s.cy with
  |nil =>
   rw [hc,List.map_nil] at e1
   have L:(((([]:List PV).length:Nat):Int)==0)=true:=rfl
   rw [show (([]:List jk).headD Hr)=Hr from rfl,rQ]
   rw [ah aci rfl];simp only [Ur,aB,Nat.reduceBEq,Nat.reduceLeDiff,Nat.reduceAdd,List.length_cons,List.length_nil]
   simp only [hc,e1,Z,Z2,L,dh,List.isEmpty_nil,ak,Nat.reduceMul,Nat.reduceBEq,Nat.reduceLT,Nat.reduceLeDiff,reduceCtorEq,Nat.reduceEqDiff,Nat.reduceAdd,Nat.beq]
   try rfl
  |cons x l =>
   have e2:=V7 (hq.c1 x (by rw [hc];simp))
   have L:(((x :: l).length:Int)==0)=false:=by simp;omega
   rw [hc] at e1
   have I0:index (.int .i64 0) (l.length+1)=some 0:=au (i:=0) (by omega)
   have hx:((x :: l).map eP)[0]?=some (.agg [.int .i64 x.base,.int .i64 x.num,.int .i64 x.time,.list 1 (x.pos.map eI),.list 3 (x.ws.map dZ)]):=rfl
   rw [show ((x :: l).headD Hr)=x from rfl,jU x]
   rw [jU x] at e2
   generalize hm:(x :: l).map eP=M at *
   have hl:M.length=l.length+1:=by rw [← hm];simp
   have L2:(((l.length+1:Nat):Int)==0)=false:=by simp;omega
   rw [ah aci rfl];simp only [Ur,aB,Nat.reduceBEq,Nat.reduceLeDiff,Nat.reduceAdd,List.length_cons,List.length_nil]
   simp only [hc,hm,hl,e1,e2,Z,Z2,L2,I0,hx,dh,iq,List.isEmpty_cons,ak,Nat.reduceMul,Nat.reduceBEq,Nat.reduceLT,Nat.reduceLeDiff,reduceCtorEq,Nat.reduceEqDiff,Nat.reduceAdd,Nat.beq]
   try rfl
 ·rw [if_neg c,rQ]
  have Z:(l9 s != 0)=true:=by simp [c]
  have Z2:(l9 s==0)=false:=by simp [c]
  rw [ah aci rfl];simp only [Ur,aB,Nat.reduceBEq,Nat.reduceLeDiff,Nat.reduceAdd,List.length_cons,List.length_nil]
  simp only [e1,Z,Z2,dh,ak,Nat.reduceMul,Nat.reduceBEq,Nat.reduceLT,Nat.reduceLeDiff,reduceCtorEq,Nat.reduceEqDiff,Nat.reduceAdd,Nat.beq]
--+
end Go.Proofs.YtpcncggjmabnaaaGreatDoor.V

namespace Go.Proofs.YtpcncggjmabnaaaGreatDoor.V
def nC:Int→List jk→Int→Nat
 |_,[],_=>0
 |f,c :: cs,n=>if f<n then nC c.num cs n+1 else 0
theorem MV:∀ (f:Int) (cy:List jk) (n:Int),nC f cy n≤cy.length
 |_,[],_=>Nat.le_refl _
 |f,c :: cs,n=>by
  unfold nC
  split
  ·have:=MV c.num cs n;simp;omega
  ·simp
theorem ah6 (f:Int) (c:jk) (cs:List jk):∀ i,xC f (c :: cs) (i+1)=xC c.num cs i
 |0=>rfl
 |_+1=>rfl
theorem Wx:∀ (f:Int) (cy:List jk) (n:Int) (i:Nat),i<nC f cy n→xC f cy i<n
 |_,[],_,i,h=>absurd h (Nat.not_lt_zero _)
 |f,c :: cs,n,i,h=>by
  unfold nC at h
  by_cases k:f<n
  ·rw [if_pos k] at h
   cases i with
   |zero=>exact k
   |succ j=>rw [ah6];exact Wx c.num cs n j (by omega)
  ·rw [if_neg k] at h;exact absurd h (Nat.not_lt_zero _)
theorem QG:∀ (f:Int) (cy:List jk) (n:Int),nC f cy n<cy.length→¬ xC f cy (nC f cy n)<n
 |_,[],_,h=>absurd h (Nat.not_lt_zero _)
 |f,c :: cs,n,h=>by
  unfold nC at h ⊢
  by_cases k:f<n
  ·rw [if_pos k] at h ⊢
   rw [ah6]
   exact QG c.num cs n (by simpa using h)
  ·rw [if_neg k] at h ⊢
   exact k
theorem U0 {z:List Int} {c:jk} (h:wE z c=0):c.base<c.num:=by
 obtain ⟨_,h2,_⟩:=FU h
 unfold Dj at h2
 split at h2
 ·omega
 ·rename_i h3
  split at h2<;>first|omega|skip
theorem adN {z:List Int}:∀ {cy:List jk} {f l:Int},yF z f cy l=true→∀ c∈cy,f<c.num
 |[],_,_,_=>fun c hc=>by cases hc
 |x :: cy,f,l,h=>by
  simp only [yF,Bool.and_eq_true,beq_iff_eq] at h
  have hx:=U0 h.1
  intro c hc
  rcases List.mem_cons.1 hc with e|e
  ·rw [e];omega
  ·have:=adN h.2.2 c e;omega
def Ht (s:kJ) (n:Int):Int:=if l9 s=0 then (if s.ov then 12 else if n<s.fs∨n > s.ls then 2 else if xC s.fs s.cy (nC s.fs s.cy n)=n then 0 else 7) else l9 s
def Dk (s:kJ) (n:Int):kJ:=if Ht s n=0 then { s with cy:=s.cy.drop (nC s.fs s.cy n),fs:=n } else Qy
def ag3 (s:kJ) (i:Nat):BV:=if i=0 then .row 5 (s.cy.map eP) else .pv (.list 5 ((s.cy.drop i).map eP))
theorem yK (s:kJ):ag3 s 0=.row 5 (s.cy.map eP):=rfl
theorem Bz (s:kJ) (i:Nat):ag3 s (i+1)=.pv (.list 5 ((s.cy.drop (i+1)).map eP)):=rfl
def adO (s:kJ) (i:Nat):List BV:=[.pv (.int .i64 s.lm),.row 1 (s.sz.map eI),ag3 s i,.pv (.bool s.ov),.pv (.int .i64 (xC s.fs s.cy i)),.pv (.int .i64 s.ls),.row 2 (s.dt.map iW)]
theorem ng (s:kJ) (i:Nat):adO s i=[.pv (.int .i64 s.lm),.row 1 (s.sz.map eI),ag3 s i,.pv (.bool s.ov),.pv (.int .i64 (xC s.fs s.cy i)),.pv (.int .i64 s.ls),.row 2 (s.dt.map iW)]:=rfl
theorem adP {f:Int} {cy:List jk} {i:Nat} (h:i<cy.length):xC f cy (i+1)=cy[i].num:=by
 show (cy[i]?.map (·.num)).getD 0=_
 rw [List.getElem?_eq_getElem h];rfl
theorem adQ {s:kJ} {n:Int} (hq:Hl s) {st:St} (h:st.head [1,4,7] st.boxes.length=some ⟨sl 59 [(1,.pv (.int .i64 n)),(4,.aI 1 0),(7,.aI 2 0)],[⟨false,wC s⟩,⟨false,Ho⟩,⟨false,adO s ((0:Nat))⟩],[],none⟩) :
  den env Kv st=some (.normal,⟨sl 59 [(1,.pv (.int .i64 n)),(4,.aI 1 0),(5,.any),(7,.aI 2 0)],[⟨false,wC s⟩,⟨false,Ho⟩,⟨false,adO s (nC s.fs s.cy n)⟩],[],none⟩):=by
 unfold Kv
 refine bC (env:=env) (nb:=3) (nC s.fs s.cy n) (fun i=>⟨sl 59 [(1,.pv (.int .i64 n)),(4,.aI 1 0),(7,.aI 2 0)],[⟨false,wC s⟩,⟨false,Ho⟩,⟨false,adO s (i)⟩],[],none⟩) (fun i=>some (.normal,⟨sl 59 [(1,.pv (.int .i64 n)),(4,.aI 1 0),(5,.any),(7,.aI 2 0)],[⟨false,wC s⟩,⟨false,Ho⟩,⟨false,adO s (nC s.fs s.cy n)⟩],[],none⟩)) h (fun _=>rfl) (fun _=>by simp only [aB,bg,Nat.reduceMul,Nat.reduceBEq,Nat.reduceLT,Nat.reduceLeDiff,Nat.reduceAdd,decide_true,Bool.and_self,Bool.true_and]) ?_ ?_
 ·intro i rb hi ih
  have hk:=MV s.fs s.cy n
  have hil:i<s.cy.length:=by omega
  have G:=eq_true (Wx s.fs s.cy n i hi)
  have hcy:=hq.cy
  have T1:Int.toNat 1=1:=rfl
  rw [ng s (i+1),Bz,adP hil] at ih
  cases i with
  |zero =>
   have L:((s.cy.length:Int) > 0)=True:=eq_true (by omega)
   have hx:(s.cy.map eP)[0]?=some (.agg [.int .i64 s.cy[0].base,.int .i64 s.cy[0].num,.int .i64 s.cy[0].time,.list 1 (s.cy[0].pos.map eI),.list 3 (s.cy[0].ws.map dZ)]):=zQ hil
   have I0:index (.int .i64 0) s.cy.length=some 0:=au (i:=0) hil
   have S1:(0≤(1:Int)∧(1:Int)≤(s.cy.length:Int))=True:=eq_true (by omega)
   have hd:((s.cy.map eP).drop 1).take (s.cy.length - 1)=(s.cy.drop (0+1)).map eP:=by rw [List.take_of_length_le (by simp),List.map_drop]
   have S2:(1+(s.cy.length - 1)≤s.cy.length)=True:=eq_true (by omega)
   simp only [uH,G,L,hx,I0,S1,S2,T1,hd,iq,ng,yK,dL,cZ,List.length_map,ak,Nat.reduceMul,Nat.reduceBEq,Nat.reduceLT,Nat.reduceLeDiff,reduceCtorEq,Nat.reduceEqDiff,Nat.reduceAdd,Nat.beq]
   rw [ih _ (by simp only [dL,cZ,ak,Nat.reduceMul,Nat.reduceBEq,Nat.reduceLT,Nat.reduceLeDiff,reduceCtorEq,Nat.reduceEqDiff,Nat.reduceAdd,Nat.beq]<;>rfl)]
   rfl
  |succ j =>
   generalize hD:s.cy.drop (j+1)=D
   have hDl:D.length=s.cy.length - (j+1):=by rw [← hD,List.length_drop]
   have L:((D.length:Int) > 0)=True:=eq_true (by omega)
   have hx:(D.map eP)[0]?=some (.agg [.int .i64 s.cy[j+1].base,.int .i64 s.cy[j+1].num,.int .i64 s.cy[j+1].time,.list 1 (s.cy[j+1].pos.map eI),.list 3 (s.cy[j+1].ws.map dZ)]):=by
    rw [← hD,List.getElem?_map,List.getElem?_drop]
    have:=zQ hil
    rw [List.getElem?_map] at this
    simpa using this
   have I0:index (.int .i64 0) D.length=some 0:=au (i:=0) (by omega)
   have S1:(0≤(1:Int)∧(1:Int)≤(D.length:Int))=True:=eq_true (by omega)
   have hd:((D.map eP).drop 1).take (D.length - 1)=(s.cy.drop (j+1+1)).map eP:=by rw [List.take_of_length_le (by simp),← List.map_drop,← hD,List.drop_drop]
   simp only [uH,G,L,hx,I0,S1,T1,iq,ng,Bz,hD,dL,cZ,List.length_map,ak,Nat.reduceMul,Nat.reduceBEq,Nat.reduceLT,Nat.reduceLeDiff,reduceCtorEq,Nat.reduceEqDiff,Nat.reduceAdd,Nat.beq]
   simp only [hd]
   rw [ih _ (by simp only [dL,cZ,ak,Nat.reduceMul,Nat.reduceBEq,Nat.reduceLT,Nat.reduceLeDiff,reduceCtorEq,Nat.reduceEqDiff,Nat.reduceAdd,Nat.beq]<;>rfl)]
   rfl
 ·intro rb
  have hk:=MV s.fs s.cy n
  have hcy:=hq.cy
  by_cases hlt:nC s.fs s.cy n<s.cy.length
  ·have G:=eq_false (QG s.fs s.cy n hlt)
   generalize nC s.fs s.cy n=k at *
   cases k with
   |zero =>
    have L:((s.cy.length:Int) > 0)=True:=eq_true (by omega)
    simp only [uH,G,L,ng,yK,dL,cZ,List.length_map,ak,Nat.reduceMul,Nat.reduceBEq,Nat.reduceLT,Nat.reduceLeDiff,reduceCtorEq,Nat.reduceEqDiff,Nat.reduceAdd,Nat.beq]
   |succ j =>
    generalize hD:s.cy.drop (j+1)=D
    have hDl:D.length=s.cy.length - (j+1):=by rw [← hD,List.length_drop]
    have L:((D.length:Int) > 0)=True:=eq_true (by omega)
    simp only [uH,G,L,ng,Bz,hD,dL,cZ,List.length_map,ak,Nat.reduceMul,Nat.reduceBEq,Nat.reduceLT,Nat.reduceLeDiff,reduceCtorEq,Nat.reduceEqDiff,Nat.reduceAdd,Nat.beq]
  ·have hke:nC s.fs s.cy n=s.cy.length:=by omega
   rw [hke]
   cases hl:s.cy.length with
   |zero =>
    have L:(((0:Nat):Int) > 0)=False:=eq_false (by omega)
    simp only [uH,L,hl,ng,yK,dL,cZ,List.length_map,ak,Nat.reduceMul,Nat.reduceBEq,Nat.reduceLT,Nat.reduceLeDiff,reduceCtorEq,Nat.reduceEqDiff,Nat.reduceAdd,Nat.beq]
   |succ j =>
    have hD:s.cy.drop (j+1)=[]:=List.drop_of_length_le (by omega)
    have L:(((0:Nat):Int) > 0)=False:=eq_false (by omega)
    simp only [uH,L,ng,Bz,hD,dL,cZ,List.map_nil,List.length_nil,List.length_map,ak,Nat.reduceMul,Nat.reduceBEq,Nat.reduceLT,Nat.reduceLeDiff,reduceCtorEq,Nat.reduceEqDiff,Nat.reduceAdd,Nat.beq]
theorem ag4 (s:kJ) (n:Int):kK (Dk s n)=if Ht s n=0 then kK { s with cy:=s.cy.drop (nC s.fs s.cy n),fs:=n } else kK Qy:=by
 unfold Dk;split<;>rfl
set_option maxRecDepth 20000 in
theorem ah7 {s:kJ} {n:Int} (hq:Hl s):cal env 23 [kK s,.int .i64 n]=some [(kK (Dk s n),false),(.int .i64 (Ht s n),false)]:=by
 have e1:=V6 hq
 have e5:=adi hq
 have Z0:((0:Int) != 0)=false:=rfl
 rw [ag4]
 unfold Ht
 rw [bW] at e1 e5
 rw [bW s]
 by_cases c1:l9 s=0
 rotate_left
 ·have Z:(l9 s != 0)=true:=by simp [c1]
  rw [if_neg c1,if_neg c1,kE]
  rw [ah I8 rfl];simp only [Hf,aB,Nat.reduceBEq,Nat.reduceLeDiff,Nat.reduceAdd,List.length_cons,List.length_nil]
  simp only [e1,Z,dh,List.length_map,ak,Nat.reduceMul,Nat.reduceBEq,Nat.reduceLT,Nat.reduceLeDiff,reduceCtorEq,Nat.reduceEqDiff,Nat.reduceAdd,Nat.beq]
 rw [c1] at e1
 rw [if_pos c1]
 cases co:s.ov with
 |true =>
  rw [co] at e1
  rw [if_pos rfl,if_neg (by decide),kE]
  rw [ah I8 rfl];simp only [Hf,aB,Nat.reduceBEq,Nat.reduceLeDiff,Nat.reduceAdd,List.length_cons,List.length_nil]
  simp only [co,e1,Z0,dh,List.length_map,ak,Nat.reduceMul,Nat.reduceBEq,Nat.reduceLT,Nat.reduceLeDiff,reduceCtorEq,Nat.reduceEqDiff,Nat.reduceAdd,Nat.beq]
 |false =>
  rw [co] at e1 e5
  rw [if_neg Bool.false_ne_true]
  by_cases c2:n<s.fs
  ·have F2:=eq_true c2
   rw [if_pos (Or.inl c2:n<s.fs∨n > s.ls),if_neg (by decide),kE]
   rw [ah I8 rfl];simp only [Hf,aB,Nat.reduceBEq,Nat.reduceLeDiff,Nat.reduceAdd,List.length_cons,List.length_nil]
   simp only [co,e1,Z0,F2,dh,List.length_map,ak,Nat.reduceMul,Nat.reduceBEq,Nat.reduceLT,Nat.reduceLeDiff,reduceCtorEq,Nat.reduceEqDiff,Nat.reduceAdd,Nat.beq]
  have F2:=eq_false c2
  by_cases c3:n > s.ls
  ·have F3:=eq_true c3
   rw [if_pos (Or.inr c3:n<s.fs∨n > s.ls),if_neg (by decide),kE]
   rw [ah I8 rfl];simp only [Hf,aB,Nat.reduceBEq,Nat.reduceLeDiff,Nat.reduceAdd,List.length_cons,List.length_nil]
   simp only [co,e1,Z0,F2,F3,dh,List.length_map,ak,Nat.reduceMul,Nat.reduceBEq,Nat.reduceLT,Nat.reduceLeDiff,reduceCtorEq,Nat.reduceEqDiff,Nat.reduceAdd,Nat.beq]
  have F3:=eq_false c3
  rw [if_neg (show ¬ (n<s.fs∨n > s.ls) by omega)]
  by_cases c4:xC s.fs s.cy (nC s.fs s.cy n)=n
  ·have Z4:(xC s.fs s.cy (nC s.fs s.cy n) != n)=false:=by simp [c4]
   rw [if_pos c4,if_pos rfl,bW]
   rw [ah I8 rfl];simp only [Hf,aB,Nat.reduceBEq,Nat.reduceLeDiff,Nat.reduceAdd,List.length_cons,List.length_nil]
   simp only [co,e1,e5,Z0,F2,F3,dh,List.length_map,ak,Nat.reduceMul,Nat.reduceBEq,Nat.reduceLT,Nat.reduceLeDiff,reduceCtorEq,Nat.reduceEqDiff,Nat.reduceAdd,Nat.beq]
   rw [adQ (s:=s) (n:=n) hq (by simp only [cZ,ng,yK,dL,co,show xC s.fs s.cy 0=s.fs from rfl];simp only [aB,bg,Nat.reduceMul,Nat.reduceBEq,Nat.reduceLT,Nat.reduceLeDiff,Nat.reduceAdd,decide_true,Bool.and_self,Bool.true_and]<;>rfl)]
   rw [ng]
   generalize nC s.fs s.cy n=k at *
   cases k with
   |zero=>simp only [yK,Z4,c4,co,List.drop_zero,dh,cZ,dL,ak,Nat.reduceMul,Nat.reduceBEq,Nat.reduceLT,Nat.reduceLeDiff,reduceCtorEq,Nat.reduceEqDiff,Nat.reduceAdd,Nat.beq]
   |succ j=>simp only [Bz,Z4,c4,co,dh,cZ,dL,ak,Nat.reduceMul,Nat.reduceBEq,Nat.reduceLT,Nat.reduceLeDiff,reduceCtorEq,Nat.reduceEqDiff,Nat.reduceAdd,Nat.beq]
  ·have Z4:(xC s.fs s.cy (nC s.fs s.cy n) != n)=true:=by simp [c4]
   rw [if_neg c4,if_neg (by decide),kE]
   rw [ah I8 rfl];simp only [Hf,aB,Nat.reduceBEq,Nat.reduceLeDiff,Nat.reduceAdd,List.length_cons,List.length_nil]
   simp only [co,e1,e5,Z0,F2,F3,dh,List.length_map,ak,Nat.reduceMul,Nat.reduceBEq,Nat.reduceLT,Nat.reduceLeDiff,reduceCtorEq,Nat.reduceEqDiff,Nat.reduceAdd,Nat.beq]
   rw [adQ (s:=s) (n:=n) hq (by simp only [cZ,ng,yK,dL,co,show xC s.fs s.cy 0=s.fs from rfl];simp only [aB,bg,Nat.reduceMul,Nat.reduceBEq,Nat.reduceLT,Nat.reduceLeDiff,Nat.reduceAdd,decide_true,Bool.and_self,Bool.true_and]<;>rfl)]
   rw [ng]
   generalize nC s.fs s.cy n=k at *
   cases k with
   |zero=>simp only [yK,Z4,co,dh,cZ,dL,ak,Nat.reduceMul,Nat.reduceBEq,Nat.reduceLT,Nat.reduceLeDiff,reduceCtorEq,Nat.reduceEqDiff,Nat.reduceAdd,Nat.beq]
   |succ j=>simp only [Bz,Z4,co,dh,cZ,dL,ak,Nat.reduceMul,Nat.reduceBEq,Nat.reduceLT,Nat.reduceLeDiff,reduceCtorEq,Nat.reduceEqDiff,Nat.reduceAdd,Nat.beq]
end Go.Proofs.YtpcncggjmabnaaaGreatDoor.V

namespace Go.Proofs.YtpcncggjmabnaaaGreatDoor.V
end Go.Proofs.YtpcncggjmabnaaaGreatDoor.V

namespace Go.Proofs.YtpcncggjmabnaaaGreatDoor.V
end Go.Proofs.YtpcncggjmabnaaaGreatDoor.V

namespace Go.Proofs.YtpcncggjmabnaaaGreatDoor.V
end Go.Proofs.YtpcncggjmabnaaaGreatDoor.V

namespace Go.Proofs.YtpcncggjmabnaaaGreatDoor.V
def Zp (im:iw) (v:Nat) (e:fJ):bP:=⟨v,e.start,((im.getD v []).drop e.start.toNat).take e.count.toNat⟩
def Ap (im:iw) (v:Nat) (x:List fJ):List bP:=x.map (Zp im v)
def FX (im:iw) (l:List (List fJ)) (n:Nat):List bP:=(List.range n).flatMap fun v=>Ap im v (l.getD v [])
def DR (im:iw) (l:List (List fJ)):List bP:=FX im l l.length
theorem wG (im:iw) (l:List (List fJ)) (n:Nat):FX im l (n+1)=FX im l n++Ap im n (l.getD n []):=by simp [FX,List.range_succ]
end Go.Proofs.YtpcncggjmabnaaaGreatDoor.V

namespace Go.Proofs.YtpcncggjmabnaaaGreatDoor.V
structure QH (im:iw) (l:List (List fJ)):Prop where
 ln:l.length≤im.length
 ml:im.length≤1000
 vo:∀ v∈im,v.length≤4096
 xl:∀ x∈l,x.length≤4096
 fx:∀ v (h:v<l.length),∀ e∈l[v],0≤e.start∧1≤e.count∧e.start+e.count≤((im.getD v []).length:Int)
theorem BA {im:iw} {l:List (List fJ)} {k:Nat} (h:∀ x∈l,x.length≤k):∀ n,(FX im l n).length≤k * n
 |0=>by simp [FX]
 |n+1=>by
  rw [wG,List.length_append]
  have h1:=BA (im:=im) h n
  have h2:(Ap im n (l.getD n [])).length≤k:=by
   unfold Ap
   rw [List.length_map,List.getD_eq_getElem?_getD]
   cases e:l[n]? with
   |none=>simp
   |some x=>exact h x (List.mem_of_getElem? e)
  rw [Nat.mul_add,Nat.mul_one];omega
theorem xG {im:iw} {v:Nat} (h:v<im.length):(im.map aX)[v]?=some (.list 8 (im[v].map iI)):=by rw [List.getElem?_map,List.getElem?_eq_getElem h];rfl
theorem ag5 {im:iw} {l:List (List fJ)} (h:QH im l) {v i:Nat} (hv:v<l.length) (hi:i<l[v].length):∃ Hu:v<im.length,
  (0≤l[v][i].start∧l[v][i].start≤((l[v][i].start+l[v][i].count).toNat:Int))∧(0≤l[v][i].start+l[v][i].count∧l[v][i].start+l[v][i].count≤(im[v].length:Int))∧IntKind.i64.wrap (l[v][i].start+l[v][i].count)=l[v][i].start+l[v][i].count ∧
  (l[v][i].start+l[v][i].count).toNat - l[v][i].start.toNat=l[v][i].count.toNat∧(((im[v].map iI).drop l[v][i].start.toNat).take l[v][i].count.toNat).length≤lim∧(FX im l v++Ap im v (l[v].take i)).length+1≤lim ∧
  (FX im l v++Ap im v (l[v].take (i+1))).map dZ=(FX im l v++Ap im v (l[v].take i)).map dZ++[.agg [.int .i64 (v:Int),.int .i64 l[v][i].start,.list 8 (((im[v].map iI).drop l[v][i].start.toNat).take l[v][i].count.toNat)]]:=by
 obtain ⟨h1,h2,h3,h4,h5⟩:=h
 have Hu:v<im.length:=by omega
 obtain ⟨q1,q2,q3⟩:=h5 v hv _ (List.getElem_mem hi)
 have e8:im.getD v []=im[v]:=by simp [Hu]
 rw [e8] at q3
 have hvl:=h3 _ (List.getElem_mem Hu)
 have hN:=BA (im:=im) h4 v
 have hx:=h4 _ (List.getElem_mem hv)
 refine ⟨Hu,by omega,by omega,bf (by omega),by omega,by simp;unfold lim;omega,?_,?_⟩
 ·rw [List.length_append]
  have:(Ap im v (l[v].take i)).length≤4096:=by unfold Ap;rw [List.length_map,List.length_take];omega
  have:4096 * v≤4096 * 1000:=Nat.mul_le_mul_left _ (by omega)
  unfold lim;omega
 ·have e9:Ap im v (l[v].take (i+1))=Ap im v (l[v].take i)++[Zp im v l[v][i]]:=by
   unfold Ap
   rw [List.take_succ_eq_append_getElem hi,List.map_append];rfl
  rw [e9];simp [dZ,Zp,Hu,List.map_take,List.map_drop]
theorem akq {im:iw} {l:List (List fJ)} {dt:List Bm} {v:Nat} {y0 y1:PV} (h0:QH im l) (hv:v<l.length) {st:St} (h:st.head [0,1,5,6,10,11,12,18,19,20,43] st.boxes.length=some ⟨sl 47 [(0,.pv (.list 2 (dt.map iW))),(1,.pv (.list 1 (im.map aX))),(5,.row 3 ((FX im l v++Ap im v (l[v].take ((0:Nat)))).map dZ)),(6,.pv (.int .i64 v)),(10,.pv (.list 2 (dt.map iW))),(11,.pv (.int .i64 dt.length)),(12,.pv (.int .i64 v)),(18,.row 2 (l[v].map dD)),(19,.pv (.int .i64 l[v].length)),(20,.pv (.int .i64 (0:Nat))),(43,.any)],[⟨false,[.pv y0,.pv y1]⟩],[],none⟩) :
  den env KU st=some (.normal,⟨sl 47 [(0,.pv (.list 2 (dt.map iW))),(1,.pv (.list 1 (im.map aX))),(4,.any),(5,.row 3 ((FX im l (v+1)).map dZ)),(10,.pv (.list 2 (dt.map iW))),(11,.pv (.int .i64 dt.length)),(12,.pv (.int .i64 v)),(43,.any)],[⟨false,[.pv y0,.pv y1]⟩],[],none⟩):=by
 unfold KU
 refine bC (env:=env) (nb:=1) (l[v].length) (fun i=>⟨sl 47 [(0,.pv (.list 2 (dt.map iW))),(1,.pv (.list 1 (im.map aX))),(5,.row 3 ((FX im l v++Ap im v (l[v].take (i))).map dZ)),(6,.pv (.int .i64 v)),(10,.pv (.list 2 (dt.map iW))),(11,.pv (.int .i64 dt.length)),(12,.pv (.int .i64 v)),(18,.row 2 (l[v].map dD)),(19,.pv (.int .i64 l[v].length)),(20,.pv (.int .i64 i)),(43,.any)],[⟨false,[.pv y0,.pv y1]⟩],[],none⟩) (fun i=>some (.normal,⟨sl 47 [(0,.pv (.list 2 (dt.map iW))),(1,.pv (.list 1 (im.map aX))),(4,.any),(5,.row 3 ((FX im l (v+1)).map dZ)),(10,.pv (.list 2 (dt.map iW))),(11,.pv (.int .i64 dt.length)),(12,.pv (.int .i64 v)),(43,.any)],[⟨false,[.pv y0,.pv y1]⟩],[],none⟩)) h (fun _=>rfl) (fun _=>by simp only [aB,bg,Nat.reduceMul,Nat.reduceBEq,Nat.reduceLT,Nat.reduceLeDiff,Nat.reduceAdd,decide_true,Bool.and_self,Bool.true_and]) ?_ ?_
 ·intro i rb hi ih
  have hxl:=h0.xl _ (List.getElem_mem hv)
  have hi1:=bG hi (by unfold lim;omega)
  have F1:((i:Int)<(l[v].length:Int))=True:=eq_true (by omega)
  obtain ⟨Hu,b1,b2,W,e6,f3,f2,e5⟩:=ag5 h0 hv hi
  have hx:=sQ hi
  have hy:=xG Hu
  have B1:=eq_true b1
  have B2:=eq_true b2
  have F2:=eq_true f2
  have e1:=adg (es:=((im[v].map iI).drop l[v][i].start.toNat).take l[v][i].count.toNat) f3
  rw [e5] at ih
  simp only [KT,F1,F2,hx,hy,sN,W,B1,B2,e6,e1,au Hu,au hi,List.length_map,ak,Nat.reduceMul,Nat.reduceBEq,Nat.reduceLT,Nat.reduceLeDiff,reduceCtorEq,Nat.reduceEqDiff,Nat.reduceAdd,Nat.beq]
  rw [ih _ (by simp only [hi1,ak,Nat.reduceMul,Nat.reduceBEq,Nat.reduceLT,Nat.reduceLeDiff,reduceCtorEq,Nat.reduceEqDiff,Nat.reduceAdd,Nat.beq]<;>rfl)]
 ·intro rb
  have e9:FX im l v++Ap im v l[v]=FX im l (v+1):=by rw [wG,show l.getD v []=l[v] by simp [hv]]
  rw [List.take_length,e9]
  simp only [KT,Int.lt_irrefl,List.length_map,ak,Nat.reduceMul,Nat.reduceBEq,Nat.reduceLT,Nat.reduceLeDiff,reduceCtorEq,Nat.reduceEqDiff,Nat.reduceAdd,Nat.beq]
theorem adR {im:iw} {dt:List Bm} (h0:QH im (dt.map qo)) {st:St} (h:st.head [0,1,5,10,11,12,43] st.boxes.length=some ⟨sl 47 [(0,.pv (.list 2 (dt.map iW))),(1,.pv (.list 1 (im.map aX))),(5,.row 3 ((FX im (dt.map qo) ((0:Nat))).map dZ)),(10,.pv (.list 2 (dt.map iW))),(11,.pv (.int .i64 dt.length)),(12,.pv (.int .i64 (0:Nat))),(43,.any)],[],[],none⟩) :
  den env KX st=some (.normal,⟨sl 47 [(4,.any),(5,.row 3 ((DR im (dt.map qo)).map dZ))],[],[],none⟩):=by
 unfold KX
 refine bC (env:=env) (nb:=0) (dt.length) (fun i=>⟨sl 47 [(0,.pv (.list 2 (dt.map iW))),(1,.pv (.list 1 (im.map aX))),(5,.row 3 ((FX im (dt.map qo) (i)).map dZ)),(10,.pv (.list 2 (dt.map iW))),(11,.pv (.int .i64 dt.length)),(12,.pv (.int .i64 i)),(43,.any)],[],[],none⟩) (fun i=>some (.normal,⟨sl 47 [(4,.any),(5,.row 3 ((DR im (dt.map qo)).map dZ))],[],[],none⟩)) h (fun _=>rfl) (fun _=>by simp only [aB,bg,Nat.reduceMul,Nat.reduceBEq,Nat.reduceLT,Nat.reduceLeDiff,Nat.reduceAdd,decide_true,Bool.and_self,Bool.true_and]) ?_ ?_
 ·intro i rb hi ih
  have hln:=h0.ln
  have him:=h0.ml
  rw [List.length_map] at hln
  have hi1:=bG hi (by unfold lim;omega)
  have F1:((i:Int)<(dt.length:Int))=True:=eq_true (by omega)
  have hx:=FI hi
  have hm:i<(dt.map qo).length:=by rw [List.length_map];exact hi
  have e1:cal env 95 [.agg [.int .i64 dt[i].size,.list 1 (dt[i].ws.map eW)]]=_:=amx (b:=dt[i])
  rw [show qo dt[i]=(dt.map qo)[i] by rw [List.getElem_map]] at e1
  simp only [KW,F1,hx,e1,sN,au hi,List.length_map,ak,Nat.reduceMul,Nat.reduceBEq,Nat.reduceLT,Nat.reduceLeDiff,reduceCtorEq,Nat.reduceEqDiff,Nat.reduceAdd,Nat.beq]
  rw [akq (im:=im) (l:=dt.map qo) (dt:=dt) (v:=i) h0 hm (by simp only [List.take_zero,show Ap im i []=[] from rfl,List.append_nil];simp only [aB,bg,Nat.reduceMul,Nat.reduceBEq,Nat.reduceLT,Nat.reduceLeDiff,Nat.reduceAdd,decide_true,Bool.and_self,Bool.true_and]<;>rfl)]
  simp only [ak,Nat.reduceMul,Nat.reduceBEq,Nat.reduceLT,Nat.reduceLeDiff,reduceCtorEq,Nat.reduceEqDiff,Nat.reduceAdd,Nat.beq]
  rw [ih _ (by simp only [hi1,ak,Nat.reduceMul,Nat.reduceBEq,Nat.reduceLT,Nat.reduceLeDiff,reduceCtorEq,Nat.reduceEqDiff,Nat.reduceAdd,Nat.beq]<;>rfl)]
 ·intro rb
  rw [show FX im (dt.map qo) dt.length=DR im (dt.map qo) by unfold DR;rw [List.length_map]]
  simp only [KW,Int.lt_irrefl,List.length_map,ak,Nat.reduceMul,Nat.reduceBEq,Nat.reduceLT,Nat.reduceLeDiff,reduceCtorEq,Nat.reduceEqDiff,Nat.reduceAdd,Nat.beq]
theorem am1 {im:iw} {dt:List Bm} (h0:QH im (dt.map qo)):cal env 56 [.list 2 (dt.map iW),.list 1 (im.map aX)]=some [(.list 3 ((DR im (dt.map qo)).map dZ),true)]:=by
 rw [ah al0 rfl];simp only [abR,aB,Nat.reduceBEq,Nat.reduceLeDiff,Nat.reduceAdd,List.length_cons,List.length_nil]
 simp only [List.length_map,ak,Nat.reduceMul,Nat.reduceBEq,Nat.reduceLT,Nat.reduceLeDiff,reduceCtorEq,Nat.reduceEqDiff,Nat.reduceAdd,Nat.beq]
 rw [adR (im:=im) (dt:=dt) h0 (by simp only [aB,bg,Nat.reduceMul,Nat.reduceBEq,Nat.reduceLT,Nat.reduceLeDiff,Nat.reduceAdd,decide_true,Bool.and_self,Bool.true_and]<;>rfl)]
 simp only [List.length_map,ak,Nat.reduceMul,Nat.reduceBEq,Nat.reduceLT,Nat.reduceLeDiff,reduceCtorEq,Nat.reduceEqDiff,Nat.reduceAdd,Nat.beq]
end Go.Proofs.YtpcncggjmabnaaaGreatDoor.V

namespace Go.Proofs.YtpcncggjmabnaaaGreatDoor.V
def U1 (l:List fM) (n:Int):Bool:=(l.length:Int)==n
def Hw (im:iw) (z:List Int) (i:Nat):Bool:=((im.drop i).zip (z.drop i)).all fun q=>U1 q.1 q.2
def Hy (im:iw) (z:List Int):Bool:=decide (im.length=z.length)&&Hw im z 0
theorem Zq {dt:iw} {z:List Int} {i:Nat} (h:i<dt.length) (h2:i<z.length):Hw dt z i=(U1 dt[i] z[i]&&Hw dt z (i+1)):=by
 unfold Hw
 rw [List.drop_eq_getElem_cons h,List.drop_eq_getElem_cons h2]
 rfl
theorem adS (dt:iw) (z:List Int):Hw dt z dt.length=true:=by
 unfold Hw
 rw [List.drop_length]
 rfl
theorem DT {im:iw} {z:List Int}:Hy im z=true ↔ aA im=z:=by
 unfold Hy Hw
 rw [List.drop_zero,List.drop_zero]
 simp only [Bool.and_eq_true,decide_eq_true_eq]
 constructor
 ·rintro ⟨h1,h2⟩
  apply List.ext_getElem
  ·unfold aA;rw [List.length_map];exact h1
  ·intro i k1 k2
   have hi:i<im.length:=by unfold aA at k1;rw [List.length_map] at k1;exact k1
   have:=List.all_eq_true.1 h2 (im[i],z[i]) (by
    have e:(im.zip z)[i]'(by rw [List.length_zip];omega)=(im[i],z[i]):=List.getElem_zip
    rw [← e];exact List.getElem_mem _)
   unfold U1 at this
   simpa [aA] using this
 ·rintro rfl
  refine ⟨by simp [aA],?_⟩
  rw [List.all_eq_true]
  intro q hq
  obtain ⟨i,hi⟩:=List.mem_iff_getElem?.1 hq
  obtain ⟨h1,h2⟩:=List.getElem?_eq_some_iff.1 hi
  rw [← h2,List.getElem_zip]
  simp [U1,aA]
theorem am2 {l:List fM} {n:Int}:cal env 55 [.list 8 (l.map iI),.int .i64 n]=some [(.bool (U1 l n),false)]:=by
 unfold U1
 rw [ah alZ rfl];simp only [abQ,aB,Nat.reduceBEq,Nat.reduceLeDiff,Nat.reduceAdd,List.length_cons,List.length_nil]
 simp only [List.length_map,ak,Nat.reduceMul,Nat.reduceBEq,Nat.reduceLT,Nat.reduceLeDiff,reduceCtorEq,Nat.reduceEqDiff,Nat.reduceAdd,Nat.beq]
theorem akr {dt:iw} {z:List Int} (hl:dt.length≤1000) (hz:dt.length=z.length) {st:St} (h:st.head [0,1,2,15,16,17] st.boxes.length=some ⟨sl 32 [(0,.pv (.list 1 (dt.map aX))),(1,.pv (.list 1 (z.map eI))),(2,.pv (.func 55 [])),(15,.pv (.list 1 (dt.map aX))),(16,.pv (.int .i64 dt.length)),(17,.pv (.int .i64 (0:Nat)))],[],[],none⟩) :
  den env KR st=Zf 32 6 (Hw dt z ((0:Nat))):=by
 unfold KR
 refine bC (env:=env) (dt.length) (fun i=>⟨sl 32 [(0,.pv (.list 1 (dt.map aX))),(1,.pv (.list 1 (z.map eI))),(2,.pv (.func 55 [])),(15,.pv (.list 1 (dt.map aX))),(16,.pv (.int .i64 dt.length)),(17,.pv (.int .i64 i))],[],[],none⟩) (fun i=>Zf 32 6 (Hw dt z (i))) h (fun _=>rfl) (fun _=>by simp only [aB,bg,Nat.reduceMul,Nat.reduceBEq,Nat.reduceLT,Nat.reduceLeDiff,Nat.reduceAdd,decide_true,Bool.and_self,Bool.true_and]) ?_ ?_
 ·intro i rb hi ih
  have hi1:=bG hi (by unfold lim;omega)
  have hj:i<z.length:=by omega
  have F1:((i:Int)<(dt.length:Int))=True:=eq_true (by omega)
  have e1:=am2 (l:=dt[i]) (n:=z[i])
  have hx:=xG hi
  have hy:=MI hj
  rw [Zq hi hj]
  cases c:U1 dt[i] z[i] with
  |true =>
   rw [c] at e1
   rw [Bool.true_and]
   simp only [Dy,F1,e1,hx,hy,au hi,au hj,List.length_map,ak,Nat.reduceMul,Nat.reduceBEq,Nat.reduceLT,Nat.reduceLeDiff,reduceCtorEq,Nat.reduceEqDiff,Nat.reduceAdd,Nat.beq]
   rw [ih _ (by simp only [hi1,ak,Nat.reduceMul,Nat.reduceBEq,Nat.reduceLT,Nat.reduceLeDiff,reduceCtorEq,Nat.reduceEqDiff,Nat.reduceAdd,Nat.beq]<;>rfl)]
  |false =>
   rw [c] at e1
   rw [Bool.false_and,MK]
   simp only [Dy,F1,e1,hx,hy,au hi,au hj,List.length_map,ak,Nat.reduceMul,Nat.reduceBEq,Nat.reduceLT,Nat.reduceLeDiff,reduceCtorEq,Nat.reduceEqDiff,Nat.reduceAdd,Nat.beq]
 ·intro rb
  rw [adS,MJ]
  simp only [Dy,Int.lt_irrefl,List.length_map,ak,Nat.reduceMul,Nat.reduceBEq,Nat.reduceLT,Nat.reduceLeDiff,reduceCtorEq,Nat.reduceEqDiff,Nat.reduceAdd,Nat.beq]
theorem am3 {dt:iw} {z:List Int} (hl:dt.length≤1000):cal env 54 [.list 1 (dt.map aX),.list 1 (z.map eI),.func 55 []]=some [(.bool (Hy dt z),false)]:=by
 unfold Hy
 by_cases c:dt.length=z.length
 ·have F1:((dt.length:Int) != (z.length:Int))=false:=by simp [c]
  rw [decide_eq_true c,Bool.true_and]
  rw [ah ahJ rfl];simp only [YL,aB,Nat.reduceBEq,Nat.reduceLeDiff,Nat.reduceAdd,List.length_cons,List.length_nil]
  simp only [F1,List.length_map,ak,Nat.reduceMul,Nat.reduceBEq,Nat.reduceLT,Nat.reduceLeDiff,reduceCtorEq,Nat.reduceEqDiff,Nat.reduceAdd,Nat.beq]
  rw [akr hl c (by simp only [aB,bg,Nat.reduceMul,Nat.reduceBEq,Nat.reduceLT,Nat.reduceLeDiff,Nat.reduceAdd,decide_true,Bool.and_self,Bool.true_and]<;>rfl)]
  cases Hw dt z 0 with
  |true=>rw [MJ];simp only [F1,List.length_map,ak,Nat.reduceMul,Nat.reduceBEq,Nat.reduceLT,Nat.reduceLeDiff,reduceCtorEq,Nat.reduceEqDiff,Nat.reduceAdd,Nat.beq]
  |false=>rw [MK];simp only [F1,List.length_map,ak,Nat.reduceMul,Nat.reduceBEq,Nat.reduceLT,Nat.reduceLeDiff,reduceCtorEq,Nat.reduceEqDiff,Nat.reduceAdd,Nat.beq]
 ·have F1:((dt.length:Int) != (z.length:Int))=true:=by simp;omega
  rw [decide_eq_false c,Bool.false_and]
  rw [ah ahJ rfl];simp only [YL,aB,Nat.reduceBEq,Nat.reduceLeDiff,Nat.reduceAdd,List.length_cons,List.length_nil]
  simp only [F1,List.length_map,ak,Nat.reduceMul,Nat.reduceBEq,Nat.reduceLT,Nat.reduceLeDiff,reduceCtorEq,Nat.reduceEqDiff,Nat.reduceAdd,Nat.beq]
end Go.Proofs.YtpcncggjmabnaaaGreatDoor.V

namespace Go.Proofs.YtpcncggjmabnaaaGreatDoor.V
def QI (s:kJ) (im:iw) (t:Int):Int:=if l9 s=0 then (if fG im=0 then (if s.ov then (if Hy im s.sz then (if t<0∨t > 1073741824 then 24 else 0) else 22) else 12) else fG im) else l9 s
def ru (s:kJ) (im:iw) (t:Int):jk:=⟨s.fs,s.ls,t,[],DR im (s.dt.map qo)⟩
def adT (s:kJ) (im:iw) (t:Int):jk:=if QI s im t=0 then ru s im t else Hr
def U2 (s:kJ) (im:iw) (t:Int):kJ:=if QI s im t=0 then { s with ov:=false,dt:=[],cy:=[ru s im t] } else Qy
structure smI (im:iw):Prop where
 ln:im.length≤10
 vo:∀ v∈im,v.length≤400
theorem adU {s:kJ} {im:iw} (h:yG s.dt s.sz=true) (hs:Hy im s.sz=true) (hi:smI im):QH im (s.dt.map qo):=by
 have hz:=wF h
 have e:=DT.1 hs
 have hl:s.dt.length=im.length:=by rw [hz.1,← e];simp [aA]
 have hv:∀ v (h:v<s.dt.length),okB s.dt[v]=true∧s.dt[v].size=((im.getD v []).length:Int)∧(im.getD v []).length≤400:=fun v hv=>by
  obtain ⟨k1,k2⟩:=hz.2 v hv
  have Hu:v<im.length:=by omega
  have e2:im.getD v []=im[v]:=by simp [Hu]
  refine ⟨k1,?_,by rw [e2];exact hi.vo _ (List.getElem_mem Hu)⟩
  rw [k2,← e,e2]
  simp [aA,List.getD_eq_getElem?_getD,Hu]
 refine ⟨by rw [List.length_map];omega,Nat.le_trans hi.ln (by decide),fun v hv=>Nat.le_trans (hi.vo v hv) (by decide),fun x hx=>?_,fun v h e he=>?_⟩
 ·obtain ⟨b,hb,rfl⟩:=List.mem_map.1 hx
  obtain ⟨i,hi1⟩:=List.mem_iff_getElem?.1 hb
  obtain ⟨h1,h2⟩:=List.getElem?_eq_some_iff.1 hi1
  obtain ⟨k1,k2,k3⟩:=hv i h1
  rw [← h2]
  unfold qo wz
  rw [if_pos k1,k2]
  have:=xE (bit s.dt[i].ws) ((((im.getD i []).length:Int)).toNat)
  omega
 ·have h':v<s.dt.length:=by rw [List.length_map] at h;exact h
  obtain ⟨k1,k2,k3⟩:=hv v h'
  rw [List.getElem_map] at he
  unfold qo wz at he
  rw [if_pos k1,k2] at he
  have:=Bq _ _ e he
  omega
theorem U3 {s:kJ} {im:iw} (h:yG s.dt s.sz=true) (hs:Hy im s.sz=true) (hi:smI im):(DR im (s.dt.map qo)).length≤10000∧∀ x∈DR im (s.dt.map qo),x.data.length≤10000:=by
 have hz:=wF h
 have e:=DT.1 hs
 have hl:s.dt.length=im.length:=by rw [hz.1,← e];simp [aA]
 have hv:∀ v (h:v<s.dt.length),s.dt[v].size≤400:=fun v hv=>by
  obtain ⟨k1,k2⟩:=hz.2 v hv
  have Hu:v<im.length:=by omega
  have:=hi.vo _ (List.getElem_mem Hu)
  rw [k2,← e]
  simp [aA,List.getD_eq_getElem?_getD,Hu]
  omega
 have hx:∀ x∈s.dt.map qo,x.length≤400:=fun x hx=>by
  obtain ⟨b,hb,rfl⟩:=List.mem_map.1 hx
  obtain ⟨i,hi1⟩:=List.mem_iff_getElem?.1 hb
  obtain ⟨h1,h2⟩:=List.getElem?_eq_some_iff.1 hi1
  have k:=hv i h1
  rw [← h2]
  unfold qo wz
  split
  ·have:=xE (bit s.dt[i].ws) s.dt[i].size.toNat
   omega
  ·simp
 refine ⟨?_,fun x hxm=>?_⟩
 ·have h1:=BA (im:=im) hx (s.dt.map qo).length
  have h2:400 * (s.dt.map qo).length≤400 * 10:=Nat.mul_le_mul_left _ (by rw [List.length_map,hl];exact hi.ln)
  unfold DR
  omega
 ·unfold DR FX at hxm
  obtain ⟨v,hv1,hx1⟩:=List.mem_flatMap.1 hxm
  unfold Ap at hx1
  obtain ⟨e,he,rfl⟩:=List.mem_map.1 hx1
  show (((im.getD v []).drop e.start.toNat).take e.count.toNat).length≤10000
  rw [List.length_take,List.length_drop]
  by_cases c:v<im.length
  ·have e2:im.getD v []=im[v]:=by simp [c]
   have:=hi.vo _ (List.getElem_mem c)
   rw [e2];omega
  ·have e2:im.getD v []=[]:=by simp [List.getD_eq_getElem?_getD,List.getElem?_eq_none (Nat.le_of_not_lt c)]
   rw [e2];simp
theorem ag6 (s:kJ) (im:iw) (t:Int):kK (U2 s im t)=if QI s im t=0 then kK { s with ov:=false,dt:=[],cy:=[ru s im t] } else kK Qy:=by
 unfold U2;split<;>rfl
theorem ag7 (s:kJ) (im:iw) (t:Int):eP (adT s im t)=if QI s im t=0 then eP (ru s im t) else eP Hr:=by
 unfold adT;split<;>rfl
set_option maxRecDepth 20000 in
theorem am5 {s:kJ} {im:iw} {t:Int} (hq:Hl s) (hi:smI im):cal env 26 [kK s,.list 1 (im.map aX),.int .i64 t]=some [(kK (U2 s im t),false),(eP (adT s im t),false),(.int .i64 (QI s im t),false)]:=by
 have e1:=V6 hq
 have e2:=acy (im:=im) (by have:=hi.ln;unfold lim;omega)
 have e3:=am3 (dt:=im) (z:=s.sz) (by have:=hi.ln;omega)
 have e5:=adi hq
 have Z0:((0:Int) != 0)=false:=rfl
 rw [ag6,ag7]
 unfold QI
 rw [bW] at e1 e5
 rw [bW s]
 by_cases c1:l9 s=0
 rotate_left
 ·have Z:(l9 s != 0)=true:=by simp [c1]
  rw [if_neg c1,if_neg c1,if_neg c1,kE,rQ]
  rw [ah Fh rfl];simp only [EL,aB,Nat.reduceBEq,Nat.reduceLeDiff,Nat.reduceAdd,List.length_cons,List.length_nil]
  simp only [e1,Z,dh,iq,List.length_map,ak,Nat.reduceMul,Nat.reduceBEq,Nat.reduceLT,Nat.reduceLeDiff,reduceCtorEq,Nat.reduceEqDiff,Nat.reduceAdd,Nat.beq]
 obtain ⟨k1,k2,k3⟩:=qZ c1
 rw [c1] at e1
 rw [if_pos c1]
 by_cases c2:fG im=0
 rotate_left
 ·have Z:(fG im != 0)=true:=by simp [c2]
  rw [if_neg c2,if_neg c2,if_neg c2,kE,rQ]
  rw [ah Fh rfl];simp only [EL,aB,Nat.reduceBEq,Nat.reduceLeDiff,Nat.reduceAdd,List.length_cons,List.length_nil]
  simp only [e1,e2,Z0,Z,dh,iq,List.length_map,ak,Nat.reduceMul,Nat.reduceBEq,Nat.reduceLT,Nat.reduceLeDiff,reduceCtorEq,Nat.reduceEqDiff,Nat.reduceAdd,Nat.beq]
 rw [c2] at e2
 rw [if_pos c2]
 cases co:s.ov with
 |false =>
  rw [co] at e1
  rw [if_neg Bool.false_ne_true,if_neg (by decide),if_neg (by decide),kE,rQ]
  rw [ah Fh rfl];simp only [EL,aB,Nat.reduceBEq,Nat.reduceLeDiff,Nat.reduceAdd,List.length_cons,List.length_nil]
  simp only [co,e1,e2,e3,Z0,dh,iq,List.length_map,ak,Nat.reduceMul,Nat.reduceBEq,Nat.reduceLT,Nat.reduceLeDiff,reduceCtorEq,Nat.reduceEqDiff,Nat.reduceAdd,Nat.beq]
 |true =>
  rcases k3 with ⟨_,g1,g2,g3⟩|⟨g,_⟩
  rotate_left
  ·rw [co] at g;cases g
  rw [co] at e1 e5
  rw [if_pos rfl]
  cases c3:Hy im s.sz with
  |false =>
   rw [c3] at e3
   rw [if_neg Bool.false_ne_true,if_neg (by decide),if_neg (by decide),kE,rQ]
   rw [ah Fh rfl];simp only [EL,aB,Nat.reduceBEq,Nat.reduceLeDiff,Nat.reduceAdd,List.length_cons,List.length_nil]
   simp only [co,e1,e2,e3,Z0,dh,iq,List.length_map,ak,Nat.reduceMul,Nat.reduceBEq,Nat.reduceLT,Nat.reduceLeDiff,reduceCtorEq,Nat.reduceEqDiff,Nat.reduceAdd,Nat.beq]
  |true =>
   rw [c3] at e3
   rw [if_pos rfl]
   by_cases c4:t<0
   ·have F4:=eq_true c4
    rw [if_pos (Or.inl c4:t<0∨t > 1073741824),if_neg (by decide),if_neg (by decide),kE,rQ]
    rw [ah Fh rfl];simp only [EL,aB,Nat.reduceBEq,Nat.reduceLeDiff,Nat.reduceAdd,List.length_cons,List.length_nil]
    simp only [co,e1,e2,e3,Z0,F4,dh,iq,List.length_map,ak,Nat.reduceMul,Nat.reduceBEq,Nat.reduceLT,Nat.reduceLeDiff,reduceCtorEq,Nat.reduceEqDiff,Nat.reduceAdd,Nat.beq]
   have F4:=eq_false c4
   by_cases c5:t > 1073741824
   ·have F5:=eq_true c5
    rw [if_pos (Or.inr c5:t<0∨t > 1073741824),if_neg (by decide),if_neg (by decide),kE,rQ]
    rw [ah Fh rfl];simp only [EL,aB,Nat.reduceBEq,Nat.reduceLeDiff,Nat.reduceAdd,List.length_cons,List.length_nil]
    simp only [co,e1,e2,e3,Z0,F4,F5,dh,iq,List.length_map,ak,Nat.reduceMul,Nat.reduceBEq,Nat.reduceLT,Nat.reduceLeDiff,reduceCtorEq,Nat.reduceEqDiff,Nat.reduceAdd,Nat.beq]
   have F5:=eq_false c5
   rw [if_neg (show ¬ (t<0∨t > 1073741824) by omega),if_pos rfl,if_pos rfl]
   have e6:=am1 (adU g3 c3 hi)
   obtain ⟨w1,w2⟩:=U3 g3 c3 hi
   have e7:=V7 (c:=ru s im t) ⟨Nat.zero_le _,w1,w2⟩
   rw [bW]
   have hD:eP (ru s im t)=.agg [.int .i64 s.fs,.int .i64 s.ls,.int .i64 t,.list 1 [],.list 3 ((DR im (s.dt.map qo)).map dZ)]:=rfl
   rw [hD] at e7 ⊢
   rw [show [ru s im t].map eP=[eP (ru s im t)] from rfl,hD]
   generalize (DR im (s.dt.map qo)).map dZ=WW at *
   rw [ah Fh rfl];simp only [EL,aB,Nat.reduceBEq,Nat.reduceLeDiff,Nat.reduceAdd,List.length_cons,List.length_nil]
   simp only [co,e1,e2,e3,e5,e6,e7,Z0,F4,F5,dh,iq,List.map_nil,List.length_map,ak,Nat.reduceMul,Nat.reduceBEq,Nat.reduceLT,Nat.reduceLeDiff,reduceCtorEq,Nat.reduceEqDiff,Nat.reduceAdd,Nat.beq]
end Go.Proofs.YtpcncggjmabnaaaGreatDoor.V

namespace Go.Proofs.YtpcncggjmabnaaaGreatDoor.V
theorem aks (s:fM):∃ a b c d e f g h:Int,iI s=.agg [.int .u8 a,.int .u8 b,.int .u8 c,.int .u8 d,.int .u8 e,.int .u8 f,.int .u8 g,.int .u8 h]:=by
 have hl:=jG s
 unfold iI
 have hm:∀ x∈lT s,∃ n:Int,x=.int .u8 n:=fun x hx=>by
  unfold lT at hx
  obtain ⟨b,_,rfl⟩:=List.mem_map.1 hx
  exact ⟨_,rfl⟩
 match hq:lT s,hl,hm with
 |[x0,x1,x2,x3,x4,x5,x6,x7],_,hm =>
  obtain ⟨a,rfl⟩:=hm x0 (by simp)
  obtain ⟨b,rfl⟩:=hm x1 (by simp)
  obtain ⟨c,rfl⟩:=hm x2 (by simp)
  obtain ⟨d,rfl⟩:=hm x3 (by simp)
  obtain ⟨e,rfl⟩:=hm x4 (by simp)
  obtain ⟨f,rfl⟩:=hm x5 (by simp)
  obtain ⟨g,rfl⟩:=hm x6 (by simp)
  obtain ⟨h,rfl⟩:=hm x7 (by simp)
  exact ⟨a,b,c,d,e,f,g,h,rfl⟩
theorem akt:iI vF=.agg [.int .u8 0,.int .u8 0,.int .u8 0,.int .u8 0,.int .u8 0,.int .u8 0,.int .u8 0,.int .u8 0]:=rfl
theorem Wy (a b c d e f g h:PV):part [a,b,c,d,e,f,g,h] 0 (some 8)=some (.agg [a,b,c,d,e,f,g,h]):=rfl
def Hz (w:bP):Prop:=(0≤w.start∧w.start≤100000)∧w.data.length≤100000
def MW (w:bP) (v s:Int):Bool:=decide (w.volume=v)&&(decide (w.data.length≠0)&&decide (w.start≤s))
def wH (w:bP) (v s:Int):Int:=if MW w v s then s - w.start else 0
def pJ (w:bP) (v s:Int):Bool:=MW w v s&&decide (s - w.start<(w.data.length:Int))
theorem am6 {w:bP} {v s:Int} (hw:Hz w) (hs:0≤s∧s≤100000):cal env 67 [dZ w,.int .i64 v,.int .i64 s]=some [(.int .i64 (wH w v s),false),(.bool (pJ w v s),false)]:=by
 obtain ⟨⟨h1,h2⟩,h3⟩:=hw
 have W:IntKind.i64.wrap (s - w.start)=s - w.start:=bf (by omega)
 have F5:(w.start<0)=False:=eq_false (by omega)
 unfold wH pJ MW dZ
 by_cases c1:w.volume=v
 rotate_left
 ·have G1:(w.volume != v)=true:=by simp [c1]
  rw [decide_eq_false c1,Bool.false_and,Bool.false_and,if_neg Bool.false_ne_true]
  rw [ah Ql rfl];simp only [LC,aB,Nat.reduceBEq,Nat.reduceLeDiff,Nat.reduceAdd,List.length_cons,List.length_nil]
  simp only [G1,jA,List.length_map,ak,Nat.reduceMul,Nat.reduceBEq,Nat.reduceLT,Nat.reduceLeDiff,reduceCtorEq,Nat.reduceEqDiff,Nat.reduceAdd,Nat.beq]
 have G1:(w.volume != v)=false:=by simp [c1]
 rw [decide_eq_true c1,Bool.true_and]
 by_cases c2:w.data.length≠0
 rotate_left
 ·have G2:((w.data.length:Int)==0)=true:=beq_iff_eq.2 (by omega)
  rw [decide_eq_false c2,Bool.false_and,Bool.false_and,if_neg Bool.false_ne_true]
  rw [ah Ql rfl];simp only [LC,aB,Nat.reduceBEq,Nat.reduceLeDiff,Nat.reduceAdd,List.length_cons,List.length_nil]
  simp only [G1,G2,jA,List.length_map,ak,Nat.reduceMul,Nat.reduceBEq,Nat.reduceLT,Nat.reduceLeDiff,reduceCtorEq,Nat.reduceEqDiff,Nat.reduceAdd,Nat.beq]
 have G2:((w.data.length:Int)==0)=false:=beq_eq_false_iff_ne.2 (by omega)
 rw [decide_eq_true c2,Bool.true_and]
 by_cases c3:w.start≤s
 rotate_left
 ·have G3:(w.start > s)=True:=eq_true (by omega)
  rw [decide_eq_false c3,Bool.false_and,if_neg Bool.false_ne_true]
  rw [ah Ql rfl];simp only [LC,aB,Nat.reduceBEq,Nat.reduceLeDiff,Nat.reduceAdd,List.length_cons,List.length_nil]
  simp only [G1,G2,G3,jA,List.length_map,ak,Nat.reduceMul,Nat.reduceBEq,Nat.reduceLT,Nat.reduceLeDiff,reduceCtorEq,Nat.reduceEqDiff,Nat.reduceAdd,Nat.beq]
 have G3:(w.start > s)=False:=eq_false (by omega)
 rw [decide_eq_true c3,Bool.true_and,if_pos rfl]
 by_cases c4:s - w.start<(w.data.length:Int)
 ·have G4:=eq_true c4
  rw [decide_eq_true c4]
  rw [ah Ql rfl];simp only [LC,aB,Nat.reduceBEq,Nat.reduceLeDiff,Nat.reduceAdd,List.length_cons,List.length_nil]
  simp only [G1,G2,G3,G4,W,F5,jA,List.length_map,ak,Nat.reduceMul,Nat.reduceBEq,Nat.reduceLT,Nat.reduceLeDiff,reduceCtorEq,Nat.reduceEqDiff,Nat.reduceAdd,Nat.beq]
 ·have G4:=eq_false c4
  rw [decide_eq_false c4]
  rw [ah Ql rfl];simp only [LC,aB,Nat.reduceBEq,Nat.reduceLeDiff,Nat.reduceAdd,List.length_cons,List.length_nil]
  simp only [G1,G2,G3,G4,W,F5,jA,List.length_map,ak,Nat.reduceMul,Nat.reduceBEq,Nat.reduceLT,Nat.reduceLeDiff,reduceCtorEq,Nat.reduceEqDiff,Nat.reduceAdd,Nat.beq]
theorem FY {w:bP} {v s:Int} (h:pJ w v s=true):(wH w v s).toNat<w.data.length∧0≤wH w v s:=by
 unfold pJ at h
 simp only [Bool.and_eq_true,decide_eq_true_eq] at h
 unfold wH
 rw [if_pos h.1]
 have:=h.1
 unfold MW at this
 simp only [Bool.and_eq_true,decide_eq_true_eq] at this
 omega
def qw (v s:Int):List bP→Option fM
 |[]=>none
 |w :: l=>if pJ w v s then w.data[(wH w v s).toNat]? else qw v s l
def sS (l:List bP) (v s:Int):Option fM:=qw v s l.reverse
def ag8 (o:Option fM):Option (Ex × St):=match o with
 |none=>some (.normal,⟨sl 38 [(6,.aI 0 0),(7,.any)],[⟨false,[.pv (.int .u8 0),.pv (.int .u8 0),.pv (.int .u8 0),.pv (.int .u8 0),.pv (.int .u8 0),.pv (.int .u8 0),.pv (.int .u8 0),.pv (.int .u8 0)]⟩],[],none⟩)
 |some x=>some (.ret,⟨sl 38 [(6,.aI 0 0),(7,.pv (.bool true))],[⟨false,(iI x).cells.map .pv⟩],[],none⟩)
theorem adV:ag8 none=some (.normal,⟨sl 38 [(6,.aI 0 0),(7,.any)],[⟨false,[.pv (.int .u8 0),.pv (.int .u8 0),.pv (.int .u8 0),.pv (.int .u8 0),.pv (.int .u8 0),.pv (.int .u8 0),.pv (.int .u8 0),.pv (.int .u8 0)]⟩],[],none⟩):=rfl
theorem adW (x:fM):ag8 (some x)=some (.ret,⟨sl 38 [(6,.aI 0 0),(7,.pv (.bool true))],[⟨false,(iI x).cells.map .pv⟩],[],none⟩):=rfl
theorem Zr {l:List bP} {v s:Int} {i:Nat} (h:i<l.length):qw v s (l.reverse.drop i)=if pJ (l[l.length - 1 - i]'(by omega)) v s then (l[l.length - 1 - i]'(by omega)).data[(wH (l[l.length - 1 - i]'(by omega)) v s).toNat]? else qw v s (l.reverse.drop (i+1)):=by
 rw [List.drop_eq_getElem_cons (by rw [List.length_reverse];exact h),qw,List.getElem_reverse]
theorem aku {l:List bP} {v s:Int} (hm:∀ w∈l,Hz w) (hl:l.length≤100000) (hs:0≤s∧s≤100000) {st:St} (h:st.head [0,1,2,6,8] st.boxes.length=some ⟨sl 38 [(0,.pv (.list 3 (l.map dZ))),(1,.pv (.int .i64 v)),(2,.pv (.int .i64 s)),(6,.aI 0 0),(8,.pv (.int .i64 ((l.length:Int) - 1 - ((0:Nat):Nat))))],[⟨false,[.pv (.int .u8 0),.pv (.int .u8 0),.pv (.int .u8 0),.pv (.int .u8 0),.pv (.int .u8 0),.pv (.int .u8 0),.pv (.int .u8 0),.pv (.int .u8 0)]⟩],[],none⟩) :
  den env KH st=ag8 (qw v s (l.reverse.drop ((0:Nat)))):=by
 unfold KH
 refine bC (env:=env) (nb:=1) (l.length) (fun i=>⟨sl 38 [(0,.pv (.list 3 (l.map dZ))),(1,.pv (.int .i64 v)),(2,.pv (.int .i64 s)),(6,.aI 0 0),(8,.pv (.int .i64 ((l.length:Int) - 1 - (i:Nat))))],[⟨false,[.pv (.int .u8 0),.pv (.int .u8 0),.pv (.int .u8 0),.pv (.int .u8 0),.pv (.int .u8 0),.pv (.int .u8 0),.pv (.int .u8 0),.pv (.int .u8 0)]⟩],[],none⟩) (fun i=>ag8 (qw v s (l.reverse.drop (i)))) h (fun _=>rfl) (fun _=>by simp only [aB,bg,Nat.reduceMul,Nat.reduceBEq,Nat.reduceLT,Nat.reduceLeDiff,Nat.reduceAdd,decide_true,Bool.and_self,Bool.true_and]) ?_ ?_
 ·intro i rb hi ih
  have hj:l.length - 1 - i<l.length:=by omega
  have hji:((l.length:Int) - 1 - (i:Nat))=((l.length - 1 - i:Nat):Int):=by omega
  have F1:(((l.length - 1 - i:Nat):Int) ≥ 0)=True:=eq_true (by omega)
  have W:IntKind.i64.wrap (((l.length - 1 - i:Nat):Int) - 1)=(l.length:Int) - 1 - ((i+1:Nat):Int):=by rw [bf (by omega)];omega
  have e1:=am6 (v:=v) (hm _ (List.getElem_mem hj)) hs
  have hx:=uK hj
  rw [Zr hi]
  rw [hji]
  unfold dZ at e1
  cases c:pJ l[l.length - 1 - i] v s with
  |true =>
   obtain ⟨k1,k2⟩:=FY c
   have e2:wH l[l.length - 1 - i] v s=(((wH l[l.length - 1 - i] v s).toNat:Nat):Int):=by omega
   rw [c] at e1
   rw [if_pos rfl,List.getElem?_eq_getElem k1,adW]
   generalize (wH l[l.length - 1 - i] v s).toNat=k at *
   rw [e2] at e1
   have hy:(l[l.length - 1 - i].data.map iI)[k]?=some (iI l[l.length - 1 - i].data[k]):=by rw [List.getElem?_map,List.getElem?_eq_getElem k1];rfl
   obtain ⟨a,b,c',d,e,f,g,h',h8⟩:=aks l[l.length - 1 - i].data[k]
   rw [h8] at hy ⊢
   simp only [Dx,F1,e1,hx,hy,jA,Wy,au hj,au k1,List.length_map,ak,Nat.reduceMul,Nat.reduceBEq,Nat.reduceLT,Nat.reduceLeDiff,reduceCtorEq,Nat.reduceEqDiff,Nat.reduceAdd,Nat.beq]
  |false =>
   rw [c] at e1
   rw [if_neg Bool.false_ne_true]
   simp only [Dx,F1,e1,hx,jA,au hj,List.length_map,ak,Nat.reduceMul,Nat.reduceBEq,Nat.reduceLT,Nat.reduceLeDiff,reduceCtorEq,Nat.reduceEqDiff,Nat.reduceAdd,Nat.beq]
   rw [ih _ (by simp only [W,ak,Nat.reduceMul,Nat.reduceBEq,Nat.reduceLT,Nat.reduceLeDiff,reduceCtorEq,Nat.reduceEqDiff,Nat.reduceAdd,Nat.beq]<;>rfl)]
 ·intro rb
  have F1:(((l.length:Int) - 1 - (l.length:Int)) ≥ 0)=False:=eq_false (by omega)
  rw [List.drop_of_length_le (by simp),show qw v s []=none from rfl,adV]
  simp only [Dx,F1,List.length_map,ak,Nat.reduceMul,Nat.reduceBEq,Nat.reduceLT,Nat.reduceLeDiff,reduceCtorEq,Nat.reduceEqDiff,Nat.reduceAdd,Nat.beq]
theorem am7 {l:List bP} {v s:Int} (hm:∀ w∈l,Hz w) (hl:l.length≤100000) (hs:0≤s∧s≤100000):cal env 34 [.list 3 (l.map dZ),.int .i64 v,.int .i64 s]=some [(iI ((sS l v s).getD vF),false),(.bool (sS l v s).isSome,false)]:=by
 have W:IntKind.i64.wrap ((l.length:Int) - 1)=(l.length:Int) - 1 - ((0:Nat):Int):=by rw [bf (by omega)];omega
 have hz:sS l v s=qw v s l.reverse:=rfl
 rw [hz]
 rw [ah alS rfl];simp only [abK,aB,Nat.reduceBEq,Nat.reduceLeDiff,Nat.reduceAdd,List.length_cons,List.length_nil]
 simp only [W,List.length_map,ak,Nat.reduceMul,Nat.reduceBEq,Nat.reduceLT,Nat.reduceLeDiff,reduceCtorEq,Nat.reduceEqDiff,Nat.reduceAdd,Nat.beq]
 rw [aku hm hl hs (by simp only [aB,bg,Nat.reduceMul,Nat.reduceBEq,Nat.reduceLT,Nat.reduceLeDiff,Nat.reduceAdd,decide_true,Bool.and_self,Bool.true_and]<;>rfl),List.drop_zero]
 cases qw v s l.reverse with
 |none =>
  rw [adV,Option.getD_none,akt]
  simp only [Wy,Option.isSome_none,ak,Nat.reduceMul,Nat.reduceBEq,Nat.reduceLT,Nat.reduceLeDiff,reduceCtorEq,Nat.reduceEqDiff,Nat.reduceAdd,Nat.beq]
 |some x =>
  rw [adW,Option.getD_some]
  obtain ⟨a,b,c',d,e,f,g,h',h8⟩:=aks x
  rw [h8]
  simp only [Wy,Option.isSome_some,ak,Nat.reduceMul,Nat.reduceBEq,Nat.reduceLT,Nat.reduceLeDiff,reduceCtorEq,Nat.reduceEqDiff,Nat.reduceAdd,Nat.beq]
end Go.Proofs.YtpcncggjmabnaaaGreatDoor.V
