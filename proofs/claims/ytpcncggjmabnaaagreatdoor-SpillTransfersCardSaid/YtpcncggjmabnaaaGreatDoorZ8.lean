/-
  Part 8 of the texts that the statement stands on.
-/
import Derived.Test.YtpcncggjmabnaaaGreatDoorZ7
set_option linter.all false
namespace Go.Proofs.YtpcncggjmabnaaaGreatDoor.V
theorem amj {c:kX} {s:og} (hc:Am c) (hw:mX s.sz c.ws) (hz:s.sz.length≤1000) (hd:VW s.sz s.dt):Oj env 79 (.own (agt s)) [gU c,.dN [.func 75 []] 0]=some ([(oI { s with dt:=Fv c.ws s.dt },false),(.int .i64 0,false)],none):=by
 have e1:=ahz (z:=s.sz) (cs:=[c]) (s:=s) (fun x hx=>by rw [List.mem_singleton.1 hx];exact ⟨hc,hw⟩) hz hd (by simp)
 rw [show AA s.dt [c]=Fv c.ws s.dt from rfl,qP,show [c].map gU=[gU c] from rfl,mO] at e1
 rw [wP alH rfl,qP,mO,eP]
 rw [eP] at e1
 simp only [abD,aB,Nat.reduceBEq,Nat.reduceLeDiff,Nat.reduceAdd,List.length_cons,List.length_nil]
 simp only [e1,jB,fP,List.length_map,au,Nat.reduceMul,Nat.reduceBEq,Nat.reduceLT,Nat.reduceLeDiff,reduceCtorEq,Nat.reduceEqDiff,Nat.reduceAdd,Nat.beq]
theorem ajJ {z:List Int} {dt:List Bm} (hz:z.length≤1000) (hd:dt.length≤1000) (hs:∀ x∈z,1≤x∧x≤4096) {x0 x2 x3 x4 x5:BV} {A2:PV} {c:kX} {st:St} (h:st.head [2,3,4,5,27,28,29] st.boxes.length=some ⟨sl 62 [(2,.pv A2),(3,.aF 0 0),(4,.aF 1 0),(5,.aF 2 0),(27,.ref (.cell 0 1) 0 z.length),(28,.pv (.int .i64 z.length)),(29,.pv (.int .i64 (0:Nat)))],[⟨false,[x0,.row 1 (z.map eI),x2,x3,x4,x5,.row 2 ((dt++(z.take ((0:Nat))).map mW).map jg)]⟩,⟨false,rD c⟩,⟨false,P6⟩],[],none⟩) :
  den env KT st=some (.normal,⟨sl 62 [(2,.pv A2),(3,.aF 0 0),(4,.aF 1 0),(5,.aF 2 0),(6,.any)],[⟨false,[x0,.row 1 (z.map eI),x2,x3,x4,x5,.row 2 ((dt++z.map mW).map jg)]⟩,⟨false,rD c⟩,⟨false,P6⟩],[],none⟩):=by
 unfold KT
 refine bC (env:=env) (nb:=3) (z.length) (fun i=>⟨sl 62 [(2,.pv A2),(3,.aF 0 0),(4,.aF 1 0),(5,.aF 2 0),(27,.ref (.cell 0 1) 0 z.length),(28,.pv (.int .i64 z.length)),(29,.pv (.int .i64 i))],[⟨false,[x0,.row 1 (z.map eI),x2,x3,x4,x5,.row 2 ((dt++(z.take (i)).map mW).map jg)]⟩,⟨false,rD c⟩,⟨false,P6⟩],[],none⟩) (fun i=>some (.normal,⟨sl 62 [(2,.pv A2),(3,.aF 0 0),(4,.aF 1 0),(5,.aF 2 0),(6,.any)],[⟨false,[x0,.row 1 (z.map eI),x2,x3,x4,x5,.row 2 ((dt++z.map mW).map jg)]⟩,⟨false,rD c⟩,⟨false,P6⟩],[],none⟩)) h (fun _=>rfl) (fun _=>by simp only [aB,bg,Nat.reduceMul,Nat.reduceBEq,Nat.reduceLT,Nat.reduceLeDiff,Nat.reduceAdd,decide_true,Bool.and_self,Bool.true_and]) ?_ ?_
 ·intro i rb hi ih
  have hi1:=bG hi (by unfold lim;omega)
  have F1:((i:Int)<(z.length:Int))=True:=eq_true (by omega)
  have hx:=LC hi
  have q:=hs _ (List.getElem_mem hi)
  have e1:=amf (n:=z[i])
  rw [show newE z[i]=0 by unfold newE;rw [if_neg (by omega)],show jg (mW z[i])=.agg [.int .i64 (mW z[i]).size,.list 1 ((mW z[i]).ws.map eW)] from rfl] at e1
  have Z:((0:Int) != 0)=false:=rfl
  have F5:((dt++(z.take i).map mW).length+1≤lim)=True:=eq_true (by rw [List.length_append,List.length_map,List.length_take];unfold lim;omega)
  have hh:(dt++(z.take (i+1)).map mW).map jg=(dt++(z.take i).map mW).map jg++[.agg [.int .i64 (mW z[i]).size,.list 1 ((mW z[i]).ws.map eW)]]:=by
   rw [List.take_succ_eq_append_getElem hi,List.map_append (f:=mW),← List.append_assoc,List.map_append (f:=jg) (l₂:=[z[i]].map mW)];rfl
  rw [hh] at ih
  simp only [KR,F1,F5,e1,Z,hx,rY,iK,dZ,aj hi,List.length_map,au,Nat.reduceMul,Nat.reduceBEq,Nat.reduceLT,Nat.reduceLeDiff,reduceCtorEq,Nat.reduceEqDiff,Nat.reduceAdd,Nat.beq]
  rw [ih _ (by simp only [hi1,iK,dZ,au,Nat.reduceMul,Nat.reduceBEq,Nat.reduceLT,Nat.reduceLeDiff,reduceCtorEq,Nat.reduceEqDiff,Nat.reduceAdd,Nat.beq]<;>rfl)]
  rfl
 ·intro rb
  rw [List.take_length]
  simp only [KR,Int.lt_irrefl,iK,dZ,List.length_map,au,Nat.reduceMul,Nat.reduceBEq,Nat.reduceLT,Nat.reduceLeDiff,reduceCtorEq,Nat.reduceEqDiff,Nat.reduceAdd,Nat.beq]
theorem adk {z:List Int} (hs:∀ x∈z,1≤x∧x≤4096):VW z (z.map mW):=by
 refine ⟨by rw [List.length_map],fun v h=>?_⟩
 have hv:v<z.length:=by rw [List.length_map] at h;exact h
 have q:=hs _ (List.getElem_mem hv)
 have e1:(z.map mW)[v]=mW ((z[v].toNat:Nat):Int):=by rw [List.getElem_map];congr 1;omega
 obtain ⟨k1,k2,k3,k4⟩:=ajt (n:=z[v].toNat) (by omega)
 rw [e1]
 refine ⟨k2,k3.trans ?_⟩
 rw [List.getD_eq_getElem?_getD,List.getElem?_eq_getElem hv]
 show _=z[v]
 omega
def Uz (s:og) (c:kX):og:=if (s.cy.length:Int)<s.lm then { s with cy:=s.cy++[c] } else { s with cy:=[],ov:=true,dt:=AA (s.sz.map mW) (s.cy++[c]) }
theorem amk {c:kX} {s:og} (hq:MQ s) (hc:Am c) (hs:∀ x∈s.sz,1≤x∧x≤4096) (hd0:s.dt=[]) (hw:∀ x∈s.cy++[c],mX s.sz x.ws):Oj env 77 (.own (agt s)) [gU c,.dN [.func 75 []] 0]=some ([(oI (Uz s c),false),(.int .i64 0,false)],none):=by
 have hcy:=hq.cy
 have e2:=acP hc
 have ajK:(s.cy++[c]).map gU=s.cy.map gU++[gU c]:=by rw [List.map_append];rfl
 have F5:(s.cy.length+1≤lim)=True:=eq_true (by unfold lim;omega)
 unfold Uz
 rw [wP alG rfl]
 rw [mO] at e2 ajK ⊢
 by_cases k:(s.cy.length:Int)<s.lm
 ·have G:=eq_true k
  rw [if_pos k,eP,qP,ajK]
  simp only [Yr,aB,Nat.reduceBEq,Nat.reduceLeDiff,Nat.reduceAdd,List.length_cons,List.length_nil]
  simp only [e2,G,F5,jB,fP,iK,List.length_map,au,Nat.reduceMul,Nat.reduceBEq,Nat.reduceLT,Nat.reduceLeDiff,reduceCtorEq,Nat.reduceEqDiff,Nat.reduceAdd,Nat.beq]
 ·have G:=eq_false k
  have e3:=ahz (z:=s.sz) (cs:=s.cy++[c]) (s:={ s with cy:=[],ov:=true,dt:=s.sz.map mW }) (fun x hx=>⟨by
   rcases List.mem_append.1 hx with h|h
   ·exact hq.c1 x h
   ·rw [List.mem_singleton.1 h];exact hc,hw x hx⟩) hq.sz (adk hs) (by simp;omega)
  rw [qP,eP] at e3
  rw [if_neg k,eP,qP]
  rw [ajK] at e3
  simp only [List.map_nil] at e3 ⊢
  simp only [Yr,aB,Nat.reduceBEq,Nat.reduceLeDiff,Nat.reduceAdd,List.length_cons,List.length_nil]
  simp only [e2,G,F5,jB,fP,iK,List.length_map,au,Nat.reduceMul,Nat.reduceBEq,Nat.reduceLT,Nat.reduceLeDiff,reduceCtorEq,Nat.reduceEqDiff,Nat.reduceAdd,Nat.beq]
  rw [ajJ (z:=s.sz) (dt:=s.dt) hq.sz hq.dt hs (by simp only [iK,dZ,hd0];simp only [aB,bg,Nat.reduceMul,Nat.reduceBEq,Nat.reduceLT,Nat.reduceLeDiff,Nat.reduceAdd,decide_true,Bool.and_self,Bool.true_and]<;>rfl)]
  simp only [e3,hd0,F5,jB,fP,iK,dZ,List.nil_append,List.length_map,au,Nat.reduceMul,Nat.reduceBEq,Nat.reduceLT,Nat.reduceLeDiff,reduceCtorEq,Nat.reduceEqDiff,Nat.reduceAdd,Nat.beq]
end Go.Proofs.YtpcncggjmabnaaaGreatDoor.V

namespace Go.Proofs.YtpcncggjmabnaaaGreatDoor.V
theorem uy {z:List Int} (h:aN z=0):∀ x∈z,1≤x∧x≤4096:=by
 intro x hx
 unfold aN at h
 split at h
 ·omega
 ·split at h
  ·omega
  ·rename_i h2
   simp only [List.any_eq_true,not_exists,not_and,Bool.not_eq_true] at h2
   have:=h2 x hx
   simp at this
   omega
theorem LV {im:ig}:∀ {l:List bK} {p:Option bK},xY im p l=0→∀ w∈l,aT im w=0
 |[],_,_=>fun w hw=>by cases hw
 |x :: l,p,h=>by
  rw [vS] at h
  by_cases c:aT im x=0
  ·rw [if_neg (by simpa using c)] at h
   have h2:xY im (some x) l=0:=by
    cases p with
    |none=>exact h
    |some y =>
     by_cases cb:uo y x=true
     ·have h:(if uo y x=true then 3 else xY im (some x) l)=0:=h
      rw [if_pos cb] at h
      omega
     ·have h:(if uo y x=true then 3 else xY im (some x) l)=0:=h
      rw [if_neg cb] at h
      exact h
   intro w hw
   rcases List.mem_cons.1 hw with e|e
   ·rw [e];exact c
   ·exact LV h2 w e
  ·rw [if_pos c] at h
   exact absurd h c
theorem VX {z:List Int} {ws:List bK} (h:∀ w∈ws,aT (aC z) w=0) (hz:∀ x∈z,1≤x∧x≤4096):mX z ws:=by
 intro v hv e he
 obtain ⟨w,hw,e1,rfl⟩:=Di he
 obtain ⟨q1,q2,q3,q4⟩:=kY (h w hw)
 have hl:((aC z).getD w.volume.toNat []).length=(z.getD v 0).toNat:=by
  rw [e1]
  have:(aC z).getD ((v:Int)).toNat []=List.replicate z[v].toNat xC:=by
   rw [Int.toNat_natCast,List.getD_eq_getElem?_getD]
   unfold aC
   rw [List.getElem?_map,List.getElem?_eq_getElem hv]
   rfl
  rw [this,List.length_replicate,List.getD_eq_getElem?_getD,List.getElem?_eq_getElem hv]
  rfl
 have:=hz _ (List.getElem_mem hv)
 have e2:z.getD v 0=z[v]:=by rw [List.getD_eq_getElem?_getD,List.getElem?_eq_getElem hv];rfl
 rw [hl] at q4
 rw [e2] at q4 ⊢
 exact jw.2 ⟨q3,by show (0:Int)≤(w.data.length:Int);omega,by show w.start≤z[v];omega,by show (w.data.length:Int)≤z[v] - w.start;omega⟩
theorem UA {z:List Int} {c:kX} (h:zA z c=0):aN z=0∧Lr c.base c.num c.time c.pos=0∧xY (aC z) none c.ws=0:=by
 unfold zA ckC at h
 split at h
 ·rename_i h1
  split at h
  ·rename_i h2
   exact ⟨h1,h2,h⟩
  ·rename_i h2;exact absurd h h2
 ·rename_i h1;exact absurd h h1
theorem uz {z:List Int} {c:kX} (h:zA z c=0):mX z c.ws:=by
 obtain ⟨h1,_,h3⟩:=UA h
 exact VX (LV h3) (uy h1)
theorem Dj {z:List Int}:∀ {cy:List kX} {f l:Int},QG z f cy l=true→∀ c∈cy,zA z c=0
 |[],_,_,_=>fun c hc=>by cases hc
 |x :: cy,f,l,h=>by
  simp only [QG,Bool.and_eq_true,beq_iff_eq] at h
  intro c hc
  rcases List.mem_cons.1 hc with e|e
  ·rw [e];exact h.1
  ·exact Dj h.2.2 c e
theorem vU {dt:List Bm} {z:List Int} (h:xg dt z=true):VW z dt:=by
 rw [Ur] at h
 simp only [Bool.and_eq_true,decide_eq_true_eq] at h
 refine ⟨h.1,fun v hv=>?_⟩
 have hv2:v<z.length:=by rw [← h.1];exact hv
 have h2:=h.2
 unfold Fe at h2
 rw [List.drop_zero,List.drop_zero,List.all_eq_true] at h2
 have h3:=h2 (dt[v],z[v]) (by
  have:(dt.zip z)[v]'(by rw [List.length_zip];omega)=(dt[v],z[v]):=List.getElem_zip
  rw [← this];exact List.getElem_mem _)
 unfold Uo at h3
 simp only [Bool.and_eq_true,beq_iff_eq] at h3
 refine ⟨?_,?_⟩
 ·cases hb:okB dt[v] with
  |true=>rfl
  |false=>rw [xU hb] at h3;omega
 ·rw [h3.2,List.getD_eq_getElem?_getD,List.getElem?_eq_getElem hv2];rfl
theorem BN {s:og} (h:rZ s=0):aN s.sz=0∧(1≤s.lm∧s.lm≤1024∧0≤s.fs∧s.fs≤s.ls∧s.ls≤1073741824)∧((s.ov=true∧s.cy=[]∧s.fs≠s.ls∧xg s.dt s.sz=true)∨(s.ov=false∧s.dt=[]∧(s.cy.length:Int)≤s.lm∧QG s.sz s.fs s.cy s.ls=true)):=by
 unfold rZ at h
 by_cases h1:aN s.sz=0
 ·rw [if_pos h1] at h
  by_cases h2:s.lm<1∨s.lm > 1024∨s.fs<0∨s.fs > s.ls∨s.ls > 1073741824
  ·rw [if_pos h2] at h;omega
  ·rw [if_neg h2] at h
   refine ⟨h1,by omega,?_⟩
   cases ho:s.ov with
   |true =>
    rw [ho,if_pos rfl] at h
    split at h
    ·rename_i h3
     simp only [Bool.and_eq_true,decide_eq_true_eq] at h3
     exact .inl ⟨rfl,h3.1,h3.2.1,h3.2.2⟩
    ·omega
   |false =>
    rw [ho,if_neg Bool.false_ne_true] at h
    split at h
    ·rename_i h3
     simp only [Bool.and_eq_true,decide_eq_true_eq] at h3
     exact .inr ⟨rfl,h3.1,h3.2.1,h3.2.2⟩
    ·omega
 ·rw [if_neg h1] at h;exact absurd h h1
def xu (s:og) (c:kX):Int:=if rZ s=0 then (if zA s.sz c=0 then (if c.base=s.ls then 0 else 15) else zA s.sz c) else rZ s
def iG (s:og) (c:kX):og:=if xu s c=0 then (if s.ov then { s with dt:=Fv c.ws s.dt,ls:=c.num } else { Uz s c with ls:=c.num }) else YQ
theorem aml:cal env 43 []=some [(.agg [.func 77 [.dN [.func 75 []] 0],.func 79 [.dN [.func 75 []] 0]],false)]:=by
 rw [ah aln rfl];simp only [abl,aB,Nat.reduceBEq,Nat.reduceLeDiff,Nat.reduceAdd,List.length_cons,List.length_nil]
 simp only [rY,au,Nat.reduceMul,Nat.reduceBEq,Nat.reduceLT,Nat.reduceLeDiff,reduceCtorEq,Nat.reduceEqDiff,Nat.reduceAdd,Nat.beq]
end Go.Proofs.YtpcncggjmabnaaaGreatDoor.V

namespace Go.Proofs.YtpcncggjmabnaaaGreatDoor.V
set_option maxRecDepth 20000 in
theorem amm {s:og} {c:kX} (hq:MQ s) (hc:Am c):cal env 16 [oI s,gU c]=some [(oI (iG s c),false),(.int .i64 (xu s c),false)]:=by
 have e1:=ahw hq
 have e2:=Um (z:=s.sz) (b:=c.base) (n:=c.num) (t:=c.time) (p:=c.pos) (w:=c.ws) (by have:=hq.sz;unfold lim;omega) (Nat.le_trans hc.2.1 (by decide)) (fun x hx=>Nat.le_trans (hc.2.2 x hx) (by decide)) hc.1
 rw [show ckC s.sz c.base c.num c.time c.pos c.ws=zA s.sz c from rfl] at e2
 unfold YO at e2
 have e3:=aml
 have e4:=ahv (s:=s)
 have e5:=ahx hq
 have Z0:((0:Int) != 0)=false:=rfl
 have I0:index (.int .i64 0) 2=some 0:=rfl
 have I1:index (.int .i64 1) 2=some 1:=rfl
 have HS:(oI (iG s c))=(if xu s c=0 then (if s.ov then oI { s with dt:=Fv c.ws s.dt,ls:=c.num } else oI { Uz s c with ls:=c.num }) else oI YQ):=by
  unfold iG
  split
  ·split<;>rfl
  ·rfl
 rw [HS]
 unfold xu
 rw [eP] at e1 e4 e5
 rw [eP s,mO]
 by_cases c1:rZ s=0
 rotate_left
 ·have Z:(rZ s != 0)=true:=by simp [c1]
  rw [if_neg c1,if_neg c1,oP]
  rw [ah PE rfl];simp only [JR,aB,Nat.reduceBEq,Nat.reduceLeDiff,Nat.reduceAdd,List.length_cons,List.length_nil]
  simp only [e1,Z,fP,jB,List.length_map,au,Nat.reduceMul,Nat.reduceBEq,Nat.reduceLT,Nat.reduceLeDiff,reduceCtorEq,Nat.reduceEqDiff,Nat.reduceAdd,Nat.beq]
 rw [c1] at e1
 rw [if_pos c1]
 by_cases c2:zA s.sz c=0
 rotate_left
 ·have Z:(zA s.sz c != 0)=true:=by simp [c2]
  rw [if_neg c2,if_neg c2,oP]
  rw [ah PE rfl];simp only [JR,aB,Nat.reduceBEq,Nat.reduceLeDiff,Nat.reduceAdd,List.length_cons,List.length_nil]
  simp only [e1,e2,Z,Z0,fP,jB,List.length_map,au,Nat.reduceMul,Nat.reduceBEq,Nat.reduceLT,Nat.reduceLeDiff,reduceCtorEq,Nat.reduceEqDiff,Nat.reduceAdd,Nat.beq]
 rw [c2] at e2
 rw [if_pos c2]
 by_cases c3:c.base=s.ls
 rotate_left
 ·have Z:(c.base != s.ls)=true:=by simp [c3]
  rw [if_neg c3,if_neg (by decide),oP]
  rw [ah PE rfl];simp only [JR,aB,Nat.reduceBEq,Nat.reduceLeDiff,Nat.reduceAdd,List.length_cons,List.length_nil]
  simp only [e1,e2,Z,Z0,fP,jB,List.length_map,au,Nat.reduceMul,Nat.reduceBEq,Nat.reduceLT,Nat.reduceLeDiff,reduceCtorEq,Nat.reduceEqDiff,Nat.reduceAdd,Nat.beq]
 have Z3:(c.base != s.ls)=false:=by simp [c3]
 rw [if_pos c3,if_pos rfl]
 obtain ⟨k1,k2,k3⟩:=BN c1
 have hw:=uz c2
 cases co:s.ov with
 |true =>
  rcases k3 with ⟨_,g1,g2,g3⟩|⟨g,_⟩
  rotate_left
  ·rw [co] at g;cases g
  have e6:=amj (s:=s) hc hw hq.sz (vU g3)
  rw [qP,eP,mO,co] at e6
  rw [co] at e1 e4 e5
  rw [if_pos rfl,eP]
  rw [if_pos rfl] at e4
  rw [ah PE rfl];simp only [JR,aB,Nat.reduceBEq,Nat.reduceLeDiff,Nat.reduceAdd,List.length_cons,List.length_nil]
  simp only [co,e1,e2,e3,e4,e5,e6,I1,Z0,Z3,fP,jB,List.length_map,au,Nat.reduceMul,Nat.reduceBEq,Nat.reduceLT,Nat.reduceLeDiff,reduceCtorEq,Nat.reduceEqDiff,Nat.reduceAdd,Nat.beq]
 |false =>
  rcases k3 with ⟨g,_⟩|⟨_,g1,g2,g3⟩
  ·rw [co] at g;cases g
  have e6:=amk (s:=s) (c:=c) hq hc (uy k1) g1 (fun x hx=>by
   rcases List.mem_append.1 hx with h|h
   ·exact uz (Dj g3 x h)
   ·rw [List.mem_singleton.1 h];exact hw)
  generalize Uz s c=q at e6 ⊢
  rw [qP,eP,mO,co] at e6
  rw [co] at e1 e4 e5
  rw [if_neg Bool.false_ne_true,eP]
  rw [if_neg Bool.false_ne_true] at e4
  rw [ah PE rfl];simp only [JR,aB,Nat.reduceBEq,Nat.reduceLeDiff,Nat.reduceAdd,List.length_cons,List.length_nil]
  simp only [co,e1,e2,e3,e4,e5,e6,I0,Z0,Z3,fP,jB,List.length_map,au,Nat.reduceMul,Nat.reduceBEq,Nat.reduceLT,Nat.reduceLeDiff,reduceCtorEq,Nat.reduceEqDiff,Nat.reduceAdd,Nat.beq]
end Go.Proofs.YtpcncggjmabnaaaGreatDoor.V

namespace Go.Proofs.YtpcncggjmabnaaaGreatDoor.V
end Go.Proofs.YtpcncggjmabnaaaGreatDoor.V

namespace Go.Proofs.YtpcncggjmabnaaaGreatDoor.V
end Go.Proofs.YtpcncggjmabnaaaGreatDoor.V

namespace Go.Proofs.YtpcncggjmabnaaaGreatDoor.V
end Go.Proofs.YtpcncggjmabnaaaGreatDoor.V

namespace Go.Proofs.YtpcncggjmabnaaaGreatDoor.V
end Go.Proofs.YtpcncggjmabnaaaGreatDoor.V

namespace Go.Proofs.YtpcncggjmabnaaaGreatDoor.V
end Go.Proofs.YtpcncggjmabnaaaGreatDoor.V

namespace Go.Proofs.YtpcncggjmabnaaaGreatDoor.V
end Go.Proofs.YtpcncggjmabnaaaGreatDoor.V

namespace Go.Proofs.YtpcncggjmabnaaaGreatDoor.V
end Go.Proofs.YtpcncggjmabnaaaGreatDoor.V

namespace Go.Proofs.YtpcncggjmabnaaaGreatDoor.V
def dL (l:List bK):Int:=(l.map fun w=>(w.data.length:Int)).sum
theorem UC (l:List bK) (x:bK):dL (l++[x])=dL l+x.data.length:=by simp [dL]
theorem Fz {l:List bK} {i:Nat} (h:i<l.length):dL (l.take (i+1))=dL (l.take i)+(l[i].data.length:Int):=by
 rw [List.take_succ_eq_append_getElem h,UC]
theorem AB {k:Nat}:∀ {l:List bK},(∀ w∈l,w.data.length≤k)→0≤dL l∧dL l≤(k * l.length:Nat)
 |[],_=>by simp [dL]
 |x :: l,h=>by
  have:=AB (l:=l) fun w hw=>h w (by simp [hw])
  have hx:=h x (by simp)
  have e:dL (x :: l)=(x.data.length:Int)+dL l:=by simp [dL]
  rw [e,List.length_cons,Nat.mul_add,Nat.mul_one];omega
theorem UD {l:List bK} (hd:∀ w∈l,w.data.length≤10000) (hl:l.length≤1000000) {st:St} (h:st.head [0,3,4] st.boxes.length=some ⟨[.pv (.list 3 (l.map dQ)),.any,.any,.pv (.int .i64 (dL (l.take (0:Nat)))),.pv (.int .i64 (0:Nat)),.any,.any,.any,.any,.any,.any,.any,.any,.any,.any,.any,.any,.any,.any,.any],[],[],none⟩) :
  den env zn st=some (.normal,⟨[.any,.any,.any,.pv (.int .i64 (dL l)),.any,.any,.any,.any,.any,.any,.any,.any,.any,.any,.any,.any,.any,.any,.any,.any],[],[],none⟩):=by
 unfold zn
 refine bC (env:=env) (l.length) (fun i=>⟨[.pv (.list 3 (l.map dQ)),.any,.any,.pv (.int .i64 (dL (l.take i))),.pv (.int .i64 i),.any,.any,.any,.any,.any,.any,.any,.any,.any,.any,.any,.any,.any,.any,.any],[],[],none⟩) (fun i=>some (.normal,⟨[.any,.any,.any,.pv (.int .i64 (dL l)),.any,.any,.any,.any,.any,.any,.any,.any,.any,.any,.any,.any,.any,.any,.any,.any],[],[],none⟩)) h (fun _=>rfl) (fun _=>rfl) ?_ ?_
 ·intro i rb hi ih
  have hi1:=bG hi (Nat.le_trans hl (by decide))
  have F1:((i:Int)<(l.length:Int))=True:=eq_true (by omega)
  have h1:=AB (l:=l.take i) fun w hw=>hd w (List.mem_of_mem_take hw)
  have h2:=hd _ (List.getElem_mem hi)
  have h3:(l.take i).length≤1000000:=by rw [List.length_take];omega
  have W:IntKind.i64.wrap (dL (l.take i)+(l[i].data.length:Int))=dL (l.take (i+1)):=by rw [Fz hi];exact bn (by omega)
  simp only [zl,F1,W,dQ,aj hi,List.getElem?_map,List.getElem?_eq_getElem hi,bV,reduceCtorEq,Nat.reduceEqDiff,Nat.reduceAdd,Nat.reduceLT,Nat.reduceLeDiff,Nat.beq]
  rw [ih _ (by simp only [hi1];rfl)]
 ·intro rb
  simp only [zl,Int.lt_irrefl,bV,reduceCtorEq,Nat.reduceEqDiff,Nat.reduceAdd,Nat.reduceLT,Nat.reduceLeDiff,Nat.beq]
  rfl
theorem amn {l:List bK} (hd:∀ w∈l,w.data.length≤10000) (hl:l.length≤1000000):cal env 35 [.list 3 (l.map dQ)]=some [(.int .i64 (dL l),false)]:=by
 rw [ah ahd rfl];simp only [Yl];simp only [start,aQ,aV,aO,aU,aH,aJ,aP,aS,Nat.reduceAdd,Nat.reduceSub]
 simp only [List.length_map,bV,reduceCtorEq,Nat.reduceEqDiff,Nat.reduceAdd,Nat.reduceLT,Nat.reduceLeDiff,Nat.beq]
 rw [UD hd hl]
 rotate_left
 ·rfl
 ·simp only [bV,reduceCtorEq,Nat.reduceEqDiff,Nat.reduceAdd,Nat.reduceLT,Nat.reduceLeDiff,Nat.beq]
end Go.Proofs.YtpcncggjmabnaaaGreatDoor.V

namespace Go.Proofs.YtpcncggjmabnaaaGreatDoor
open V
def szW (l:List bK):Prop:=∀ x∈l,x.data.length≤140737488351232
theorem IU:∀ l:List bK,0≤dL l
 |[]=>by simp [dL]
 |x :: l=>by
  have:=IU l
  have e:dL (x :: l)=(x.data.length:Int)+dL l:=by simp [dL]
  omega
end Go.Proofs.YtpcncggjmabnaaaGreatDoor

namespace Go.Proofs.YtpcncggjmabnaaaGreatDoor.V
namespace Z24
theorem UD {l:List bK} (hd:szW l) (hl:l.length≤1000) {st:St} (h:st.head [0,3,4] st.boxes.length=some ⟨sl 20 [(0,.pv (.list 3 (l.map dQ))),(3,.pv (.int .i64 (dL (l.take ((0:Nat)))))),(4,.pv (.int .i64 (0:Nat)))],[],[],none⟩) :
  den env zn st=some (.normal,⟨sl 20 [(2,.any),(3,.pv (.int .i64 (dL l)))],[],[],none⟩):=by
 unfold zn
 refine bC (env:=env) (nb:=0) (l.length) (fun i=>⟨sl 20 [(0,.pv (.list 3 (l.map dQ))),(3,.pv (.int .i64 (dL (l.take (i))))),(4,.pv (.int .i64 i))],[],[],none⟩) (fun i=>some (.normal,⟨sl 20 [(2,.any),(3,.pv (.int .i64 (dL l)))],[],[],none⟩)) h (fun _=>rfl) (fun _=>by simp only [aB,bg,Nat.reduceMul,Nat.reduceBEq,Nat.reduceLT,Nat.reduceLeDiff,Nat.reduceAdd,decide_true,Bool.and_self,Bool.true_and]) ?_ ?_
 ·intro i rb hi ih
  have hi1:=bG hi (Nat.le_trans hl (by decide))
  have F1:((i:Int)<(l.length:Int))=True:=eq_true (by omega)
  have hx:=rC hi
  have h1:=AB (l:=l.take i) fun w hw=>hd w (List.mem_of_mem_take hw)
  have h2:=hd _ (List.getElem_mem hi)
  have h3:(l.take i).length≤1000:=by rw [List.length_take];omega
  have W:IntKind.i64.wrap (dL (l.take i)+(l[i].data.length:Int))=dL (l.take (i+1)):=by rw [Fz hi];exact bn (by omega)
  simp only [zl,F1,hx,W,iV,aj hi,List.length_map,au,Nat.reduceMul,Nat.reduceBEq,Nat.reduceLT,Nat.reduceLeDiff,reduceCtorEq,Nat.reduceEqDiff,Nat.reduceAdd,Nat.beq]
  rw [ih _ (by simp only [hi1,au,Nat.reduceMul,Nat.reduceBEq,Nat.reduceLT,Nat.reduceLeDiff,reduceCtorEq,Nat.reduceEqDiff,Nat.reduceAdd,Nat.beq]<;>rfl)]
 ·intro rb
  rw [List.take_length]
  simp only [zl,Int.lt_irrefl,List.length_map,au,Nat.reduceMul,Nat.reduceBEq,Nat.reduceLT,Nat.reduceLeDiff,reduceCtorEq,Nat.reduceEqDiff,Nat.reduceAdd,Nat.beq]
theorem ajM {l:List bK} (hd:szW l) (hl:l.length≤1000):cal env 35 [.list 3 (l.map dQ)]=some [(.int .i64 (dL l),false)]:=by
 rw [ah ahd rfl];simp only [Yl,aB,Nat.reduceBEq,Nat.reduceLeDiff,Nat.reduceAdd,List.length_cons,List.length_nil]
 simp only [au,Nat.reduceMul,Nat.reduceBEq,Nat.reduceLT,Nat.reduceLeDiff,reduceCtorEq,Nat.reduceEqDiff,Nat.reduceAdd,Nat.beq]
 rw [UD hd hl (by simp only [List.take_zero];simp only [aB,bg,Nat.reduceMul,Nat.reduceBEq,Nat.reduceLT,Nat.reduceLeDiff,Nat.reduceAdd,decide_true,Bool.and_self,Bool.true_and]<;>rfl)]
 simp only [au,Nat.reduceMul,Nat.reduceBEq,Nat.reduceLT,Nat.reduceLeDiff,reduceCtorEq,Nat.reduceEqDiff,Nat.reduceAdd,Nat.beq]
end Z24
open Z24
def Y0 (l:List bK):Bool:=decide (l.length≤40)&&decide (dL l≤400)
theorem amo {l:List bK} (hd:szW l):cal env 15 [.list 3 (l.map dQ)]=some [(.bool (Y0 l),false)]:=by
 unfold Y0
 by_cases h:l.length≤40
 ·have e1:=ajM hd (by omega)
  have F1:((l.length:Int)≤40)=True:=eq_true (by omega)
  rw [decide_eq_true h,Bool.true_and]
  by_cases k:dL l≤400
  ·have F2:=eq_true k
   rw [decide_eq_true k]
   rw [ah abO rfl];simp only [TW,aB,Nat.reduceBEq,Nat.reduceLeDiff,Nat.reduceAdd,List.length_cons,List.length_nil]
   simp only [e1,F1,F2,List.length_map,au,Nat.reduceMul,Nat.reduceBEq,Nat.reduceLT,Nat.reduceLeDiff,reduceCtorEq,Nat.reduceEqDiff,Nat.reduceAdd,Nat.beq]
  ·have F2:=eq_false k
   rw [decide_eq_false k]
   rw [ah abO rfl];simp only [TW,aB,Nat.reduceBEq,Nat.reduceLeDiff,Nat.reduceAdd,List.length_cons,List.length_nil]
   simp only [e1,F1,F2,List.length_map,au,Nat.reduceMul,Nat.reduceBEq,Nat.reduceLT,Nat.reduceLeDiff,reduceCtorEq,Nat.reduceEqDiff,Nat.reduceAdd,Nat.beq]
 ·have F1:((l.length:Int)≤40)=False:=eq_false (by omega)
  rw [decide_eq_false h,Bool.false_and]
  rw [ah abO rfl];simp only [TW,aB,Nat.reduceBEq,Nat.reduceLeDiff,Nat.reduceAdd,List.length_cons,List.length_nil]
  simp only [F1,List.length_map,au,Nat.reduceMul,Nat.reduceBEq,Nat.reduceLT,Nat.reduceLeDiff,reduceCtorEq,Nat.reduceEqDiff,Nat.reduceAdd,Nat.beq]
theorem ajN {l:List bK} (h:Y0 l=true):l.length≤40∧dL l≤400∧∀ x∈l,x.data.length≤400:=by
 unfold Y0 at h
 simp only [Bool.and_eq_true,decide_eq_true_eq] at h
 refine ⟨h.1,h.2,?_⟩
 have:∀ {m:List bK},∀ x∈m,(x.data.length:Int)≤dL m:=by
  intro m
  induction m with
  |nil=>intro x hx;cases hx
  |cons y m ih =>
   intro x hx
   have hp:=(IU m)
   have e:dL (y :: m)=(y.data.length:Int)+dL m:=by simp [dL]
   rw [e]
   rcases List.mem_cons.1 hx with h|h
   ·rw [h];omega
   ·have:=ih x h;omega
 intro x hx
 have:=this x hx
 omega
theorem Y1 {α:Type} {p:α→Bool} {l:List α} {i:Nat} (h:i<l.length):(l.drop i).all p=(p l[i]&&(l.drop (i+1)).all p):=by rw [List.drop_eq_getElem_cons h];rfl
theorem adl {α:Type} {p:α→Bool} (l:List α):(l.drop l.length).all p=true:=by rw [List.drop_length];rfl
def ajO:kX:=⟨0,0,0,[],[]⟩
theorem AL:gU ajO=.agg [.int .i64 0,.int .i64 0,.int .i64 0,.list 1 [],.list 3 []]:=rfl
end Go.Proofs.YtpcncggjmabnaaaGreatDoor.V

namespace Go.Proofs.YtpcncggjmabnaaaGreatDoor.V
end Go.Proofs.YtpcncggjmabnaaaGreatDoor.V

namespace Go.Proofs.YtpcncggjmabnaaaGreatDoor.V
end Go.Proofs.YtpcncggjmabnaaaGreatDoor.V

namespace Go.Proofs.YtpcncggjmabnaaaGreatDoor.V
end Go.Proofs.YtpcncggjmabnaaaGreatDoor.V

namespace Go.Proofs.YtpcncggjmabnaaaGreatDoor.V
end Go.Proofs.YtpcncggjmabnaaaGreatDoor.V

namespace Go.Proofs.YtpcncggjmabnaaaGreatDoor.V
def wOf (im:ig) (v:Nat) (e:fG):bK:=⟨v,e.start,((im.getD v []).drop e.start.toNat).take e.count.toNat⟩
def Dk (im:ig) (v:Nat) (x:List fG):List bK:=x.map (wOf im v)
def FB (im:ig) (l:List (List fG)) (n:Nat):List bK:=(List.range n).flatMap fun v=>Dk im v (l.getD v [])
def Gi (im:ig) (l:List (List fG)):List bK:=FB im l l.length
theorem zI (im:ig) (l:List (List fG)) (n:Nat):FB im l (n+1)=FB im l n++Dk im n (l.getD n []):=by simp [FB,List.range_succ]
end Go.Proofs.YtpcncggjmabnaaaGreatDoor.V

namespace Go.Proofs.YtpcncggjmabnaaaGreatDoor.V
structure Y2 (im:ig) (l:List (List fG)):Prop where
 ln:l.length≤im.length
 ml:im.length≤1000
 vo:∀ v∈im,v.length≤4096
 xl:∀ x∈l,x.length≤4096
 fx:∀ v (h:v<l.length),∀ e∈l[v],0≤e.start∧1≤e.count∧e.start+e.count≤((im.getD v []).length:Int)
theorem AO {im:ig} {l:List (List fG)} {k:Nat} (h:∀ x∈l,x.length≤k):∀ n,(FB im l n).length≤k * n
 |0=>by simp [FB]
 |n+1=>by
  rw [zI,List.length_append]
  have h1:=AO (im:=im) h n
  have h2:(Dk im n (l.getD n [])).length≤k:=by
   unfold Dk
   rw [List.length_map,List.getD_eq_getElem?_getD]
   cases e:l[n]? with
   |none=>simp
   |some x=>exact h x (List.mem_of_getElem? e)
  rw [Nat.mul_add,Nat.mul_one];omega
theorem wY {im:ig} {v:Nat} (h:v<im.length):(im.map bf)[v]?=some (.list 8 (im[v].map iJ)):=by rw [List.getElem?_map,List.getElem?_eq_getElem h];rfl
theorem agu {im:ig} {l:List (List fG)} (h:Y2 im l) {v i:Nat} (hv:v<l.length) (hi:i<l[v].length):∃ Cm:v<im.length,
  (0≤l[v][i].start∧l[v][i].start≤((l[v][i].start+l[v][i].count).toNat:Int))∧(0≤l[v][i].start+l[v][i].count∧l[v][i].start+l[v][i].count≤(im[v].length:Int))∧IntKind.i64.wrap (l[v][i].start+l[v][i].count)=l[v][i].start+l[v][i].count ∧
  (l[v][i].start+l[v][i].count).toNat - l[v][i].start.toNat=l[v][i].count.toNat∧(((im[v].map iJ).drop l[v][i].start.toNat).take l[v][i].count.toNat).length≤lim∧(FB im l v++Dk im v (l[v].take i)).length+1≤lim ∧
  (FB im l v++Dk im v (l[v].take (i+1))).map dQ=(FB im l v++Dk im v (l[v].take i)).map dQ++[.agg [.int .i64 (v:Int),.int .i64 l[v][i].start,.list 8 (((im[v].map iJ).drop l[v][i].start.toNat).take l[v][i].count.toNat)]]:=by
 obtain ⟨h1,h2,h3,h4,h5⟩:=h
 have Cm:v<im.length:=by omega
 obtain ⟨q1,q2,q3⟩:=h5 v hv _ (List.getElem_mem hi)
 have e8:im.getD v []=im[v]:=by simp [Cm]
 rw [e8] at q3
 have hvl:=h3 _ (List.getElem_mem Cm)
 have hN:=AO (im:=im) h4 v
 have hx:=h4 _ (List.getElem_mem hv)
 refine ⟨Cm,by omega,by omega,bn (by omega),by omega,by simp;unfold lim;omega,?_,?_⟩
 ·rw [List.length_append]
  have:(Dk im v (l[v].take i)).length≤4096:=by unfold Dk;rw [List.length_map,List.length_take];omega
  have:4096 * v≤4096 * 1000:=Nat.mul_le_mul_left _ (by omega)
  unfold lim;omega
 ·have e9:Dk im v (l[v].take (i+1))=Dk im v (l[v].take i)++[wOf im v l[v][i]]:=by
   unfold Dk
   rw [List.take_succ_eq_append_getElem hi,List.map_append];rfl
  rw [e9];simp [dQ,wOf,Cm,List.map_take,List.map_drop]
theorem ajQ {im:ig} {l:List (List fG)} {dt:List Bm} {v:Nat} {y0 y1:PV} (h0:Y2 im l) (hv:v<l.length) {st:St} (h:st.head [0,1,5,6,10,11,12,18,19,20,43] st.boxes.length=some ⟨sl 47 [(0,.pv (.list 2 (dt.map jg))),(1,.pv (.list 1 (im.map bf))),(5,.row 3 ((FB im l v++Dk im v (l[v].take ((0:Nat)))).map dQ)),(6,.pv (.int .i64 v)),(10,.pv (.list 2 (dt.map jg))),(11,.pv (.int .i64 dt.length)),(12,.pv (.int .i64 v)),(18,.row 2 (l[v].map dw)),(19,.pv (.int .i64 l[v].length)),(20,.pv (.int .i64 (0:Nat))),(43,.any)],[⟨false,[.pv y0,.pv y1]⟩],[],none⟩) :
  den env Kq st=some (.normal,⟨sl 47 [(0,.pv (.list 2 (dt.map jg))),(1,.pv (.list 1 (im.map bf))),(4,.any),(5,.row 3 ((FB im l (v+1)).map dQ)),(10,.pv (.list 2 (dt.map jg))),(11,.pv (.int .i64 dt.length)),(12,.pv (.int .i64 v)),(43,.any)],[⟨false,[.pv y0,.pv y1]⟩],[],none⟩):=by
 unfold Kq
 refine bC (env:=env) (nb:=1) (l[v].length) (fun i=>⟨sl 47 [(0,.pv (.list 2 (dt.map jg))),(1,.pv (.list 1 (im.map bf))),(5,.row 3 ((FB im l v++Dk im v (l[v].take (i))).map dQ)),(6,.pv (.int .i64 v)),(10,.pv (.list 2 (dt.map jg))),(11,.pv (.int .i64 dt.length)),(12,.pv (.int .i64 v)),(18,.row 2 (l[v].map dw)),(19,.pv (.int .i64 l[v].length)),(20,.pv (.int .i64 i)),(43,.any)],[⟨false,[.pv y0,.pv y1]⟩],[],none⟩) (fun i=>some (.normal,⟨sl 47 [(0,.pv (.list 2 (dt.map jg))),(1,.pv (.list 1 (im.map bf))),(4,.any),(5,.row 3 ((FB im l (v+1)).map dQ)),(10,.pv (.list 2 (dt.map jg))),(11,.pv (.int .i64 dt.length)),(12,.pv (.int .i64 v)),(43,.any)],[⟨false,[.pv y0,.pv y1]⟩],[],none⟩)) h (fun _=>rfl) (fun _=>by simp only [aB,bg,Nat.reduceMul,Nat.reduceBEq,Nat.reduceLT,Nat.reduceLeDiff,Nat.reduceAdd,decide_true,Bool.and_self,Bool.true_and]) ?_ ?_
 ·intro i rb hi ih
  have hxl:=h0.xl _ (List.getElem_mem hv)
  have hi1:=bG hi (by unfold lim;omega)
  have F1:((i:Int)<(l[v].length:Int))=True:=eq_true (by omega)
  obtain ⟨Cm,b1,b2,W,e6,f3,f2,e5⟩:=agu h0 hv hi
  have hx:=sD hi
  have hy:=wY Cm
  have B1:=eq_true b1
  have B2:=eq_true b2
  have F2:=eq_true f2
  have e1:=acO (es:=((im[v].map iJ).drop l[v][i].start.toNat).take l[v][i].count.toNat) f3
  rw [e5] at ih
  simp only [Ko,F1,F2,hx,hy,rY,W,B1,B2,e6,e1,aj Cm,aj hi,List.length_map,au,Nat.reduceMul,Nat.reduceBEq,Nat.reduceLT,Nat.reduceLeDiff,reduceCtorEq,Nat.reduceEqDiff,Nat.reduceAdd,Nat.beq]
  rw [ih _ (by simp only [hi1,au,Nat.reduceMul,Nat.reduceBEq,Nat.reduceLT,Nat.reduceLeDiff,reduceCtorEq,Nat.reduceEqDiff,Nat.reduceAdd,Nat.beq]<;>rfl)]
 ·intro rb
  have e9:FB im l v++Dk im v l[v]=FB im l (v+1):=by rw [zI,show l.getD v []=l[v] by simp [hv]]
  rw [List.take_length,e9]
  simp only [Ko,Int.lt_irrefl,List.length_map,au,Nat.reduceMul,Nat.reduceBEq,Nat.reduceLT,Nat.reduceLeDiff,reduceCtorEq,Nat.reduceEqDiff,Nat.reduceAdd,Nat.beq]
theorem adn {im:ig} {dt:List Bm} (h0:Y2 im (dt.map qj)) {st:St} (h:st.head [0,1,5,10,11,12,43] st.boxes.length=some ⟨sl 47 [(0,.pv (.list 2 (dt.map jg))),(1,.pv (.list 1 (im.map bf))),(5,.row 3 ((FB im (dt.map qj) ((0:Nat))).map dQ)),(10,.pv (.list 2 (dt.map jg))),(11,.pv (.int .i64 dt.length)),(12,.pv (.int .i64 (0:Nat))),(43,.any)],[],[],none⟩) :
  den env Kt st=some (.normal,⟨sl 47 [(4,.any),(5,.row 3 ((Gi im (dt.map qj)).map dQ))],[],[],none⟩):=by
 unfold Kt
 refine bC (env:=env) (nb:=0) (dt.length) (fun i=>⟨sl 47 [(0,.pv (.list 2 (dt.map jg))),(1,.pv (.list 1 (im.map bf))),(5,.row 3 ((FB im (dt.map qj) (i)).map dQ)),(10,.pv (.list 2 (dt.map jg))),(11,.pv (.int .i64 dt.length)),(12,.pv (.int .i64 i)),(43,.any)],[],[],none⟩) (fun i=>some (.normal,⟨sl 47 [(4,.any),(5,.row 3 ((Gi im (dt.map qj)).map dQ))],[],[],none⟩)) h (fun _=>rfl) (fun _=>by simp only [aB,bg,Nat.reduceMul,Nat.reduceBEq,Nat.reduceLT,Nat.reduceLeDiff,Nat.reduceAdd,decide_true,Bool.and_self,Bool.true_and]) ?_ ?_
 ·intro i rb hi ih
  have hln:=h0.ln
  have him:=h0.ml
  rw [List.length_map] at hln
  have hi1:=bG hi (by unfold lim;omega)
  have F1:((i:Int)<(dt.length:Int))=True:=eq_true (by omega)
  have hx:=Fb hi
  have hm:i<(dt.map qj).length:=by rw [List.length_map];exact hi
  have e1:cal env 95 [.agg [.int .i64 dt[i].size,.list 1 (dt[i].ws.map eW)]]=_:=alW (b:=dt[i])
  rw [show qj dt[i]=(dt.map qj)[i] by rw [List.getElem_map]] at e1
  simp only [Kr,F1,hx,e1,rY,aj hi,List.length_map,au,Nat.reduceMul,Nat.reduceBEq,Nat.reduceLT,Nat.reduceLeDiff,reduceCtorEq,Nat.reduceEqDiff,Nat.reduceAdd,Nat.beq]
  rw [ajQ (im:=im) (l:=dt.map qj) (dt:=dt) (v:=i) h0 hm (by simp only [List.take_zero,show Dk im i []=[] from rfl,List.append_nil];simp only [aB,bg,Nat.reduceMul,Nat.reduceBEq,Nat.reduceLT,Nat.reduceLeDiff,Nat.reduceAdd,decide_true,Bool.and_self,Bool.true_and]<;>rfl)]
  simp only [au,Nat.reduceMul,Nat.reduceBEq,Nat.reduceLT,Nat.reduceLeDiff,reduceCtorEq,Nat.reduceEqDiff,Nat.reduceAdd,Nat.beq]
  rw [ih _ (by simp only [hi1,au,Nat.reduceMul,Nat.reduceBEq,Nat.reduceLT,Nat.reduceLeDiff,reduceCtorEq,Nat.reduceEqDiff,Nat.reduceAdd,Nat.beq]<;>rfl)]
 ·intro rb
  rw [show FB im (dt.map qj) dt.length=Gi im (dt.map qj) by unfold Gi;rw [List.length_map]]
  simp only [Kr,Int.lt_irrefl,List.length_map,au,Nat.reduceMul,Nat.reduceBEq,Nat.reduceLT,Nat.reduceLeDiff,reduceCtorEq,Nat.reduceEqDiff,Nat.reduceAdd,Nat.beq]
theorem amq {im:ig} {dt:List Bm} (h0:Y2 im (dt.map qj)):cal env 56 [.list 2 (dt.map jg),.list 1 (im.map bf)]=some [(.list 3 ((Gi im (dt.map qj)).map dQ),true)]:=by
 rw [ah alu rfl];simp only [abr,aB,Nat.reduceBEq,Nat.reduceLeDiff,Nat.reduceAdd,List.length_cons,List.length_nil]
 simp only [List.length_map,au,Nat.reduceMul,Nat.reduceBEq,Nat.reduceLT,Nat.reduceLeDiff,reduceCtorEq,Nat.reduceEqDiff,Nat.reduceAdd,Nat.beq]
 rw [adn (im:=im) (dt:=dt) h0 (by simp only [aB,bg,Nat.reduceMul,Nat.reduceBEq,Nat.reduceLT,Nat.reduceLeDiff,Nat.reduceAdd,decide_true,Bool.and_self,Bool.true_and]<;>rfl)]
 simp only [List.length_map,au,Nat.reduceMul,Nat.reduceBEq,Nat.reduceLT,Nat.reduceLeDiff,reduceCtorEq,Nat.reduceEqDiff,Nat.reduceAdd,Nat.beq]
end Go.Proofs.YtpcncggjmabnaaaGreatDoor.V

namespace Go.Proofs.YtpcncggjmabnaaaGreatDoor.V
def UE (l:List fV) (n:Int):Bool:=(l.length:Int)==n
def GR (im:ig) (z:List Int) (i:Nat):Bool:=((im.drop i).zip (z.drop i)).all fun q=>UE q.1 q.2
def FC (im:ig) (z:List Int):Bool:=decide (im.length=z.length)&&GR im z 0
theorem Y3 {dt:ig} {z:List Int} {i:Nat} (h:i<dt.length) (h2:i<z.length):GR dt z i=(UE dt[i] z[i]&&GR dt z (i+1)):=by
 unfold GR
 rw [List.drop_eq_getElem_cons h,List.drop_eq_getElem_cons h2]
 rfl
theorem ado (dt:ig) (z:List Int):GR dt z dt.length=true:=by
 unfold GR
 rw [List.drop_length]
 rfl
theorem Dl {im:ig} {z:List Int}:FC im z=true ↔ aA im=z:=by
 unfold FC GR
 rw [List.drop_zero,List.drop_zero]
 simp only [Bool.and_eq_true,decide_eq_true_eq]
 constructor
 ·rintro ⟨h1,h2⟩
  apply List.ext_getElem
  ·unfold aA;rw [List.length_map];exact h1
  ·intro i k1 k2
   have hi:i<im.length:=by unfold aA at k1;rw [List.length_map] at k1;exact k1
   have:=List.all_eq_true.1 h2 (im[i],z[i]) (by
    have e:(im.zip z)[i]'(by rw [List.length_zip];omega)=(im[i],z[i]):=List.getElem_zip
    rw [← e];exact List.getElem_mem _)
   unfold UE at this
   simpa [aA] using this
 ·rintro rfl
  refine ⟨by simp [aA],?_⟩
  rw [List.all_eq_true]
  intro q hq
  obtain ⟨i,hi⟩:=List.mem_iff_getElem?.1 hq
  obtain ⟨h1,h2⟩:=List.getElem?_eq_some_iff.1 hi
  rw [← h2,List.getElem_zip]
  simp [UE,aA]
theorem amr {l:List fV} {n:Int}:cal env 55 [.list 8 (l.map iJ),.int .i64 n]=some [(.bool (UE l n),false)]:=by
 unfold UE
 rw [ah als rfl];simp only [abq,aB,Nat.reduceBEq,Nat.reduceLeDiff,Nat.reduceAdd,List.length_cons,List.length_nil]
 simp only [List.length_map,au,Nat.reduceMul,Nat.reduceBEq,Nat.reduceLT,Nat.reduceLeDiff,reduceCtorEq,Nat.reduceEqDiff,Nat.reduceAdd,Nat.beq]
theorem ajR {dt:ig} {z:List Int} (hl:dt.length≤1000) (hz:dt.length=z.length) {st:St} (h:st.head [0,1,2,15,16,17] st.boxes.length=some ⟨sl 32 [(0,.pv (.list 1 (dt.map bf))),(1,.pv (.list 1 (z.map eI))),(2,.pv (.func 55 [])),(15,.pv (.list 1 (dt.map bf))),(16,.pv (.int .i64 dt.length)),(17,.pv (.int .i64 (0:Nat)))],[],[],none⟩) :
  den env J9 st=YR 32 6 (GR dt z ((0:Nat))):=by
 unfold J9
 refine bC (env:=env) (dt.length) (fun i=>⟨sl 32 [(0,.pv (.list 1 (dt.map bf))),(1,.pv (.list 1 (z.map eI))),(2,.pv (.func 55 [])),(15,.pv (.list 1 (dt.map bf))),(16,.pv (.int .i64 dt.length)),(17,.pv (.int .i64 i))],[],[],none⟩) (fun i=>YR 32 6 (GR dt z (i))) h (fun _=>rfl) (fun _=>by simp only [aB,bg,Nat.reduceMul,Nat.reduceBEq,Nat.reduceLT,Nat.reduceLeDiff,Nat.reduceAdd,decide_true,Bool.and_self,Bool.true_and]) ?_ ?_
 ·intro i rb hi ih
  have hi1:=bG hi (by unfold lim;omega)
  have hj:i<z.length:=by omega
  have F1:((i:Int)<(dt.length:Int))=True:=eq_true (by omega)
  have e1:=amr (l:=dt[i]) (n:=z[i])
  have hx:=wY hi
  have hy:=LC hj
  rw [Y3 hi hj]
  cases c:UE dt[i] z[i] with
  |true =>
   rw [c] at e1
   rw [Bool.true_and]
   simp only [CY,F1,e1,hx,hy,aj hi,aj hj,List.length_map,au,Nat.reduceMul,Nat.reduceBEq,Nat.reduceLT,Nat.reduceLeDiff,reduceCtorEq,Nat.reduceEqDiff,Nat.reduceAdd,Nat.beq]
   rw [ih _ (by simp only [hi1,au,Nat.reduceMul,Nat.reduceBEq,Nat.reduceLT,Nat.reduceLeDiff,reduceCtorEq,Nat.reduceEqDiff,Nat.reduceAdd,Nat.beq]<;>rfl)]
  |false =>
   rw [c] at e1
   rw [Bool.false_and,LG]
   simp only [CY,F1,e1,hx,hy,aj hi,aj hj,List.length_map,au,Nat.reduceMul,Nat.reduceBEq,Nat.reduceLT,Nat.reduceLeDiff,reduceCtorEq,Nat.reduceEqDiff,Nat.reduceAdd,Nat.beq]
 ·intro rb
  rw [ado,LD]
  simp only [CY,Int.lt_irrefl,List.length_map,au,Nat.reduceMul,Nat.reduceBEq,Nat.reduceLT,Nat.reduceLeDiff,reduceCtorEq,Nat.reduceEqDiff,Nat.reduceAdd,Nat.beq]
theorem ams {dt:ig} {z:List Int} (hl:dt.length≤1000):cal env 54 [.list 1 (dt.map bf),.list 1 (z.map eI),.func 55 []]=some [(.bool (FC dt z),false)]:=by
 unfold FC
 by_cases c:dt.length=z.length
 ·have F1:((dt.length:Int) != (z.length:Int))=false:=by simp [c]
  rw [decide_eq_true c,Bool.true_and]
  rw [ah ahg rfl];simp only [Yo,aB,Nat.reduceBEq,Nat.reduceLeDiff,Nat.reduceAdd,List.length_cons,List.length_nil]
  simp only [F1,List.length_map,au,Nat.reduceMul,Nat.reduceBEq,Nat.reduceLT,Nat.reduceLeDiff,reduceCtorEq,Nat.reduceEqDiff,Nat.reduceAdd,Nat.beq]
  rw [ajR hl c (by simp only [aB,bg,Nat.reduceMul,Nat.reduceBEq,Nat.reduceLT,Nat.reduceLeDiff,Nat.reduceAdd,decide_true,Bool.and_self,Bool.true_and]<;>rfl)]
  cases GR dt z 0 with
  |true=>rw [LD];simp only [F1,List.length_map,au,Nat.reduceMul,Nat.reduceBEq,Nat.reduceLT,Nat.reduceLeDiff,reduceCtorEq,Nat.reduceEqDiff,Nat.reduceAdd,Nat.beq]
  |false=>rw [LG];simp only [F1,List.length_map,au,Nat.reduceMul,Nat.reduceBEq,Nat.reduceLT,Nat.reduceLeDiff,reduceCtorEq,Nat.reduceEqDiff,Nat.reduceAdd,Nat.beq]
 ·have F1:((dt.length:Int) != (z.length:Int))=true:=by simp;omega
  rw [decide_eq_false c,Bool.false_and]
  rw [ah ahg rfl];simp only [Yo,aB,Nat.reduceBEq,Nat.reduceLeDiff,Nat.reduceAdd,List.length_cons,List.length_nil]
  simp only [F1,List.length_map,au,Nat.reduceMul,Nat.reduceBEq,Nat.reduceLT,Nat.reduceLeDiff,reduceCtorEq,Nat.reduceEqDiff,Nat.reduceAdd,Nat.beq]
end Go.Proofs.YtpcncggjmabnaaaGreatDoor.V

namespace Go.Proofs.YtpcncggjmabnaaaGreatDoor.V
def GU (s:og) (im:ig) (t:Int):Int:=if rZ s=0 then (if dH im=0 then (if s.ov then (if FC im s.sz then (if t<0∨t > 1073741824 then 24 else 0) else 22) else 12) else dH im) else rZ s
def xw (s:og) (im:ig) (t:Int):kX:=⟨s.fs,s.ls,t,[],Gi im (s.dt.map qj)⟩
def adp (s:og) (im:ig) (t:Int):kX:=if GU s im t=0 then xw s im t else ajO
def agv (s:og) (im:ig) (t:Int):og:=if GU s im t=0 then { s with ov:=false,dt:=[],cy:=[xw s im t] } else YQ
structure smI (im:ig):Prop where
 ln:im.length≤10
 vo:∀ v∈im,v.length≤400
theorem UF {s:og} {im:ig} (h:xg s.dt s.sz=true) (hs:FC im s.sz=true) (hi:smI im):Y2 im (s.dt.map qj):=by
 have hz:=vU h
 have e:=Dl.1 hs
 have hl:s.dt.length=im.length:=by rw [hz.1,← e];simp [aA]
 have hv:∀ v (h:v<s.dt.length),okB s.dt[v]=true∧s.dt[v].size=((im.getD v []).length:Int)∧(im.getD v []).length≤400:=fun v hv=>by
  obtain ⟨k1,k2⟩:=hz.2 v hv
  have Cm:v<im.length:=by omega
  have e2:im.getD v []=im[v]:=by simp [Cm]
  refine ⟨k1,?_,by rw [e2];exact hi.vo _ (List.getElem_mem Cm)⟩
  rw [k2,← e,e2]
  simp [aA,List.getD_eq_getElem?_getD,Cm]
 refine ⟨by rw [List.length_map];omega,Nat.le_trans hi.ln (by decide),fun v hv=>Nat.le_trans (hi.vo v hv) (by decide),fun x hx=>?_,fun v h e he=>?_⟩
 ·obtain ⟨b,hb,rfl⟩:=List.mem_map.1 hx
  obtain ⟨i,hi1⟩:=List.mem_iff_getElem?.1 hb
  obtain ⟨h1,h2⟩:=List.getElem?_eq_some_iff.1 hi1
  obtain ⟨k1,k2,k3⟩:=hv i h1
  rw [← h2]
  unfold qj xR
  rw [if_pos k1,k2]
  have:=wW (bit s.dt[i].ws) ((((im.getD i []).length:Int)).toNat)
  omega
 ·have h':v<s.dt.length:=by rw [List.length_map] at h;exact h
  obtain ⟨k1,k2,k3⟩:=hv v h'
  rw [List.getElem_map] at he
  unfold qj xR at he
  rw [if_pos k1,k2] at he
  have:=Az _ _ e he
  omega
theorem UG {s:og} {im:ig} (h:xg s.dt s.sz=true) (hs:FC im s.sz=true) (hi:smI im):(Gi im (s.dt.map qj)).length≤10000∧∀ x∈Gi im (s.dt.map qj),x.data.length≤10000:=by
 have hz:=vU h
 have e:=Dl.1 hs
 have hl:s.dt.length=im.length:=by rw [hz.1,← e];simp [aA]
 have hv:∀ v (h:v<s.dt.length),s.dt[v].size≤400:=fun v hv=>by
  obtain ⟨k1,k2⟩:=hz.2 v hv
  have Cm:v<im.length:=by omega
  have:=hi.vo _ (List.getElem_mem Cm)
  rw [k2,← e]
  simp [aA,List.getD_eq_getElem?_getD,Cm]
  omega
 have hx:∀ x∈s.dt.map qj,x.length≤400:=fun x hx=>by
  obtain ⟨b,hb,rfl⟩:=List.mem_map.1 hx
  obtain ⟨i,hi1⟩:=List.mem_iff_getElem?.1 hb
  obtain ⟨h1,h2⟩:=List.getElem?_eq_some_iff.1 hi1
  have k:=hv i h1
  rw [← h2]
  unfold qj xR
  split
  ·have:=wW (bit s.dt[i].ws) s.dt[i].size.toNat
   omega
  ·simp
 refine ⟨?_,fun x hxm=>?_⟩
 ·have h1:=AO (im:=im) hx (s.dt.map qj).length
  have h2:400 * (s.dt.map qj).length≤400 * 10:=Nat.mul_le_mul_left _ (by rw [List.length_map,hl];exact hi.ln)
  unfold Gi
  omega
 ·unfold Gi FB at hxm
  obtain ⟨v,hv1,hx1⟩:=List.mem_flatMap.1 hxm
  unfold Dk at hx1
  obtain ⟨e,he,rfl⟩:=List.mem_map.1 hx1
  show (((im.getD v []).drop e.start.toNat).take e.count.toNat).length≤10000
  rw [List.length_take,List.length_drop]
  by_cases c:v<im.length
  ·have e2:im.getD v []=im[v]:=by simp [c]
   have:=hi.vo _ (List.getElem_mem c)
   rw [e2];omega
  ·have e2:im.getD v []=[]:=by simp [List.getD_eq_getElem?_getD,List.getElem?_eq_none (Nat.le_of_not_lt c)]
   rw [e2];simp
theorem agw (s:og) (im:ig) (t:Int):oI (agv s im t)=if GU s im t=0 then oI { s with ov:=false,dt:=[],cy:=[xw s im t] } else oI YQ:=by
 unfold agv;split<;>rfl
theorem agx (s:og) (im:ig) (t:Int):gU (adp s im t)=if GU s im t=0 then gU (xw s im t) else gU ajO:=by
 unfold adp;split<;>rfl
set_option maxRecDepth 20000 in
theorem amv {s:og} {im:ig} {t:Int} (hq:MQ s) (hi:smI im):cal env 26 [oI s,.list 1 (im.map bf),.int .i64 t]=some [(oI (agv s im t),false),(gU (adp s im t),false),(.int .i64 (GU s im t),false)]:=by
 have e1:=ahw hq
 have e2:=abX (im:=im) (by have:=hi.ln;unfold lim;omega)
 have e3:=ams (dt:=im) (z:=s.sz) (by have:=hi.ln;omega)
 have e5:=ahx hq
 have Z0:((0:Int) != 0)=false:=rfl
 rw [agw,agx]
 unfold GU
 rw [eP] at e1 e5
 rw [eP s]
 by_cases c1:rZ s=0
 rotate_left
 ·have Z:(rZ s != 0)=true:=by simp [c1]
  rw [if_neg c1,if_neg c1,if_neg c1,oP,AL]
  rw [ah ER rfl];simp only [Es,aB,Nat.reduceBEq,Nat.reduceLeDiff,Nat.reduceAdd,List.length_cons,List.length_nil]
  simp only [e1,Z,fP,jB,List.length_map,au,Nat.reduceMul,Nat.reduceBEq,Nat.reduceLT,Nat.reduceLeDiff,reduceCtorEq,Nat.reduceEqDiff,Nat.reduceAdd,Nat.beq]
 obtain ⟨k1,k2,k3⟩:=BN c1
 rw [c1] at e1
 rw [if_pos c1]
 by_cases c2:dH im=0
 rotate_left
 ·have Z:(dH im != 0)=true:=by simp [c2]
  rw [if_neg c2,if_neg c2,if_neg c2,oP,AL]
  rw [ah ER rfl];simp only [Es,aB,Nat.reduceBEq,Nat.reduceLeDiff,Nat.reduceAdd,List.length_cons,List.length_nil]
  simp only [e1,e2,Z0,Z,fP,jB,List.length_map,au,Nat.reduceMul,Nat.reduceBEq,Nat.reduceLT,Nat.reduceLeDiff,reduceCtorEq,Nat.reduceEqDiff,Nat.reduceAdd,Nat.beq]
 rw [c2] at e2
 rw [if_pos c2]
 cases co:s.ov with
 |false =>
  rw [co] at e1
  rw [if_neg Bool.false_ne_true,if_neg (by decide),if_neg (by decide),oP,AL]
  rw [ah ER rfl];simp only [Es,aB,Nat.reduceBEq,Nat.reduceLeDiff,Nat.reduceAdd,List.length_cons,List.length_nil]
  simp only [co,e1,e2,e3,Z0,fP,jB,List.length_map,au,Nat.reduceMul,Nat.reduceBEq,Nat.reduceLT,Nat.reduceLeDiff,reduceCtorEq,Nat.reduceEqDiff,Nat.reduceAdd,Nat.beq]
 |true =>
  rcases k3 with ⟨_,g1,g2,g3⟩|⟨g,_⟩
  rotate_left
  ·rw [co] at g;cases g
  rw [co] at e1 e5
  rw [if_pos rfl]
  cases c3:FC im s.sz with
  |false =>
   rw [c3] at e3
   rw [if_neg Bool.false_ne_true,if_neg (by decide),if_neg (by decide),oP,AL]
   rw [ah ER rfl];simp only [Es,aB,Nat.reduceBEq,Nat.reduceLeDiff,Nat.reduceAdd,List.length_cons,List.length_nil]
   simp only [co,e1,e2,e3,Z0,fP,jB,List.length_map,au,Nat.reduceMul,Nat.reduceBEq,Nat.reduceLT,Nat.reduceLeDiff,reduceCtorEq,Nat.reduceEqDiff,Nat.reduceAdd,Nat.beq]
  |true =>
   rw [c3] at e3
   rw [if_pos rfl]
   by_cases c4:t<0
   ·have F4:=eq_true c4
    rw [if_pos (Or.inl c4:t<0∨t > 1073741824),if_neg (by decide),if_neg (by decide),oP,AL]
    rw [ah ER rfl];simp only [Es,aB,Nat.reduceBEq,Nat.reduceLeDiff,Nat.reduceAdd,List.length_cons,List.length_nil]
    simp only [co,e1,e2,e3,Z0,F4,fP,jB,List.length_map,au,Nat.reduceMul,Nat.reduceBEq,Nat.reduceLT,Nat.reduceLeDiff,reduceCtorEq,Nat.reduceEqDiff,Nat.reduceAdd,Nat.beq]
   have F4:=eq_false c4
   by_cases c5:t > 1073741824
   ·have F5:=eq_true c5
    rw [if_pos (Or.inr c5:t<0∨t > 1073741824),if_neg (by decide),if_neg (by decide),oP,AL]
    rw [ah ER rfl];simp only [Es,aB,Nat.reduceBEq,Nat.reduceLeDiff,Nat.reduceAdd,List.length_cons,List.length_nil]
    simp only [co,e1,e2,e3,Z0,F4,F5,fP,jB,List.length_map,au,Nat.reduceMul,Nat.reduceBEq,Nat.reduceLT,Nat.reduceLeDiff,reduceCtorEq,Nat.reduceEqDiff,Nat.reduceAdd,Nat.beq]
   have F5:=eq_false c5
   rw [if_neg (show ¬ (t<0∨t > 1073741824) by omega),if_pos rfl,if_pos rfl]
   have e6:=amq (UF g3 c3 hi)
   obtain ⟨w1,w2⟩:=UG g3 c3 hi
   have e7:=acP (c:=xw s im t) ⟨Nat.zero_le _,w1,w2⟩
   rw [eP]
   have hD:gU (xw s im t)=.agg [.int .i64 s.fs,.int .i64 s.ls,.int .i64 t,.list 1 [],.list 3 ((Gi im (s.dt.map qj)).map dQ)]:=rfl
   rw [hD] at e7 ⊢
   rw [show [xw s im t].map gU=[gU (xw s im t)] from rfl,hD]
   generalize (Gi im (s.dt.map qj)).map dQ=WW at *
   rw [ah ER rfl];simp only [Es,aB,Nat.reduceBEq,Nat.reduceLeDiff,Nat.reduceAdd,List.length_cons,List.length_nil]
   simp only [co,e1,e2,e3,e5,e6,e7,Z0,F4,F5,fP,jB,List.map_nil,List.length_map,au,Nat.reduceMul,Nat.reduceBEq,Nat.reduceLT,Nat.reduceLeDiff,reduceCtorEq,Nat.reduceEqDiff,Nat.reduceAdd,Nat.beq]
end Go.Proofs.YtpcncggjmabnaaaGreatDoor.V

namespace Go.Proofs.YtpcncggjmabnaaaGreatDoor.V
theorem agy (s:fV):∃ a b c d e f g h:Int,iJ s=.agg [.int .u8 a,.int .u8 b,.int .u8 c,.int .u8 d,.int .u8 e,.int .u8 f,.int .u8 g,.int .u8 h]:=by
 have hl:=oW s
 unfold iJ
 have hm:∀ x∈lY s,∃ n:Int,x=.int .u8 n:=fun x hx=>by
  unfold lY at hx
  obtain ⟨b,_,rfl⟩:=List.mem_map.1 hx
  exact ⟨_,rfl⟩
 match hq:lY s,hl,hm with
 |[x0,x1,x2,x3,x4,x5,x6,x7],_,hm =>
  obtain ⟨a,rfl⟩:=hm x0 (by simp)
  obtain ⟨b,rfl⟩:=hm x1 (by simp)
  obtain ⟨c,rfl⟩:=hm x2 (by simp)
  obtain ⟨d,rfl⟩:=hm x3 (by simp)
  obtain ⟨e,rfl⟩:=hm x4 (by simp)
  obtain ⟨f,rfl⟩:=hm x5 (by simp)
  obtain ⟨g,rfl⟩:=hm x6 (by simp)
  obtain ⟨h,rfl⟩:=hm x7 (by simp)
  exact ⟨a,b,c,d,e,f,g,h,rfl⟩
theorem adq:iJ xC=.agg [.int .u8 0,.int .u8 0,.int .u8 0,.int .u8 0,.int .u8 0,.int .u8 0,.int .u8 0,.int .u8 0]:=rfl
theorem IV (a b c d e f g h:PV):part [a,b,c,d,e,f,g,h] 0 (some 8)=some (.agg [a,b,c,d,e,f,g,h]):=rfl
def CB (w:bK):Prop:=(0≤w.start∧w.start≤100000)∧w.data.length≤100000
def LW (w:bK) (v s:Int):Bool:=decide (w.volume=v)&&(decide (w.data.length≠0)&&decide (w.start≤s))
def yg (w:bK) (v s:Int):Int:=if LW w v s then s - w.start else 0
def mQ (w:bK) (v s:Int):Bool:=LW w v s&&decide (s - w.start<(w.data.length:Int))
theorem amw {w:bK} {v s:Int} (hw:CB w) (hs:0≤s∧s≤100000):cal env 67 [dQ w,.int .i64 v,.int .i64 s]=some [(.int .i64 (yg w v s),false),(.bool (mQ w v s),false)]:=by
 obtain ⟨⟨h1,h2⟩,h3⟩:=hw
 have W:IntKind.i64.wrap (s - w.start)=s - w.start:=bn (by omega)
 have F5:(w.start<0)=False:=eq_false (by omega)
 unfold yg mQ LW dQ
 by_cases c1:w.volume=v
 rotate_left
 ·have G1:(w.volume != v)=true:=by simp [c1]
  rw [decide_eq_false c1,Bool.false_and,Bool.false_and,if_neg Bool.false_ne_true]
  rw [ah PI rfl];simp only [KG,aB,Nat.reduceBEq,Nat.reduceLeDiff,Nat.reduceAdd,List.length_cons,List.length_nil]
  simp only [G1,iV,List.length_map,au,Nat.reduceMul,Nat.reduceBEq,Nat.reduceLT,Nat.reduceLeDiff,reduceCtorEq,Nat.reduceEqDiff,Nat.reduceAdd,Nat.beq]
 have G1:(w.volume != v)=false:=by simp [c1]
 rw [decide_eq_true c1,Bool.true_and]
 by_cases c2:w.data.length≠0
 rotate_left
 ·have G2:((w.data.length:Int)==0)=true:=beq_iff_eq.2 (by omega)
  rw [decide_eq_false c2,Bool.false_and,Bool.false_and,if_neg Bool.false_ne_true]
  rw [ah PI rfl];simp only [KG,aB,Nat.reduceBEq,Nat.reduceLeDiff,Nat.reduceAdd,List.length_cons,List.length_nil]
  simp only [G1,G2,iV,List.length_map,au,Nat.reduceMul,Nat.reduceBEq,Nat.reduceLT,Nat.reduceLeDiff,reduceCtorEq,Nat.reduceEqDiff,Nat.reduceAdd,Nat.beq]
 have G2:((w.data.length:Int)==0)=false:=beq_eq_false_iff_ne.2 (by omega)
 rw [decide_eq_true c2,Bool.true_and]
 by_cases c3:w.start≤s
 rotate_left
 ·have G3:(w.start > s)=True:=eq_true (by omega)
  rw [decide_eq_false c3,Bool.false_and,if_neg Bool.false_ne_true]
  rw [ah PI rfl];simp only [KG,aB,Nat.reduceBEq,Nat.reduceLeDiff,Nat.reduceAdd,List.length_cons,List.length_nil]
  simp only [G1,G2,G3,iV,List.length_map,au,Nat.reduceMul,Nat.reduceBEq,Nat.reduceLT,Nat.reduceLeDiff,reduceCtorEq,Nat.reduceEqDiff,Nat.reduceAdd,Nat.beq]
 have G3:(w.start > s)=False:=eq_false (by omega)
 rw [decide_eq_true c3,Bool.true_and,if_pos rfl]
 by_cases c4:s - w.start<(w.data.length:Int)
 ·have G4:=eq_true c4
  rw [decide_eq_true c4]
  rw [ah PI rfl];simp only [KG,aB,Nat.reduceBEq,Nat.reduceLeDiff,Nat.reduceAdd,List.length_cons,List.length_nil]
  simp only [G1,G2,G3,G4,W,F5,iV,List.length_map,au,Nat.reduceMul,Nat.reduceBEq,Nat.reduceLT,Nat.reduceLeDiff,reduceCtorEq,Nat.reduceEqDiff,Nat.reduceAdd,Nat.beq]
 ·have G4:=eq_false c4
  rw [decide_eq_false c4]
  rw [ah PI rfl];simp only [KG,aB,Nat.reduceBEq,Nat.reduceLeDiff,Nat.reduceAdd,List.length_cons,List.length_nil]
  simp only [G1,G2,G3,G4,W,F5,iV,List.length_map,au,Nat.reduceMul,Nat.reduceBEq,Nat.reduceLT,Nat.reduceLeDiff,reduceCtorEq,Nat.reduceEqDiff,Nat.reduceAdd,Nat.beq]
theorem UH {w:bK} {v s:Int} (h:mQ w v s=true):(yg w v s).toNat<w.data.length∧0≤yg w v s:=by
 unfold mQ at h
 simp only [Bool.and_eq_true,decide_eq_true_eq] at h
 unfold yg
 rw [if_pos h.1]
 have:=h.1
 unfold LW at this
 simp only [Bool.and_eq_true,decide_eq_true_eq] at this
 omega
def qB (v s:Int):List bK→Option fV
 |[]=>none
 |w :: l=>if mQ w v s then w.data[(yg w v s).toNat]? else qB v s l
def pG (l:List bK) (v s:Int):Option fV:=qB v s l.reverse
def agz (o:Option fV):Option (Ex × St):=match o with
 |none=>some (.normal,⟨sl 38 [(6,.aF 0 0),(7,.any)],[⟨false,[.pv (.int .u8 0),.pv (.int .u8 0),.pv (.int .u8 0),.pv (.int .u8 0),.pv (.int .u8 0),.pv (.int .u8 0),.pv (.int .u8 0),.pv (.int .u8 0)]⟩],[],none⟩)
 |some x=>some (.ret,⟨sl 38 [(6,.aF 0 0),(7,.pv (.bool true))],[⟨false,(iJ x).cells.map .pv⟩],[],none⟩)
theorem adr:agz none=some (.normal,⟨sl 38 [(6,.aF 0 0),(7,.any)],[⟨false,[.pv (.int .u8 0),.pv (.int .u8 0),.pv (.int .u8 0),.pv (.int .u8 0),.pv (.int .u8 0),.pv (.int .u8 0),.pv (.int .u8 0),.pv (.int .u8 0)]⟩],[],none⟩):=rfl
theorem ads (x:fV):agz (some x)=some (.ret,⟨sl 38 [(6,.aF 0 0),(7,.pv (.bool true))],[⟨false,(iJ x).cells.map .pv⟩],[],none⟩):=rfl
theorem Y4 {l:List bK} {v s:Int} {i:Nat} (h:i<l.length):qB v s (l.reverse.drop i)=if mQ (l[l.length - 1 - i]'(by omega)) v s then (l[l.length - 1 - i]'(by omega)).data[(yg (l[l.length - 1 - i]'(by omega)) v s).toNat]? else qB v s (l.reverse.drop (i+1)):=by
 rw [List.drop_eq_getElem_cons (by rw [List.length_reverse];exact h),qB,List.getElem_reverse]
theorem ajS {l:List bK} {v s:Int} (hm:∀ w∈l,CB w) (hl:l.length≤100000) (hs:0≤s∧s≤100000) {st:St} (h:st.head [0,1,2,6,8] st.boxes.length=some ⟨sl 38 [(0,.pv (.list 3 (l.map dQ))),(1,.pv (.int .i64 v)),(2,.pv (.int .i64 s)),(6,.aF 0 0),(8,.pv (.int .i64 ((l.length:Int) - 1 - ((0:Nat):Nat))))],[⟨false,[.pv (.int .u8 0),.pv (.int .u8 0),.pv (.int .u8 0),.pv (.int .u8 0),.pv (.int .u8 0),.pv (.int .u8 0),.pv (.int .u8 0),.pv (.int .u8 0)]⟩],[],none⟩) :
  den env JY st=agz (qB v s (l.reverse.drop ((0:Nat)))):=by
 unfold JY
 refine bC (env:=env) (nb:=1) (l.length) (fun i=>⟨sl 38 [(0,.pv (.list 3 (l.map dQ))),(1,.pv (.int .i64 v)),(2,.pv (.int .i64 s)),(6,.aF 0 0),(8,.pv (.int .i64 ((l.length:Int) - 1 - (i:Nat))))],[⟨false,[.pv (.int .u8 0),.pv (.int .u8 0),.pv (.int .u8 0),.pv (.int .u8 0),.pv (.int .u8 0),.pv (.int .u8 0),.pv (.int .u8 0),.pv (.int .u8 0)]⟩],[],none⟩) (fun i=>agz (qB v s (l.reverse.drop (i)))) h (fun _=>rfl) (fun _=>by simp only [aB,bg,Nat.reduceMul,Nat.reduceBEq,Nat.reduceLT,Nat.reduceLeDiff,Nat.reduceAdd,decide_true,Bool.and_self,Bool.true_and]) ?_ ?_
 ·intro i rb hi ih
  have hj:l.length - 1 - i<l.length:=by omega
  have hji:((l.length:Int) - 1 - (i:Nat))=((l.length - 1 - i:Nat):Int):=by omega
  have F1:(((l.length - 1 - i:Nat):Int) ≥ 0)=True:=eq_true (by omega)
  have W:IntKind.i64.wrap (((l.length - 1 - i:Nat):Int) - 1)=(l.length:Int) - 1 - ((i+1:Nat):Int):=by rw [bn (by omega)];omega
  have e1:=amw (v:=v) (hm _ (List.getElem_mem hj)) hs
  have hx:=rC hj
  rw [Y4 hi]
  rw [hji]
  unfold dQ at e1
  cases c:mQ l[l.length - 1 - i] v s with
  |true =>
   obtain ⟨k1,k2⟩:=UH c
   have e2:yg l[l.length - 1 - i] v s=(((yg l[l.length - 1 - i] v s).toNat:Nat):Int):=by omega
   rw [c] at e1
   rw [if_pos rfl,List.getElem?_eq_getElem k1,ads]
   generalize (yg l[l.length - 1 - i] v s).toNat=k at *
   rw [e2] at e1
   have hy:(l[l.length - 1 - i].data.map iJ)[k]?=some (iJ l[l.length - 1 - i].data[k]):=by rw [List.getElem?_map,List.getElem?_eq_getElem k1];rfl
   obtain ⟨a,b,c',d,e,f,g,h',h8⟩:=agy l[l.length - 1 - i].data[k]
   rw [h8] at hy ⊢
   simp only [CX,F1,e1,hx,hy,iV,IV,aj hj,aj k1,List.length_map,au,Nat.reduceMul,Nat.reduceBEq,Nat.reduceLT,Nat.reduceLeDiff,reduceCtorEq,Nat.reduceEqDiff,Nat.reduceAdd,Nat.beq]
  |false =>
   rw [c] at e1
   rw [if_neg Bool.false_ne_true]
   simp only [CX,F1,e1,hx,iV,aj hj,List.length_map,au,Nat.reduceMul,Nat.reduceBEq,Nat.reduceLT,Nat.reduceLeDiff,reduceCtorEq,Nat.reduceEqDiff,Nat.reduceAdd,Nat.beq]
   rw [ih _ (by simp only [W,au,Nat.reduceMul,Nat.reduceBEq,Nat.reduceLT,Nat.reduceLeDiff,reduceCtorEq,Nat.reduceEqDiff,Nat.reduceAdd,Nat.beq]<;>rfl)]
 ·intro rb
  have F1:(((l.length:Int) - 1 - (l.length:Int)) ≥ 0)=False:=eq_false (by omega)
  rw [List.drop_of_length_le (by simp),show qB v s []=none from rfl,adr]
  simp only [CX,F1,List.length_map,au,Nat.reduceMul,Nat.reduceBEq,Nat.reduceLT,Nat.reduceLeDiff,reduceCtorEq,Nat.reduceEqDiff,Nat.reduceAdd,Nat.beq]
theorem ahA {l:List bK} {v s:Int} (hm:∀ w∈l,CB w) (hl:l.length≤100000) (hs:0≤s∧s≤100000):cal env 34 [.list 3 (l.map dQ),.int .i64 v,.int .i64 s]=some [(iJ ((pG l v s).getD xC),false),(.bool (pG l v s).isSome,false)]:=by
 have W:IntKind.i64.wrap ((l.length:Int) - 1)=(l.length:Int) - 1 - ((0:Nat):Int):=by rw [bn (by omega)];omega
 have hz:pG l v s=qB v s l.reverse:=rfl
 rw [hz]
 rw [ah alk rfl];simp only [abk,aB,Nat.reduceBEq,Nat.reduceLeDiff,Nat.reduceAdd,List.length_cons,List.length_nil]
 simp only [W,List.length_map,au,Nat.reduceMul,Nat.reduceBEq,Nat.reduceLT,Nat.reduceLeDiff,reduceCtorEq,Nat.reduceEqDiff,Nat.reduceAdd,Nat.beq]
 rw [ajS hm hl hs (by simp only [aB,bg,Nat.reduceMul,Nat.reduceBEq,Nat.reduceLT,Nat.reduceLeDiff,Nat.reduceAdd,decide_true,Bool.and_self,Bool.true_and]<;>rfl),List.drop_zero]
 cases qB v s l.reverse with
 |none =>
  rw [adr,Option.getD_none,adq]
  simp only [IV,Option.isSome_none,au,Nat.reduceMul,Nat.reduceBEq,Nat.reduceLT,Nat.reduceLeDiff,reduceCtorEq,Nat.reduceEqDiff,Nat.reduceAdd,Nat.beq]
 |some x =>
  rw [ads,Option.getD_some]
  obtain ⟨a,b,c',d,e,f,g,h',h8⟩:=agy x
  rw [h8]
  simp only [IV,Option.isSome_some,au,Nat.reduceMul,Nat.reduceBEq,Nat.reduceLT,Nat.reduceLeDiff,reduceCtorEq,Nat.reduceEqDiff,Nat.reduceAdd,Nat.beq]
end Go.Proofs.YtpcncggjmabnaaaGreatDoor.V
