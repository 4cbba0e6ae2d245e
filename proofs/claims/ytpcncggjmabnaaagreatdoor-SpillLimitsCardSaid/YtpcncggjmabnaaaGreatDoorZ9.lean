/-
  Part 9 of the texts that the statement stands on.
-/
import Derived.Test.YtpcncggjmabnaaaGreatDoorZ8
set_option linter.all false
namespace Go.Proofs.YtpcncggjmabnaaaGreatDoor.V
theorem cal79 {c:Cye} {s:Spl} (hc:okCy c) (hw:fitW s.sz c.ws) (hz:s.sz.length≤1000) (hd:bmZ s.sz s.dt):calL env 79 (.own (aSpl s)) [eCye c,.iptr [.func 75 []] 0]=some ([(eSpl { s with dt:=mkL c.ws s.dt },false),(.int .i64 0,false)],none):=by
 have e1:=cal75 (z:=s.sz) (cs:=[c]) (s:=s) (fun x hx=>by rw [List.mem_singleton.1 hx];exact ⟨hc,hw⟩) hz hd (by simp)
 rw [show mkLs s.dt [c]=mkL c.ws s.dt from rfl,aSpl_eq,show [c].map eCye=[eCye c] from rfl,eCye_eq] at e1
 rw [calL_code env79 rfl,aSpl_eq,eCye_eq,eSpl_eq]
 rw [eSpl_eq] at e1
 simp only [fn79,slAll,Nat.reduceBEq,Nat.reduceLeDiff,Nat.reduceAdd,List.length_cons,List.length_nil]
 simp only [e1,part5,part7,List.length_map,slAll,slsAll,Nat.reduceMul,Nat.reduceBEq,Nat.reduceLT,Nat.reduceLeDiff,memAll,vAll,reduceCtorEq,Nat.reduceEqDiff,Nat.reduceAdd,Nat.reduceLT,Nat.reduceLeDiff,Nat.beq]
theorem loop77 {z:List Int} {dt:List Bm} (hz:z.length≤1000) (hd:dt.length≤1000) (hs:∀ x∈z,1≤x∧x≤4096) {x0 x2 x3 x4 x5:BV} {A2:PV} {c:Cye} {st:St} (h:st.head [2,3,4,5,27,28,29] st.boxes.length=some ⟨sl 62 [(2,.pv A2),(3,.pbox 0 0),(4,.pbox 1 0),(5,.pbox 2 0),(27,.ref (.cell 0 1) 0 z.length),(28,.pv (.int .i64 z.length)),(29,.pv (.int .i64 (0:Nat)))],[⟨false,[x0,.row 1 (z.map eI),x2,x3,x4,x5,.row 2 ((dt++(z.take ((0:Nat))).map newO).map eBm)]⟩,⟨false,bCye c⟩,⟨false,zSp⟩],[],none⟩) :
  den env fn77_l1 st=some (.normal,⟨sl 62 [(2,.pv A2),(3,.pbox 0 0),(4,.pbox 1 0),(5,.pbox 2 0),(6,.any)],[⟨false,[x0,.row 1 (z.map eI),x2,x3,x4,x5,.row 2 ((dt++z.map newO).map eBm)]⟩,⟨false,bCye c⟩,⟨false,zSp⟩],[],none⟩):=by
 unfold fn77_l1
 refine clean_up (env:=env) (nb:=3) (z.length) (fun i=>⟨sl 62 [(2,.pv A2),(3,.pbox 0 0),(4,.pbox 1 0),(5,.pbox 2 0),(27,.ref (.cell 0 1) 0 z.length),(28,.pv (.int .i64 z.length)),(29,.pv (.int .i64 i))],[⟨false,[x0,.row 1 (z.map eI),x2,x3,x4,x5,.row 2 ((dt++(z.take (i)).map newO).map eBm)]⟩,⟨false,bCye c⟩,⟨false,zSp⟩],[],none⟩) (fun i=>some (.normal,⟨sl 62 [(2,.pv A2),(3,.pbox 0 0),(4,.pbox 1 0),(5,.pbox 2 0),(6,.any)],[⟨false,[x0,.row 1 (z.map eI),x2,x3,x4,x5,.row 2 ((dt++z.map newO).map eBm)]⟩,⟨false,bCye c⟩,⟨false,zSp⟩],[],none⟩)) h (fun _=>rfl) (fun _=>by simp only [slAll,slsAll,Nat.reduceMul,Nat.reduceBEq,Nat.reduceLT,Nat.reduceLeDiff,Nat.reduceAdd,decide_true,Bool.and_self,Bool.true_and]) ?_ ?_
 ·intro i rb hi ih
  have hi1:=i64_next hi (by unfold lim;omega)
  have F1:((i:Int)<(z.length:Int))=True:=eq_true (by omega)
  have hx:=eI_at24 hi
  have q:=hs _ (List.getElem_mem hi)
  have e1:=cal78 (n:=z[i])
  rw [show newE z[i]=0 by unfold newE;rw [if_neg (by omega)],show eBm (newO z[i])=.agg [.int .i64 (newO z[i]).size,.list 1 ((newO z[i]).ws.map eW)] from rfl] at e1
  have Z:((0:Int) != 0)=false:=rfl
  have F5:((dt++(z.take i).map newO).length+1≤lim)=True:=eq_true (by rw [List.length_append,List.length_map,List.length_take];unfold lim;omega)
  have hh:(dt++(z.take (i+1)).map newO).map eBm=(dt++(z.take i).map newO).map eBm++[.agg [.int .i64 (newO z[i]).size,.list 1 ((newO z[i]).ws.map eW)]]:=by
   rw [List.take_succ_eq_append_getElem hi,List.map_append (f:=newO),← List.append_assoc,List.map_append (f:=eBm) (l₂:=[z[i]].map newO)];rfl
  rw [hh] at ih
  simp only [fn77_b0,F1,F5,e1,Z,hx,part2,zSp_eq,bCye_eq,index_nat hi,List.length_map,slAll,slsAll,Nat.reduceMul,Nat.reduceBEq,Nat.reduceLT,Nat.reduceLeDiff,memAll,vAll,reduceCtorEq,Nat.reduceEqDiff,Nat.reduceAdd,Nat.reduceLT,Nat.reduceLeDiff,Nat.beq]
  rw [ih _ (by simp only [hi1,zSp_eq,bCye_eq,slAll,slsAll,Nat.reduceMul,Nat.reduceBEq,Nat.reduceLT,Nat.reduceLeDiff,memAll,vAll,reduceCtorEq,Nat.reduceEqDiff,Nat.reduceAdd,Nat.reduceLT,Nat.reduceLeDiff,Nat.beq]<;>rfl)]
  rfl
 ·intro rb
  rw [List.take_length]
  simp only [fn77_b0,Int.lt_irrefl,zSp_eq,bCye_eq,List.length_map,slAll,slsAll,Nat.reduceMul,Nat.reduceBEq,Nat.reduceLT,Nat.reduceLeDiff,memAll,vAll,reduceCtorEq,Nat.reduceEqDiff,Nat.reduceAdd,Nat.reduceLT,Nat.reduceLeDiff,Nat.beq]
theorem new_z {z:List Int} (hs:∀ x∈z,1≤x∧x≤4096):bmZ z (z.map newO):=by
 refine ⟨by rw [List.length_map],fun v h=>?_⟩
 have hv:v<z.length:=by rw [List.length_map] at h;exact h
 have q:=hs _ (List.getElem_mem hv)
 have e1:(z.map newO)[v]=newO ((z[v].toNat:Nat):Int):=by rw [List.getElem_map];congr 1;omega
 obtain ⟨k1,k2,k3,k4⟩:=new_ok (n:=z[v].toNat) (by omega)
 rw [e1]
 refine ⟨k2,k3.trans ?_⟩
 rw [List.getD_eq_getElem?_getD,List.getElem?_eq_getElem hv]
 show _=z[v]
 omega
def addC (s:Spl) (c:Cye):Spl:=if (s.cy.length:Int)<s.lm then { s with cy:=s.cy++[c] } else { s with cy:=[],ov:=true,dt:=mkLs (s.sz.map newO) (s.cy++[c]) }
theorem cal77 {c:Cye} {s:Spl} (hq:smQ s) (hc:okCy c) (hs:∀ x∈s.sz,1≤x∧x≤4096) (hd0:s.dt=[]) (hw:∀ x∈s.cy++[c],fitW s.sz x.ws):calL env 77 (.own (aSpl s)) [eCye c,.iptr [.func 75 []] 0]=some ([(eSpl (addC s c),false),(.int .i64 0,false)],none):=by
 have hcy:=hq.cy
 have e2:=cal48 hc
 have hcat:(s.cy++[c]).map eCye=s.cy.map eCye++[eCye c]:=by rw [List.map_append];rfl
 have F5:(s.cy.length+1≤lim)=True:=eq_true (by unfold lim;omega)
 unfold addC
 rw [calL_code env77 rfl]
 rw [eCye_eq] at e2 hcat ⊢
 by_cases k:(s.cy.length:Int)<s.lm
 ·have G:=eq_true k
  rw [if_pos k,eSpl_eq,aSpl_eq,hcat]
  simp only [fn77,slAll,Nat.reduceBEq,Nat.reduceLeDiff,Nat.reduceAdd,List.length_cons,List.length_nil]
  simp only [e2,G,F5,part5,part7,zSp_eq,List.length_map,slAll,slsAll,Nat.reduceMul,Nat.reduceBEq,Nat.reduceLT,Nat.reduceLeDiff,memAll,vAll,reduceCtorEq,Nat.reduceEqDiff,Nat.reduceAdd,Nat.reduceLT,Nat.reduceLeDiff,Nat.beq]
 ·have G:=eq_false k
  have e3:=cal75 (z:=s.sz) (cs:=s.cy++[c]) (s:={ s with cy:=[],ov:=true,dt:=s.sz.map newO }) (fun x hx=>⟨by
   rcases List.mem_append.1 hx with h|h
   ·exact hq.c1 x h
   ·rw [List.mem_singleton.1 h];exact hc,hw x hx⟩) hq.sz (new_z hs) (by simp;omega)
  rw [aSpl_eq,eSpl_eq] at e3
  rw [if_neg k,eSpl_eq,aSpl_eq]
  rw [hcat] at e3
  simp only [List.map_nil] at e3 ⊢
  simp only [fn77,slAll,Nat.reduceBEq,Nat.reduceLeDiff,Nat.reduceAdd,List.length_cons,List.length_nil]
  simp only [e2,G,F5,part5,part7,zSp_eq,List.length_map,slAll,slsAll,Nat.reduceMul,Nat.reduceBEq,Nat.reduceLT,Nat.reduceLeDiff,memAll,vAll,reduceCtorEq,Nat.reduceEqDiff,Nat.reduceAdd,Nat.reduceLT,Nat.reduceLeDiff,Nat.beq]
  rw [loop77 (z:=s.sz) (dt:=s.dt) hq.sz hq.dt hs (by simp only [zSp_eq,bCye_eq,hd0];simp only [slAll,slsAll,Nat.reduceMul,Nat.reduceBEq,Nat.reduceLT,Nat.reduceLeDiff,Nat.reduceAdd,decide_true,Bool.and_self,Bool.true_and]<;>rfl)]
  simp only [e3,hd0,F5,part5,part7,zSp_eq,bCye_eq,List.nil_append,List.length_map,slAll,slsAll,Nat.reduceMul,Nat.reduceBEq,Nat.reduceLT,Nat.reduceLeDiff,memAll,vAll,reduceCtorEq,Nat.reduceEqDiff,Nat.reduceAdd,Nat.reduceLT,Nat.reduceLeDiff,Nat.beq]
end Go.Proofs.YtpcncggjmabnaaaGreatDoor.V

namespace Go.Proofs.YtpcncggjmabnaaaGreatDoor.V
theorem sizes_z {z:List Int} (h:sizesErr z=0):∀ x∈z,1≤x∧x≤4096:=by
 intro x hx
 unfold sizesErr at h
 split at h
 ·omega
 ·split at h
  ·omega
  ·rename_i h2
   simp only [List.any_eq_true,not_exists,not_and,Bool.not_eq_true] at h2
   have:=h2 x hx
   simp at this
   omega
theorem wcE_all {im:Img}:∀ {l:List Wrt} {p:Option Wrt},wcE im p l=0→∀ w∈l,fitsErr im w=0
 |[],_,_=>fun w hw=>by cases hw
 |x :: l,p,h=>by
  rw [wcE_cons] at h
  by_cases c:fitsErr im x=0
  ·rw [if_neg (by simpa using c)] at h
   have h2:wcE im (some x) l=0:=by
    cases p with
    |none=>exact h
    |some y =>
     by_cases cb:badW y x=true
     ·have h:(if badW y x=true then 3 else wcE im (some x) l)=0:=h
      rw [if_pos cb] at h
      omega
     ·have h:(if badW y x=true then 3 else wcE im (some x) l)=0:=h
      rw [if_neg cb] at h
      exact h
   intro w hw
   rcases List.mem_cons.1 hw with e|e
   ·rw [e];exact c
   ·exact wcE_all h2 w e
  ·rw [if_pos c] at h
   exact absurd h c
theorem fitW_of {z:List Int} {ws:List Wrt} (h:∀ w∈ws,fitsErr (newImg z) w=0) (hz:∀ x∈z,1≤x∧x≤4096):fitW z ws:=by
 intro v hv e he
 obtain ⟨w,hw,e1,rfl⟩:=exW_mem he
 obtain ⟨q1,q2,q3,q4⟩:=fits_at (h w hw)
 have hl:((newImg z).getD w.volume.toNat []).length=(z.getD v 0).toNat:=by
  rw [e1]
  have:(newImg z).getD ((v:Int)).toNat []=List.replicate z[v].toNat zSec:=by
   rw [Int.toNat_natCast,List.getD_eq_getElem?_getD]
   unfold newImg
   rw [List.getElem?_map,List.getElem?_eq_getElem hv]
   rfl
  rw [this,List.length_replicate,List.getD_eq_getElem?_getD,List.getElem?_eq_getElem hv]
  rfl
 have:=hz _ (List.getElem_mem hv)
 have e2:z.getD v 0=z[v]:=by rw [List.getD_eq_getElem?_getD,List.getElem?_eq_getElem hv];rfl
 rw [hl] at q4
 rw [e2] at q4 ⊢
 exact bmFit_iff.2 ⟨q3,by show (0:Int)≤(w.data.length:Int);omega,by show w.start≤z[v];omega,by show (w.data.length:Int)≤z[v] - w.start;omega⟩
theorem ckY_wc {z:List Int} {c:Cye} (h:ckY z c=0):sizesErr z=0∧cycE c.base c.num c.time c.pos=0∧wcE (newImg z) none c.ws=0:=by
 unfold ckY ckC at h
 split at h
 ·rename_i h1
  split at h
  ·rename_i h2
   exact ⟨h1,h2,h⟩
  ·rename_i h2;exact absurd h h2
 ·rename_i h1;exact absurd h h1
theorem ckY_fit {z:List Int} {c:Cye} (h:ckY z c=0):fitW z c.ws:=by
 obtain ⟨h1,_,h3⟩:=ckY_wc h
 exact fitW_of (wcE_all h3) (sizes_z h1)
theorem quX_all {z:List Int}:∀ {cy:List Cye} {f l:Int},quX z f cy l=true→∀ c∈cy,ckY z c=0
 |[],_,_,_=>fun c hc=>by cases hc
 |x :: cy,f,l,h=>by
  simp only [quX,Bool.and_eq_true,beq_iff_eq] at h
  intro c hc
  rcases List.mem_cons.1 hc with e|e
  ·rw [e];exact h.1
  ·exact quX_all h.2.2 c e
theorem bmsX_z {dt:List Bm} {z:List Int} (h:bmsX dt z=true):bmZ z dt:=by
 rw [bmsX_D] at h
 simp only [Bool.and_eq_true,decide_eq_true_eq] at h
 refine ⟨h.1,fun v hv=>?_⟩
 have hv2:v<z.length:=by rw [← h.1];exact hv
 have h2:=h.2
 unfold bmsD at h2
 rw [List.drop_zero,List.drop_zero,List.all_eq_true] at h2
 have h3:=h2 (dt[v],z[v]) (by
  have:(dt.zip z)[v]'(by rw [List.length_zip];omega)=(dt[v],z[v]):=List.getElem_zip
  rw [← this];exact List.getElem_mem _)
 unfold okBN at h3
 simp only [Bool.and_eq_true,beq_iff_eq] at h3
 refine ⟨?_,?_⟩
 ·cases hb:okB dt[v] with
  |true=>rfl
  |false=>rw [bmE_no hb] at h3;omega
 ·rw [h3.2,List.getD_eq_getElem?_getD,List.getElem?_eq_getElem hv2];rfl
theorem chk_q {s:Spl} (h:chkQ s=0):sizesErr s.sz=0∧(1≤s.lm∧s.lm≤1024∧0≤s.fs∧s.fs≤s.ls∧s.ls≤1073741824)∧((s.ov=true∧s.cy=[]∧s.fs≠s.ls∧bmsX s.dt s.sz=true)∨(s.ov=false∧s.dt=[]∧(s.cy.length:Int)≤s.lm∧quX s.sz s.fs s.cy s.ls=true)):=by
 unfold chkQ at h
 by_cases h1:sizesErr s.sz=0
 ·rw [if_pos h1] at h
  by_cases h2:s.lm<1∨s.lm > 1024∨s.fs<0∨s.fs > s.ls∨s.ls > 1073741824
  ·rw [if_pos h2] at h;omega
  ·rw [if_neg h2] at h
   refine ⟨h1,by omega,?_⟩
   cases ho:s.ov with
   |true =>
    rw [ho,if_pos rfl] at h
    split at h
    ·rename_i h3
     simp only [Bool.and_eq_true,decide_eq_true_eq] at h3
     exact .inl ⟨rfl,h3.1,h3.2.1,h3.2.2⟩
    ·omega
   |false =>
    rw [ho,if_neg Bool.false_ne_true] at h
    split at h
    ·rename_i h3
     simp only [Bool.and_eq_true,decide_eq_true_eq] at h3
     exact .inr ⟨rfl,h3.1,h3.2.1,h3.2.2⟩
    ·omega
 ·rw [if_neg h1] at h;exact absurd h h1
def pushE (s:Spl) (c:Cye):Int:=if chkQ s=0 then (if ckY s.sz c=0 then (if c.base=s.ls then 0 else 15) else ckY s.sz c) else chkQ s
def pushS (s:Spl) (c:Cye):Spl:=if pushE s c=0 then (if s.ov then { s with dt:=mkL c.ws s.dt,ls:=c.num } else { addC s c with ls:=c.num }) else zSpl
theorem cal43:cal env 43 []=some [(.agg [.func 77 [.iptr [.func 75 []] 0],.func 79 [.iptr [.func 75 []] 0]],false)]:=by
 rw [cal_code env43 rfl];simp only [fn43,slAll,Nat.reduceBEq,Nat.reduceLeDiff,Nat.reduceAdd,List.length_cons,List.length_nil]
 simp only [part2,slAll,slsAll,Nat.reduceMul,Nat.reduceBEq,Nat.reduceLT,Nat.reduceLeDiff,memAll,vAll,reduceCtorEq,Nat.reduceEqDiff,Nat.reduceAdd,Nat.reduceLT,Nat.reduceLeDiff,Nat.beq]
end Go.Proofs.YtpcncggjmabnaaaGreatDoor.V

namespace Go.Proofs.YtpcncggjmabnaaaGreatDoor.V
set_option maxRecDepth 20000 in
theorem cal16 {s:Spl} {c:Cye} (hq:smQ s) (hc:okCy c):cal env 16 [eSpl s,eCye c]=some [(eSpl (pushS s c),false),(.int .i64 (pushE s c),false)]:=by
 have e1:=cal20 hq
 have e2:=cal42q (z:=s.sz) (b:=c.base) (n:=c.num) (t:=c.time) (p:=c.pos) (w:=c.ws) (by have:=hq.sz;unfold lim;omega) (Nat.le_trans hc.2.1 (by decide)) (fun x hx=>Nat.le_trans (hc.2.2 x hx) (by decide)) hc.1
 rw [show ckC s.sz c.base c.num c.time c.pos c.ws=ckY s.sz c from rfl] at e2
 unfold eCyc at e2
 have e3:=cal43
 have e4:=cal44 (s:=s)
 have e5:=cal45 hq
 have Z0:((0:Int) != 0)=false:=rfl
 have I0:index (.int .i64 0) 2=some 0:=rfl
 have I1:index (.int .i64 1) 2=some 1:=rfl
 have HS:(eSpl (pushS s c))=(if pushE s c=0 then (if s.ov then eSpl { s with dt:=mkL c.ws s.dt,ls:=c.num } else eSpl { addC s c with ls:=c.num }) else eSpl zSpl):=by
  unfold pushS
  split
  ·split<;>rfl
  ·rfl
 rw [HS]
 unfold pushE
 rw [eSpl_eq] at e1 e4 e5
 rw [eSpl_eq s,eCye_eq]
 by_cases c1:chkQ s=0
 rotate_left
 ·have Z:(chkQ s != 0)=true:=by simp [c1]
  rw [if_neg c1,if_neg c1,eSpl_z]
  rw [cal_code env16 rfl];simp only [fn16,slAll,Nat.reduceBEq,Nat.reduceLeDiff,Nat.reduceAdd,List.length_cons,List.length_nil]
  simp only [e1,Z,part7,part5,List.length_map,slAll,slsAll,Nat.reduceMul,Nat.reduceBEq,Nat.reduceLT,Nat.reduceLeDiff,memAll,vAll,reduceCtorEq,Nat.reduceEqDiff,Nat.reduceAdd,Nat.reduceLT,Nat.reduceLeDiff,Nat.beq]
 rw [c1] at e1
 rw [if_pos c1]
 by_cases c2:ckY s.sz c=0
 rotate_left
 ·have Z:(ckY s.sz c != 0)=true:=by simp [c2]
  rw [if_neg c2,if_neg c2,eSpl_z]
  rw [cal_code env16 rfl];simp only [fn16,slAll,Nat.reduceBEq,Nat.reduceLeDiff,Nat.reduceAdd,List.length_cons,List.length_nil]
  simp only [e1,e2,Z,Z0,part7,part5,List.length_map,slAll,slsAll,Nat.reduceMul,Nat.reduceBEq,Nat.reduceLT,Nat.reduceLeDiff,memAll,vAll,reduceCtorEq,Nat.reduceEqDiff,Nat.reduceAdd,Nat.reduceLT,Nat.reduceLeDiff,Nat.beq]
 rw [c2] at e2
 rw [if_pos c2]
 by_cases c3:c.base=s.ls
 rotate_left
 ·have Z:(c.base != s.ls)=true:=by simp [c3]
  rw [if_neg c3,if_neg (by decide),eSpl_z]
  rw [cal_code env16 rfl];simp only [fn16,slAll,Nat.reduceBEq,Nat.reduceLeDiff,Nat.reduceAdd,List.length_cons,List.length_nil]
  simp only [e1,e2,Z,Z0,part7,part5,List.length_map,slAll,slsAll,Nat.reduceMul,Nat.reduceBEq,Nat.reduceLT,Nat.reduceLeDiff,memAll,vAll,reduceCtorEq,Nat.reduceEqDiff,Nat.reduceAdd,Nat.reduceLT,Nat.reduceLeDiff,Nat.beq]
 have Z3:(c.base != s.ls)=false:=by simp [c3]
 rw [if_pos c3,if_pos rfl]
 obtain ⟨k1,k2,k3⟩:=chk_q c1
 have hw:=ckY_fit c2
 cases co:s.ov with
 |true =>
  rcases k3 with ⟨_,g1,g2,g3⟩|⟨g,_⟩
  rotate_left
  ·rw [co] at g;cases g
  have e6:=cal79 (s:=s) hc hw hq.sz (bmsX_z g3)
  rw [aSpl_eq,eSpl_eq,eCye_eq,co] at e6
  rw [co] at e1 e4 e5
  rw [if_pos rfl,eSpl_eq]
  rw [if_pos rfl] at e4
  rw [cal_code env16 rfl];simp only [fn16,slAll,Nat.reduceBEq,Nat.reduceLeDiff,Nat.reduceAdd,List.length_cons,List.length_nil]
  simp only [co,e1,e2,e3,e4,e5,e6,I1,Z0,Z3,part7,part5,List.length_map,slAll,slsAll,Nat.reduceMul,Nat.reduceBEq,Nat.reduceLT,Nat.reduceLeDiff,memAll,vAll,reduceCtorEq,Nat.reduceEqDiff,Nat.reduceAdd,Nat.reduceLT,Nat.reduceLeDiff,Nat.beq]
 |false =>
  rcases k3 with ⟨g,_⟩|⟨_,g1,g2,g3⟩
  ·rw [co] at g;cases g
  have e6:=cal77 (s:=s) (c:=c) hq hc (sizes_z k1) g1 (fun x hx=>by
   rcases List.mem_append.1 hx with h|h
   ·exact ckY_fit (quX_all g3 x h)
   ·rw [List.mem_singleton.1 h];exact hw)
  generalize addC s c=q at e6 ⊢
  rw [aSpl_eq,eSpl_eq,eCye_eq,co] at e6
  rw [co] at e1 e4 e5
  rw [if_neg Bool.false_ne_true,eSpl_eq]
  rw [if_neg Bool.false_ne_true] at e4
  rw [cal_code env16 rfl];simp only [fn16,slAll,Nat.reduceBEq,Nat.reduceLeDiff,Nat.reduceAdd,List.length_cons,List.length_nil]
  simp only [co,e1,e2,e3,e4,e5,e6,I0,Z0,Z3,part7,part5,List.length_map,slAll,slsAll,Nat.reduceMul,Nat.reduceBEq,Nat.reduceLT,Nat.reduceLeDiff,memAll,vAll,reduceCtorEq,Nat.reduceEqDiff,Nat.reduceAdd,Nat.reduceLT,Nat.reduceLeDiff,Nat.beq]
end Go.Proofs.YtpcncggjmabnaaaGreatDoor.V

namespace Go.Proofs.YtpcncggjmabnaaaGreatDoor.V
end Go.Proofs.YtpcncggjmabnaaaGreatDoor.V

namespace Go.Proofs.YtpcncggjmabnaaaGreatDoor.V
end Go.Proofs.YtpcncggjmabnaaaGreatDoor.V

namespace Go.Proofs.YtpcncggjmabnaaaGreatDoor.V
end Go.Proofs.YtpcncggjmabnaaaGreatDoor.V

namespace Go.Proofs.YtpcncggjmabnaaaGreatDoor.V
end Go.Proofs.YtpcncggjmabnaaaGreatDoor.V

namespace Go.Proofs.YtpcncggjmabnaaaGreatDoor.V
end Go.Proofs.YtpcncggjmabnaaaGreatDoor.V

namespace Go.Proofs.YtpcncggjmabnaaaGreatDoor.V
end Go.Proofs.YtpcncggjmabnaaaGreatDoor.V

namespace Go.Proofs.YtpcncggjmabnaaaGreatDoor.V
end Go.Proofs.YtpcncggjmabnaaaGreatDoor.V

namespace Go.Proofs.YtpcncggjmabnaaaGreatDoor.V
def secsW (l:List Wrt):Int:=(l.map fun w=>(w.data.length:Int)).sum
theorem secsW_snoc (l:List Wrt) (x:Wrt):secsW (l++[x])=secsW l+x.data.length:=by simp [secsW]
theorem secsW_take {l:List Wrt} {i:Nat} (h:i<l.length):secsW (l.take (i+1))=secsW (l.take i)+(l[i].data.length:Int):=by
 rw [List.take_succ_eq_append_getElem h,secsW_snoc]
theorem secsW_lim {k:Nat}:∀ {l:List Wrt},(∀ w∈l,w.data.length≤k)→0≤secsW l∧secsW l≤(k * l.length:Nat)
 |[],_=>by simp [secsW]
 |x :: l,h=>by
  have:=secsW_lim (l:=l) fun w hw=>h w (by simp [hw])
  have hx:=h x (by simp)
  have e:secsW (x :: l)=(x.data.length:Int)+secsW l:=by simp [secsW]
  rw [e,List.length_cons,Nat.mul_add,Nat.mul_one];omega
theorem loop35 {l:List Wrt} (hd:∀ w∈l,w.data.length≤10000) (hl:l.length≤1000000) {st:St} (h:st.head [0,3,4] st.boxes.length=some ⟨[.pv (.list 3 (l.map eWr)),.any,.any,.pv (.int .i64 (secsW (l.take (0:Nat)))),.pv (.int .i64 (0:Nat)),.any,.any,.any,.any,.any,.any,.any,.any,.any,.any,.any,.any,.any,.any,.any],[],[],none⟩) :
  den env fn35_l1 st=some (.normal,⟨[.any,.any,.any,.pv (.int .i64 (secsW l)),.any,.any,.any,.any,.any,.any,.any,.any,.any,.any,.any,.any,.any,.any,.any,.any],[],[],none⟩):=by
 unfold fn35_l1
 refine clean_up (env:=env) (l.length) (fun i=>⟨[.pv (.list 3 (l.map eWr)),.any,.any,.pv (.int .i64 (secsW (l.take i))),.pv (.int .i64 i),.any,.any,.any,.any,.any,.any,.any,.any,.any,.any,.any,.any,.any,.any,.any],[],[],none⟩) (fun i=>some (.normal,⟨[.any,.any,.any,.pv (.int .i64 (secsW l)),.any,.any,.any,.any,.any,.any,.any,.any,.any,.any,.any,.any,.any,.any,.any,.any],[],[],none⟩)) h (fun _=>rfl) (fun _=>rfl) ?_ ?_
 ·intro i rb hi ih
  have hi1:=i64_next hi (Nat.le_trans hl (by decide))
  have F1:((i:Int)<(l.length:Int))=True:=eq_true (by omega)
  have h1:=secsW_lim (l:=l.take i) fun w hw=>hd w (List.mem_of_mem_take hw)
  have h2:=hd _ (List.getElem_mem hi)
  have h3:(l.take i).length≤1000000:=by rw [List.length_take];omega
  have W:IntKind.i64.wrap (secsW (l.take i)+(l[i].data.length:Int))=secsW (l.take (i+1)):=by rw [secsW_take hi];exact i64_fits (by omega)
  simp only [fn35_b0,F1,W,eWr,index_nat hi,List.getElem?_map,List.getElem?_eq_getElem hi,memAll,vAll,reduceCtorEq,Nat.reduceEqDiff,Nat.reduceAdd,Nat.reduceLT,Nat.reduceLeDiff,Nat.beq]
  rw [ih _ (by simp only [hi1];rfl)]
 ·intro rb
  simp only [fn35_b0,Int.lt_irrefl, memAll,vAll,reduceCtorEq,Nat.reduceEqDiff,Nat.reduceAdd,Nat.reduceLT,Nat.reduceLeDiff,Nat.beq]
  rfl
end Go.Proofs.YtpcncggjmabnaaaGreatDoor.V

namespace Go.Proofs.YtpcncggjmabnaaaGreatDoor
open V
def szW (l:List Wrt):Prop:=∀ x∈l,x.data.length≤140737488351232
theorem secsW_pos:∀ l:List Wrt,0≤secsW l
 |[]=>by simp [secsW]
 |x :: l=>by
  have:=secsW_pos l
  have e:secsW (x :: l)=(x.data.length:Int)+secsW l:=by simp [secsW]
  omega
end Go.Proofs.YtpcncggjmabnaaaGreatDoor

namespace Go.Proofs.YtpcncggjmabnaaaGreatDoor.V
namespace Z24
theorem loop35 {l:List Wrt} (hd:szW l) (hl:l.length≤1000) {st:St} (h:st.head [0,3,4] st.boxes.length=some ⟨sl 20 [(0,.pv (.list 3 (l.map eWr))),(3,.pv (.int .i64 (secsW (l.take ((0:Nat)))))),(4,.pv (.int .i64 (0:Nat)))],[],[],none⟩) :
  den env fn35_l1 st=some (.normal,⟨sl 20 [(2,.any),(3,.pv (.int .i64 (secsW l)))],[],[],none⟩):=by
 unfold fn35_l1
 refine clean_up (env:=env) (nb:=0) (l.length) (fun i=>⟨sl 20 [(0,.pv (.list 3 (l.map eWr))),(3,.pv (.int .i64 (secsW (l.take (i))))),(4,.pv (.int .i64 i))],[],[],none⟩) (fun i=>some (.normal,⟨sl 20 [(2,.any),(3,.pv (.int .i64 (secsW l)))],[],[],none⟩)) h (fun _=>rfl) (fun _=>by simp only [slAll,slsAll,Nat.reduceMul,Nat.reduceBEq,Nat.reduceLT,Nat.reduceLeDiff,Nat.reduceAdd,decide_true,Bool.and_self,Bool.true_and]) ?_ ?_
 ·intro i rb hi ih
  have hi1:=i64_next hi (Nat.le_trans hl (by decide))
  have F1:((i:Int)<(l.length:Int))=True:=eq_true (by omega)
  have hx:=eWr_at hi
  have h1:=secsW_lim (l:=l.take i) fun w hw=>hd w (List.mem_of_mem_take hw)
  have h2:=hd _ (List.getElem_mem hi)
  have h3:(l.take i).length≤1000:=by rw [List.length_take];omega
  have W:IntKind.i64.wrap (secsW (l.take i)+(l[i].data.length:Int))=secsW (l.take (i+1)):=by rw [secsW_take hi];exact i64_fits (by omega)
  simp only [fn35_b0,F1,hx,W,part3,index_nat hi,List.length_map,slAll,slsAll,Nat.reduceMul,Nat.reduceBEq,Nat.reduceLT,Nat.reduceLeDiff,memAll,vAll,reduceCtorEq,Nat.reduceEqDiff,Nat.reduceAdd,Nat.reduceLT,Nat.reduceLeDiff,Nat.beq]
  rw [ih _ (by simp only [hi1,slAll,slsAll,Nat.reduceMul,Nat.reduceBEq,Nat.reduceLT,Nat.reduceLeDiff,memAll,vAll,reduceCtorEq,Nat.reduceEqDiff,Nat.reduceAdd,Nat.reduceLT,Nat.reduceLeDiff,Nat.beq]<;>rfl)]
 ·intro rb
  rw [List.take_length]
  simp only [fn35_b0,Int.lt_irrefl,List.length_map,slAll,slsAll,Nat.reduceMul,Nat.reduceBEq,Nat.reduceLT,Nat.reduceLeDiff,memAll,vAll,reduceCtorEq,Nat.reduceEqDiff,Nat.reduceAdd,Nat.reduceLT,Nat.reduceLeDiff,Nat.beq]
theorem cal35z {l:List Wrt} (hd:szW l) (hl:l.length≤1000):cal env 35 [.list 3 (l.map eWr)]=some [(.int .i64 (secsW l),false)]:=by
 rw [cal_code env35 rfl];simp only [fn35,slAll,Nat.reduceBEq,Nat.reduceLeDiff,Nat.reduceAdd,List.length_cons,List.length_nil]
 simp only [ slAll,slsAll,Nat.reduceMul,Nat.reduceBEq,Nat.reduceLT,Nat.reduceLeDiff,memAll,vAll,reduceCtorEq,Nat.reduceEqDiff,Nat.reduceAdd,Nat.reduceLT,Nat.reduceLeDiff,Nat.beq]
 rw [loop35 hd hl (by simp only [List.take_zero];simp only [slAll,slsAll,Nat.reduceMul,Nat.reduceBEq,Nat.reduceLT,Nat.reduceLeDiff,Nat.reduceAdd,decide_true,Bool.and_self,Bool.true_and]<;>rfl)]
 simp only [ slAll,slsAll,Nat.reduceMul,Nat.reduceBEq,Nat.reduceLT,Nat.reduceLeDiff,memAll,vAll,reduceCtorEq,Nat.reduceEqDiff,Nat.reduceAdd,Nat.reduceLT,Nat.reduceLeDiff,Nat.beq]
end Z24
open Z24
def fewW (l:List Wrt):Bool:=decide (l.length≤40)&&decide (secsW l≤400)
theorem cal15 {l:List Wrt} (hd:szW l):cal env 15 [.list 3 (l.map eWr)]=some [(.bool (fewW l),false)]:=by
 unfold fewW
 by_cases h:l.length≤40
 ·have e1:=cal35z hd (by omega)
  have F1:((l.length:Int)≤40)=True:=eq_true (by omega)
  rw [decide_eq_true h,Bool.true_and]
  by_cases k:secsW l≤400
  ·have F2:=eq_true k
   rw [decide_eq_true k]
   rw [cal_code env15 rfl];simp only [fn15,slAll,Nat.reduceBEq,Nat.reduceLeDiff,Nat.reduceAdd,List.length_cons,List.length_nil]
   simp only [e1,F1,F2,List.length_map,slAll,slsAll,Nat.reduceMul,Nat.reduceBEq,Nat.reduceLT,Nat.reduceLeDiff,memAll,vAll,reduceCtorEq,Nat.reduceEqDiff,Nat.reduceAdd,Nat.reduceLT,Nat.reduceLeDiff,Nat.beq]
  ·have F2:=eq_false k
   rw [decide_eq_false k]
   rw [cal_code env15 rfl];simp only [fn15,slAll,Nat.reduceBEq,Nat.reduceLeDiff,Nat.reduceAdd,List.length_cons,List.length_nil]
   simp only [e1,F1,F2,List.length_map,slAll,slsAll,Nat.reduceMul,Nat.reduceBEq,Nat.reduceLT,Nat.reduceLeDiff,memAll,vAll,reduceCtorEq,Nat.reduceEqDiff,Nat.reduceAdd,Nat.reduceLT,Nat.reduceLeDiff,Nat.beq]
 ·have F1:((l.length:Int)≤40)=False:=eq_false (by omega)
  rw [decide_eq_false h,Bool.false_and]
  rw [cal_code env15 rfl];simp only [fn15,slAll,Nat.reduceBEq,Nat.reduceLeDiff,Nat.reduceAdd,List.length_cons,List.length_nil]
  simp only [F1,List.length_map,slAll,slsAll,Nat.reduceMul,Nat.reduceBEq,Nat.reduceLT,Nat.reduceLeDiff,memAll,vAll,reduceCtorEq,Nat.reduceEqDiff,Nat.reduceAdd,Nat.reduceLT,Nat.reduceLeDiff,Nat.beq]
theorem few_ok {l:List Wrt} (h:fewW l=true):l.length≤40∧secsW l≤400∧∀ x∈l,x.data.length≤400:=by
 unfold fewW at h
 simp only [Bool.and_eq_true,decide_eq_true_eq] at h
 refine ⟨h.1,h.2,?_⟩
 have:∀ {m:List Wrt},∀ x∈m,(x.data.length:Int)≤secsW m:=by
  intro m
  induction m with
  |nil=>intro x hx;cases hx
  |cons y m ih =>
   intro x hx
   have hp:=(secsW_pos m)
   have e:secsW (y :: m)=(y.data.length:Int)+secsW m:=by simp [secsW]
   rw [e]
   rcases List.mem_cons.1 hx with h|h
   ·rw [h];omega
   ·have:=ih x h;omega
 intro x hx
 have:=this x hx
 omega
theorem allD_step {α:Type} {p:α→Bool} {l:List α} {i:Nat} (h:i<l.length):(l.drop i).all p=(p l[i]&&(l.drop (i+1)).all p):=by rw [List.drop_eq_getElem_cons h];rfl
theorem allD_end {α:Type} {p:α→Bool} (l:List α):(l.drop l.length).all p=true:=by rw [List.drop_length];rfl
end Go.Proofs.YtpcncggjmabnaaaGreatDoor.V

namespace Go.Proofs.YtpcncggjmabnaaaGreatDoor.V
end Go.Proofs.YtpcncggjmabnaaaGreatDoor.V

namespace Go.Proofs.YtpcncggjmabnaaaGreatDoor.V
end Go.Proofs.YtpcncggjmabnaaaGreatDoor.V

namespace Go.Proofs.YtpcncggjmabnaaaGreatDoor.V
end Go.Proofs.YtpcncggjmabnaaaGreatDoor.V

namespace Go.Proofs.YtpcncggjmabnaaaGreatDoor.V
end Go.Proofs.YtpcncggjmabnaaaGreatDoor.V

namespace Go.Proofs.YtpcncggjmabnaaaGreatDoor.V
end Go.Proofs.YtpcncggjmabnaaaGreatDoor.V

namespace Go.Proofs.YtpcncggjmabnaaaGreatDoor.V
structure conF (im:Img) (l:List (List Exn)):Prop where
 ln:l.length≤im.length
 ml:im.length≤1000
 vo:∀ v∈im,v.length≤4096
 xl:∀ x∈l,x.length≤4096
 fx:∀ v (h:v<l.length),∀ e∈l[v],0≤e.start∧1≤e.count∧e.start+e.count≤((im.getD v []).length:Int)
theorem eImg_at24 {im:Img} {v:Nat} (h:v<im.length):(im.map eSecs)[v]?=some (.list 8 (im[v].map eSec)):=by rw [List.getElem?_map,List.getElem?_eq_getElem h];rfl
end Go.Proofs.YtpcncggjmabnaaaGreatDoor.V

namespace Go.Proofs.YtpcncggjmabnaaaGreatDoor.V
end Go.Proofs.YtpcncggjmabnaaaGreatDoor.V

namespace Go.Proofs.YtpcncggjmabnaaaGreatDoor.V
structure smI (im:Img):Prop where
 ln:im.length≤10
 vo:∀ v∈im,v.length≤400
end Go.Proofs.YtpcncggjmabnaaaGreatDoor.V

namespace Go.Proofs.YtpcncggjmabnaaaGreatDoor.V
theorem sec8 (s:Sec):∃ a b c d e f g h:Int,eSec s=.agg [.int .u8 a,.int .u8 b,.int .u8 c,.int .u8 d,.int .u8 e,.int .u8 f,.int .u8 g,.int .u8 h]:=by
 have hl:=secPV_length s
 unfold eSec
 have hm:∀ x∈secPV s,∃ n:Int,x=.int .u8 n:=fun x hx=>by
  unfold secPV at hx
  obtain ⟨b,_,rfl⟩:=List.mem_map.1 hx
  exact ⟨_,rfl⟩
 match hq:secPV s,hl,hm with
 |[x0,x1,x2,x3,x4,x5,x6,x7],_,hm =>
  obtain ⟨a,rfl⟩:=hm x0 (by simp)
  obtain ⟨b,rfl⟩:=hm x1 (by simp)
  obtain ⟨c,rfl⟩:=hm x2 (by simp)
  obtain ⟨d,rfl⟩:=hm x3 (by simp)
  obtain ⟨e,rfl⟩:=hm x4 (by simp)
  obtain ⟨f,rfl⟩:=hm x5 (by simp)
  obtain ⟨g,rfl⟩:=hm x6 (by simp)
  obtain ⟨h,rfl⟩:=hm x7 (by simp)
  exact ⟨a,b,c,d,e,f,g,h,rfl⟩
theorem eSec_z:eSec zSec=.agg [.int .u8 0,.int .u8 0,.int .u8 0,.int .u8 0,.int .u8 0,.int .u8 0,.int .u8 0,.int .u8 0]:=rfl
theorem part8 (a b c d e f g h:PV):part [a,b,c,d,e,f,g,h] 0 (some 8)=some (.agg [a,b,c,d,e,f,g,h]):=rfl
def mod1 (w:Wrt):Prop:=(0≤w.start∧w.start≤100000)∧w.data.length≤100000
def hldP (w:Wrt) (v s:Int):Bool:=decide (w.volume=v)&&(decide (w.data.length≠0)&&decide (w.start≤s))
def hldN (w:Wrt) (v s:Int):Int:=if hldP w v s then s - w.start else 0
def hldB (w:Wrt) (v s:Int):Bool:=hldP w v s&&decide (s - w.start<(w.data.length:Int))
theorem cal67 {w:Wrt} {v s:Int} (hw:mod1 w) (hs:0≤s∧s≤100000):cal env 67 [eWr w,.int .i64 v,.int .i64 s]=some [(.int .i64 (hldN w v s),false),(.bool (hldB w v s),false)]:=by
 obtain ⟨⟨h1,h2⟩,h3⟩:=hw
 have W:IntKind.i64.wrap (s - w.start)=s - w.start:=i64_fits (by omega)
 have F5:(w.start<0)=False:=eq_false (by omega)
 unfold hldN hldB hldP eWr
 by_cases c1:w.volume=v
 rotate_left
 ·have G1:(w.volume != v)=true:=by simp [c1]
  rw [decide_eq_false c1,Bool.false_and,Bool.false_and,if_neg Bool.false_ne_true]
  rw [cal_code env67 rfl];simp only [fn67,slAll,Nat.reduceBEq,Nat.reduceLeDiff,Nat.reduceAdd,List.length_cons,List.length_nil]
  simp only [G1,part3,List.length_map,slAll,slsAll,Nat.reduceMul,Nat.reduceBEq,Nat.reduceLT,Nat.reduceLeDiff,memAll,vAll,reduceCtorEq,Nat.reduceEqDiff,Nat.reduceAdd,Nat.reduceLT,Nat.reduceLeDiff,Nat.beq]
 have G1:(w.volume != v)=false:=by simp [c1]
 rw [decide_eq_true c1,Bool.true_and]
 by_cases c2:w.data.length≠0
 rotate_left
 ·have G2:((w.data.length:Int)==0)=true:=beq_iff_eq.2 (by omega)
  rw [decide_eq_false c2,Bool.false_and,Bool.false_and,if_neg Bool.false_ne_true]
  rw [cal_code env67 rfl];simp only [fn67,slAll,Nat.reduceBEq,Nat.reduceLeDiff,Nat.reduceAdd,List.length_cons,List.length_nil]
  simp only [G1,G2,part3,List.length_map,slAll,slsAll,Nat.reduceMul,Nat.reduceBEq,Nat.reduceLT,Nat.reduceLeDiff,memAll,vAll,reduceCtorEq,Nat.reduceEqDiff,Nat.reduceAdd,Nat.reduceLT,Nat.reduceLeDiff,Nat.beq]
 have G2:((w.data.length:Int)==0)=false:=beq_eq_false_iff_ne.2 (by omega)
 rw [decide_eq_true c2,Bool.true_and]
 by_cases c3:w.start≤s
 rotate_left
 ·have G3:(w.start > s)=True:=eq_true (by omega)
  rw [decide_eq_false c3,Bool.false_and,if_neg Bool.false_ne_true]
  rw [cal_code env67 rfl];simp only [fn67,slAll,Nat.reduceBEq,Nat.reduceLeDiff,Nat.reduceAdd,List.length_cons,List.length_nil]
  simp only [G1,G2,G3,part3,List.length_map,slAll,slsAll,Nat.reduceMul,Nat.reduceBEq,Nat.reduceLT,Nat.reduceLeDiff,memAll,vAll,reduceCtorEq,Nat.reduceEqDiff,Nat.reduceAdd,Nat.reduceLT,Nat.reduceLeDiff,Nat.beq]
 have G3:(w.start > s)=False:=eq_false (by omega)
 rw [decide_eq_true c3,Bool.true_and,if_pos rfl]
 by_cases c4:s - w.start<(w.data.length:Int)
 ·have G4:=eq_true c4
  rw [decide_eq_true c4]
  rw [cal_code env67 rfl];simp only [fn67,slAll,Nat.reduceBEq,Nat.reduceLeDiff,Nat.reduceAdd,List.length_cons,List.length_nil]
  simp only [G1,G2,G3,G4,W,F5,part3,List.length_map,slAll,slsAll,Nat.reduceMul,Nat.reduceBEq,Nat.reduceLT,Nat.reduceLeDiff,memAll,vAll,reduceCtorEq,Nat.reduceEqDiff,Nat.reduceAdd,Nat.reduceLT,Nat.reduceLeDiff,Nat.beq]
 ·have G4:=eq_false c4
  rw [decide_eq_false c4]
  rw [cal_code env67 rfl];simp only [fn67,slAll,Nat.reduceBEq,Nat.reduceLeDiff,Nat.reduceAdd,List.length_cons,List.length_nil]
  simp only [G1,G2,G3,G4,W,F5,part3,List.length_map,slAll,slsAll,Nat.reduceMul,Nat.reduceBEq,Nat.reduceLT,Nat.reduceLeDiff,memAll,vAll,reduceCtorEq,Nat.reduceEqDiff,Nat.reduceAdd,Nat.reduceLT,Nat.reduceLeDiff,Nat.beq]
theorem hld_lt {w:Wrt} {v s:Int} (h:hldB w v s=true):(hldN w v s).toNat<w.data.length∧0≤hldN w v s:=by
 unfold hldB at h
 simp only [Bool.and_eq_true,decide_eq_true_eq] at h
 unfold hldN
 rw [if_pos h.1]
 have:=h.1
 unfold hldP at this
 simp only [Bool.and_eq_true,decide_eq_true_eq] at this
 omega
def lokF (v s:Int):List Wrt→Option Sec
 |[]=>none
 |w :: l=>if hldB w v s then w.data[(hldN w v s).toNat]? else lokF v s l
def lokX (l:List Wrt) (v s:Int):Option Sec:=lokF v s l.reverse
def resL (o:Option Sec):Option (Ex × St):=match o with
 |none=>some (.normal,⟨sl 38 [(6,.pbox 0 0),(7,.any)],[⟨false,[.pv (.int .u8 0),.pv (.int .u8 0),.pv (.int .u8 0),.pv (.int .u8 0),.pv (.int .u8 0),.pv (.int .u8 0),.pv (.int .u8 0),.pv (.int .u8 0)]⟩],[],none⟩)
 |some x=>some (.ret,⟨sl 38 [(6,.pbox 0 0),(7,.pv (.bool true))],[⟨false,(eSec x).cells.map .pv⟩],[],none⟩)
theorem resL_n:resL none=some (.normal,⟨sl 38 [(6,.pbox 0 0),(7,.any)],[⟨false,[.pv (.int .u8 0),.pv (.int .u8 0),.pv (.int .u8 0),.pv (.int .u8 0),.pv (.int .u8 0),.pv (.int .u8 0),.pv (.int .u8 0),.pv (.int .u8 0)]⟩],[],none⟩):=rfl
theorem resL_s (x:Sec):resL (some x)=some (.ret,⟨sl 38 [(6,.pbox 0 0),(7,.pv (.bool true))],[⟨false,(eSec x).cells.map .pv⟩],[],none⟩):=rfl
theorem lokF_drop {l:List Wrt} {v s:Int} {i:Nat} (h:i<l.length):lokF v s (l.reverse.drop i)=if hldB (l[l.length - 1 - i]'(by omega)) v s then (l[l.length - 1 - i]'(by omega)).data[(hldN (l[l.length - 1 - i]'(by omega)) v s).toNat]? else lokF v s (l.reverse.drop (i+1)):=by
 rw [List.drop_eq_getElem_cons (by rw [List.length_reverse];exact h),lokF,List.getElem_reverse]
theorem loop34 {l:List Wrt} {v s:Int} (hm:∀ w∈l,mod1 w) (hl:l.length≤100000) (hs:0≤s∧s≤100000) {st:St} (h:st.head [0,1,2,6,8] st.boxes.length=some ⟨sl 38 [(0,.pv (.list 3 (l.map eWr))),(1,.pv (.int .i64 v)),(2,.pv (.int .i64 s)),(6,.pbox 0 0),(8,.pv (.int .i64 ((l.length:Int) - 1 - ((0:Nat):Nat))))],[⟨false,[.pv (.int .u8 0),.pv (.int .u8 0),.pv (.int .u8 0),.pv (.int .u8 0),.pv (.int .u8 0),.pv (.int .u8 0),.pv (.int .u8 0),.pv (.int .u8 0)]⟩],[],none⟩) :
  den env fn34_l1 st=resL (lokF v s (l.reverse.drop ((0:Nat)))):=by
 unfold fn34_l1
 refine clean_up (env:=env) (nb:=1) (l.length) (fun i=>⟨sl 38 [(0,.pv (.list 3 (l.map eWr))),(1,.pv (.int .i64 v)),(2,.pv (.int .i64 s)),(6,.pbox 0 0),(8,.pv (.int .i64 ((l.length:Int) - 1 - (i:Nat))))],[⟨false,[.pv (.int .u8 0),.pv (.int .u8 0),.pv (.int .u8 0),.pv (.int .u8 0),.pv (.int .u8 0),.pv (.int .u8 0),.pv (.int .u8 0),.pv (.int .u8 0)]⟩],[],none⟩) (fun i=>resL (lokF v s (l.reverse.drop (i)))) h (fun _=>rfl) (fun _=>by simp only [slAll,slsAll,Nat.reduceMul,Nat.reduceBEq,Nat.reduceLT,Nat.reduceLeDiff,Nat.reduceAdd,decide_true,Bool.and_self,Bool.true_and]) ?_ ?_
 ·intro i rb hi ih
  have hj:l.length - 1 - i<l.length:=by omega
  have hji:((l.length:Int) - 1 - (i:Nat))=((l.length - 1 - i:Nat):Int):=by omega
  have F1:(((l.length - 1 - i:Nat):Int) ≥ 0)=True:=eq_true (by omega)
  have W:IntKind.i64.wrap (((l.length - 1 - i:Nat):Int) - 1)=(l.length:Int) - 1 - ((i+1:Nat):Int):=by rw [i64_fits (by omega)];omega
  have e1:=cal67 (v:=v) (hm _ (List.getElem_mem hj)) hs
  have hx:=eWr_at hj
  rw [lokF_drop hi]
  rw [hji]
  unfold eWr at e1
  cases c:hldB l[l.length - 1 - i] v s with
  |true =>
   obtain ⟨k1,k2⟩:=hld_lt c
   have e2:hldN l[l.length - 1 - i] v s=(((hldN l[l.length - 1 - i] v s).toNat:Nat):Int):=by omega
   rw [c] at e1
   rw [if_pos rfl,List.getElem?_eq_getElem k1,resL_s]
   generalize (hldN l[l.length - 1 - i] v s).toNat=k at *
   rw [e2] at e1
   have hy:(l[l.length - 1 - i].data.map eSec)[k]?=some (eSec l[l.length - 1 - i].data[k]):=by rw [List.getElem?_map,List.getElem?_eq_getElem k1];rfl
   obtain ⟨a,b,c',d,e,f,g,h',h8⟩:=sec8 l[l.length - 1 - i].data[k]
   rw [h8] at hy ⊢
   simp only [fn34_b0,F1,e1,hx,hy,part3,part8,index_nat hj,index_nat k1,List.length_map,slAll,slsAll,Nat.reduceMul,Nat.reduceBEq,Nat.reduceLT,Nat.reduceLeDiff,memAll,vAll,reduceCtorEq,Nat.reduceEqDiff,Nat.reduceAdd,Nat.reduceLT,Nat.reduceLeDiff,Nat.beq]
  |false =>
   rw [c] at e1
   rw [if_neg Bool.false_ne_true]
   simp only [fn34_b0,F1,e1,hx,part3,index_nat hj,List.length_map,slAll,slsAll,Nat.reduceMul,Nat.reduceBEq,Nat.reduceLT,Nat.reduceLeDiff,memAll,vAll,reduceCtorEq,Nat.reduceEqDiff,Nat.reduceAdd,Nat.reduceLT,Nat.reduceLeDiff,Nat.beq]
   rw [ih _ (by simp only [W,slAll,slsAll,Nat.reduceMul,Nat.reduceBEq,Nat.reduceLT,Nat.reduceLeDiff,memAll,vAll,reduceCtorEq,Nat.reduceEqDiff,Nat.reduceAdd,Nat.reduceLT,Nat.reduceLeDiff,Nat.beq]<;>rfl)]
 ·intro rb
  have F1:(((l.length:Int) - 1 - (l.length:Int)) ≥ 0)=False:=eq_false (by omega)
  rw [List.drop_of_length_le (by simp),show lokF v s []=none from rfl,resL_n]
  simp only [fn34_b0,F1,List.length_map,slAll,slsAll,Nat.reduceMul,Nat.reduceBEq,Nat.reduceLT,Nat.reduceLeDiff,memAll,vAll,reduceCtorEq,Nat.reduceEqDiff,Nat.reduceAdd,Nat.reduceLT,Nat.reduceLeDiff,Nat.beq]
theorem cal34 {l:List Wrt} {v s:Int} (hm:∀ w∈l,mod1 w) (hl:l.length≤100000) (hs:0≤s∧s≤100000):cal env 34 [.list 3 (l.map eWr),.int .i64 v,.int .i64 s]=some [(eSec ((lokX l v s).getD zSec),false),(.bool (lokX l v s).isSome,false)]:=by
 have W:IntKind.i64.wrap ((l.length:Int) - 1)=(l.length:Int) - 1 - ((0:Nat):Int):=by rw [i64_fits (by omega)];omega
 have hz:lokX l v s=lokF v s l.reverse:=rfl
 rw [hz]
 rw [cal_code env34 rfl];simp only [fn34,slAll,Nat.reduceBEq,Nat.reduceLeDiff,Nat.reduceAdd,List.length_cons,List.length_nil]
 simp only [W,List.length_map,slAll,slsAll,Nat.reduceMul,Nat.reduceBEq,Nat.reduceLT,Nat.reduceLeDiff,memAll,vAll,reduceCtorEq,Nat.reduceEqDiff,Nat.reduceAdd,Nat.reduceLT,Nat.reduceLeDiff,Nat.beq]
 rw [loop34 hm hl hs (by simp only [slAll,slsAll,Nat.reduceMul,Nat.reduceBEq,Nat.reduceLT,Nat.reduceLeDiff,Nat.reduceAdd,decide_true,Bool.and_self,Bool.true_and]<;>rfl),List.drop_zero]
 cases lokF v s l.reverse with
 |none =>
  rw [resL_n,Option.getD_none,eSec_z]
  simp only [part8,Option.isSome_none,slAll,slsAll,Nat.reduceMul,Nat.reduceBEq,Nat.reduceLT,Nat.reduceLeDiff,memAll,vAll,reduceCtorEq,Nat.reduceEqDiff,Nat.reduceAdd,Nat.reduceLT,Nat.reduceLeDiff,Nat.beq]
 |some x =>
  rw [resL_s,Option.getD_some]
  obtain ⟨a,b,c',d,e,f,g,h',h8⟩:=sec8 x
  rw [h8]
  simp only [part8,Option.isSome_some,slAll,slsAll,Nat.reduceMul,Nat.reduceBEq,Nat.reduceLT,Nat.reduceLeDiff,memAll,vAll,reduceCtorEq,Nat.reduceEqDiff,Nat.reduceAdd,Nat.reduceLT,Nat.reduceLeDiff,Nat.beq]
end Go.Proofs.YtpcncggjmabnaaaGreatDoor.V
