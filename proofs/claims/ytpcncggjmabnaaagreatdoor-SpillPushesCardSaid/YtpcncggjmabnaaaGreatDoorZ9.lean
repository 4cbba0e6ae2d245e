/-
  Part 9 of the texts that the statement stands on.
-/
import Derived.Test.YtpcncggjmabnaaaGreatDoorZ8
import Derived.ProofKit
import Derived.SizedLaws
import Derived.OpenShut
import Derived.Deep.Strs
import Derived.Test.YtpcncggjmabnaaaGreatDoorRows
import Derived.WalkSmall
import Derived.WalkSpells
import Derived.Lib.SliceRun
import Derived.Test.YtpcncggjmabnaaaGreatDoorChecked
set_option linter.all false
namespace Go.Proofs.YtpcncggjmabnaaaGreatDoor.V
theorem cal79 {c:Cye} {s:Spl} (hc:okCy c) (hw:fitW s.sz c.ws) (hz:s.sz.length≤1000) (hd:bmZ s.sz s.dt):calL env 79 (.own (aSpl s)) [eCye c,.iptr [.func 75 []] 0]=some ([(eSpl { s with dt:=mkL c.ws s.dt },false),(.int .i64 0,false)],none):=by
 have e1:=cal75 (z:=s.sz) (cs:=[c]) (s:=s) (fun x hx=>by rw [List.mem_singleton.1 hx];exact ⟨hc,hw⟩) hz hd (by simp)
 rw [show mkLs s.dt [c]=mkL c.ws s.dt from rfl,aSpl_eq,show [c].map eCye=[eCye c] from rfl,eCye_eq] at e1
 rw [calL_code env79 rfl,aSpl_eq,eCye_eq,eSpl_eq]
 rw [eSpl_eq] at e1
 simp only [fn79,slAll,Nat.reduceBEq,Nat.reduceLeDiff,Nat.reduceAdd,List.length_cons,List.length_nil]
 simp only [e1,part5,part7,List.length_map,slAll,slsAll,Nat.reduceMul,Nat.reduceBEq,Nat.reduceLT,Nat.reduceLeDiff,memAll,vAll,reduceCtorEq,Nat.reduceEqDiff,Nat.reduceAdd,Nat.reduceLT,Nat.reduceLeDiff,Nat.beq]
theorem loop77 {z:List Int} {dt:List Bm} (hz:z.length≤1000) (hd:dt.length≤1000) (hs:∀ x∈z,1≤x∧x≤4096) {x0 x2 x3 x4 x5:BV} {A2:PV} {c:Cye} {st:St} (h:st.head [2,3,4,5,27,28,29] st.boxes.length=some ⟨sl 62 [(2,.pv A2),(3,.pbox 0 0),(4,.pbox 1 0),(5,.pbox 2 0),(27,.ref (.cell 0 1) 0 z.length),(28,.pv (.int .i64 z.length)),(29,.pv (.int .i64 (0:Nat)))],[⟨false,[x0,.row 1 (z.map eI),x2,x3,x4,x5,.row 2 ((dt++(z.take ((0:Nat))).map newO).map eBm)]⟩,⟨false,bCye c⟩,⟨false,zSp⟩],[],none⟩) :
  den env fn77_l1 st=some (.normal,⟨sl 62 [(2,.pv A2),(3,.pbox 0 0),(4,.pbox 1 0),(5,.pbox 2 0),(6,.any)],[⟨false,[x0,.row 1 (z.map eI),x2,x3,x4,x5,.row 2 ((dt++z.map newO).map eBm)]⟩,⟨false,bCye c⟩,⟨false,zSp⟩],[],none⟩):=by
 unfold fn77_l1
 refine clean_up (env:=env) (nb:=3) (z.length) (fun i=>⟨sl 62 [(2,.pv A2),(3,.pbox 0 0),(4,.pbox 1 0),(5,.pbox 2 0),(27,.ref (.cell 0 1) 0 z.length),(28,.pv (.int .i64 z.length)),(29,.pv (.int .i64 i))],[⟨false,[x0,.row 1 (z.map eI),x2,x3,x4,x5,.row 2 ((dt++(z.take (i)).map newO).map eBm)]⟩,⟨false,bCye c⟩,⟨false,zSp⟩],[],none⟩) (fun i=>some (.normal,⟨sl 62 [(2,.pv A2),(3,.pbox 0 0),(4,.pbox 1 0),(5,.pbox 2 0),(6,.any)],[⟨false,[x0,.row 1 (z.map eI),x2,x3,x4,x5,.row 2 ((dt++z.map newO).map eBm)]⟩,⟨false,bCye c⟩,⟨false,zSp⟩],[],none⟩)) h (fun _=>rfl) (fun _=>by simp only [slAll,slsAll,Nat.reduceMul,Nat.reduceBEq,Nat.reduceLT,Nat.reduceLeDiff,Nat.reduceAdd,decide_true,Bool.and_self,Bool.true_and]) ?_ ?_
 ·intro i rb hi ih
  have hi1:=i64_next hi (by unfold lim;omega)
  have F1:((i:Int)<(z.length:Int))=True:=eq_true (by omega)
  have hx:=eI_at24 hi
  have q:=hs _ (List.getElem_mem hi)
  have e1:=cal78 (n:=z[i])
  rw [show newE z[i]=0 by unfold newE;rw [if_neg (by omega)],show eBm (newO z[i])=.agg [.int .i64 (newO z[i]).size,.list 1 ((newO z[i]).ws.map eW)] from rfl] at e1
  have Z:((0:Int) != 0)=false:=rfl
  have F5:((dt++(z.take i).map newO).length+1≤lim)=True:=eq_true (by rw [List.length_append,List.length_map,List.length_take];unfold lim;omega)
  have hh:(dt++(z.take (i+1)).map newO).map eBm=(dt++(z.take i).map newO).map eBm++[.agg [.int .i64 (newO z[i]).size,.list 1 ((newO z[i]).ws.map eW)]]:=by
   rw [List.take_succ_eq_append_getElem hi,List.map_append (f:=newO),← List.append_assoc,List.map_append (f:=eBm) (l₂:=[z[i]].map newO)];rfl
  rw [hh] at ih
  simp only [fn77_b0,F1,F5,e1,Z,hx,part2,zSp_eq,bCye_eq,index_nat hi,List.length_map,slAll,slsAll,Nat.reduceMul,Nat.reduceBEq,Nat.reduceLT,Nat.reduceLeDiff,memAll,vAll,reduceCtorEq,Nat.reduceEqDiff,Nat.reduceAdd,Nat.reduceLT,Nat.reduceLeDiff,Nat.beq]
  rw [ih _ (by simp only [hi1,zSp_eq,bCye_eq,slAll,slsAll,Nat.reduceMul,Nat.reduceBEq,Nat.reduceLT,Nat.reduceLeDiff,memAll,vAll,reduceCtorEq,Nat.reduceEqDiff,Nat.reduceAdd,Nat.reduceLT,Nat.reduceLeDiff,Nat.beq]<;>rfl)]
  rfl
 ·intro rb
  rw [List.take_length]
  simp only [fn77_b0,Int.lt_irrefl,zSp_eq,bCye_eq,List.length_map,slAll,slsAll,Nat.reduceMul,Nat.reduceBEq,Nat.reduceLT,Nat.reduceLeDiff,memAll,vAll,reduceCtorEq,Nat.reduceEqDiff,Nat.reduceAdd,Nat.reduceLT,Nat.reduceLeDiff,Nat.beq]
theorem new_z {z:List Int} (hs:∀ x∈z,1≤x∧x≤4096):bmZ z (z.map newO):=by
 refine ⟨by rw [List.length_map],fun v h=>?_⟩
 have hv:v<z.length:=by rw [List.length_map] at h;exact h
 have q:=hs _ (List.getElem_mem hv)
 have e1:(z.map newO)[v]=newO ((z[v].toNat:Nat):Int):=by rw [List.getElem_map];congr 1;omega
 obtain ⟨k1,k2,k3,k4⟩:=new_ok (n:=z[v].toNat) (by omega)
 rw [e1]
 refine ⟨k2,k3.trans ?_⟩
 rw [List.getD_eq_getElem?_getD,List.getElem?_eq_getElem hv]
 show _=z[v]
 omega
def addC (s:Spl) (c:Cye):Spl:=if (s.cy.length:Int)<s.lm then { s with cy:=s.cy++[c] } else { s with cy:=[],ov:=true,dt:=mkLs (s.sz.map newO) (s.cy++[c]) }
theorem cal77 {c:Cye} {s:Spl} (hq:smQ s) (hc:okCy c) (hs:∀ x∈s.sz,1≤x∧x≤4096) (hd0:s.dt=[]) (hw:∀ x∈s.cy++[c],fitW s.sz x.ws):calL env 77 (.own (aSpl s)) [eCye c,.iptr [.func 75 []] 0]=some ([(eSpl (addC s c),false),(.int .i64 0,false)],none):=by
 have hcy:=hq.cy
 have e2:=cal48 hc
 have hcat:(s.cy++[c]).map eCye=s.cy.map eCye++[eCye c]:=by rw [List.map_append];rfl
 have F5:(s.cy.length+1≤lim)=True:=eq_true (by unfold lim;omega)
 unfold addC
 rw [calL_code env77 rfl]
 rw [eCye_eq] at e2 hcat ⊢
 by_cases k:(s.cy.length:Int)<s.lm
 ·have G:=eq_true k
  rw [if_pos k,eSpl_eq,aSpl_eq,hcat]
  simp only [fn77,slAll,Nat.reduceBEq,Nat.reduceLeDiff,Nat.reduceAdd,List.length_cons,List.length_nil]
  simp only [e2,G,F5,part5,part7,zSp_eq,List.length_map,slAll,slsAll,Nat.reduceMul,Nat.reduceBEq,Nat.reduceLT,Nat.reduceLeDiff,memAll,vAll,reduceCtorEq,Nat.reduceEqDiff,Nat.reduceAdd,Nat.reduceLT,Nat.reduceLeDiff,Nat.beq]
 ·have G:=eq_false k
  have e3:=cal75 (z:=s.sz) (cs:=s.cy++[c]) (s:={ s with cy:=[],ov:=true,dt:=s.sz.map newO }) (fun x hx=>⟨by
   rcases List.mem_append.1 hx with h|h
   ·exact hq.c1 x h
   ·rw [List.mem_singleton.1 h];exact hc,hw x hx⟩) hq.sz (new_z hs) (by simp;omega)
  rw [aSpl_eq,eSpl_eq] at e3
  rw [if_neg k,eSpl_eq,aSpl_eq]
  rw [hcat] at e3
  simp only [List.map_nil] at e3 ⊢
  simp only [fn77,slAll,Nat.reduceBEq,Nat.reduceLeDiff,Nat.reduceAdd,List.length_cons,List.length_nil]
  simp only [e2,G,F5,part5,part7,zSp_eq,List.length_map,slAll,slsAll,Nat.reduceMul,Nat.reduceBEq,Nat.reduceLT,Nat.reduceLeDiff,memAll,vAll,reduceCtorEq,Nat.reduceEqDiff,Nat.reduceAdd,Nat.reduceLT,Nat.reduceLeDiff,Nat.beq]
  rw [loop77 (z:=s.sz) (dt:=s.dt) hq.sz hq.dt hs (by simp only [zSp_eq,bCye_eq,hd0];simp only [slAll,slsAll,Nat.reduceMul,Nat.reduceBEq,Nat.reduceLT,Nat.reduceLeDiff,Nat.reduceAdd,decide_true,Bool.and_self,Bool.true_and]<;>rfl)]
  simp only [e3,hd0,F5,part5,part7,zSp_eq,bCye_eq,List.nil_append,List.length_map,slAll,slsAll,Nat.reduceMul,Nat.reduceBEq,Nat.reduceLT,Nat.reduceLeDiff,memAll,vAll,reduceCtorEq,Nat.reduceEqDiff,Nat.reduceAdd,Nat.reduceLT,Nat.reduceLeDiff,Nat.beq]
end Go.Proofs.YtpcncggjmabnaaaGreatDoor.V

namespace Go.Proofs.YtpcncggjmabnaaaGreatDoor.V
theorem sizes_z {z:List Int} (h:sizesErr z=0):∀ x∈z,1≤x∧x≤4096:=by
 intro x hx
 unfold sizesErr at h
 split at h
 ·omega
 ·split at h
  ·omega
  ·rename_i h2
   simp only [List.any_eq_true,not_exists,not_and,Bool.not_eq_true] at h2
   have:=h2 x hx
   simp at this
   omega
theorem wcE_all {im:Img}:∀ {l:List Wrt} {p:Option Wrt},wcE im p l=0→∀ w∈l,fitsErr im w=0
 |[],_,_=>fun w hw=>by cases hw
 |x :: l,p,h=>by
  rw [wcE_cons] at h
  by_cases c:fitsErr im x=0
  ·rw [if_neg (by simpa using c)] at h
   have h2:wcE im (some x) l=0:=by
    cases p with
    |none=>exact h
    |some y =>
     by_cases cb:badW y x=true
     ·have h:(if badW y x=true then 3 else wcE im (some x) l)=0:=h
      rw [if_pos cb] at h
      omega
     ·have h:(if badW y x=true then 3 else wcE im (some x) l)=0:=h
      rw [if_neg cb] at h
      exact h
   intro w hw
   rcases List.mem_cons.1 hw with e|e
   ·rw [e];exact c
   ·exact wcE_all h2 w e
  ·rw [if_pos c] at h
   exact absurd h c
theorem fitW_of {z:List Int} {ws:List Wrt} (h:∀ w∈ws,fitsErr (newImg z) w=0) (hz:∀ x∈z,1≤x∧x≤4096):fitW z ws:=by
 intro v hv e he
 obtain ⟨w,hw,e1,rfl⟩:=exW_mem he
 obtain ⟨q1,q2,q3,q4⟩:=fits_at (h w hw)
 have hl:((newImg z).getD w.volume.toNat []).length=(z.getD v 0).toNat:=by
  rw [e1]
  have:(newImg z).getD ((v:Int)).toNat []=List.replicate z[v].toNat zSec:=by
   rw [Int.toNat_natCast,List.getD_eq_getElem?_getD]
   unfold newImg
   rw [List.getElem?_map,List.getElem?_eq_getElem hv]
   rfl
  rw [this,List.length_replicate,List.getD_eq_getElem?_getD,List.getElem?_eq_getElem hv]
  rfl
 have:=hz _ (List.getElem_mem hv)
 have e2:z.getD v 0=z[v]:=by rw [List.getD_eq_getElem?_getD,List.getElem?_eq_getElem hv];rfl
 rw [hl] at q4
 rw [e2] at q4 ⊢
 exact bmFit_iff.2 ⟨q3,by show (0:Int)≤(w.data.length:Int);omega,by show w.start≤z[v];omega,by show (w.data.length:Int)≤z[v] - w.start;omega⟩
theorem ckY_wc {z:List Int} {c:Cye} (h:ckY z c=0):sizesErr z=0∧cycE c.base c.num c.time c.pos=0∧wcE (newImg z) none c.ws=0:=by
 unfold ckY ckC at h
 split at h
 ·rename_i h1
  split at h
  ·rename_i h2
   exact ⟨h1,h2,h⟩
  ·rename_i h2;exact absurd h h2
 ·rename_i h1;exact absurd h h1
theorem ckY_fit {z:List Int} {c:Cye} (h:ckY z c=0):fitW z c.ws:=by
 obtain ⟨h1,_,h3⟩:=ckY_wc h
 exact fitW_of (wcE_all h3) (sizes_z h1)
theorem quX_all {z:List Int}:∀ {cy:List Cye} {f l:Int},quX z f cy l=true→∀ c∈cy,ckY z c=0
 |[],_,_,_=>fun c hc=>by cases hc
 |x :: cy,f,l,h=>by
  simp only [quX,Bool.and_eq_true,beq_iff_eq] at h
  intro c hc
  rcases List.mem_cons.1 hc with e|e
  ·rw [e];exact h.1
  ·exact quX_all h.2.2 c e
theorem bmsX_z {dt:List Bm} {z:List Int} (h:bmsX dt z=true):bmZ z dt:=by
 rw [bmsX_D] at h
 simp only [Bool.and_eq_true,decide_eq_true_eq] at h
 refine ⟨h.1,fun v hv=>?_⟩
 have hv2:v<z.length:=by rw [← h.1];exact hv
 have h2:=h.2
 unfold bmsD at h2
 rw [List.drop_zero,List.drop_zero,List.all_eq_true] at h2
 have h3:=h2 (dt[v],z[v]) (by
  have:(dt.zip z)[v]'(by rw [List.length_zip];omega)=(dt[v],z[v]):=List.getElem_zip
  rw [← this];exact List.getElem_mem _)
 unfold okBN at h3
 simp only [Bool.and_eq_true,beq_iff_eq] at h3
 refine ⟨?_,?_⟩
 ·cases hb:okB dt[v] with
  |true=>rfl
  |false=>rw [bmE_no hb] at h3;omega
 ·rw [h3.2,List.getD_eq_getElem?_getD,List.getElem?_eq_getElem hv2];rfl
theorem chk_q {s:Spl} (h:chkQ s=0):sizesErr s.sz=0∧(1≤s.lm∧s.lm≤1024∧0≤s.fs∧s.fs≤s.ls∧s.ls≤1073741824)∧((s.ov=true∧s.cy=[]∧s.fs≠s.ls∧bmsX s.dt s.sz=true)∨(s.ov=false∧s.dt=[]∧(s.cy.length:Int)≤s.lm∧quX s.sz s.fs s.cy s.ls=true)):=by
 unfold chkQ at h
 by_cases h1:sizesErr s.sz=0
 ·rw [if_pos h1] at h
  by_cases h2:s.lm<1∨s.lm > 1024∨s.fs<0∨s.fs > s.ls∨s.ls > 1073741824
  ·rw [if_pos h2] at h;omega
  ·rw [if_neg h2] at h
   refine ⟨h1,by omega,?_⟩
   cases ho:s.ov with
   |true =>
    rw [ho,if_pos rfl] at h
    split at h
    ·rename_i h3
     simp only [Bool.and_eq_true,decide_eq_true_eq] at h3
     exact .inl ⟨rfl,h3.1,h3.2.1,h3.2.2⟩
    ·omega
   |false =>
    rw [ho,if_neg Bool.false_ne_true] at h
    split at h
    ·rename_i h3
     simp only [Bool.and_eq_true,decide_eq_true_eq] at h3
     exact .inr ⟨rfl,h3.1,h3.2.1,h3.2.2⟩
    ·omega
 ·rw [if_neg h1] at h;exact absurd h h1
def pushE (s:Spl) (c:Cye):Int:=if chkQ s=0 then (if ckY s.sz c=0 then (if c.base=s.ls then 0 else 15) else ckY s.sz c) else chkQ s
def pushS (s:Spl) (c:Cye):Spl:=if pushE s c=0 then (if s.ov then { s with dt:=mkL c.ws s.dt,ls:=c.num } else { addC s c with ls:=c.num }) else zSpl
theorem cal43:cal env 43 []=some [(.agg [.func 77 [.iptr [.func 75 []] 0],.func 79 [.iptr [.func 75 []] 0]],false)]:=by
 rw [cal_code env43 rfl];simp only [fn43,slAll,Nat.reduceBEq,Nat.reduceLeDiff,Nat.reduceAdd,List.length_cons,List.length_nil]
 simp only [part2,slAll,slsAll,Nat.reduceMul,Nat.reduceBEq,Nat.reduceLT,Nat.reduceLeDiff,memAll,vAll,reduceCtorEq,Nat.reduceEqDiff,Nat.reduceAdd,Nat.reduceLT,Nat.reduceLeDiff,Nat.beq]
end Go.Proofs.YtpcncggjmabnaaaGreatDoor.V

namespace Go.Proofs.YtpcncggjmabnaaaGreatDoor.V
set_option maxRecDepth 20000 in
theorem cal16 {s:Spl} {c:Cye} (hq:smQ s) (hc:okCy c):cal env 16 [eSpl s,eCye c]=some [(eSpl (pushS s c),false),(.int .i64 (pushE s c),false)]:=by
 have e1:=cal20 hq
 have e2:=cal42q (z:=s.sz) (b:=c.base) (n:=c.num) (t:=c.time) (p:=c.pos) (w:=c.ws) (by have:=hq.sz;unfold lim;omega) (Nat.le_trans hc.2.1 (by decide)) (fun x hx=>Nat.le_trans (hc.2.2 x hx) (by decide)) hc.1
 rw [show ckC s.sz c.base c.num c.time c.pos c.ws=ckY s.sz c from rfl] at e2
 unfold eCyc at e2
 have e3:=cal43
 have e4:=cal44 (s:=s)
 have e5:=cal45 hq
 have Z0:((0:Int) != 0)=false:=rfl
 have I0:index (.int .i64 0) 2=some 0:=rfl
 have I1:index (.int .i64 1) 2=some 1:=rfl
 have HS:(eSpl (pushS s c))=(if pushE s c=0 then (if s.ov then eSpl { s with dt:=mkL c.ws s.dt,ls:=c.num } else eSpl { addC s c with ls:=c.num }) else eSpl zSpl):=by
  unfold pushS
  split
  ·split<;>rfl
  ·rfl
 rw [HS]
 unfold pushE
 rw [eSpl_eq] at e1 e4 e5
 rw [eSpl_eq s,eCye_eq]
 by_cases c1:chkQ s=0
 rotate_left
 ·have Z:(chkQ s != 0)=true:=by simp [c1]
  rw [if_neg c1,if_neg c1,eSpl_z]
  rw [cal_code env16 rfl];simp only [fn16,slAll,Nat.reduceBEq,Nat.reduceLeDiff,Nat.reduceAdd,List.length_cons,List.length_nil]
  simp only [e1,Z,part7,part5,List.length_map,slAll,slsAll,Nat.reduceMul,Nat.reduceBEq,Nat.reduceLT,Nat.reduceLeDiff,memAll,vAll,reduceCtorEq,Nat.reduceEqDiff,Nat.reduceAdd,Nat.reduceLT,Nat.reduceLeDiff,Nat.beq]
 rw [c1] at e1
 rw [if_pos c1]
 by_cases c2:ckY s.sz c=0
 rotate_left
 ·have Z:(ckY s.sz c != 0)=true:=by simp [c2]
  rw [if_neg c2,if_neg c2,eSpl_z]
  rw [cal_code env16 rfl];simp only [fn16,slAll,Nat.reduceBEq,Nat.reduceLeDiff,Nat.reduceAdd,List.length_cons,List.length_nil]
  simp only [e1,e2,Z,Z0,part7,part5,List.length_map,slAll,slsAll,Nat.reduceMul,Nat.reduceBEq,Nat.reduceLT,Nat.reduceLeDiff,memAll,vAll,reduceCtorEq,Nat.reduceEqDiff,Nat.reduceAdd,Nat.reduceLT,Nat.reduceLeDiff,Nat.beq]
 rw [c2] at e2
 rw [if_pos c2]
 by_cases c3:c.base=s.ls
 rotate_left
 ·have Z:(c.base != s.ls)=true:=by simp [c3]
  rw [if_neg c3,if_neg (by decide),eSpl_z]
  rw [cal_code env16 rfl];simp only [fn16,slAll,Nat.reduceBEq,Nat.reduceLeDiff,Nat.reduceAdd,List.length_cons,List.length_nil]
  simp only [e1,e2,Z,Z0,part7,part5,List.length_map,slAll,slsAll,Nat.reduceMul,Nat.reduceBEq,Nat.reduceLT,Nat.reduceLeDiff,memAll,vAll,reduceCtorEq,Nat.reduceEqDiff,Nat.reduceAdd,Nat.reduceLT,Nat.reduceLeDiff,Nat.beq]
 have Z3:(c.base != s.ls)=false:=by simp [c3]
 rw [if_pos c3,if_pos rfl]
 obtain ⟨k1,k2,k3⟩:=chk_q c1
 have hw:=ckY_fit c2
 cases co:s.ov with
 |true =>
  rcases k3 with ⟨_,g1,g2,g3⟩|⟨g,_⟩
  rotate_left
  ·rw [co] at g;cases g
  have e6:=cal79 (s:=s) hc hw hq.sz (bmsX_z g3)
  rw [aSpl_eq,eSpl_eq,eCye_eq,co] at e6
  rw [co] at e1 e4 e5
  rw [if_pos rfl,eSpl_eq]
  rw [if_pos rfl] at e4
  rw [cal_code env16 rfl];simp only [fn16,slAll,Nat.reduceBEq,Nat.reduceLeDiff,Nat.reduceAdd,List.length_cons,List.length_nil]
  simp only [co,e1,e2,e3,e4,e5,e6,I1,Z0,Z3,part7,part5,List.length_map,slAll,slsAll,Nat.reduceMul,Nat.reduceBEq,Nat.reduceLT,Nat.reduceLeDiff,memAll,vAll,reduceCtorEq,Nat.reduceEqDiff,Nat.reduceAdd,Nat.reduceLT,Nat.reduceLeDiff,Nat.beq]
 |false =>
  rcases k3 with ⟨g,_⟩|⟨_,g1,g2,g3⟩
  ·rw [co] at g;cases g
  have e6:=cal77 (s:=s) (c:=c) hq hc (sizes_z k1) g1 (fun x hx=>by
   rcases List.mem_append.1 hx with h|h
   ·exact ckY_fit (quX_all g3 x h)
   ·rw [List.mem_singleton.1 h];exact hw)
  generalize addC s c=q at e6 ⊢
  rw [aSpl_eq,eSpl_eq,eCye_eq,co] at e6
  rw [co] at e1 e4 e5
  rw [if_neg Bool.false_ne_true,eSpl_eq]
  rw [if_neg Bool.false_ne_true] at e4
  rw [cal_code env16 rfl];simp only [fn16,slAll,Nat.reduceBEq,Nat.reduceLeDiff,Nat.reduceAdd,List.length_cons,List.length_nil]
  simp only [co,e1,e2,e3,e4,e5,e6,I0,Z0,Z3,part7,part5,List.length_map,slAll,slsAll,Nat.reduceMul,Nat.reduceBEq,Nat.reduceLT,Nat.reduceLeDiff,memAll,vAll,reduceCtorEq,Nat.reduceEqDiff,Nat.reduceAdd,Nat.reduceLT,Nat.reduceLeDiff,Nat.beq]
end Go.Proofs.YtpcncggjmabnaaaGreatDoor.V

namespace Go.Proofs.YtpcncggjmabnaaaGreatDoor.V
theorem cal123 {size:Int} {e:Exn} (hs:0≤size∧size≤4096):cal env 123 [eExt e,.int .i64 size]=some [(.bool (bmFit size e),false)]:=by
 unfold bmFit eExt
 by_cases c0:0≤e.start
 ·have F0:(e.start ≥ 0)=True:=eq_true c0
  rw [decide_eq_true c0]
  by_cases c1:0≤e.count
  ·have F1:(e.count ≥ 0)=True:=eq_true c1
   rw [decide_eq_true c1]
   by_cases c2:e.start≤size
   ·have F2:(e.start≤size)=True:=eq_true c2
    have W:IntKind.i64.wrap (size - e.start)=size - e.start:=i64_fits (by omega)
    rw [decide_eq_true c2]
    rw [cal_code env123 rfl];simp only [fn123,slAll,Nat.reduceBEq,Nat.reduceLeDiff,Nat.reduceAdd,List.length_cons,List.length_nil]
    simp only [F0,F1,F2,W,slAll,slsAll,Nat.reduceMul,Nat.reduceBEq,Nat.reduceLT,Nat.reduceLeDiff,memAll,vAll,reduceCtorEq,Nat.reduceEqDiff,Nat.reduceAdd,Nat.reduceLT,Nat.reduceLeDiff,Nat.beq]
   ·have F2:(e.start≤size)=False:=eq_false c2
    rw [decide_eq_false c2]
    rw [cal_code env123 rfl];simp only [fn123,slAll,Nat.reduceBEq,Nat.reduceLeDiff,Nat.reduceAdd,List.length_cons,List.length_nil]
    simp only [F0,F1,F2,slAll,slsAll,Nat.reduceMul,Nat.reduceBEq,Nat.reduceLT,Nat.reduceLeDiff,memAll,vAll,reduceCtorEq,Nat.reduceEqDiff,Nat.reduceAdd,Nat.reduceLT,Nat.reduceLeDiff,Nat.beq]
  ·have F1:(e.count ≥ 0)=False:=eq_false c1
   rw [decide_eq_false c1]
   rw [cal_code env123 rfl];simp only [fn123,slAll,Nat.reduceBEq,Nat.reduceLeDiff,Nat.reduceAdd,List.length_cons,List.length_nil]
   simp only [F0,F1,slAll,slsAll,Nat.reduceMul,Nat.reduceBEq,Nat.reduceLT,Nat.reduceLeDiff,memAll,vAll,reduceCtorEq,Nat.reduceEqDiff,Nat.reduceAdd,Nat.reduceLT,Nat.reduceLeDiff,Nat.beq]
 ·have F0:(e.start ≥ 0)=False:=eq_false c0
  rw [decide_eq_false c0]
  rw [cal_code env123 rfl];simp only [fn123,slAll,Nat.reduceBEq,Nat.reduceLeDiff,Nat.reduceAdd,List.length_cons,List.length_nil]
  simp only [F0,slAll,slsAll,Nat.reduceMul,Nat.reduceBEq,Nat.reduceLT,Nat.reduceLeDiff,memAll,vAll,reduceCtorEq,Nat.reduceEqDiff,Nat.reduceAdd,Nat.reduceLT,Nat.reduceLeDiff,Nat.beq]
theorem bit_put {ws:List Wd} {q:Nat} {x:Wd} (i:Nat) (hq:q<ws.length):bit (ws.set q x) i=if i / 64=q then x.getLsbD (i % 64) else bit ws i:=by
 unfold bit
 rw [List.getD_eq_getElem?_getD,List.getD_eq_getElem?_getD,List.getElem?_set]
 by_cases c:q=i / 64
 ·rw [if_pos c,if_pos c.symm,if_pos hq]
  rfl
 ·rw [if_neg c,if_neg (fun h=>c h.symm)]
theorem one_shl {r k:Nat} (hk:k<64):((1:Wd) <<< r).getLsbD k=decide (k=r):=by
 rw [BitVec.getLsbD_shiftLeft,show (1:Wd)=1#64 from rfl,BitVec.getLsbD_one]
 by_cases c:k=r
 ·subst c;simp [hk]
 ·rw [decide_eq_false c]
  by_cases c2:k<r
  ·simp [c2]
  ·have:¬ (k - r=0):=by omega
   simp [c2,this]
theorem orW_bit (x y:Wd) (k:Nat):(orW x y).getLsbD k=(x.getLsbD k || y.getLsbD k):=BitVec.getLsbD_or
theorem clW_bit (x y:Wd) {k:Nat} (h:k<64):(clW x y).getLsbD k=(x.getLsbD k&&!y.getLsbD k):=by
 unfold clW
 rw [BitVec.getLsbD_and,BitVec.getLsbD_not,decide_eq_true h,Bool.true_and]
theorem ch_step {F:Wd→Wd→Wd} (hF:F=orW∨F=clW) {ws:List Wd} {s j:Nat} (hq:(s+j) / 64<ws.length) :
  (chW F ws ⟨(s:Int),(j:Int)⟩).set ((s+j) / 64) (F ((chW F ws ⟨(s:Int),(j:Int)⟩)[(s+j) / 64]'(by rw [chW_len];exact hq)) ((1:Wd) <<< ((s+j) % 64)))=chW F ws ⟨(s:Int),((j+1:Nat):Int)⟩:=by
 have hq2:(s+j) / 64<(chW F ws ⟨(s:Int),(j:Int)⟩).length:=by rw [chW_len];exact hq
 apply ws_ext
 ·rw [List.length_set,chW_len,chW_len]
 intro i hi
 rw [List.length_set,chW_len] at hi
 rw [bit_put i hq2]
 rcases hF with rfl|rfl
 ·have e1:∀ j:Nat,chW orW ws ⟨(s:Int),(j:Int)⟩=setW ws s (s+j):=fun _=>rfl
  have e2:bit (chW orW ws ⟨(s:Int),((j+1:Nat):Int)⟩) i=(bit ws i || decide ((s:Int)≤(i:Int)∧(i:Int)<(s:Int)+((j+1:Nat):Int))):=bit_set hi
  have e3:bit (chW orW ws ⟨(s:Int),(j:Int)⟩) i=(bit ws i || decide ((s:Int)≤(i:Int)∧(i:Int)<(s:Int)+(j:Int))):=bit_set hi
  rw [e2]
  by_cases c:i / 64=(s+j) / 64
  ·rw [if_pos c]
   rw [orW_bit,one_shl (Nat.mod_lt _ (by decide))]
   have e4:=bit_of (ws:=chW orW ws ⟨(s:Int),(j:Int)⟩) (i:=i) (by rw [c];exact hq2)
   rw [e3] at e4
   have e5:(chW orW ws ⟨(s:Int),(j:Int)⟩)[i / 64]'(by rw [c];exact hq2)=(chW orW ws ⟨(s:Int),(j:Int)⟩)[(s+j) / 64]:=by simp only [c]
   rw [e5] at e4
   rw [← e4,Bool.or_assoc]
   congr 1
   rw [Bool.eq_iff_iff,Bool.or_eq_true,decide_eq_true_eq,decide_eq_true_eq,decide_eq_true_eq]
   omega
  ·rw [if_neg c,e3]
   congr 1
   rw [Bool.eq_iff_iff,decide_eq_true_eq,decide_eq_true_eq]
   have:i≠s+j:=fun h=>c (by rw [h])
   omega
 ·have e2:bit (chW clW ws ⟨(s:Int),((j+1:Nat):Int)⟩) i=(bit ws i&&!decide ((s:Int)≤(i:Int)∧(i:Int)<(s:Int)+((j+1:Nat):Int))):=bit_clr hi
  have e3:bit (chW clW ws ⟨(s:Int),(j:Int)⟩) i=(bit ws i&&!decide ((s:Int)≤(i:Int)∧(i:Int)<(s:Int)+(j:Int))):=bit_clr hi
  rw [e2]
  by_cases c:i / 64=(s+j) / 64
  ·rw [if_pos c]
   rw [clW_bit _ _ (Nat.mod_lt _ (by decide)),one_shl (Nat.mod_lt _ (by decide))]
   have e4:=bit_of (ws:=chW clW ws ⟨(s:Int),(j:Int)⟩) (i:=i) (by rw [c];exact hq2)
   rw [e3] at e4
   have e5:(chW clW ws ⟨(s:Int),(j:Int)⟩)[i / 64]'(by rw [c];exact hq2)=(chW clW ws ⟨(s:Int),(j:Int)⟩)[(s+j) / 64]:=by simp only [c]
   rw [e5] at e4
   rw [← e4,Bool.and_assoc]
   congr 1
   rw [Bool.eq_iff_iff,Bool.and_eq_true,Bool.not_eq_true',Bool.not_eq_true',Bool.not_eq_true',decide_eq_false_iff_not,decide_eq_false_iff_not,decide_eq_false_iff_not]
   omega
  ·rw [if_neg c,e3]
   congr 2
   rw [Bool.eq_iff_iff,decide_eq_true_eq,decide_eq_true_eq]
   have:i≠s+j:=fun h=>c (by rw [h])
   omega
theorem ch_none {F:Wd→Wd→Wd} (hF:F=orW∨F=clW) (ws:List Wd) (s:Nat):chW F ws ⟨(s:Int),((0:Nat):Int)⟩=ws:=by
 apply ws_ext
 ·rw [chW_len]
 intro i hi
 rw [chW_len] at hi
 rcases hF with rfl|rfl
 ·have e:bit (chW orW ws ⟨(s:Int),((0:Nat):Int)⟩) i=(bit ws i || decide ((s:Int)≤(i:Int)∧(i:Int)<(s:Int)+((0:Nat):Int))):=bit_set hi
  rw [e,decide_eq_false (by omega),Bool.or_false]
 ·have e:bit (chW clW ws ⟨(s:Int),((0:Nat):Int)⟩) i=(bit ws i&&!decide ((s:Int)≤(i:Int)∧(i:Int)<(s:Int)+((0:Nat):Int))):=bit_clr hi
  rw [e,decide_eq_false (by omega)]
  simp
set_option maxRecDepth 20000 in
theorem loop110 {b:Bm} {s c:Nat} {t:Bool} {F:Wd→Wd→Wd} (hF:(t=true∧F=orW)∨(t=false∧F=clW)) (hw:b.ws.length≤64) (hsc:s+c≤64 * b.ws.length) {st:St} (h:st.head [2,4,6,8,9] st.boxes.length=some ⟨sl 67 [(2,.pv (.bool t)),(4,.pbox 1 0),(6,.pbox 2 0),(8,.pbox 3 0),(9,.pv (.int .i64 ((s+(0:Nat):Nat):Int)))],[⟨false,[.pv (.int .i64 b.size),.pv (.list 1 (b.ws.map eW))]⟩,⟨false,[.pv (.int .i64 (s:Int)),.pv (.int .i64 (c:Int))]⟩,⟨false,[.pv (.int .i64 0),.row 1 []]⟩,⟨false,[.pv (.int .i64 b.size),.row 1 ((chW F b.ws ⟨(s:Int),(((0:Nat):Nat):Int)⟩).map eW)]⟩],[],none⟩) :
  den env fn110_l1 st=some (.normal,⟨sl 67 [(6,.pbox 2 0),(7,.any),(8,.pbox 3 0)],[⟨false,[.pv (.int .i64 b.size),.pv (.list 1 (b.ws.map eW))]⟩,⟨false,[.pv (.int .i64 (s:Int)),.pv (.int .i64 (c:Int))]⟩,⟨false,[.pv (.int .i64 0),.row 1 []]⟩,⟨false,[.pv (.int .i64 b.size),.row 1 ((chW F b.ws ⟨(s:Int),(c:Int)⟩).map eW)]⟩],[],none⟩):=by
 unfold fn110_l1
 refine clean_up (env:=env) (nb:=4) (c) (fun i=>⟨sl 67 [(2,.pv (.bool t)),(4,.pbox 1 0),(6,.pbox 2 0),(8,.pbox 3 0),(9,.pv (.int .i64 ((s+i:Nat):Int)))],[⟨false,[.pv (.int .i64 b.size),.pv (.list 1 (b.ws.map eW))]⟩,⟨false,[.pv (.int .i64 (s:Int)),.pv (.int .i64 (c:Int))]⟩,⟨false,[.pv (.int .i64 0),.row 1 []]⟩,⟨false,[.pv (.int .i64 b.size),.row 1 ((chW F b.ws ⟨(s:Int),((i:Nat):Int)⟩).map eW)]⟩],[],none⟩) (fun i=>some (.normal,⟨sl 67 [(6,.pbox 2 0),(7,.any),(8,.pbox 3 0)],[⟨false,[.pv (.int .i64 b.size),.pv (.list 1 (b.ws.map eW))]⟩,⟨false,[.pv (.int .i64 (s:Int)),.pv (.int .i64 (c:Int))]⟩,⟨false,[.pv (.int .i64 0),.row 1 []]⟩,⟨false,[.pv (.int .i64 b.size),.row 1 ((chW F b.ws ⟨(s:Int),(c:Int)⟩).map eW)]⟩],[],none⟩)) h (fun _=>rfl) (fun _=>by simp only [slAll,slsAll,Nat.reduceMul,Nat.reduceBEq,Nat.reduceLT,Nat.reduceLeDiff,Nat.reduceAdd,decide_true,Bool.and_self,Bool.true_and]) ?_ ?_
 ·intro i rb hi ih
  have hi1:IntKind.i64.wrap (((s+i:Nat):Int)+1)=((s+(i+1):Nat):Int):=by rw [i64_fits (by omega)];omega
  have W0:IntKind.i64.wrap ((s:Int)+(c:Int))=(s:Int)+(c:Int):=i64_fits (by omega)
  have F1:(((s+i:Nat):Int)<(s:Int)+(c:Int))=True:=eq_true (by omega)
  have hq:(s+i) / 64<b.ws.length:=by omega
  have hF':F=orW∨F=clW:=hF.elim (fun h=>.inl h.2) (fun h=>.inr h.2)
  have T1:((s+i:Nat):Int).tdiv 64=(((s+i) / 64:Nat):Int):=by rw [Int.tdiv_eq_ediv_of_nonneg (by omega)];omega
  have T2:((s+i:Nat):Int).tmod 64=(((s+i) % 64:Nat):Int):=by rw [Int.tmod_eq_emod_of_nonneg (by omega)];omega
  have W1:IntKind.i64.wrap (((s+i) / 64:Nat):Int)=(((s+i) / 64:Nat):Int):=i64_fits (by omega)
  have W3:IntKind.i64.wrap (((s+i) % 64:Nat):Int)=(((s+i) % 64:Nat):Int):=i64_fits (by omega)
  have W2:IntKind.u64.wrap (((s+i) % 64:Nat):Int)=(((s+i) % 64:Nat):Int):=by rw [u64_wrap];omega
  have S0:((((s+i) % 64:Nat):Int)<0)=False:=eq_false (by omega)
  have S1:=w_shl 1 (s:=(((s+i) % 64:Nat):Int)) (n:=(s+i) % 64) rfl
  have B1:((1:Wd).toNat:Int)=1:=rfl
  rw [B1] at S1
  have hI:index (.int .i64 (((s+i) / 64:Nat):Int)) b.ws.length=some ((s+i) / 64):=index_nat hq
  obtain ⟨cw,hcw⟩:∃ cw,cw=chW F b.ws ⟨(s:Int),(i:Int)⟩:=⟨_,rfl⟩
  have hlen:cw.length=b.ws.length:=by rw [hcw];exact chW_len ..
  have hqc:(s+i) / 64<cw.length:=by omega
  have hst:cw.set ((s+i) / 64) (F cw[(s+i) / 64] ((1:Wd) <<< ((s+i) % 64)))=chW F b.ws ⟨(s:Int),((i+1:Nat):Int)⟩:=by
   subst hcw
   exact ch_step hF' hq
  have hg:(cw.map eW)[(s+i) / 64]?=some (.int .u64 (cw[(s+i) / 64].toNat:Int)):=by rw [List.getElem?_map,List.getElem?_eq_getElem hqc];rfl
  have hset:(cw.map eW).set ((s+i) / 64) (.int .u64 ((F cw[(s+i) / 64] ((1:Wd) <<< ((s+i) % 64))).toNat:Int))=(chW F b.ws ⟨(s:Int),((i+1:Nat):Int)⟩).map eW:=by
   rw [← hst,List.map_set];rfl
  rw [← hcw]
  clear hcw hst
  rcases hF with ⟨rfl,rfl⟩|⟨rfl,rfl⟩
  ·have S2:=w_or cw[(s+i) / 64] ((1:Wd) <<< ((s+i) % 64))
   unfold orW at hset
   simp only [fn110_b0,F1,W0,W1,W2,W3,T1,T2,S0,S1,S2,z64,hI,hg,hset,hlen,List.length_map,slAll,slsAll,Nat.reduceMul,Nat.reduceBEq,Nat.reduceLT,Nat.reduceLeDiff,memAll,vAll,reduceCtorEq,Nat.reduceEqDiff,Nat.reduceAdd,Nat.reduceLT,Nat.reduceLeDiff,Nat.beq]
   rw [ih _ (by simp only [hi1,slAll,slsAll,Nat.reduceMul,Nat.reduceBEq,Nat.reduceLT,Nat.reduceLeDiff,memAll,vAll,reduceCtorEq,Nat.reduceEqDiff,Nat.reduceAdd,Nat.reduceLT,Nat.reduceLeDiff,Nat.beq]<;>rfl)]
  ·have S2:=w_andNot cw[(s+i) / 64] ((1:Wd) <<< ((s+i) % 64))
   unfold clW at hset
   simp only [fn110_b0,F1,W0,W1,W2,W3,T1,T2,S0,S1,S2,z64,hI,hg,hset,hlen,List.length_map,slAll,slsAll,Nat.reduceMul,Nat.reduceBEq,Nat.reduceLT,Nat.reduceLeDiff,memAll,vAll,reduceCtorEq,Nat.reduceEqDiff,Nat.reduceAdd,Nat.reduceLT,Nat.reduceLeDiff,Nat.beq]
   rw [ih _ (by simp only [hi1,slAll,slsAll,Nat.reduceMul,Nat.reduceBEq,Nat.reduceLT,Nat.reduceLeDiff,memAll,vAll,reduceCtorEq,Nat.reduceEqDiff,Nat.reduceAdd,Nat.reduceLT,Nat.reduceLeDiff,Nat.beq]<;>rfl)]
 ·intro rb
  have W0:IntKind.i64.wrap ((s:Int)+(c:Int))=(s:Int)+(c:Int):=i64_fits (by omega)
  have F1:(((s+c:Nat):Int)<(s:Int)+(c:Int))=False:=eq_false (by omega)
  simp only [fn110_b0,F1,W0,slAll,slsAll,Nat.reduceMul,Nat.reduceBEq,Nat.reduceLT,Nat.reduceLeDiff,memAll,vAll,reduceCtorEq,Nat.reduceEqDiff,Nat.reduceAdd,Nat.reduceLT,Nat.reduceLeDiff,Nat.beq]
theorem cal110 {b:Bm} {e:Exn} {t:Bool} {F:Wd→Wd→Wd} (hF:(t=true∧F=orW)∨(t=false∧F=clW)) :
  cal env 110 [eBm b,eExt e,.bool t]=some [(eBm (chO F b e),false),(.int .i64 (chE b e),false)]:=by
 have e1:=cal92 (b:=b)
 have Z0:((0:Int) != 0)=false:=rfl
 have Z3:((3:Int) != 0)=true:=rfl
 have hz:=eBm_zero
 have eA:∀ b:Bm,eBm b=.agg [.int .i64 b.size,.list 1 (b.ws.map eW)]:=fun _=>rfl
 have eX:∀ e:Exn,eExt e=.agg [.int .i64 e.start,.int .i64 e.count]:=fun _=>rfl
 have P2:∀ a b:PV,part [a,b] 0 (some 2)=some (.agg [a,b]):=fun _ _=>rfl
 unfold chO
 cases c1:okB b with
 |false =>
  have hE:chE b e=3:=by unfold chE;rw [if_pos c1]
  rw [hE,if_neg (by decide),hz]
  rw [bmE_no c1] at e1
  rw [eA] at e1 ⊢;rw [eX]
  rw [cal_code env110 rfl];simp only [fn110,slAll,Nat.reduceBEq,Nat.reduceLeDiff,Nat.reduceAdd,List.length_cons,List.length_nil]
  simp only [e1,Z3,P2,slAll,slsAll,Nat.reduceMul,Nat.reduceBEq,Nat.reduceLT,Nat.reduceLeDiff,memAll,vAll,reduceCtorEq,Nat.reduceEqDiff,Nat.reduceAdd,Nat.reduceLT,Nat.reduceLeDiff,Nat.beq]
 |true =>
  rw [bmE_ok c1] at e1
  have hsz:=okB_size c1
  have e2:=cal123 (size:=b.size) (e:=e) ⟨hsz.1,hsz.2.1⟩
  cases c2:bmFit b.size e with
  |false =>
   have hE:chE b e=2:=by unfold chE;rw [if_neg (by rw [c1];decide),if_pos c2]
   rw [hE,if_neg (by decide),hz]
   rw [c2] at e2
   rw [eA] at e1 ⊢;rw [eX] at e2 ⊢
   rw [cal_code env110 rfl];simp only [fn110,slAll,Nat.reduceBEq,Nat.reduceLeDiff,Nat.reduceAdd,List.length_cons,List.length_nil]
   simp only [e1,e2,Z0,P2,slAll,slsAll,Nat.reduceMul,Nat.reduceBEq,Nat.reduceLT,Nat.reduceLeDiff,memAll,vAll,reduceCtorEq,Nat.reduceEqDiff,Nat.reduceAdd,Nat.reduceLT,Nat.reduceLeDiff,Nat.beq]
  |true =>
   have hE:chE b e=0:=by unfold chE;rw [if_neg (by rw [c1];decide),if_neg (by rw [c2];decide)]
   rw [hE,if_pos rfl]
   rw [c2] at e2
   have hfi:=bmFit_iff.1 c2
   have k1:=cal84 (b:=b) (by unfold lim;omega)
   obtain ⟨s,c⟩:=e
   simp only at hfi
   obtain ⟨s,rfl⟩:∃ m:Nat,s=(m:Int):=⟨s.toNat,by omega⟩
   obtain ⟨c,rfl⟩:∃ m:Nat,c=(m:Int):=⟨c.toNat,by omega⟩
   have hF':F=orW∨F=clW:=hF.elim (fun h=>.inl h.2) (fun h=>.inr h.2)
   rw [eA] at e1 k1;rw [eX] at e2;rw [eA,eX,eA]
   rw [cal_code env110 rfl];simp only [fn110,slAll,Nat.reduceBEq,Nat.reduceLeDiff,Nat.reduceAdd,List.length_cons,List.length_nil]
   simp only [e1,e2,k1,Z0,P2,List.length_map,slAll,slsAll,Nat.reduceMul,Nat.reduceBEq,Nat.reduceLT,Nat.reduceLeDiff,memAll,vAll,reduceCtorEq,Nat.reduceEqDiff,Nat.reduceAdd,Nat.reduceLT,Nat.reduceLeDiff,Nat.beq]
   rw [loop110 (b:=b) (s:=s) (c:=c) (t:=t) (F:=F) hF (by omega) (by omega)]
   rotate_left
   ·rw [ch_none hF']
    simp only [slAll,slsAll,Nat.reduceMul,Nat.reduceBEq,Nat.reduceLT,Nat.reduceLeDiff,Nat.reduceAdd,decide_true,Bool.and_self,Bool.true_and]<;>rfl
   ·simp only [e1,e2,k1,Z0,P2,List.length_map,slAll,slsAll,Nat.reduceMul,Nat.reduceBEq,Nat.reduceLT,Nat.reduceLeDiff,memAll,vAll,reduceCtorEq,Nat.reduceEqDiff,Nat.reduceAdd,Nat.reduceLT,Nat.reduceLeDiff,Nat.beq]
--+
theorem cal85 {b:Bm} {e:Exn}:cal env 85 [eBm b,eExt e]=some [(eBm (chO orW b e),false),(.int .i64 (chE b e),false)]:=by
 have e1:=cal110 (b:=b) (e:=e) (t:=true) (F:=orW) (.inl ⟨rfl,rfl⟩)
 have eA:∀ a:Bm,eBm a=.agg [.int .i64 a.size,.list 1 (a.ws.map eW)]:=fun _=>rfl
 have eX:eExt e=.agg [.int .i64 e.start,.int .i64 e.count]:=rfl
 have P2:∀ a b:PV,part [a,b] 0 (some 2)=some (.agg [a,b]):=fun _ _=>rfl
 rw [eA,eA,eX] at e1 ⊢
 rw [cal_code env85 rfl];simp only [fn85,slAll,Nat.reduceBEq,Nat.reduceLeDiff,Nat.reduceAdd,List.length_cons,List.length_nil]
 simp only [e1,P2,slAll,slsAll,Nat.reduceMul,Nat.reduceBEq,Nat.reduceLT,Nat.reduceLeDiff,memAll,vAll,reduceCtorEq,Nat.reduceEqDiff,Nat.reduceAdd,Nat.reduceLT,Nat.reduceLeDiff,Nat.beq]
end Go.Proofs.YtpcncggjmabnaaaGreatDoor.V

namespace Go.Proofs.YtpcncggjmabnaaaGreatDoor.V
theorem cal83 {n:Int}:cal env 83 [.int .i64 n]=some [(eBm (newO n),false),(.int .i64 (newE n),false)]:=by
 have hz:=eBm_zero
 unfold newE newO
 by_cases c0:n<0
 ·rw [if_pos (.inl c0),if_pos (.inl c0),hz]
  have F0:(n<0)=True:=eq_true c0
  rw [cal_code env83 rfl];simp only [fn83,slAll,Nat.reduceBEq,Nat.reduceLeDiff,Nat.reduceAdd,List.length_cons,List.length_nil]
  simp only [F0,slAll,slsAll,Nat.reduceMul,Nat.reduceBEq,Nat.reduceLT,Nat.reduceLeDiff,memAll,vAll,reduceCtorEq,Nat.reduceEqDiff,Nat.reduceAdd,Nat.reduceLT,Nat.reduceLeDiff,Nat.beq]
 ·have F0:(n<0)=False:=eq_false c0
  by_cases c1:n > 4096
  ·rw [if_pos (.inr c1),if_pos (.inr c1),hz]
   have F1:(n > 4096)=True:=eq_true c1
   rw [cal_code env83 rfl];simp only [fn83,slAll,Nat.reduceBEq,Nat.reduceLeDiff,Nat.reduceAdd,List.length_cons,List.length_nil]
   simp only [F0,F1,slAll,slsAll,Nat.reduceMul,Nat.reduceBEq,Nat.reduceLT,Nat.reduceLeDiff,memAll,vAll,reduceCtorEq,Nat.reduceEqDiff,Nat.reduceAdd,Nat.reduceLT,Nat.reduceLeDiff,Nat.beq]
  ·have F1:(n > 4096)=False:=eq_false c1
   rw [if_neg (by omega),if_neg (by omega)]
   have W1:IntKind.i64.wrap (n+63)=n+63:=i64_fits (by omega)
   have Q1:(n+63).tdiv 64=wdsN n:=by unfold wdsN;exact Int.tdiv_eq_ediv_of_nonneg (by omega)
   have hw:0≤wdsN n∧wdsN n≤64:=by unfold wdsN;omega
   have W2:IntKind.i64.wrap (wdsN n)=wdsN n:=i64_fits (by omega)
   have F3:(0≤wdsN n)=True:=eq_true hw.1
   have F4:(wdsN n≤(lim:Int))=True:=eq_true (by unfold lim;omega)
   have F5:(wdsN n≤wdsN n)=True:=eq_true (Int.le_refl _)
   have z0:eW 0=.int .u64 0:=rfl
   have z64:((64:Int)=0)=False:=eq_false (by omega)
   unfold eBm
   rw [List.map_replicate,z0]
   rw [cal_code env83 rfl];simp only [fn83,slAll,Nat.reduceBEq,Nat.reduceLeDiff,Nat.reduceAdd,List.length_cons,List.length_nil]
   simp only [F0,F1,W1,W2,Q1,F3,F4,F5,z64,slAll,slsAll,Nat.reduceMul,Nat.reduceBEq,Nat.reduceLT,Nat.reduceLeDiff,memAll,vAll,reduceCtorEq,Nat.reduceEqDiff,Nat.reduceAdd,Nat.reduceLT,Nat.reduceLeDiff,Nat.beq]
end Go.Proofs.YtpcncggjmabnaaaGreatDoor.V

namespace Go.Proofs.YtpcncggjmabnaaaGreatDoor.V
theorem frB_un {b:Bm} {v:Int} {ws:List Wrt} (h:okB b=true) (hf:∀ e∈exW v ws,bmFit b.size e=true):frB b (exW v ws)=frB b (unX v ws):=by
 have hs:=okB_size h
 obtain ⟨u1,u2⟩:=unX_fit ⟨hs.1,hs.2.1⟩ hf
 obtain ⟨a1,a2,a3,a4⟩:=fr_ok (exW v ws) h hf
 obtain ⟨b1,b2,b3,b4⟩:=fr_ok (unX v ws) h u1
 refine bm_ext a2 b2 (a3.trans b3.symm) fun i hi=>?_
 rw [a3] at hi
 rw [a4 i hi,b4 i hi,u2 i]
def mB0 (z:List Int) (l:List Bm) (v:Nat):Bm:=if h:v<l.length then l[v] else newO (z.getD v 0)
def mRf (z:List Int) (l:List Bm) (ws:List Wrt) (n:Nat):List Bm:=(List.range n).map fun v=>frB (mB0 z l v) (exW (v:Int) ws)
theorem mRf_succ (z:List Int) (l:List Bm) (ws:List Wrt) (n:Nat):mRf z l ws (n+1)=mRf z l ws n++[frB (mB0 z l n) (exW (n:Int) ws)]:=by
 unfold mRf;rw [List.range_succ,List.map_append];rfl
theorem mRf_len (z:List Int) (l:List Bm) (ws:List Wrt) (n:Nat):(mRf z l ws n).length=n:=by simp [mRf]
theorem mRf_mk {z:List Int} {l:List Bm} {ws:List Wrt} (h:bmZ z l) (hw:fitW z ws):mRf z l ws z.length=mkL ws l:=by
 apply List.ext_getElem
 ·rw [mRf_len];unfold mkL;rw [List.length_mapIdx];exact h.1.symm
 ·intro v h1 h2
  have hv:v<l.length:=by rw [mRf_len] at h1;rw [h.1];exact h1
  obtain ⟨k1,k2⟩:=fit_of h hw v hv
  simp only [mRf,mkL,mkB,List.getElem_map,List.getElem_range,List.getElem_mapIdx]
  rw [show mB0 z l v=l[v] by unfold mB0;rw [dif_pos hv]]
  exact frB_un k1 k2
theorem mRf_nil {z:List Int} {ws:List Wrt}:mRf z [] ws z.length=mRf z (z.map newO) ws z.length:=by
 unfold mRf
 apply List.map_congr_left
 intro v hv
 have hv:v<z.length:=List.mem_range.1 hv
 congr 1
 unfold mB0
 rw [dif_neg (by simp),dif_pos (by rw [List.length_map];exact hv)]
 rw [List.getElem_map,List.getD_eq_getElem?_getD,List.getElem?_eq_getElem hv]
 rfl
def celB (k:Bool) (ws:List Wd):BV:=if k then .row 1 (ws.map eW) else .pv (.list 1 (ws.map eW))
theorem celB_t (ws:List Wd):celB true ws=.row 1 (ws.map eW):=rfl
theorem celB_f (ws:List Wd):celB false ws=.pv (.list 1 (ws.map eW)):=rfl
theorem frB_snoc (b:Bm) (l:List Exn) (e:Exn):frB b (l++[e])=chO orW (frB b l) e:=by
 unfold frB;rw [List.foldl_append];rfl
theorem loop47 {z:List Int} {l:List Bm} {ws:List Wrt} {L:List PV} {v:Nat} {b:Bm} {k:Bool} (hl:ws.length≤10000) (hok:okB b=true) (hf:∀ e∈exW (v:Int) ws,bmFit b.size e=true) {st:St} (h:st.head [0,1,2,7,8,9,11,68] st.boxes.length=some ⟨sl 70 [(0,.pv (.list 2 (l.map eBm))),(1,.pv (.list 1 (z.map eI))),(2,.pv (.list 3 (ws.map eWr))),(7,.row 2 L),(8,.pv (.int .i64 v)),(9,.pbox 0 0),(11,.pv (.int .i64 (0:Nat))),(68,.any)],[⟨false,[.pv (.int .i64 (frB b (exW (v:Int) (ws.take ((0:Nat))))).size),celB (k&&(exW (v:Int) (ws.take ((0:Nat)))).isEmpty) (frB b (exW (v:Int) (ws.take ((0:Nat))))).ws]⟩],[],none⟩) :
  den env fn47_l1 st=some (.normal,⟨sl 70 [(0,.pv (.list 2 (l.map eBm))),(1,.pv (.list 1 (z.map eI))),(2,.pv (.list 3 (ws.map eWr))),(6,.any),(7,.row 2 L),(8,.pv (.int .i64 v)),(9,.pbox 0 0),(68,.any)],[⟨false,[.pv (.int .i64 (frB b (exW (v:Int) ws)).size),celB (k&&(exW (v:Int) ws).isEmpty) (frB b (exW (v:Int) ws)).ws]⟩],[],none⟩):=by
 unfold fn47_l1
 refine clean_up (env:=env) (nb:=1) (ws.length) (fun i=>⟨sl 70 [(0,.pv (.list 2 (l.map eBm))),(1,.pv (.list 1 (z.map eI))),(2,.pv (.list 3 (ws.map eWr))),(7,.row 2 L),(8,.pv (.int .i64 v)),(9,.pbox 0 0),(11,.pv (.int .i64 i)),(68,.any)],[⟨false,[.pv (.int .i64 (frB b (exW (v:Int) (ws.take (i)))).size),celB (k&&(exW (v:Int) (ws.take (i))).isEmpty) (frB b (exW (v:Int) (ws.take (i)))).ws]⟩],[],none⟩) (fun i=>some (.normal,⟨sl 70 [(0,.pv (.list 2 (l.map eBm))),(1,.pv (.list 1 (z.map eI))),(2,.pv (.list 3 (ws.map eWr))),(6,.any),(7,.row 2 L),(8,.pv (.int .i64 v)),(9,.pbox 0 0),(68,.any)],[⟨false,[.pv (.int .i64 (frB b (exW (v:Int) ws)).size),celB (k&&(exW (v:Int) ws).isEmpty) (frB b (exW (v:Int) ws)).ws]⟩],[],none⟩)) h (fun _=>rfl) (fun _=>by simp only [slAll,slsAll,Nat.reduceMul,Nat.reduceBEq,Nat.reduceLT,Nat.reduceLeDiff,Nat.reduceAdd,decide_true,Bool.and_self,Bool.true_and]) ?_ ?_
 ·intro i rb hi ih
  have hi1:=i64_next hi (by unfold lim;omega)
  have F1:((i:Int)<(ws.length:Int))=True:=eq_true (by omega)
  have hx:=eWr_at hi
  have hh:=exW_take (v:=(v:Int)) hi
  by_cases c:ws[i].volume=(v:Int)
  ·have G:(ws[i].volume==(v:Int))=true:=by simp [c]
   rw [if_pos c] at hh
   have hmem:(⟨ws[i].start,(ws[i].data.length:Int)⟩:Exn)∈exW (v:Int) ws:=by
    unfold exW
    exact List.mem_map.2 ⟨ws[i],List.mem_filter.2 ⟨List.getElem_mem hi,by simp [c]⟩,rfl⟩
   have hsub:∀ e∈exW (v:Int) (ws.take i),bmFit b.size e=true:=fun e he=>by
    obtain ⟨w,hw,e1,e2⟩:=exW_mem he
    exact hf e (by unfold exW;exact List.mem_map.2 ⟨w,List.mem_filter.2 ⟨List.mem_of_mem_take hw,by simp [e1]⟩,e2.symm⟩)
   obtain ⟨g1,g2,g3,g4⟩:=fr_ok (exW (v:Int) (ws.take i)) hok hsub
   obtain ⟨k1,_⟩:=set_ok g2 (e:=⟨ws[i].start,(ws[i].data.length:Int)⟩) (by rw [g3];exact hf _ hmem)
   have e1:=cal85 (b:=frB b (exW (v:Int) (ws.take i))) (e:=⟨ws[i].start,(ws[i].data.length:Int)⟩)
   have hb:frB b (exW (v:Int) (ws.take (i+1)))=chO orW (frB b (exW (v:Int) (ws.take i))) ⟨ws[i].start,(ws[i].data.length:Int)⟩:=by rw [hh,frB_snoc]
   have hemp:(exW (v:Int) (ws.take (i+1))).isEmpty=false:=by rw [hh];simp
   rw [← hb] at e1
   rw [k1] at e1
   generalize frB b (exW (v:Int) (ws.take (i+1)))=B1 at e1 ih
   rw [hemp,Bool.and_false,celB_f] at ih
   generalize frB b (exW (v:Int) (ws.take i))=B0 at e1
   rw [show eBm B0=.agg [.int .i64 B0.size,.list 1 (B0.ws.map eW)] from rfl,show eBm B1=.agg [.int .i64 B1.size,.list 1 (B1.ws.map eW)] from rfl,show eExt (⟨ws[i].start,(ws[i].data.length:Int)⟩:Exn)=.agg [.int .i64 ws[i].start,.int .i64 (ws[i].data.length:Int)] from rfl] at e1
   cases k&&(exW (v:Int) (ws.take i)).isEmpty with
   |true =>
    rw [celB_t]
    simp only [fn47_b0,F1,G,e1,hx,part3,part2,index_nat hi,List.length_map,slAll,slsAll,Nat.reduceMul,Nat.reduceBEq,Nat.reduceLT,Nat.reduceLeDiff,memAll,vAll,reduceCtorEq,Nat.reduceEqDiff,Nat.reduceAdd,Nat.reduceLT,Nat.reduceLeDiff,Nat.beq]
    rw [ih _ (by simp only [hi1,slAll,slsAll,Nat.reduceMul,Nat.reduceBEq,Nat.reduceLT,Nat.reduceLeDiff,memAll,vAll,reduceCtorEq,Nat.reduceEqDiff,Nat.reduceAdd,Nat.reduceLT,Nat.reduceLeDiff,Nat.beq]<;>rfl)]
   |false =>
    rw [celB_f]
    simp only [fn47_b0,F1,G,e1,hx,part3,part2,index_nat hi,List.length_map,slAll,slsAll,Nat.reduceMul,Nat.reduceBEq,Nat.reduceLT,Nat.reduceLeDiff,memAll,vAll,reduceCtorEq,Nat.reduceEqDiff,Nat.reduceAdd,Nat.reduceLT,Nat.reduceLeDiff,Nat.beq]
    rw [ih _ (by simp only [hi1,slAll,slsAll,Nat.reduceMul,Nat.reduceBEq,Nat.reduceLT,Nat.reduceLeDiff,memAll,vAll,reduceCtorEq,Nat.reduceEqDiff,Nat.reduceAdd,Nat.reduceLT,Nat.reduceLeDiff,Nat.beq]<;>rfl)]
  ·have G:(ws[i].volume==(v:Int))=false:=by simp [c]
   rw [if_neg c] at hh
   rw [hh] at ih
   simp only [fn47_b0,F1,G,hx,part3,part2,index_nat hi,List.length_map,slAll,slsAll,Nat.reduceMul,Nat.reduceBEq,Nat.reduceLT,Nat.reduceLeDiff,memAll,vAll,reduceCtorEq,Nat.reduceEqDiff,Nat.reduceAdd,Nat.reduceLT,Nat.reduceLeDiff,Nat.beq]
   rw [ih _ (by simp only [hi1,slAll,slsAll,Nat.reduceMul,Nat.reduceBEq,Nat.reduceLT,Nat.reduceLeDiff,memAll,vAll,reduceCtorEq,Nat.reduceEqDiff,Nat.reduceAdd,Nat.reduceLT,Nat.reduceLeDiff,Nat.beq]<;>rfl)]
 ·intro rb
  rw [List.take_length]
  simp only [fn47_b0,Int.lt_irrefl,List.length_map,slAll,slsAll,Nat.reduceMul,Nat.reduceBEq,Nat.reduceLT,Nat.reduceLeDiff,memAll,vAll,reduceCtorEq,Nat.reduceEqDiff,Nat.reduceAdd,Nat.reduceLT,Nat.reduceLeDiff,Nat.beq]
theorem loop47l3 {z:List Int} {l:List Bm} {ws:List Wrt} (hz:z.length≤1000) (hs:∀ x∈z,1≤x∧x≤4096) (hl:ws.length≤10000) (hb:l=[]∨bmZ z l) (hw:fitW z ws) {st:St} (h:st.head [0,1,2,7,8,68] st.boxes.length=some ⟨sl 70 [(0,.pv (.list 2 (l.map eBm))),(1,.pv (.list 1 (z.map eI))),(2,.pv (.list 3 (ws.map eWr))),(7,.row 2 ((mRf z l ws ((0:Nat))).map eBm)),(8,.pv (.int .i64 (0:Nat))),(68,.any)],[],[],none⟩) :
  den env fn47_l3 st=some (.normal,⟨sl 70 [(6,.any),(7,.row 2 ((mRf z l ws z.length).map eBm))],[],[],none⟩):=by
 unfold fn47_l3
 refine clean_up (env:=env) (nb:=0) (z.length) (fun i=>⟨sl 70 [(0,.pv (.list 2 (l.map eBm))),(1,.pv (.list 1 (z.map eI))),(2,.pv (.list 3 (ws.map eWr))),(7,.row 2 ((mRf z l ws (i)).map eBm)),(8,.pv (.int .i64 i)),(68,.any)],[],[],none⟩) (fun i=>some (.normal,⟨sl 70 [(6,.any),(7,.row 2 ((mRf z l ws z.length).map eBm))],[],[],none⟩)) h (fun _=>rfl) (fun _=>by simp only [slAll,slsAll,Nat.reduceMul,Nat.reduceBEq,Nat.reduceLT,Nat.reduceLeDiff,Nat.reduceAdd,decide_true,Bool.and_self,Bool.true_and]) ?_ ?_
 ·intro i rb hi ih
  have hi1:=i64_next hi (by unfold lim;omega)
  have F1:((i:Int)<(z.length:Int))=True:=eq_true (by omega)
  have hx:=eI_at24 hi
  have q:=hs _ (List.getElem_mem hi)
  have hzi:z.getD i 0=z[i]:=by rw [List.getD_eq_getElem?_getD,List.getElem?_eq_getElem hi];rfl
  have e1:=cal83 (n:=z[i])
  obtain ⟨n1,n2,n3,n4⟩:=new_ok (n:=z[i].toNat) (by omega)
  rw [show ((z[i].toNat:Nat):Int)=z[i] by omega] at n1 n2 n3
  have F5:((mRf z l ws i).length+1≤lim)=True:=eq_true (by rw [mRf_len];unfold lim;omega)
  have hh:(mRf z l ws (i+1)).map eBm=(mRf z l ws i).map eBm++[eBm (frB (mB0 z l i) (exW (i:Int) ws))]:=by rw [mRf_succ,List.map_append];rfl
  have hfit:=hw i hi
  rw [hzi] at hfit
  rw [hh] at ih
  rcases hb with hb|hb
  ·have F2:((i:Int)<(l.length:Int))=False:=eq_false (by rw [hb];simp)
   have m0:mB0 z l i=newO z[i]:=by unfold mB0;rw [dif_neg (by rw [hb];simp),hzi]
   rw [m0] at ih
   rw [show eBm (newO z[i])=.agg [.int .i64 (newO z[i]).size,.list 1 ((newO z[i]).ws.map eW)] from rfl] at e1
   rw [show eBm (frB (newO z[i]) (exW (i:Int) ws))=.agg [.int .i64 (frB (newO z[i]) (exW (i:Int) ws)).size,.list 1 ((frB (newO z[i]) (exW (i:Int) ws)).ws.map eW)] from rfl] at ih
   simp only [fn47_b2,F1,F2,F5,e1,hx,part2,index_nat hi,List.length_map,slAll,slsAll,Nat.reduceMul,Nat.reduceBEq,Nat.reduceLT,Nat.reduceLeDiff,memAll,vAll,reduceCtorEq,Nat.reduceEqDiff,Nat.reduceAdd,Nat.reduceLT,Nat.reduceLeDiff,Nat.beq]
   rw [loop47 (z:=z) (l:=l) (ws:=ws) (v:=i) (b:=newO z[i]) (k:=false) hl n2 (fun e he=>by rw [n3];exact hfit e he) (by simp only [List.take_zero,Bool.false_and,celB_f,show frB (newO z[i]) (exW (i:Int) [])=newO z[i] from rfl];simp only [slAll,slsAll,Nat.reduceMul,Nat.reduceBEq,Nat.reduceLT,Nat.reduceLeDiff,Nat.reduceAdd,decide_true,Bool.and_self,Bool.true_and]<;>rfl)]
   simp only [Bool.false_and,celB_f,part2,F5,List.length_map,slAll,slsAll,Nat.reduceMul,Nat.reduceBEq,Nat.reduceLT,Nat.reduceLeDiff,memAll,vAll,reduceCtorEq,Nat.reduceEqDiff,Nat.reduceAdd,Nat.reduceLT,Nat.reduceLeDiff,Nat.beq]
   rw [ih _ (by simp only [hi1,slAll,slsAll,Nat.reduceMul,Nat.reduceBEq,Nat.reduceLT,Nat.reduceLeDiff,memAll,vAll,reduceCtorEq,Nat.reduceEqDiff,Nat.reduceAdd,Nat.reduceLT,Nat.reduceLeDiff,Nat.beq]<;>rfl)]
  ·have hil:i<l.length:=by rw [hb.1];exact hi
   have F2:((i:Int)<(l.length:Int))=True:=eq_true (by omega)
   have m0:mB0 z l i=l[i]:=by unfold mB0;rw [dif_pos hil]
   obtain ⟨b1,b2⟩:=hb.2 i hil
   rw [hzi] at b2
   have b3:=okB_size b1
   have e2:=cal84 (b:=l[i]) (by unfold lim;omega)
   have hy:=eBm_at24 hil
   rw [m0] at ih
   rw [show eBm l[i]=.agg [.int .i64 l[i].size,.list 1 (l[i].ws.map eW)] from rfl] at e2
   rw [show eBm (newO z[i])=.agg [.int .i64 (newO z[i]).size,.list 1 ((newO z[i]).ws.map eW)] from rfl] at e1
   rw [show eBm (frB l[i] (exW (i:Int) ws))=.agg [.int .i64 (frB l[i] (exW (i:Int) ws)).size,.list 1 ((frB l[i] (exW (i:Int) ws)).ws.map eW)] from rfl] at ih
   simp only [fn47_b2,F1,F2,F5,e1,e2,hx,hy,part2,index_nat hi,index_nat hil,List.length_map,slAll,slsAll,Nat.reduceMul,Nat.reduceBEq,Nat.reduceLT,Nat.reduceLeDiff,memAll,vAll,reduceCtorEq,Nat.reduceEqDiff,Nat.reduceAdd,Nat.reduceLT,Nat.reduceLeDiff,Nat.beq]
   rw [loop47 (z:=z) (l:=l) (ws:=ws) (v:=i) (b:=l[i]) (k:=true) hl b1 (fun e he=>by rw [b2];exact hfit e he) (by simp only [List.take_zero,Bool.true_and,show (exW (i:Int) []).isEmpty=true from rfl,celB_t,show frB l[i] (exW (i:Int) [])=l[i] from rfl];simp only [slAll,slsAll,Nat.reduceMul,Nat.reduceBEq,Nat.reduceLT,Nat.reduceLeDiff,Nat.reduceAdd,decide_true,Bool.and_self,Bool.true_and]<;>rfl)]
   cases (true&&(exW (i:Int) ws).isEmpty) with
   |true =>
    rw [celB_t]
    simp only [part2,F5,List.length_map,slAll,slsAll,Nat.reduceMul,Nat.reduceBEq,Nat.reduceLT,Nat.reduceLeDiff,memAll,vAll,reduceCtorEq,Nat.reduceEqDiff,Nat.reduceAdd,Nat.reduceLT,Nat.reduceLeDiff,Nat.beq]
    rw [ih _ (by simp only [hi1,slAll,slsAll,Nat.reduceMul,Nat.reduceBEq,Nat.reduceLT,Nat.reduceLeDiff,memAll,vAll,reduceCtorEq,Nat.reduceEqDiff,Nat.reduceAdd,Nat.reduceLT,Nat.reduceLeDiff,Nat.beq]<;>rfl)]
   |false =>
    rw [celB_f]
    simp only [part2,F5,List.length_map,slAll,slsAll,Nat.reduceMul,Nat.reduceBEq,Nat.reduceLT,Nat.reduceLeDiff,memAll,vAll,reduceCtorEq,Nat.reduceEqDiff,Nat.reduceAdd,Nat.reduceLT,Nat.reduceLeDiff,Nat.beq]
    rw [ih _ (by simp only [hi1,slAll,slsAll,Nat.reduceMul,Nat.reduceBEq,Nat.reduceLT,Nat.reduceLeDiff,memAll,vAll,reduceCtorEq,Nat.reduceEqDiff,Nat.reduceAdd,Nat.reduceLT,Nat.reduceLeDiff,Nat.beq]<;>rfl)]
 ·intro rb
  simp only [fn47_b2,Int.lt_irrefl,List.length_map,slAll,slsAll,Nat.reduceMul,Nat.reduceBEq,Nat.reduceLT,Nat.reduceLeDiff,memAll,vAll,reduceCtorEq,Nat.reduceEqDiff,Nat.reduceAdd,Nat.reduceLT,Nat.reduceLeDiff,Nat.beq]
theorem cal47n {z:List Int} {l:List Bm} {ws:List Wrt} (hz:z.length≤1000) (hs:∀ x∈z,1≤x∧x≤4096) (hl:ws.length≤10000) (hb:l=[]∨bmZ z l) (hw:fitW z ws):cal env 47 [.list 2 (l.map eBm),.list 1 (z.map eI),.list 3 (ws.map eWr)]=some [(.list 2 ((mRf z l ws z.length).map eBm),true)]:=by
 rw [cal_code env47 rfl];simp only [fn47,slAll,Nat.reduceBEq,Nat.reduceLeDiff,Nat.reduceAdd,List.length_cons,List.length_nil]
 simp only [ slAll,slsAll,Nat.reduceMul,Nat.reduceBEq,Nat.reduceLT,Nat.reduceLeDiff,memAll,vAll,reduceCtorEq,Nat.reduceEqDiff,Nat.reduceAdd,Nat.reduceLT,Nat.reduceLeDiff,Nat.beq]
 rw [loop47l3 (z:=z) (l:=l) hz hs hl hb hw (by simp only [slAll,slsAll,Nat.reduceMul,Nat.reduceBEq,Nat.reduceLT,Nat.reduceLeDiff,Nat.reduceAdd,decide_true,Bool.and_self,Bool.true_and]<;>rfl)]
 simp only [ slAll,slsAll,Nat.reduceMul,Nat.reduceBEq,Nat.reduceLT,Nat.reduceLeDiff,memAll,vAll,reduceCtorEq,Nat.reduceEqDiff,Nat.reduceAdd,Nat.reduceLT,Nat.reduceLeDiff,Nat.beq]
theorem cal47 {z:List Int} {l:List Bm} {ws:List Wrt} (hz:z.length≤1000) (hs:∀ x∈z,1≤x∧x≤4096) (hl:ws.length≤10000) (hb:bmZ z l) (hw:fitW z ws):cal env 47 [.list 2 (l.map eBm),.list 1 (z.map eI),.list 3 (ws.map eWr)]=some [(.list 2 ((mkL ws l).map eBm),true)]:=by
 rw [cal47n hz hs hl (.inr hb) hw,mRf_mk hb hw]
theorem cal47e {z:List Int} {ws:List Wrt} (hz:z.length≤1000) (hs:∀ x∈z,1≤x∧x≤4096) (hl:ws.length≤10000) (hw:fitW z ws):cal env 47 [.list 2 [],.list 1 (z.map eI),.list 3 (ws.map eWr)]=some [(.list 2 ((mkL ws (z.map newO)).map eBm),true)]:=by
 have h:=cal47n (z:=z) (l:=[]) (ws:=ws) hz hs hl (.inl rfl) hw
 rw [mRf_nil,mRf_mk (new_z hs) hw] at h
 exact h
end Go.Proofs.YtpcncggjmabnaaaGreatDoor.V

namespace Go.Proofs.YtpcncggjmabnaaaGreatDoor.V
def dI (z:List Int) (cs:List Cye) (i:Nat):BV:=if i=0 then .pv (.list 2 []) else .row 2 ((mkLs (z.map newO) (cs.take i)).map eBm)
theorem dI_zero (z:List Int) (cs:List Cye):dI z cs 0=.pv (.list 2 []):=rfl
theorem dI_succ (z:List Int) (cs:List Cye) (i:Nat):dI z cs (i+1)=.row 2 ((mkLs (z.map newO) (cs.take (i+1))).map eBm):=rfl
theorem loop17 {z:List Int} {cs:List Cye} {c:Cye} (hc:∀ x∈cs,okCy x∧fitW z x.ws) (hz:z.length≤1000) (hs:∀ x∈z,1≤x∧x≤4096) (hl:cs.length≤10000) (hn:0<cs.length) {x0 x2 x3 x4 x5:PV} {fz:Bool} {st:St} (h:st.head [2,4,8,9,50] st.boxes.length=some ⟨sl 79 [(2,.pbox 0 0),(4,.pbox 2 0),(8,.row 5 (cs.map eCye)),(9,.pv (.int .i64 (0:Nat))),(50,.any)],[⟨false,[.pv x0,.pv (.list 1 (z.map eI)),.pv x2,.pv x3,.pv x4,.pv x5,dI z cs ((0:Nat))]⟩,⟨fz,bCye c⟩,⟨false,zSp⟩],[],none⟩) :
  den env fn17_l1 st=some (.normal,⟨sl 79 [(2,.pbox 0 0),(4,.pbox 2 0),(5,.any)],[⟨false,[.pv x0,.pv (.list 1 (z.map eI)),.pv x2,.pv x3,.pv x4,.pv x5,.row 2 ((mkLs (z.map newO) cs).map eBm)]⟩,⟨fz,bCye c⟩,⟨false,zSp⟩],[],none⟩):=by
 unfold fn17_l1
 refine clean_up (env:=env) (nb:=3) (cs.length) (fun i=>⟨sl 79 [(2,.pbox 0 0),(4,.pbox 2 0),(8,.row 5 (cs.map eCye)),(9,.pv (.int .i64 i)),(50,.any)],[⟨false,[.pv x0,.pv (.list 1 (z.map eI)),.pv x2,.pv x3,.pv x4,.pv x5,dI z cs (i)]⟩,⟨fz,bCye c⟩,⟨false,zSp⟩],[],none⟩) (fun i=>some (.normal,⟨sl 79 [(2,.pbox 0 0),(4,.pbox 2 0),(5,.any)],[⟨false,[.pv x0,.pv (.list 1 (z.map eI)),.pv x2,.pv x3,.pv x4,.pv x5,.row 2 ((mkLs (z.map newO) cs).map eBm)]⟩,⟨fz,bCye c⟩,⟨false,zSp⟩],[],none⟩)) h (fun _=>rfl) (fun _=>by simp only [slAll,slsAll,Nat.reduceMul,Nat.reduceBEq,Nat.reduceLT,Nat.reduceLeDiff,Nat.reduceAdd,decide_true,Bool.and_self,Bool.true_and]) ?_ ?_
 ·intro i rb hi ih
  have hi1:=i64_next hi (by unfold lim;omega)
  have F1:((i:Int)<(cs.length:Int))=True:=eq_true (by omega)
  have hx:=eCye_at hi
  obtain ⟨o1,o2⟩:=hc _ (List.getElem_mem hi)
  have q:=mkLs_z (cs:=cs.take i) (new_z hs) (fun c h=>(hc c (List.mem_of_mem_take h)).2)
  have e1:=cal47 (ws:=cs[i].ws) hz hs o1.2.1 q o2
  have e2:=cal47e (ws:=cs[i].ws) hz hs o1.2.1 o2
  rw [← mkLs_snoc _ hi] at e1
  rw [dI_succ] at ih
  cases i with
  |zero =>
   rw [show mkL cs[0].ws (z.map newO)=mkLs (z.map newO) (cs.take (0+1)) from (mkLs_snoc (z.map newO) hi).symm] at e2
   simp only [fn17_b0,F1,e2,hx,part5,dI_zero,zSp_eq,bCye_eq,index_nat hi,List.length_map,slAll,slsAll,Nat.reduceMul,Nat.reduceBEq,Nat.reduceLT,Nat.reduceLeDiff,memAll,vAll,reduceCtorEq,Nat.reduceEqDiff,Nat.reduceAdd,Nat.reduceLT,Nat.reduceLeDiff,Nat.beq]
   rw [ih _ (by simp only [hi1,zSp_eq,bCye_eq,slAll,slsAll,Nat.reduceMul,Nat.reduceBEq,Nat.reduceLT,Nat.reduceLeDiff,memAll,vAll,reduceCtorEq,Nat.reduceEqDiff,Nat.reduceAdd,Nat.reduceLT,Nat.reduceLeDiff,Nat.beq]<;>rfl)]
   rfl
  |succ j =>
   simp only [fn17_b0,F1,e1,hx,part5,dI_succ,zSp_eq,bCye_eq,index_nat hi,List.length_map,slAll,slsAll,Nat.reduceMul,Nat.reduceBEq,Nat.reduceLT,Nat.reduceLeDiff,memAll,vAll,reduceCtorEq,Nat.reduceEqDiff,Nat.reduceAdd,Nat.reduceLT,Nat.reduceLeDiff,Nat.beq]
   rw [ih _ (by simp only [hi1,zSp_eq,bCye_eq,slAll,slsAll,Nat.reduceMul,Nat.reduceBEq,Nat.reduceLT,Nat.reduceLeDiff,memAll,vAll,reduceCtorEq,Nat.reduceEqDiff,Nat.reduceAdd,Nat.reduceLT,Nat.reduceLeDiff,Nat.beq]<;>rfl)]
   rfl
 ·intro rb
  have hd:dI z cs cs.length=.row 2 ((mkLs (z.map newO) cs).map eBm):=by
   unfold dI
   rw [if_neg (by omega),List.take_length]
  simp only [fn17_b0,Int.lt_irrefl,hd,zSp_eq,bCye_eq,List.length_map,slAll,slsAll,Nat.reduceMul,Nat.reduceBEq,Nat.reduceLT,Nat.reduceLeDiff,memAll,vAll,reduceCtorEq,Nat.reduceEqDiff,Nat.reduceAdd,Nat.reduceLT,Nat.reduceLeDiff,Nat.beq]
set_option maxRecDepth 20000 in
theorem cal17 {s:Spl} {c:Cye} (hq:smQ s) (hc:okCy c):cal env 17 [eSpl s,eCye c]=some [(eSpl (pushS s c),false),(.int .i64 (pushE s c),false)]:=by
 have e1:=cal21 hq
 have e2:=cal46q (z:=s.sz) (b:=c.base) (n:=c.num) (t:=c.time) (p:=c.pos) (w:=c.ws) (by have:=hq.sz;unfold lim;omega) (Nat.le_trans hc.2.1 (by decide)) (fun x hx=>Nat.le_trans (hc.2.2 x hx) (by decide)) hc.1
 rw [show ckC s.sz c.base c.num c.time c.pos c.ws=ckY s.sz c from rfl] at e2
 unfold eCyc at e2
 have Z0:((0:Int) != 0)=false:=rfl
 have HS:(eSpl (pushS s c))=(if pushE s c=0 then (if s.ov then eSpl { s with dt:=mkL c.ws s.dt,ls:=c.num } else eSpl { addC s c with ls:=c.num }) else eSpl zSpl):=by
  unfold pushS
  split
  ·split<;>rfl
  ·rfl
 rw [HS]
 unfold pushE
 rw [eSpl_eq] at e1
 rw [eSpl_eq s,eCye_eq]
 by_cases c1:chkQ s=0
 rotate_left
 ·have Z:(chkQ s != 0)=true:=by simp [c1]
  rw [if_neg c1,if_neg c1,eSpl_z]
  rw [cal_code env17 rfl];simp only [fn17,slAll,Nat.reduceBEq,Nat.reduceLeDiff,Nat.reduceAdd,List.length_cons,List.length_nil]
  simp only [e1,Z,part7,part5,List.length_map,slAll,slsAll,Nat.reduceMul,Nat.reduceBEq,Nat.reduceLT,Nat.reduceLeDiff,memAll,vAll,reduceCtorEq,Nat.reduceEqDiff,Nat.reduceAdd,Nat.reduceLT,Nat.reduceLeDiff,Nat.beq]
 rw [c1] at e1
 rw [if_pos c1]
 by_cases c2:ckY s.sz c=0
 rotate_left
 ·have Z:(ckY s.sz c != 0)=true:=by simp [c2]
  rw [if_neg c2,if_neg c2,eSpl_z]
  rw [cal_code env17 rfl];simp only [fn17,slAll,Nat.reduceBEq,Nat.reduceLeDiff,Nat.reduceAdd,List.length_cons,List.length_nil]
  simp only [e1,e2,Z,Z0,part7,part5,List.length_map,slAll,slsAll,Nat.reduceMul,Nat.reduceBEq,Nat.reduceLT,Nat.reduceLeDiff,memAll,vAll,reduceCtorEq,Nat.reduceEqDiff,Nat.reduceAdd,Nat.reduceLT,Nat.reduceLeDiff,Nat.beq]
 rw [c2] at e2
 rw [if_pos c2]
 by_cases c3:c.base=s.ls
 rotate_left
 ·have Z:(c.base != s.ls)=true:=by simp [c3]
  rw [if_neg c3,if_neg (by decide),eSpl_z]
  rw [cal_code env17 rfl];simp only [fn17,slAll,Nat.reduceBEq,Nat.reduceLeDiff,Nat.reduceAdd,List.length_cons,List.length_nil]
  simp only [e1,e2,Z,Z0,part7,part5,List.length_map,slAll,slsAll,Nat.reduceMul,Nat.reduceBEq,Nat.reduceLT,Nat.reduceLeDiff,memAll,vAll,reduceCtorEq,Nat.reduceEqDiff,Nat.reduceAdd,Nat.reduceLT,Nat.reduceLeDiff,Nat.beq]
 have Z3:(c.base != s.ls)=false:=by simp [c3]
 rw [if_pos c3,if_pos rfl]
 obtain ⟨k1,k2,k3⟩:=chk_q c1
 have hw:=ckY_fit c2
 cases co:s.ov with
 |true =>
  rcases k3 with ⟨_,g1,g2,g3⟩|⟨g,_⟩
  rotate_left
  ·rw [co] at g;cases g
  have e6:=cal47 (l:=s.dt) (ws:=c.ws) hq.sz (sizes_z k1) hc.2.1 (bmsX_z g3) hw
  rw [co] at e1
  rw [if_pos rfl,eSpl_eq]
  rw [cal_code env17 rfl];simp only [fn17,slAll,Nat.reduceBEq,Nat.reduceLeDiff,Nat.reduceAdd,List.length_cons,List.length_nil]
  simp only [co,e1,e2,e6,Z0,Z3,part7,part5,List.length_map,slAll,slsAll,Nat.reduceMul,Nat.reduceBEq,Nat.reduceLT,Nat.reduceLeDiff,memAll,vAll,reduceCtorEq,Nat.reduceEqDiff,Nat.reduceAdd,Nat.reduceLT,Nat.reduceLeDiff,Nat.beq]
 |false =>
  rcases k3 with ⟨g,_⟩|⟨_,g1,g2,g3⟩
  ·rw [co] at g;cases g
  have hcy:=hq.cy
  have hcat:(s.cy++[c]).map eCye=s.cy.map eCye++[.agg [.int .i64 c.base,.int .i64 c.num,.int .i64 c.time,.list 1 (c.pos.map eI),.list 3 (c.ws.map eWr)]]:=by rw [List.map_append];rfl
  have F5:(s.cy.length+1≤lim)=True:=eq_true (by unfold lim;omega)
  have F6:(s.cy.length≤lim)=True:=eq_true (by unfold lim;omega)
  rw [co,g1,List.map_nil] at e1
  rw [if_neg Bool.false_ne_true]
  unfold addC
  by_cases k:(s.cy.length:Int)<s.lm
  ·have G:(((s.cy.length+1:Nat):Int)≤s.lm)=True:=eq_true (by omega)
   rw [if_pos k,eSpl_eq]
   simp only [hcat]
   rw [cal_code env17 rfl];simp only [fn17,slAll,Nat.reduceBEq,Nat.reduceLeDiff,Nat.reduceAdd,List.length_cons,List.length_nil]
   simp only [co,e1,e2,Z0,Z3,G,F5,F6,g1,List.map_nil,part7,part5,List.length_map,List.length_append,List.length_cons,List.length_nil,List.nil_append,Nat.zero_add,slAll,slsAll,Nat.reduceMul,Nat.reduceBEq,Nat.reduceLT,Nat.reduceLeDiff,memAll,vAll,reduceCtorEq,Nat.reduceEqDiff,Nat.reduceAdd,Nat.reduceLT,Nat.reduceLeDiff,Nat.beq]
  ·have G:(((s.cy.length+1:Nat):Int)≤s.lm)=False:=eq_false (by omega)
   rw [if_neg k,eSpl_eq]
   rw [cal_code env17 rfl];simp only [fn17,slAll,Nat.reduceBEq,Nat.reduceLeDiff,Nat.reduceAdd,List.length_cons,List.length_nil]
   simp only [co,e1,e2,Z0,Z3,G,F5,F6,g1,List.map_nil,part7,part5,List.length_map,List.length_append,List.length_cons,List.length_nil,List.nil_append,Nat.zero_add,slAll,slsAll,Nat.reduceMul,Nat.reduceBEq,Nat.reduceLT,Nat.reduceLeDiff,memAll,vAll,reduceCtorEq,Nat.reduceEqDiff,Nat.reduceAdd,Nat.reduceLT,Nat.reduceLeDiff,Nat.beq]
   rw [loop17 (z:=s.sz) (cs:=s.cy++[c]) (fun x hx=>⟨by
    rcases List.mem_append.1 hx with h|h
    ·exact hq.c1 x h
    ·rw [List.mem_singleton.1 h];exact hc,by
    rcases List.mem_append.1 hx with h|h
    ·exact ckY_fit (quX_all g3 x h)
    ·rw [List.mem_singleton.1 h];exact hw⟩) hq.sz (sizes_z k1) (by rw [List.length_append];simp;omega) (by simp) (by simp only [hcat,dI_zero,zSp_eq,bCye_eq];simp only [slAll,slsAll,Nat.reduceMul,Nat.reduceBEq,Nat.reduceLT,Nat.reduceLeDiff,Nat.reduceAdd,decide_true,Bool.and_self,Bool.true_and]<;>rfl)]
   simp only [zSp_eq,bCye_eq,part7,List.map_nil,slAll,slsAll,Nat.reduceMul,Nat.reduceBEq,Nat.reduceLT,Nat.reduceLeDiff,memAll,vAll,reduceCtorEq,Nat.reduceEqDiff,Nat.reduceAdd,Nat.reduceLT,Nat.reduceLeDiff,Nat.beq]
end Go.Proofs.YtpcncggjmabnaaaGreatDoor.V

namespace Go.Proofs.YtpcncggjmabnaaaGreatDoor.V
end Go.Proofs.YtpcncggjmabnaaaGreatDoor.V

namespace Go.Proofs.YtpcncggjmabnaaaGreatDoor.V
end Go.Proofs.YtpcncggjmabnaaaGreatDoor.V

namespace Go.Proofs.YtpcncggjmabnaaaGreatDoor.V
end Go.Proofs.YtpcncggjmabnaaaGreatDoor.V

namespace Go.Proofs.YtpcncggjmabnaaaGreatDoor.V
def secsW (l:List Wrt):Int:=(l.map fun w=>(w.data.length:Int)).sum
theorem secsW_snoc (l:List Wrt) (x:Wrt):secsW (l++[x])=secsW l+x.data.length:=by simp [secsW]
theorem secsW_take {l:List Wrt} {i:Nat} (h:i<l.length):secsW (l.take (i+1))=secsW (l.take i)+(l[i].data.length:Int):=by
 rw [List.take_succ_eq_append_getElem h,secsW_snoc]
theorem secsW_lim {k:Nat}:∀ {l:List Wrt},(∀ w∈l,w.data.length≤k)→0≤secsW l∧secsW l≤(k * l.length:Nat)
 |[],_=>by simp [secsW]
 |x :: l,h=>by
  have:=secsW_lim (l:=l) fun w hw=>h w (by simp [hw])
  have hx:=h x (by simp)
  have e:secsW (x :: l)=(x.data.length:Int)+secsW l:=by simp [secsW]
  rw [e,List.length_cons,Nat.mul_add,Nat.mul_one];omega
theorem loop35 {l:List Wrt} (hd:∀ w∈l,w.data.length≤10000) (hl:l.length≤1000000) {st:St} (h:st.head [0,3,4] st.boxes.length=some ⟨[.pv (.list 3 (l.map eWr)),.any,.any,.pv (.int .i64 (secsW (l.take (0:Nat)))),.pv (.int .i64 (0:Nat)),.any,.any,.any,.any,.any,.any,.any,.any,.any,.any,.any,.any,.any,.any,.any],[],[],none⟩) :
  den env fn35_l1 st=some (.normal,⟨[.any,.any,.any,.pv (.int .i64 (secsW l)),.any,.any,.any,.any,.any,.any,.any,.any,.any,.any,.any,.any,.any,.any,.any,.any],[],[],none⟩):=by
 unfold fn35_l1
 refine clean_up (env:=env) (l.length) (fun i=>⟨[.pv (.list 3 (l.map eWr)),.any,.any,.pv (.int .i64 (secsW (l.take i))),.pv (.int .i64 i),.any,.any,.any,.any,.any,.any,.any,.any,.any,.any,.any,.any,.any,.any,.any],[],[],none⟩) (fun i=>some (.normal,⟨[.any,.any,.any,.pv (.int .i64 (secsW l)),.any,.any,.any,.any,.any,.any,.any,.any,.any,.any,.any,.any,.any,.any,.any,.any],[],[],none⟩)) h (fun _=>rfl) (fun _=>rfl) ?_ ?_
 ·intro i rb hi ih
  have hi1:=i64_next hi (Nat.le_trans hl (by decide))
  have F1:((i:Int)<(l.length:Int))=True:=eq_true (by omega)
  have h1:=secsW_lim (l:=l.take i) fun w hw=>hd w (List.mem_of_mem_take hw)
  have h2:=hd _ (List.getElem_mem hi)
  have h3:(l.take i).length≤1000000:=by rw [List.length_take];omega
  have W:IntKind.i64.wrap (secsW (l.take i)+(l[i].data.length:Int))=secsW (l.take (i+1)):=by rw [secsW_take hi];exact i64_fits (by omega)
  simp only [fn35_b0,F1,W,eWr,index_nat hi,List.getElem?_map,List.getElem?_eq_getElem hi,memAll,vAll,reduceCtorEq,Nat.reduceEqDiff,Nat.reduceAdd,Nat.reduceLT,Nat.reduceLeDiff,Nat.beq]
  rw [ih _ (by simp only [hi1];rfl)]
 ·intro rb
  simp only [fn35_b0,Int.lt_irrefl, memAll,vAll,reduceCtorEq,Nat.reduceEqDiff,Nat.reduceAdd,Nat.reduceLT,Nat.reduceLeDiff,Nat.beq]
  rfl
end Go.Proofs.YtpcncggjmabnaaaGreatDoor.V

namespace Go.Proofs.YtpcncggjmabnaaaGreatDoor
open V
def szW (l:List Wrt):Prop:=∀ x∈l,x.data.length≤140737488351232
def szQ (s:Spl):Prop:=∀ c∈s.cy,szW c.ws
theorem secsW_pos:∀ l:List Wrt,0≤secsW l
 |[]=>by simp [secsW]
 |x :: l=>by
  have:=secsW_pos l
  have e:secsW (x :: l)=(x.data.length:Int)+secsW l:=by simp [secsW]
  omega
end Go.Proofs.YtpcncggjmabnaaaGreatDoor

namespace Go.Proofs.YtpcncggjmabnaaaGreatDoor.V
namespace Z24
theorem loop35 {l:List Wrt} (hd:szW l) (hl:l.length≤1000) {st:St} (h:st.head [0,3,4] st.boxes.length=some ⟨sl 20 [(0,.pv (.list 3 (l.map eWr))),(3,.pv (.int .i64 (secsW (l.take ((0:Nat)))))),(4,.pv (.int .i64 (0:Nat)))],[],[],none⟩) :
  den env fn35_l1 st=some (.normal,⟨sl 20 [(2,.any),(3,.pv (.int .i64 (secsW l)))],[],[],none⟩):=by
 unfold fn35_l1
 refine clean_up (env:=env) (nb:=0) (l.length) (fun i=>⟨sl 20 [(0,.pv (.list 3 (l.map eWr))),(3,.pv (.int .i64 (secsW (l.take (i))))),(4,.pv (.int .i64 i))],[],[],none⟩) (fun i=>some (.normal,⟨sl 20 [(2,.any),(3,.pv (.int .i64 (secsW l)))],[],[],none⟩)) h (fun _=>rfl) (fun _=>by simp only [slAll,slsAll,Nat.reduceMul,Nat.reduceBEq,Nat.reduceLT,Nat.reduceLeDiff,Nat.reduceAdd,decide_true,Bool.and_self,Bool.true_and]) ?_ ?_
 ·intro i rb hi ih
  have hi1:=i64_next hi (Nat.le_trans hl (by decide))
  have F1:((i:Int)<(l.length:Int))=True:=eq_true (by omega)
  have hx:=eWr_at hi
  have h1:=secsW_lim (l:=l.take i) fun w hw=>hd w (List.mem_of_mem_take hw)
  have h2:=hd _ (List.getElem_mem hi)
  have h3:(l.take i).length≤1000:=by rw [List.length_take];omega
  have W:IntKind.i64.wrap (secsW (l.take i)+(l[i].data.length:Int))=secsW (l.take (i+1)):=by rw [secsW_take hi];exact i64_fits (by omega)
  simp only [fn35_b0,F1,hx,W,part3,index_nat hi,List.length_map,slAll,slsAll,Nat.reduceMul,Nat.reduceBEq,Nat.reduceLT,Nat.reduceLeDiff,memAll,vAll,reduceCtorEq,Nat.reduceEqDiff,Nat.reduceAdd,Nat.reduceLT,Nat.reduceLeDiff,Nat.beq]
  rw [ih _ (by simp only [hi1,slAll,slsAll,Nat.reduceMul,Nat.reduceBEq,Nat.reduceLT,Nat.reduceLeDiff,memAll,vAll,reduceCtorEq,Nat.reduceEqDiff,Nat.reduceAdd,Nat.reduceLT,Nat.reduceLeDiff,Nat.beq]<;>rfl)]
 ·intro rb
  rw [List.take_length]
  simp only [fn35_b0,Int.lt_irrefl,List.length_map,slAll,slsAll,Nat.reduceMul,Nat.reduceBEq,Nat.reduceLT,Nat.reduceLeDiff,memAll,vAll,reduceCtorEq,Nat.reduceEqDiff,Nat.reduceAdd,Nat.reduceLT,Nat.reduceLeDiff,Nat.beq]
theorem cal35z {l:List Wrt} (hd:szW l) (hl:l.length≤1000):cal env 35 [.list 3 (l.map eWr)]=some [(.int .i64 (secsW l),false)]:=by
 rw [cal_code env35 rfl];simp only [fn35,slAll,Nat.reduceBEq,Nat.reduceLeDiff,Nat.reduceAdd,List.length_cons,List.length_nil]
 simp only [ slAll,slsAll,Nat.reduceMul,Nat.reduceBEq,Nat.reduceLT,Nat.reduceLeDiff,memAll,vAll,reduceCtorEq,Nat.reduceEqDiff,Nat.reduceAdd,Nat.reduceLT,Nat.reduceLeDiff,Nat.beq]
 rw [loop35 hd hl (by simp only [List.take_zero];simp only [slAll,slsAll,Nat.reduceMul,Nat.reduceBEq,Nat.reduceLT,Nat.reduceLeDiff,Nat.reduceAdd,decide_true,Bool.and_self,Bool.true_and]<;>rfl)]
 simp only [ slAll,slsAll,Nat.reduceMul,Nat.reduceBEq,Nat.reduceLT,Nat.reduceLeDiff,memAll,vAll,reduceCtorEq,Nat.reduceEqDiff,Nat.reduceAdd,Nat.reduceLT,Nat.reduceLeDiff,Nat.beq]
end Z24
open Z24
def fewW (l:List Wrt):Bool:=decide (l.length≤40)&&decide (secsW l≤400)
theorem cal15 {l:List Wrt} (hd:szW l):cal env 15 [.list 3 (l.map eWr)]=some [(.bool (fewW l),false)]:=by
 unfold fewW
 by_cases h:l.length≤40
 ·have e1:=cal35z hd (by omega)
  have F1:((l.length:Int)≤40)=True:=eq_true (by omega)
  rw [decide_eq_true h,Bool.true_and]
  by_cases k:secsW l≤400
  ·have F2:=eq_true k
   rw [decide_eq_true k]
   rw [cal_code env15 rfl];simp only [fn15,slAll,Nat.reduceBEq,Nat.reduceLeDiff,Nat.reduceAdd,List.length_cons,List.length_nil]
   simp only [e1,F1,F2,List.length_map,slAll,slsAll,Nat.reduceMul,Nat.reduceBEq,Nat.reduceLT,Nat.reduceLeDiff,memAll,vAll,reduceCtorEq,Nat.reduceEqDiff,Nat.reduceAdd,Nat.reduceLT,Nat.reduceLeDiff,Nat.beq]
  ·have F2:=eq_false k
   rw [decide_eq_false k]
   rw [cal_code env15 rfl];simp only [fn15,slAll,Nat.reduceBEq,Nat.reduceLeDiff,Nat.reduceAdd,List.length_cons,List.length_nil]
   simp only [e1,F1,F2,List.length_map,slAll,slsAll,Nat.reduceMul,Nat.reduceBEq,Nat.reduceLT,Nat.reduceLeDiff,memAll,vAll,reduceCtorEq,Nat.reduceEqDiff,Nat.reduceAdd,Nat.reduceLT,Nat.reduceLeDiff,Nat.beq]
 ·have F1:((l.length:Int)≤40)=False:=eq_false (by omega)
  rw [decide_eq_false h,Bool.false_and]
  rw [cal_code env15 rfl];simp only [fn15,slAll,Nat.reduceBEq,Nat.reduceLeDiff,Nat.reduceAdd,List.length_cons,List.length_nil]
  simp only [F1,List.length_map,slAll,slsAll,Nat.reduceMul,Nat.reduceBEq,Nat.reduceLT,Nat.reduceLeDiff,memAll,vAll,reduceCtorEq,Nat.reduceEqDiff,Nat.reduceAdd,Nat.reduceLT,Nat.reduceLeDiff,Nat.beq]
theorem few_ok {l:List Wrt} (h:fewW l=true):l.length≤40∧secsW l≤400∧∀ x∈l,x.data.length≤400:=by
 unfold fewW at h
 simp only [Bool.and_eq_true,decide_eq_true_eq] at h
 refine ⟨h.1,h.2,?_⟩
 have:∀ {m:List Wrt},∀ x∈m,(x.data.length:Int)≤secsW m:=by
  intro m
  induction m with
  |nil=>intro x hx;cases hx
  |cons y m ih =>
   intro x hx
   have hp:=(secsW_pos m)
   have e:secsW (y :: m)=(y.data.length:Int)+secsW m:=by simp [secsW]
   rw [e]
   rcases List.mem_cons.1 hx with h|h
   ·rw [h];omega
   ·have:=ih x h;omega
 intro x hx
 have:=this x hx
 omega
def smC (c:Cye):Bool:=decide (c.pos.length≤10)&&fewW c.ws
def smallB (s:Spl):Bool:=(decide (s.sz.length≤8)&&(decide (s.cy.length≤8)&&decide (s.dt.length≤8)))&&(s.cy.all smC&&(s.dt.all (fun b=>decide (b.ws.length≤8))&&s.sz.all (fun n=>!(decide (n > 400)&&decide (n≤4096)))))
theorem allD_step {α:Type} {p:α→Bool} {l:List α} {i:Nat} (h:i<l.length):(l.drop i).all p=(p l[i]&&(l.drop (i+1)).all p):=by rw [List.drop_eq_getElem_cons h];rfl
theorem allD_end {α:Type} {p:α→Bool} (l:List α):(l.drop l.length).all p=true:=by rw [List.drop_length];rfl
def resSm (k1 k2:List (Nat × AV)) (n:Nat) (bx:List Box) (b:Bool):Option (Ex × St):=if b then some (.normal,⟨sl n k1,bx,[],none⟩) else some (.ret,⟨sl n k2,bx,[],none⟩)
theorem resSm_t (k1 k2:List (Nat × AV)) (n:Nat) (bx:List Box):resSm k1 k2 n bx true=some (.normal,⟨sl n k1,bx,[],none⟩):=rfl
theorem resSm_f (k1 k2:List (Nat × AV)) (n:Nat) (bx:List Box):resSm k1 k2 n bx false=some (.ret,⟨sl n k2,bx,[],none⟩):=rfl
theorem loop14 {s:Spl} (hz:szQ s) (hl:s.cy.length≤8) {st:St} (h:st.head [1,3] st.boxes.length=some ⟨sl 83 [(1,.pbox 0 0),(3,.pv (.int .i64 (0:Nat)))],[⟨false,bSpl s⟩],[],none⟩) :
  den env fn14_l1 st=resSm [(1,.pbox 0 0),(2,.any)] [(1,.pbox 0 0),(2,.pv (.bool false))] 83 [⟨false,bSpl s⟩] ((s.cy.drop ((0:Nat))).all smC):=by
 unfold fn14_l1
 refine clean_up (env:=env) (nb:=1) (s.cy.length) (fun i=>⟨sl 83 [(1,.pbox 0 0),(3,.pv (.int .i64 i))],[⟨false,bSpl s⟩],[],none⟩) (fun i=>resSm [(1,.pbox 0 0),(2,.any)] [(1,.pbox 0 0),(2,.pv (.bool false))] 83 [⟨false,bSpl s⟩] ((s.cy.drop (i)).all smC)) h (fun _=>rfl) (fun _=>by simp only [slAll,slsAll,Nat.reduceMul,Nat.reduceBEq,Nat.reduceLT,Nat.reduceLeDiff,Nat.reduceAdd,decide_true,Bool.and_self,Bool.true_and]) ?_ ?_
 ·intro i rb hi ih
  have hi1:=i64_next hi (by unfold lim;omega)
  have F1:((i:Int)<(s.cy.length:Int))=True:=eq_true (by omega)
  have hx:=eCye_at hi
  have e1:=cal15 (hz _ (List.getElem_mem hi))
  rw [allD_step hi]
  unfold smC
  by_cases c:s.cy[i].pos.length≤10
  ·have G:((s.cy[i].pos.length:Int) > 10)=False:=eq_false (by omega)
   rw [decide_eq_true c,Bool.true_and]
   cases c2:fewW s.cy[i].ws with
   |true =>
    rw [c2] at e1
    rw [Bool.true_and]
    simp only [fn14_b0,F1,G,e1,hx,part5,bSpl_eq,index_nat hi,List.length_map,slAll,slsAll,Nat.reduceMul,Nat.reduceBEq,Nat.reduceLT,Nat.reduceLeDiff,memAll,vAll,reduceCtorEq,Nat.reduceEqDiff,Nat.reduceAdd,Nat.reduceLT,Nat.reduceLeDiff,Nat.beq]
    rw [ih _ (by simp only [hi1,bSpl_eq,slAll,slsAll,Nat.reduceMul,Nat.reduceBEq,Nat.reduceLT,Nat.reduceLeDiff,memAll,vAll,reduceCtorEq,Nat.reduceEqDiff,Nat.reduceAdd,Nat.reduceLT,Nat.reduceLeDiff,Nat.beq]<;>rfl)]
    rfl
   |false =>
    rw [c2] at e1
    rw [Bool.false_and,resSm_f]
    simp only [fn14_b0,F1,G,e1,hx,part5,bSpl_eq,index_nat hi,List.length_map,slAll,slsAll,Nat.reduceMul,Nat.reduceBEq,Nat.reduceLT,Nat.reduceLeDiff,memAll,vAll,reduceCtorEq,Nat.reduceEqDiff,Nat.reduceAdd,Nat.reduceLT,Nat.reduceLeDiff,Nat.beq]
  ·have G:((s.cy[i].pos.length:Int) > 10)=True:=eq_true (by omega)
   rw [decide_eq_false c,Bool.false_and,Bool.false_and,resSm_f]
   simp only [fn14_b0,F1,G,hx,part5,bSpl_eq,index_nat hi,List.length_map,slAll,slsAll,Nat.reduceMul,Nat.reduceBEq,Nat.reduceLT,Nat.reduceLeDiff,memAll,vAll,reduceCtorEq,Nat.reduceEqDiff,Nat.reduceAdd,Nat.reduceLT,Nat.reduceLeDiff,Nat.beq]
 ·intro rb
  rw [allD_end,resSm_t]
  simp only [fn14_b0,Int.lt_irrefl,bSpl_eq,List.length_map,slAll,slsAll,Nat.reduceMul,Nat.reduceBEq,Nat.reduceLT,Nat.reduceLeDiff,memAll,vAll,reduceCtorEq,Nat.reduceEqDiff,Nat.reduceAdd,Nat.reduceLT,Nat.reduceLeDiff,Nat.beq]
theorem loop14l3 {s:Spl} (hl:s.dt.length≤8) {st:St} (h:st.head [1,4] st.boxes.length=some ⟨sl 83 [(1,.pbox 0 0),(4,.pv (.int .i64 (0:Nat)))],[⟨false,bSpl s⟩],[],none⟩) :
  den env fn14_l3 st=resSm [(1,.pbox 0 0),(2,.any)] [(1,.pbox 0 0),(2,.pv (.bool false))] 83 [⟨false,bSpl s⟩] ((s.dt.drop ((0:Nat))).all fun b=>decide (b.ws.length≤8)):=by
 unfold fn14_l3
 refine clean_up (env:=env) (nb:=1) (s.dt.length) (fun i=>⟨sl 83 [(1,.pbox 0 0),(4,.pv (.int .i64 i))],[⟨false,bSpl s⟩],[],none⟩) (fun i=>resSm [(1,.pbox 0 0),(2,.any)] [(1,.pbox 0 0),(2,.pv (.bool false))] 83 [⟨false,bSpl s⟩] ((s.dt.drop (i)).all fun b=>decide (b.ws.length≤8))) h (fun _=>rfl) (fun _=>by simp only [slAll,slsAll,Nat.reduceMul,Nat.reduceBEq,Nat.reduceLT,Nat.reduceLeDiff,Nat.reduceAdd,decide_true,Bool.and_self,Bool.true_and]) ?_ ?_
 ·intro i rb hi ih
  have hi1:=i64_next hi (by unfold lim;omega)
  have F1:((i:Int)<(s.dt.length:Int))=True:=eq_true (by omega)
  have hx:=eBm_at24 hi
  rw [allD_step hi]
  by_cases c:s.dt[i].ws.length≤8
  ·have G:((s.dt[i].ws.length:Int) > 8)=False:=eq_false (by omega)
   rw [decide_eq_true c,Bool.true_and]
   simp only [fn14_b2,F1,G,hx,part2,bSpl_eq,index_nat hi,List.length_map,slAll,slsAll,Nat.reduceMul,Nat.reduceBEq,Nat.reduceLT,Nat.reduceLeDiff,memAll,vAll,reduceCtorEq,Nat.reduceEqDiff,Nat.reduceAdd,Nat.reduceLT,Nat.reduceLeDiff,Nat.beq]
   rw [ih _ (by simp only [hi1,bSpl_eq,slAll,slsAll,Nat.reduceMul,Nat.reduceBEq,Nat.reduceLT,Nat.reduceLeDiff,memAll,vAll,reduceCtorEq,Nat.reduceEqDiff,Nat.reduceAdd,Nat.reduceLT,Nat.reduceLeDiff,Nat.beq]<;>rfl)]
   rfl
  ·have G:((s.dt[i].ws.length:Int) > 8)=True:=eq_true (by omega)
   rw [decide_eq_false c,Bool.false_and,resSm_f]
   simp only [fn14_b2,F1,G,hx,part2,bSpl_eq,index_nat hi,List.length_map,slAll,slsAll,Nat.reduceMul,Nat.reduceBEq,Nat.reduceLT,Nat.reduceLeDiff,memAll,vAll,reduceCtorEq,Nat.reduceEqDiff,Nat.reduceAdd,Nat.reduceLT,Nat.reduceLeDiff,Nat.beq]
 ·intro rb
  rw [allD_end,resSm_t]
  simp only [fn14_b2,Int.lt_irrefl,bSpl_eq,List.length_map,slAll,slsAll,Nat.reduceMul,Nat.reduceBEq,Nat.reduceLT,Nat.reduceLeDiff,memAll,vAll,reduceCtorEq,Nat.reduceEqDiff,Nat.reduceAdd,Nat.reduceLT,Nat.reduceLeDiff,Nat.beq]
theorem loop14l5 {s:Spl} (hl:s.sz.length≤8) {st:St} (h:st.head [1,5] st.boxes.length=some ⟨sl 83 [(1,.pbox 0 0),(5,.pv (.int .i64 (0:Nat)))],[⟨false,bSpl s⟩],[],none⟩) :
  den env fn14_l5 st=resSm [(2,.any)] [(2,.pv (.bool false))] 83 [⟨false,bSpl s⟩] ((s.sz.drop ((0:Nat))).all fun n=>!(decide (n > 400)&&decide (n≤4096))):=by
 unfold fn14_l5
 refine clean_up (env:=env) (nb:=1) (s.sz.length) (fun i=>⟨sl 83 [(1,.pbox 0 0),(5,.pv (.int .i64 i))],[⟨false,bSpl s⟩],[],none⟩) (fun i=>resSm [(2,.any)] [(2,.pv (.bool false))] 83 [⟨false,bSpl s⟩] ((s.sz.drop (i)).all fun n=>!(decide (n > 400)&&decide (n≤4096)))) h (fun _=>rfl) (fun _=>by simp only [slAll,slsAll,Nat.reduceMul,Nat.reduceBEq,Nat.reduceLT,Nat.reduceLeDiff,Nat.reduceAdd,decide_true,Bool.and_self,Bool.true_and]) ?_ ?_
 ·intro i rb hi ih
  have hi1:=i64_next hi (by unfold lim;omega)
  have F1:((i:Int)<(s.sz.length:Int))=True:=eq_true (by omega)
  have hx:=eI_at24 hi
  rw [allD_step hi]
  by_cases c:s.sz[i] > 400
  ·have G:=eq_true c
   rw [decide_eq_true c,Bool.true_and]
   by_cases d:s.sz[i]≤4096
   ·have G2:=eq_true d
    rw [decide_eq_true d,Bool.not_true,Bool.false_and,resSm_f]
    simp only [fn14_b4,F1,G,G2,hx,bSpl_eq,index_nat hi,List.length_map,slAll,slsAll,Nat.reduceMul,Nat.reduceBEq,Nat.reduceLT,Nat.reduceLeDiff,memAll,vAll,reduceCtorEq,Nat.reduceEqDiff,Nat.reduceAdd,Nat.reduceLT,Nat.reduceLeDiff,Nat.beq]
   ·have G2:=eq_false d
    rw [decide_eq_false d,Bool.not_false,Bool.true_and]
    simp only [fn14_b4,F1,G,G2,hx,bSpl_eq,index_nat hi,List.length_map,slAll,slsAll,Nat.reduceMul,Nat.reduceBEq,Nat.reduceLT,Nat.reduceLeDiff,memAll,vAll,reduceCtorEq,Nat.reduceEqDiff,Nat.reduceAdd,Nat.reduceLT,Nat.reduceLeDiff,Nat.beq]
    rw [ih _ (by simp only [hi1,bSpl_eq,slAll,slsAll,Nat.reduceMul,Nat.reduceBEq,Nat.reduceLT,Nat.reduceLeDiff,memAll,vAll,reduceCtorEq,Nat.reduceEqDiff,Nat.reduceAdd,Nat.reduceLT,Nat.reduceLeDiff,Nat.beq]<;>rfl)]
    rfl
  ·have G:=eq_false c
   rw [decide_eq_false c,Bool.false_and,Bool.not_false,Bool.true_and]
   simp only [fn14_b4,F1,G,hx,bSpl_eq,index_nat hi,List.length_map,slAll,slsAll,Nat.reduceMul,Nat.reduceBEq,Nat.reduceLT,Nat.reduceLeDiff,memAll,vAll,reduceCtorEq,Nat.reduceEqDiff,Nat.reduceAdd,Nat.reduceLT,Nat.reduceLeDiff,Nat.beq]
   rw [ih _ (by simp only [hi1,bSpl_eq,slAll,slsAll,Nat.reduceMul,Nat.reduceBEq,Nat.reduceLT,Nat.reduceLeDiff,memAll,vAll,reduceCtorEq,Nat.reduceEqDiff,Nat.reduceAdd,Nat.reduceLT,Nat.reduceLeDiff,Nat.beq]<;>rfl)]
   rfl
 ·intro rb
  rw [allD_end,resSm_t]
  simp only [fn14_b4,Int.lt_irrefl,bSpl_eq,List.length_map,slAll,slsAll,Nat.reduceMul,Nat.reduceBEq,Nat.reduceLT,Nat.reduceLeDiff,memAll,vAll,reduceCtorEq,Nat.reduceEqDiff,Nat.reduceAdd,Nat.reduceLT,Nat.reduceLeDiff,Nat.beq]
set_option maxRecDepth 20000 in
theorem cal14 {s:Spl} (hz:szQ s):cal env 14 [eSpl s]=some [(.bool (smallB s),false)]:=by
 rw [eSpl_eq]
 unfold smallB
 by_cases c1:s.sz.length≤8
 rotate_left
 ·have G1:((s.sz.length:Int) > 8)=True:=eq_true (by omega)
  rw [decide_eq_false c1,Bool.false_and,Bool.false_and]
  rw [cal_code env14 rfl];simp only [fn14,slAll,Nat.reduceBEq,Nat.reduceLeDiff,Nat.reduceAdd,List.length_cons,List.length_nil]
  simp only [G1,List.length_map,slAll,slsAll,Nat.reduceMul,Nat.reduceBEq,Nat.reduceLT,Nat.reduceLeDiff,memAll,vAll,reduceCtorEq,Nat.reduceEqDiff,Nat.reduceAdd,Nat.reduceLT,Nat.reduceLeDiff,Nat.beq]
 have G1:((s.sz.length:Int) > 8)=False:=eq_false (by omega)
 rw [decide_eq_true c1,Bool.true_and]
 by_cases c2:s.cy.length≤8
 rotate_left
 ·have G2:((s.cy.length:Int) > 8)=True:=eq_true (by omega)
  rw [decide_eq_false c2,Bool.false_and,Bool.false_and]
  rw [cal_code env14 rfl];simp only [fn14,slAll,Nat.reduceBEq,Nat.reduceLeDiff,Nat.reduceAdd,List.length_cons,List.length_nil]
  simp only [G1,G2,List.length_map,slAll,slsAll,Nat.reduceMul,Nat.reduceBEq,Nat.reduceLT,Nat.reduceLeDiff,memAll,vAll,reduceCtorEq,Nat.reduceEqDiff,Nat.reduceAdd,Nat.reduceLT,Nat.reduceLeDiff,Nat.beq]
 have G2:((s.cy.length:Int) > 8)=False:=eq_false (by omega)
 rw [decide_eq_true c2,Bool.true_and]
 by_cases c3:s.dt.length≤8
 rotate_left
 ·have G3:((s.dt.length:Int) > 8)=True:=eq_true (by omega)
  rw [decide_eq_false c3,Bool.false_and]
  rw [cal_code env14 rfl];simp only [fn14,slAll,Nat.reduceBEq,Nat.reduceLeDiff,Nat.reduceAdd,List.length_cons,List.length_nil]
  simp only [G1,G2,G3,List.length_map,slAll,slsAll,Nat.reduceMul,Nat.reduceBEq,Nat.reduceLT,Nat.reduceLeDiff,memAll,vAll,reduceCtorEq,Nat.reduceEqDiff,Nat.reduceAdd,Nat.reduceLT,Nat.reduceLeDiff,Nat.beq]
 have G3:((s.dt.length:Int) > 8)=False:=eq_false (by omega)
 rw [decide_eq_true c3,Bool.true_and]
 rw [cal_code env14 rfl];simp only [fn14,slAll,Nat.reduceBEq,Nat.reduceLeDiff,Nat.reduceAdd,List.length_cons,List.length_nil]
 simp only [G1,G2,G3,List.length_map,slAll,slsAll,Nat.reduceMul,Nat.reduceBEq,Nat.reduceLT,Nat.reduceLeDiff,memAll,vAll,reduceCtorEq,Nat.reduceEqDiff,Nat.reduceAdd,Nat.reduceLT,Nat.reduceLeDiff,Nat.beq]
 rw [loop14 (s:=s) hz c2 (by simp only [bSpl_eq];simp only [slAll,slsAll,Nat.reduceMul,Nat.reduceBEq,Nat.reduceLT,Nat.reduceLeDiff,Nat.reduceAdd,decide_true,Bool.and_self,Bool.true_and]<;>rfl),List.drop_zero]
 cases s.cy.all smC with
 |false=>rw [resSm_f,Bool.false_and];simp only [bSpl_eq,slAll,slsAll,Nat.reduceMul,Nat.reduceBEq,Nat.reduceLT,Nat.reduceLeDiff,memAll,vAll,reduceCtorEq,Nat.reduceEqDiff,Nat.reduceAdd,Nat.reduceLT,Nat.reduceLeDiff,Nat.beq]
 |true =>
  rw [resSm_t,Bool.true_and]
  simp only [bSpl_eq,slAll,slsAll,Nat.reduceMul,Nat.reduceBEq,Nat.reduceLT,Nat.reduceLeDiff,memAll,vAll,reduceCtorEq,Nat.reduceEqDiff,Nat.reduceAdd,Nat.reduceLT,Nat.reduceLeDiff,Nat.beq]
  rw [loop14l3 (s:=s) c3 (by simp only [bSpl_eq];simp only [slAll,slsAll,Nat.reduceMul,Nat.reduceBEq,Nat.reduceLT,Nat.reduceLeDiff,Nat.reduceAdd,decide_true,Bool.and_self,Bool.true_and]<;>rfl),List.drop_zero]
  cases s.dt.all (fun b=>decide (b.ws.length≤8)) with
  |false=>rw [resSm_f,Bool.false_and];simp only [bSpl_eq,slAll,slsAll,Nat.reduceMul,Nat.reduceBEq,Nat.reduceLT,Nat.reduceLeDiff,memAll,vAll,reduceCtorEq,Nat.reduceEqDiff,Nat.reduceAdd,Nat.reduceLT,Nat.reduceLeDiff,Nat.beq]
  |true =>
   rw [resSm_t,Bool.true_and]
   simp only [bSpl_eq,slAll,slsAll,Nat.reduceMul,Nat.reduceBEq,Nat.reduceLT,Nat.reduceLeDiff,memAll,vAll,reduceCtorEq,Nat.reduceEqDiff,Nat.reduceAdd,Nat.reduceLT,Nat.reduceLeDiff,Nat.beq]
   rw [loop14l5 (s:=s) c1 (by simp only [bSpl_eq];simp only [slAll,slsAll,Nat.reduceMul,Nat.reduceBEq,Nat.reduceLT,Nat.reduceLeDiff,Nat.reduceAdd,decide_true,Bool.and_self,Bool.true_and]<;>rfl),List.drop_zero]
   cases s.sz.all (fun n=>!(decide (n > 400)&&decide (n≤4096))) with
   |false=>rw [resSm_f];simp only [bSpl_eq,slAll,slsAll,Nat.reduceMul,Nat.reduceBEq,Nat.reduceLT,Nat.reduceLeDiff,memAll,vAll,reduceCtorEq,Nat.reduceEqDiff,Nat.reduceAdd,Nat.reduceLT,Nat.reduceLeDiff,Nat.beq]
   |true=>rw [resSm_t];simp only [bSpl_eq,slAll,slsAll,Nat.reduceMul,Nat.reduceBEq,Nat.reduceLT,Nat.reduceLeDiff,memAll,vAll,reduceCtorEq,Nat.reduceEqDiff,Nat.reduceAdd,Nat.reduceLT,Nat.reduceLeDiff,Nat.beq]
theorem small_sm {s:Spl} (h:smallB s=true):smQ s:=by
 unfold smallB at h
 simp only [Bool.and_eq_true,decide_eq_true_eq,List.all_eq_true] at h
 obtain ⟨⟨h1,h2,h3⟩,h4,h5,h6⟩:=h
 refine ⟨by omega,by omega,by omega,fun c hc=>?_,fun b hb=>by have:=h5 b hb;omega⟩
 have:=h4 c hc
 unfold smC at this
 simp only [Bool.and_eq_true,decide_eq_true_eq] at this
 obtain ⟨k1,k2,k3⟩:=few_ok this.2
 exact ⟨by omega,by omega,fun x hx=>by have:=k3 x hx;omega⟩
def zCye:Cye:=⟨0,0,0,[],[]⟩
theorem eCye_z:eCye zCye=.agg [.int .i64 0,.int .i64 0,.int .i64 0,.list 1 [],.list 3 []]:=rfl
def frC (s:Spl):Cye:=if chkQ s=0 then s.cy.headD zCye else zCye
def frO (s:Spl):Bool:=(chkQ s==0)&&!s.cy.isEmpty
--+
theorem cal18 {s:Spl} (hq:smQ s):cal env 18 [eSpl s]=some [(eCye (frC s),false),(.bool (frO s),false)]:=by
 have e1:=cal20 hq
 rw [eSpl_eq] at e1 ⊢
 unfold frC frO
 by_cases c:chkQ s=0
 ·rw [c] at e1
  rw [if_pos c,c]
  have Z:((0:Int) != 0)=false:=rfl
  have Z2:((0:Int)==0)=true:=rfl
  cases hc:s.cy with
  |nil =>
   rw [hc,List.map_nil] at e1
   have L:(((([]:List PV).length:Nat):Int)==0)=true:=rfl
   rw [show (([]:List Cye).headD zCye)=zCye from rfl,eCye_z]
   rw [cal_code env18 rfl];simp only [fn18,slAll,Nat.reduceBEq,Nat.reduceLeDiff,Nat.reduceAdd,List.length_cons,List.length_nil]
   simp only [hc,e1,Z,Z2,L,part7,List.isEmpty_nil,slAll,slsAll,Nat.reduceMul,Nat.reduceBEq,Nat.reduceLT,Nat.reduceLeDiff,memAll,vAll,reduceCtorEq,Nat.reduceEqDiff,Nat.reduceAdd,Nat.reduceLT,Nat.reduceLeDiff,Nat.beq]
   try rfl
  |cons x l =>
   have e2:=cal48 (hq.c1 x (by rw [hc];simp))
   have L:(((x :: l).length:Int)==0)=false:=by simp;omega
   rw [hc] at e1
   have I0:index (.int .i64 0) (l.length+1)=some 0:=index_nat (i:=0) (by omega)
   have hx:((x :: l).map eCye)[0]?=some (.agg [.int .i64 x.base,.int .i64 x.num,.int .i64 x.time,.list 1 (x.pos.map eI),.list 3 (x.ws.map eWr)]):=rfl
   rw [show ((x :: l).headD zCye)=x from rfl,eCye_eq x]
   rw [eCye_eq x] at e2
   generalize hm:(x :: l).map eCye=M at *
   have hl:M.length=l.length+1:=by rw [← hm];simp
   have L2:(((l.length+1:Nat):Int)==0)=false:=by simp;omega
   rw [cal_code env18 rfl];simp only [fn18,slAll,Nat.reduceBEq,Nat.reduceLeDiff,Nat.reduceAdd,List.length_cons,List.length_nil]
   simp only [hc,hm,hl,e1,e2,Z,Z2,L2,I0,hx,part7,part5,List.isEmpty_cons,slAll,slsAll,Nat.reduceMul,Nat.reduceBEq,Nat.reduceLT,Nat.reduceLeDiff,memAll,vAll,reduceCtorEq,Nat.reduceEqDiff,Nat.reduceAdd,Nat.reduceLT,Nat.reduceLeDiff,Nat.beq]
   try rfl
 ·rw [if_neg c,eCye_z]
  have Z:(chkQ s != 0)=true:=by simp [c]
  have Z2:(chkQ s==0)=false:=by simp [c]
  rw [cal_code env18 rfl];simp only [fn18,slAll,Nat.reduceBEq,Nat.reduceLeDiff,Nat.reduceAdd,List.length_cons,List.length_nil]
  simp only [e1,Z,Z2,part7,slAll,slsAll,Nat.reduceMul,Nat.reduceBEq,Nat.reduceLT,Nat.reduceLeDiff,memAll,vAll,reduceCtorEq,Nat.reduceEqDiff,Nat.reduceAdd,Nat.reduceLT,Nat.reduceLeDiff,Nat.beq]
--+
theorem cal19 {s:Spl} (hq:smQ s):cal env 19 [eSpl s]=some [(eCye (frC s),false),(.bool (frO s),false)]:=by
 have e1:=cal21 hq
 rw [eSpl_eq] at e1 ⊢
 unfold frC frO
 by_cases c:chkQ s=0
 ·rw [c] at e1
  rw [if_pos c,c]
  have Z:((0:Int) != 0)=false:=rfl
  have Z2:((0:Int)==0)=true:=rfl
  cases hc:s.cy with
  |nil =>
   rw [hc,List.map_nil] at e1
   have L:(((([]:List PV).length:Nat):Int)==0)=true:=rfl
   rw [show (([]:List Cye).headD zCye)=zCye from rfl,eCye_z]
   rw [cal_code env19 rfl];simp only [fn19,slAll,Nat.reduceBEq,Nat.reduceLeDiff,Nat.reduceAdd,List.length_cons,List.length_nil]
   simp only [hc,e1,Z,Z2,L,part7,List.isEmpty_nil,slAll,slsAll,Nat.reduceMul,Nat.reduceBEq,Nat.reduceLT,Nat.reduceLeDiff,memAll,vAll,reduceCtorEq,Nat.reduceEqDiff,Nat.reduceAdd,Nat.reduceLT,Nat.reduceLeDiff,Nat.beq]
   try rfl
  |cons x l =>
   have e2:=cal48 (hq.c1 x (by rw [hc];simp))
   have L:(((x :: l).length:Int)==0)=false:=by simp;omega
   rw [hc] at e1
   have I0:index (.int .i64 0) (l.length+1)=some 0:=index_nat (i:=0) (by omega)
   have hx:((x :: l).map eCye)[0]?=some (.agg [.int .i64 x.base,.int .i64 x.num,.int .i64 x.time,.list 1 (x.pos.map eI),.list 3 (x.ws.map eWr)]):=rfl
   rw [show ((x :: l).headD zCye)=x from rfl,eCye_eq x]
   rw [eCye_eq x] at e2
   generalize hm:(x :: l).map eCye=M at *
   have hl:M.length=l.length+1:=by rw [← hm];simp
   have L2:(((l.length+1:Nat):Int)==0)=false:=by simp;omega
   rw [cal_code env19 rfl];simp only [fn19,slAll,Nat.reduceBEq,Nat.reduceLeDiff,Nat.reduceAdd,List.length_cons,List.length_nil]
   simp only [hc,hm,hl,e1,e2,Z,Z2,L2,I0,hx,part7,part5,List.isEmpty_cons,slAll,slsAll,Nat.reduceMul,Nat.reduceBEq,Nat.reduceLT,Nat.reduceLeDiff,memAll,vAll,reduceCtorEq,Nat.reduceEqDiff,Nat.reduceAdd,Nat.reduceLT,Nat.reduceLeDiff,Nat.beq]
   try rfl
 ·rw [if_neg c,eCye_z]
  have Z:(chkQ s != 0)=true:=by simp [c]
  have Z2:(chkQ s==0)=false:=by simp [c]
  rw [cal_code env19 rfl];simp only [fn19,slAll,Nat.reduceBEq,Nat.reduceLeDiff,Nat.reduceAdd,List.length_cons,List.length_nil]
  simp only [e1,Z,Z2,part7,slAll,slsAll,Nat.reduceMul,Nat.reduceBEq,Nat.reduceLT,Nat.reduceLeDiff,memAll,vAll,reduceCtorEq,Nat.reduceEqDiff,Nat.reduceAdd,Nat.reduceLT,Nat.reduceLeDiff,Nat.beq]
end Go.Proofs.YtpcncggjmabnaaaGreatDoor.V

namespace Go.Proofs.YtpcncggjmabnaaaGreatDoor.V
end Go.Proofs.YtpcncggjmabnaaaGreatDoor.V

namespace Go.Proofs.YtpcncggjmabnaaaGreatDoor.V
theorem bmZ_ok {z:List Int} {l:List Bm} (h:bmZ z l):∀ b∈l,b.ws.length≤lim:=fun b hb=>by
 obtain ⟨i,hi⟩:=List.mem_iff_getElem?.1 hb
 obtain ⟨h1,h2⟩:=List.getElem?_eq_some_iff.1 hi
 have:=okB_size (h.2 i h1).1
 rw [h2] at this
 unfold lim;omega
theorem okCy_lim {c:Cye} (h:okCy c):c.pos.length≤lim∧c.ws.length≤lim∧∀ x∈c.ws,x.data.length≤lim :=
 ⟨Nat.le_trans h.1 (by decide),Nat.le_trans h.2.1 (by decide),fun x hx=>Nat.le_trans (h.2.2 x hx) (by decide)⟩
theorem okQ_z:okQ zSpl:=⟨Nat.zero_le _,Nat.zero_le _,Nat.zero_le _,fun c hc=>(by cases hc),fun b hb=>(by cases hb)⟩
theorem pushS_ok {s:Spl} {c:Cye} (hq:smQ s) (hc:okCy c):okQ (pushS s c):=by
 unfold pushS
 by_cases h:pushE s c=0
 rotate_left
 ·rw [if_neg h];exact okQ_z
 rw [if_pos h]
 have h1:chkQ s=0:=by
  unfold pushE at h
  split at h
  ·assumption
  ·rename_i k;exact absurd h k
 have h2:ckY s.sz c=0:=by
  unfold pushE at h
  rw [if_pos h1] at h
  split at h
  ·assumption
  ·rename_i k;exact absurd h k
 obtain ⟨k1,k2,k3⟩:=chk_q h1
 have hw:=ckY_fit h2
 have hcy:=hq.cy
 have hsz:=hq.sz
 have hcs:∀ x∈s.cy++[c],okCy x:=fun x hx=>by
  rcases List.mem_append.1 hx with h|h
  ·exact hq.c1 x h
  ·rw [List.mem_singleton.1 h];exact hc
 rcases k3 with ⟨g0,g1,g2,g3⟩|⟨g0,g1,g2,g3⟩
 ·rw [g0,if_pos rfl]
  have hz:=mkL_z (bmsX_z g3) hw
  exact ⟨hq.ok.1,hq.ok.2,by show (mkL c.ws s.dt).length≤lim;rw [hz.1];unfold lim;omega,fun x hx=>okCy_lim (hq.c1 x hx),bmZ_ok hz⟩
 ·rw [g0,if_neg Bool.false_ne_true]
  unfold addC
  split
  ·refine ⟨hq.ok.1,?_,hq.ok.3,fun x hx=>okCy_lim (hcs x hx),fun b hb=>hq.ok.5 b hb⟩
   show (s.cy++[c]).length≤lim
   rw [List.length_append];simp;unfold lim;omega
  ·have hz:=mkLs_z (cs:=s.cy++[c]) (new_z (sizes_z k1)) (fun x hx=>by
    rcases List.mem_append.1 hx with h|h
    ·exact ckY_fit (quX_all g3 x h)
    ·rw [List.mem_singleton.1 h];exact hw)
   exact ⟨hq.ok.1,Nat.zero_le _,by show (mkLs (s.sz.map newO) (s.cy++[c])).length≤lim;rw [hz.1];unfold lim;omega,fun x hx=>(by cases hx),bmZ_ok hz⟩
theorem frC_ok {s:Spl} (hq:smQ s):(frC s).pos.length≤lim∧(frC s).ws.length≤lim∧∀ x∈(frC s).ws,x.data.length≤lim:=by
 have hz:okCy zCye:=⟨Nat.zero_le _,Nat.zero_le _,fun x hx=>by cases hx⟩
 unfold frC
 split
 ·cases h:s.cy with
  |nil=>exact okCy_lim hz
  |cons x l=>exact okCy_lim (hq.c1 x (by rw [h];simp))
 ·exact okCy_lim hz
set_option maxRecDepth 40000 in
set_option maxHeartbeats 1000000 in
theorem cal4 {s:Spl} {c:Cye} (hz:szQ s) (hw:szW c.ws):cal env 4 [eSpl s,eCye c]=some [(.bool true,false)]:=by
 have a1:=calAwake
 have e0:=cal14 hz
 have e01:=cal15 hw
 cases c0:smallB s with
 |false =>
  rw [c0] at e0
  rw [eSpl_eq,eCye_eq] at *
  rw [cal_code env4 rfl];simp only [fn4,slAll,Nat.reduceBEq,Nat.reduceLeDiff,Nat.reduceAdd,List.length_cons,List.length_nil]
  simp only [a1,e0,part7,part5,List.length_map,slAll,slsAll,Nat.reduceMul,Nat.reduceBEq,Nat.reduceLT,Nat.reduceLeDiff,memAll,vAll,reduceCtorEq,Nat.reduceEqDiff,Nat.reduceAdd,Nat.reduceLT,Nat.reduceLeDiff,Nat.beq]
 |true =>
  rw [c0] at e0
  cases c1:fewW c.ws with
  |false =>
   rw [c1] at e01
   rw [eSpl_eq] at e0
   rw [eSpl_eq,eCye_eq]
   rw [cal_code env4 rfl];simp only [fn4,slAll,Nat.reduceBEq,Nat.reduceLeDiff,Nat.reduceAdd,List.length_cons,List.length_nil]
   simp only [a1,e0,e01,part7,part5,List.length_map,slAll,slsAll,Nat.reduceMul,Nat.reduceBEq,Nat.reduceLT,Nat.reduceLeDiff,memAll,vAll,reduceCtorEq,Nat.reduceEqDiff,Nat.reduceAdd,Nat.reduceLT,Nat.reduceLeDiff,Nat.beq]
  |true =>
   rw [c1] at e01
   by_cases c2:c.pos.length > 20
   ·have F2:((c.pos.length:Int) > 20)=True:=eq_true (by omega)
    rw [eSpl_eq] at e0
    rw [eSpl_eq,eCye_eq]
    rw [cal_code env4 rfl];simp only [fn4,slAll,Nat.reduceBEq,Nat.reduceLeDiff,Nat.reduceAdd,List.length_cons,List.length_nil]
    simp only [a1,e0,e01,F2,part7,part5,List.length_map,slAll,slsAll,Nat.reduceMul,Nat.reduceBEq,Nat.reduceLT,Nat.reduceLeDiff,memAll,vAll,reduceCtorEq,Nat.reduceEqDiff,Nat.reduceAdd,Nat.reduceLT,Nat.reduceLeDiff,Nat.beq]
   ·have F2:((c.pos.length:Int) > 20)=False:=eq_false (by omega)
    have hq:=small_sm c0
    obtain ⟨w1,w2,w3⟩:=few_ok c1
    have hc:okCy c:=⟨by omega,by omega,fun x hx=>by have:=w3 x hx;omega⟩
    have e1:=cal16 hq hc
    have e2:=cal17 hq hc
    have e3:=cal13 (pushS_ok hq hc)
    have e4:=cal18 hq
    have e5:=cal19 hq
    have e6:=cal20 hq
    have e7:=cal21 hq
    obtain ⟨f1,f2,f3⟩:=frC_ok hq
    have e8:=cal22 (b:=(frC s).base) (n:=(frC s).num) (t:=(frC s).time) (p:=(frC s).pos) (w:=(frC s).ws) f1 f2 f3
    unfold eCyc at e8
    have N:(pushE s c==pushE s c)=true:=by simp
    have N2:(chkQ s==chkQ s)=true:=by simp
    have N3:(frO s==frO s)=true:=by simp
    generalize pushS s c=q at *
    generalize pushE s c=e at *
    generalize frC s=y at *
    generalize frO s=o at *
    generalize chkQ s=k at *
    rw [eSpl_eq,eCye_eq]
    rw [eSpl_eq] at e0 e6 e7
    rw [eSpl_eq,eCye_eq] at e1 e2
    rw [eSpl_eq,eCye_eq] at e4 e5
    rw [eSpl_eq q] at e1 e2 e3
    rw [cal_code env4 rfl];simp only [fn4,slAll,Nat.reduceBEq,Nat.reduceLeDiff,Nat.reduceAdd,List.length_cons,List.length_nil]
    simp only [a1,e0,e01,e1,e2,e3,e4,e5,e6,e7,e8,F2,N,N2,N3,part7,part5,List.length_map,slAll,slsAll,Nat.reduceMul,Nat.reduceBEq,Nat.reduceLT,Nat.reduceLeDiff,memAll,vAll,reduceCtorEq,Nat.reduceEqDiff,Nat.reduceAdd,Nat.reduceLT,Nat.reduceLeDiff,Nat.beq]
    try rfl
end Go.Proofs.YtpcncggjmabnaaaGreatDoor.V

namespace Go.Proofs.YtpcncggjmabnaaaGreatDoor
open Go.RowKit Go.ChangeShapes Go.WideShapes Go.ChangeAt
theorem resrep_true {T:Tags} {w:World} {b:Bool} {v:Value} (h:ResRep T w [(.bool b,false)] v):v=.bool b:=by
 obtain ⟨arr,h1,h2,h3⟩:=h
 have ha:arr.size=1:=h1
 have e0:arr[0]?=some arr[0]:=Array.getElem?_eq_getElem (by omega)
 have hv:v=arr[0]:=by rw [h2,if_pos ha,Array.getD_eq_getD_getElem?,e0];rfl
 have hr:PRep (fun b=>T b=.ro) w (.bool b) arr[0]:=h3 0 (.bool b,false) arr[0] rfl e0
 rw [hv]
 exact hr.bool_inv
def GlobIn (w:World):Prop:=GlobOk (fun b=>if b<w.heap.size then .ro else .other) w
theorem calls_true {P:Program} {env:Env} {f:Nat} {args:List PV} {vs:List Value} {w:World} (hE:EnvOk P env) (h:cal env f args=some [(.bool true,false)]) (hl:vs.length=args.length)
  (hr:∀ (i:Nat) x v,args[i]?=some x→vs[i]?=some v→PRep (fun b=>b<w.heap.size) w x v) (hG:GlobIn w):Calls P f vs.toArray w (fun e w'=>e=.returned (.bool true)∧Below w.heap.size w w'):=by
 obtain ⟨n,hn⟩:=vmCall_of_cal h
 have hC:=(vmCall_ok hE hn).2 (fun b=>if b<w.heap.size then .ro else .other) w vs (fun b=>by
  by_cases hb:b<w.heap.size
  ·exact .inl (if_pos hb)
  ·exact .inr (if_neg hb)) (fun b hb=>if_neg (by omega)) hl (fun i x v hx hv=>(hr i x v hx hv).frame fun b hb _=>⟨if_pos hb,rfl⟩) hG
 refine hC.mono ?_
 rintro e w' ⟨v,T',rfl,h1,_,_,h2⟩
 exact ⟨by rw [resrep_true h2],h1⟩
def RepAll (w:World):List PV→List Value→Prop
 |[],[]=>True
 |x :: xs,v :: vs=>PRep (fun b=>b<w.heap.size) w x v∧RepAll w xs vs
 |_,_=>False
theorem RepAll.get {w:World}:∀ {xs:List PV} {vs:List Value},RepAll w xs vs→vs.length=xs.length∧∀ (i:Nat) x v,xs[i]?=some x→vs[i]?=some v→PRep (fun b=>b<w.heap.size) w x v
 |[],[],_=>⟨rfl,fun i x v hx=>by simp at hx⟩
 |x :: xs,v :: vs,h=>by
  obtain ⟨h1,h2⟩:=h
  obtain ⟨k1,k2⟩:=h2.get
  refine ⟨by simp [k1],fun i y u hy hu=>?_⟩
  cases i with
  |zero=>cases hy;cases hu;exact h1
  |succ i=>exact k2 i y u hy hu
 |[],_ :: _,h=>h.elim
 |_ :: _,[],h=>h.elim
theorem calls_all {P:Program} {env:Env} {f:Nat} {args:List PV} {vs:List Value} {w:World} (hE:EnvOk P env) (h:cal env f args=some [(.bool true,false)]) (hr:RepAll w args vs) (hG:GlobIn w:=by exact GlobIn.none):Calls P f vs.toArray w (fun e w'=>e=.returned (.bool true)∧Below w.heap.size w w') :=
 calls_true hE h hr.get.1 hr.get.2 hG
def CRep (w:World) (cs:List Value) (ps:List PV):Prop :=
 cs.length=ps.length∧(∀ c∈cs,c.oneCell'=true)∧∀ (j:Nat) x v,ps[j]?=some x→cs[j]?=some v→PRep (fun b=>b<w.heap.size) w x v
def RdsC (P:Program) (t:TypeId) (n:Nat) (S:List PV→Prop):Prop :=
 P.cellsOf t=n∧∀ {H:Type} {enc:TypeId × Value→H} {w:World} {fuel:Nat} {cs:List Value} {x:DataW H × List MemPlace},DataW.trod enc P w 0 (fun _=>true) true fuel t cs=some x→∃ ps,S ps∧ps.length=n∧CRep w cs ps
def SInt (k:IntKind) (ps:List PV):Prop:=∃ n,(Lit.int k n).wf=true∧ps=[.int k n]
def SBool (ps:List PV):Prop:=∃ b,ps=[.bool b]
def SArr (n:Nat) (S:List PV→Prop) (ps:List PV):Prop:=ps.length=n∧∀ p∈ps,S [p]
def wrS (ps:List PV):PV:=ps.headD .void
def SList (n:Nat) (S:List PV→Prop) (wr:List PV→PV) (ps:List PV):Prop:=∃ es,ps=[.list n es]∧∀ x∈es,∃ q,S q∧x=wr q
def SCat:List (List PV→Prop)→List PV→Prop
 |[],ps=>ps=[]
 |S :: Ss,ps=>∃ p q,ps=p++q∧S p∧SCat Ss q
section
variable {P:Program} {t e:TypeId} {n m:Nat} {S:List PV→Prop} {k:IntKind}
theorem crep_one {w:World} {c:Value} {p:PV} (hc:c.oneCell'=true) (h:PRep (fun b=>b<w.heap.size) w p c):CRep w [c] [p] :=
 ⟨rfl,fun x hx=>by rw [List.mem_singleton.1 hx];exact hc,fun j x v hx hv=>by
  cases j with
  |zero=>cases hx;cases hv;exact h
  |succ j=>simp at hx⟩
theorem RdsC.int (ht:P.underlying t=some (.int k)) (hc:P.cellsOf t=1):RdsC P t 1 (SInt k):=⟨hc,fun h=>by
 obtain ⟨n,rfl,_,hw⟩:=DataW.trod_int ht h
 exact ⟨[.int k n],⟨n,hw,rfl⟩,rfl,crep_one rfl (.int k n)⟩⟩
theorem RdsC.bool (ht:P.underlying t=some .bool) (hc:P.cellsOf t=1):RdsC P t 1 SBool:=⟨hc,fun h=>by
 obtain ⟨b,rfl,_⟩:=DataW.trod_bool ht h
 exact ⟨[.bool b],⟨b,rfl⟩,rfl,crep_one rfl (.bool b)⟩⟩
theorem each_pick {α:Type} {p:Nat→α→Prop}:∀ n:Nat,(∀ i,i<n→∃ y,p i y)→∃ l:List α,l.length=n∧∀ i x,l[i]?=some x→p i x
 |0,_=>⟨[],rfl,fun i x h=>by simp at h⟩
 |n+1,h=>by
  obtain ⟨l,h1,h2⟩:=each_pick n fun i hi=>h i (by omega)
  obtain ⟨y,hy⟩:=h n (by omega)
  refine ⟨l++[y],by simp [h1],fun i x hx=>?_⟩
  by_cases hi:i<n
  ·rw [List.getElem?_append_left (by omega)] at hx;exact h2 i x hx
  ·have:=(List.getElem?_eq_some_iff.1 hx).1
   obtain rfl:i=n:=by simp at this;omega
   rw [List.getElem?_append_right (by omega),h1,Nat.sub_self] at hx
   cases hx
   exact hy
theorem RdsC.arr (ht:P.underlying t=some (.array n e)) (he:RdsC P e 1 S) (hc:P.cellsOf t=n):RdsC P t n (SArr n S):=⟨hc,fun {H enc w fuel cs x} h=>by
 obtain ⟨xs,m,_,_,hl,hx,hE⟩:=DataW.trod_array ht h
 rw [hc] at hl
 obtain ⟨l,h1,h2⟩:=each_pick (p:=fun i (b:PV)=>S [b]∧∃ c,cs[i]?=some c∧c.oneCell'=true∧PRep (fun b=>b<w.heap.size) w b c) n fun i hi=>by
  have:=hE i hi
  rw [List.getElem?_eq_getElem (by omega),he.1] at this
  obtain ⟨ps,g1,g2,g3,g4,g5⟩:=he.2 this
  match ps,g2 with
  |[p],_ =>
   have hci:cs[i]?=some cs[i]:=List.getElem?_eq_getElem (by omega)
   have h0:((cs.drop (i * 1)).take 1)[0]?=some cs[i]:=by
    rw [List.getElem?_take,if_pos (by decide),List.getElem?_drop]
    simpa using hci
   exact ⟨p,g1,cs[i],hci,g4 _ (List.mem_of_getElem? h0),g5 0 p _ rfl h0⟩
 refine ⟨l,⟨h1,fun p hp=>?_⟩,h1,by omega,fun c hc=>?_,fun j x v hx hv=>?_⟩
 ·obtain ⟨i,hi⟩:=List.mem_iff_getElem?.1 hp
  exact (h2 i p hi).1
 ·obtain ⟨i,hi⟩:=List.mem_iff_getElem?.1 hc
  have hil:i<l.length:=by
   have:=(List.getElem?_eq_some_iff.1 hi).1
   omega
  obtain ⟨_,c',e1,e2,_⟩:=h2 i l[i] (List.getElem?_eq_getElem hil)
  rw [hi] at e1;cases e1;exact e2
 ·obtain ⟨_,c',e1,_,e3⟩:=h2 j x hx
  rw [hv] at e1;cases e1;exact e3⟩
theorem cellish_of {w:World} {b off:Nat} {v:Value} (h:w.cell? ⟨b,off,none⟩=some v):Cellish w b:=by
 unfold World.cell? at h
 split at h
 ·rename_i arr E q hb
  exact ⟨arr,E,q,hb⟩
 ·cases h
theorem RdsC.list {wr:List PV→PV} (ht:P.underlying t=some (.slice e)) (hc:P.cellsOf t=1) (hr:RdsC P e n S) (hpos:0<n) (hw:∀ ps,S ps→ps.length=n→(wr ps).cells=ps):RdsC P t 1 (SList n S wr):=⟨hc,fun {H enc w fuel cs x} h=>by
 rcases DataW.trod_slice ht h with ⟨rfl,_⟩|⟨a,len,cap,elems,rest,m,_,rfl,_,_,hl,hm,hel,hE,hR,_⟩
 ·exact ⟨[.list n []],⟨[],rfl,fun x hx=>by cases hx⟩,rfl,crep_one rfl (.nil n none)⟩
 ·obtain ⟨l,h1,h2⟩:=each_pick (p:=fun i (y:List Value × List PV)=>w.cells? 0 (a.add (i * n)) n=some y.1∧S y.2∧y.2.length=n∧CRep w y.1 y.2) len fun i hi=>by
   have:=hE i hi
   rw [List.getElem?_eq_getElem (by omega),hr.1,Option.bind_eq_some_iff] at this
   obtain ⟨c,h3,h4⟩:=this
   obtain ⟨ps,g1,g2,g3⟩:=hr.2 h4
   exact ⟨(c,ps),h3,g1,g2,g3⟩
  refine ⟨[.list n (l.map fun y=>wr y.2)],⟨_,rfl,fun x hx=>?_⟩,rfl,crep_one rfl ?_⟩
  ·obtain ⟨y,hy,rfl⟩:=List.mem_map.1 hx
   obtain ⟨i,hi⟩:=List.mem_iff_getElem?.1 hy
   exact ⟨y.2,(h2 i y hi).2.1,rfl⟩
  ·by_cases hcap:cap=0
   ·have:len=0:=by omega
    subst hcap;subst this
    have:l=[]:=List.eq_nil_of_length_eq_zero h1
    subst this
    exact .nil n (some a)
   ·-- there are cells
    have hcell:∃ off v,w.cell? ⟨a.block,off,none⟩=some v∧a.spot=none:=by
     have fromc:∀ (i:Nat) (c:List Value),w.cells? 0 (a.add (i * n)) n=some c→∃ off v,w.cell? ⟨a.block,off,none⟩=some v∧a.spot=none:=fun i c h3=>by
      obtain ⟨_,hc0,h4⟩:=World.cells?_some h3
      have h5:=h4 0 hpos
      rw [List.getElem?_eq_getElem (by omega)] at h5
      have hs:(a.add (i * n)).spot=none:=by simpa [Addr.add] using World.cell?_spot h5
      have hs0:a.spot=none:=by
       unfold Addr.add at hs
       split at hs
       ·exact hs
       ·rename_i hne
        by_cases h0:i * n=0
        ·rename_i q;exact absurd h0 (by simpa using hne)
        ·rcases Nat.eq_zero_or_pos i with hi0|hi0
         ·subst hi0;simp at h0
         ·-- the row begins at a: its first cell
          have:0<len∨len=0:=by omega
          rcases this with hlen|hlen
          ·obtain ⟨y,hy⟩:∃ y,l[0]?=some y:=⟨l[0],List.getElem?_eq_getElem (by omega)⟩
           obtain ⟨_,hc1,h6⟩:=World.cells?_some (h2 0 y hy).1
           have h7:=h6 0 hpos
           rw [List.getElem?_eq_getElem (by omega)] at h7
           simpa [Addr.add] using World.cell?_spot h7
          ·have hrl:0<rest.length:=by have:=(hR rfl).1;omega
           have:=(hR rfl).2 0 (by omega)
           have h8:rest[0]?=some rest[0]:=List.getElem?_eq_getElem hrl
           rw [h8,hr.1,hlen,Option.bind_eq_some_iff] at this
           obtain ⟨c1,h9,_⟩:=this
           obtain ⟨_,hc1,h6⟩:=World.cells?_some h9
           have h7:=h6 0 hpos
           rw [List.getElem?_eq_getElem (by omega)] at h7
           simpa [Addr.add] using World.cell?_spot h7
      obtain ⟨b,off,spot⟩:=a
      simp only at hs0
      subst hs0
      rw [Addr.add_lit,Addr.add_lit] at h5
      exact ⟨_,_,h5,rfl⟩
     rcases Nat.eq_zero_or_pos len with hlen|hlen
     ·have hrl:0<rest.length:=by have:=(hR rfl).1;omega
      have:=(hR rfl).2 0 (by omega)
      have h8:rest[0]?=some rest[0]:=List.getElem?_eq_getElem hrl
      rw [h8,hr.1,Option.bind_eq_some_iff] at this
      obtain ⟨c1,h9,_⟩:=this
      exact fromc _ c1 h9
     ·obtain ⟨y,hy⟩:∃ y,l[0]?=some y:=⟨l[0],List.getElem?_eq_getElem (by omega)⟩
      exact fromc 0 _ (h2 0 y hy).1
    obtain ⟨off0,v0,hv0,hspot⟩:=hcell
    obtain ⟨b,off,spot⟩:=a
    simp only at hspot hv0
    subst hspot
    have hC:Cellish w b:=cellish_of hv0
    have hget:∀ (i:Nat) x,(l.map fun y=>wr y.2)[i]?=some x→∃ y,l[i]?=some y∧x=wr y.2:=fun i x hx=>by
     rw [List.getElem?_map] at hx
     cases e:l[i]? with
     |none=>rw [e] at hx;cases hx
     |some y=>rw [e] at hx;exact ⟨y,rfl,(Option.some.inj hx).symm⟩
    have hlen:(l.map fun y=>wr y.2).length=len:=by simp [h1]
    have:=PRep.list (ok:=fun b=>b<w.heap.size) (w:=w) n (l.map fun y=>wr y.2) b off cap (fun i j=>(((l[i]?).map (·.1)).getD []).getD j default) hC.lt hC (by rw [hlen];exact hl) hm
     (fun x hx=>by
      obtain ⟨i,hi⟩:=List.mem_iff_getElem?.1 hx
      obtain ⟨y,hy,rfl⟩:=hget i x hi
      obtain ⟨_,g1,g2,_⟩:=h2 i y hy
      rw [hw _ g1 g2,g2])
     (fun i x j p hi hj=>by
      obtain ⟨y,hy,rfl⟩:=hget i x hi
      obtain ⟨g0,g1,g2,g3,g4,g5⟩:=h2 i y hy
      rw [hw _ g1 g2] at hj
      have hjn:j<n:=by have:=(List.getElem?_eq_some_iff.1 hj).1;omega
      obtain ⟨_,hc1,h6⟩:=World.cells?_some g0
      have h7:=h6 j hjn
      have hcj:y.1[j]?=some y.1[j]:=List.getElem?_eq_getElem (by omega)
      have hd:(((l[i]?).map (·.1)).getD []).getD j default=y.1[j]:=by
       rw [hy];simp [List.getD_eq_getElem?_getD,hcj]
      rw [hd]
      rw [hcj,Addr.add_lit,Addr.add_lit] at h7
      exact ⟨h7,g4 _ (List.mem_of_getElem? hcj)⟩)
     (fun i x j p hi hj=>by
      obtain ⟨y,hy,rfl⟩:=hget i x hi
      obtain ⟨g0,g1,g2,g3,g4,g5⟩:=h2 i y hy
      rw [hw _ g1 g2] at hj
      have hjn:j<n:=by have:=(List.getElem?_eq_some_iff.1 hj).1;omega
      have hcj:y.1[j]?=some y.1[j]:=List.getElem?_eq_getElem (by omega)
      have hd:(((l[i]?).map (·.1)).getD []).getD j default=y.1[j]:=by
       rw [hy];simp [List.getD_eq_getElem?_getD,hcj]
      rw [hd]
      exact g5 j p _ hj hcj)
    rw [hlen] at this
    exact this⟩
theorem CRep.append {w:World} {c1 c2:List Value} {p1 p2:List PV} (h1:CRep w c1 p1) (h2:CRep w c2 p2):CRep w (c1++c2) (p1++p2):=by
 obtain ⟨a1,a2,a3⟩:=h1
 obtain ⟨b1,b2,b3⟩:=h2
 refine ⟨by simp [a1,b1],fun c hc=>?_,fun j x v hx hv=>?_⟩
 ·rcases List.mem_append.1 hc with h|h
  ·exact a2 c h
  ·exact b2 c h
 ·by_cases hj:j<p1.length
  ·rw [List.getElem?_append_left hj] at hx
   rw [List.getElem?_append_left (by omega)] at hv
   exact a3 j x v hx hv
  ·rw [List.getElem?_append_right (by omega)] at hx
   rw [List.getElem?_append_right (by omega),a1] at hv
   exact b3 _ x v hx hv
inductive Flds (P:Program):Nat→List Field→List (List PV→Prop)→Nat→Prop
 |nil (o:Nat):Flds P o [] [] 0
 |cons {o n m:Nat} {f:Field} {fs:List Field} {S:List PV→Prop} {Ss:List (List PV→Prop)}:f.offset=o→RdsC P f.type n S→Flds P (o+n) fs Ss m→Flds P o (f :: fs) (S :: Ss) (n+m)
theorem Flds.read {o:Nat} {fs:List Field} {Ss:List (List PV→Prop)} (h:Flds P o fs Ss m) {H:Type} {enc:TypeId × Value→H} {w:World} {fuel:Nat} {cs:List Value} {xs:List (DataW H × List MemPlace)} (hl:cs.length=o+m)
  (hx:∀ (i:Nat) (f:Field),fs[i]?=some f→∃ x,DataW.trod enc P w 0 (fun _=>true) true fuel f.type ((cs.drop f.offset).take (P.cellsOf f.type))=some x):∃ ps,SCat Ss ps∧ps.length=m∧CRep w (cs.drop o) ps:=by
 induction h with
 |nil o=>exact ⟨[],rfl,rfl,by rw [List.drop_of_length_le (by omega)];exact (⟨rfl,fun c hc=>(by cases hc),fun j x v hx=>(by simp at hx)⟩:CRep w [] [])⟩
 |@cons o n m f fs S Ss h1 h2 h3 ih =>
  obtain ⟨x,h4⟩:=hx 0 f rfl
  rw [h2.1,h1] at h4
  obtain ⟨p,g1,g2,g3⟩:=h2.2 h4
  obtain ⟨q,k1,k2,k3⟩:=ih (by omega) (fun i f hf=>hx (i+1) f hf)
  refine ⟨p++q,⟨p,q,rfl,g1,k1⟩,by simp [g2,k2],?_⟩
  have:cs.drop o=(cs.drop o).take n++cs.drop (o+n):=by rw [← List.drop_drop,List.take_append_drop]
  rw [this]
  exact g3.append k3
theorem RdsC.struct {fs:Array Field} {Ss:List (List PV→Prop)} (ht:P.underlying t=some (.struct fs)) (hf:Flds P 0 fs.toList Ss n) (hc:P.cellsOf t=n):RdsC P t n (SCat Ss):=⟨hc,fun {H enc w fuel cs x} h=>by
 obtain ⟨xs,m,_,_,hl,hx,hE⟩:=DataW.trod_struct ht h
 obtain ⟨ps,h1,h2,h3⟩:=hf.read (xs:=xs) (enc:=enc) (w:=w) (fuel:=m) (cs:=cs) (by omega) (fun i f hi=>by
  have hi':fs[i]?=some f:=by simpa using hi
  have:=hE i f hi'
  have hil:i<xs.length:=by rw [hx];exact (Array.getElem?_eq_some_iff.1 hi').1
  exact ⟨xs[i],by rw [this,List.getElem?_eq_getElem hil]⟩)
 exact ⟨ps,h1,h2,by simpa using h3⟩⟩
theorem RdsC.struct2 {f0 f1:Field} {n0 n1:Nat} {S0 S1:List PV→Prop} (ht:P.underlying t=some (.struct #[f0,f1])) (h0:RdsC P f0.type n0 S0) (h1:RdsC P f1.type n1 S1) (o0:f0.offset=0) (o1:f1.offset=0+n0) (hc:P.cellsOf t=n0+(n1+0)):RdsC P t (n0+(n1+0)) (SCat [S0,S1]) :=
 RdsC.struct ht (show Flds P 0 [f0,f1] [S0,S1] (n0+(n1+0)) from .cons o0 h0 (.cons o1 h1 (.nil _))) hc
theorem RdsC.struct3 {f0 f1 f2:Field} {n0 n1 n2:Nat} {S0 S1 S2:List PV→Prop} (ht:P.underlying t=some (.struct #[f0,f1,f2])) (h0:RdsC P f0.type n0 S0) (h1:RdsC P f1.type n1 S1) (h2:RdsC P f2.type n2 S2) (o0:f0.offset=0) (o1:f1.offset=0+n0) (o2:f2.offset=0+n0+n1) (hc:P.cellsOf t=n0+(n1+(n2+0))):RdsC P t (n0+(n1+(n2+0))) (SCat [S0,S1,S2]) :=
 RdsC.struct ht (show Flds P 0 [f0,f1,f2] [S0,S1,S2] (n0+(n1+(n2+0))) from .cons o0 h0 (.cons o1 h1 (.cons o2 h2 (.nil _)))) hc
theorem RdsC.struct5 {f0 f1 f2 f3 f4:Field} {n0 n1 n2 n3 n4:Nat} {S0 S1 S2 S3 S4:List PV→Prop} (ht:P.underlying t=some (.struct #[f0,f1,f2,f3,f4])) (h0:RdsC P f0.type n0 S0) (h1:RdsC P f1.type n1 S1) (h2:RdsC P f2.type n2 S2) (h3:RdsC P f3.type n3 S3) (h4:RdsC P f4.type n4 S4) (o0:f0.offset=0) (o1:f1.offset=0+n0) (o2:f2.offset=0+n0+n1) (o3:f3.offset=0+n0+n1+n2) (o4:f4.offset=0+n0+n1+n2+n3) (hc:P.cellsOf t=n0+(n1+(n2+(n3+(n4+0))))):RdsC P t (n0+(n1+(n2+(n3+(n4+0))))) (SCat [S0,S1,S2,S3,S4]) :=
 RdsC.struct ht (show Flds P 0 [f0,f1,f2,f3,f4] [S0,S1,S2,S3,S4] (n0+(n1+(n2+(n3+(n4+0))))) from .cons o0 h0 (.cons o1 h1 (.cons o2 h2 (.cons o3 h3 (.cons o4 h4 (.nil _)))))) hc
theorem RdsC.struct7 {f0 f1 f2 f3 f4 f5 f6:Field} {n0 n1 n2 n3 n4 n5 n6:Nat} {S0 S1 S2 S3 S4 S5 S6:List PV→Prop} (ht:P.underlying t=some (.struct #[f0,f1,f2,f3,f4,f5,f6])) (h0:RdsC P f0.type n0 S0) (h1:RdsC P f1.type n1 S1) (h2:RdsC P f2.type n2 S2) (h3:RdsC P f3.type n3 S3) (h4:RdsC P f4.type n4 S4) (h5:RdsC P f5.type n5 S5) (h6:RdsC P f6.type n6 S6) (o0:f0.offset=0) (o1:f1.offset=0+n0) (o2:f2.offset=0+n0+n1) (o3:f3.offset=0+n0+n1+n2) (o4:f4.offset=0+n0+n1+n2+n3) (o5:f5.offset=0+n0+n1+n2+n3+n4) (o6:f6.offset=0+n0+n1+n2+n3+n4+n5) (hc:P.cellsOf t=n0+(n1+(n2+(n3+(n4+(n5+(n6+0))))))):RdsC P t (n0+(n1+(n2+(n3+(n4+(n5+(n6+0))))))) (SCat [S0,S1,S2,S3,S4,S5,S6]) :=
 RdsC.struct ht (show Flds P 0 [f0,f1,f2,f3,f4,f5,f6] [S0,S1,S2,S3,S4,S5,S6] (n0+(n1+(n2+(n3+(n4+(n5+(n6+0))))))) from .cons o0 h0 (.cons o1 h1 (.cons o2 h2 (.cons o3 h3 (.cons o4 h4 (.cons o5 h5 (.cons o6 h6 (.nil _)))))))) hc
end
end Go.Proofs.YtpcncggjmabnaaaGreatDoor

namespace Go.Proofs.YtpcncggjmabnaaaGreatDoor
open Go.RowKit
structure LaterB (W:World) (g:Nat) where
 w:World
 grown:W.grownBy w (some g)
instance (W:World) (g:Nat):Nonempty (LaterB W g):=⟨⟨W,World.grownBy.refl _ _⟩⟩
theorem LaterB.of {W w:World} {g:Nat} (h:W.grownBy w (some g)):∃ x:LaterB W g,w=x.w:=⟨⟨w,h⟩,rfl⟩
theorem grown_drew (W:World) (row:Option Nat):W.grownBy W.drew row:=⟨rfl,rfl,rfl,Nat.le_refl _,fun _ _ _=>rfl⟩
theorem LaterB.drew (W:World) (g:Nat):∃ x:LaterB W g,W.drew=x.w:=LaterB.of (grown_drew _ _)
theorem below_grown {w w':World} (h:Below w.heap.size w w'):w.grownBy w' none:=⟨h.os,h.tape,h.output,h.size,fun k hk _=>h.block k hk⟩
def ChunksD {α:Type} (r:Rep α) (tag:Nat→Nat) (ok:Nat→Prop) (w:World):Nat→List Value→List α→Prop
 |_,xs,[]=>xs=[]
 |i,xs,x :: l=>∃ c rest,xs=c++rest∧r.rd (fun b=>ok b∧tag b=i) w c x∧ChunksD r tag ok w (i+1) rest l
section
variable {α:Type} {r:Rep α} {tag tag':Nat→Nat} {ok ok':Nat→Prop} {w w':World}
theorem ChunksD.mono (hk:∀ b,ok b→ok' b):∀ {l:List α} {i:Nat} {xs:List Value},ChunksD r tag ok w i xs l→ChunksD r tag ok' w i xs l
 |[],_,_,h=>h
 |_ :: _,_,_,⟨c,rest,e,h1,h2⟩=>⟨c,rest,e,r.mono (fun b hb=>⟨hk b hb.1,hb.2⟩) h1,h2.mono hk⟩
theorem ChunksD.retag (hk:∀ b,ok b→tag' b=tag b):∀ {l:List α} {i:Nat} {xs:List Value},ChunksD r tag ok w i xs l→ChunksD r tag' ok w i xs l
 |[],_,_,h=>h
 |_ :: _,_,_,⟨c,rest,e,h1,h2⟩=>⟨c,rest,e,r.mono (fun b hb=>⟨hb.1,by rw [hk b hb.1];exact hb.2⟩) h1,h2.retag hk⟩
theorem ChunksD.live:∀ {l:List α} {i:Nat} {xs:List Value},ChunksD r tag ok w i xs l→ChunksD r tag (fun b=>ok b∧b<w.heap.size) w i xs l
 |[],_,_,h=>h
 |_ :: _,_,_,⟨c,rest,e,h1,h2⟩=>⟨c,rest,e,r.mono (fun b hb=>⟨⟨hb.1.1,hb.2⟩,hb.1.2⟩) (r.live h1),h2.live⟩
theorem ChunksD.frame (hf:∀ b,ok b→w'.heap[b]?=w.heap[b]?):∀ {l:List α} {i:Nat} {xs:List Value},ChunksD r tag ok w i xs l→ChunksD r tag ok w' i xs l
 |[],_,_,h=>h
 |_ :: _,_,_,⟨c,rest,e,h1,h2⟩=>⟨c,rest,e,r.frame (fun b hb=>hf b hb.1) h1,h2.frame hf⟩
theorem ChunksD.chunks:∀ {l:List α} {i:Nat} {xs:List Value},ChunksD r tag ok w i xs l→Chunks r ok w xs l
 |[],_,_,h=>h
 |_ :: _,_,_,⟨c,rest,e,h1,h2⟩=>⟨c,rest,e,r.mono (fun b hb=>hb.1) h1,h2.chunks⟩
theorem ChunksD.pick:∀ {l:List α} {i:Nat} {xs:List Value},ChunksD r tag ok w i xs l→∀ {k:Nat} {x:α},l[k]?=some x →
  ∃ c,(∀ j,j<r.sz→xs[k * r.sz+j]?=c[j]?)∧r.rd (fun b=>ok b∧tag b=i+k) w c x ∧
   ∀ (w':World) (x':α),(∀ b,ok b→tag b≠i+k→w'.heap[b]?=w.heap[b]?)→r.rd (fun b=>ok b∧tag b=i+k) w' c x'→ChunksD r tag ok w' i xs (l.set k x')
 |[],_,_,_,k,x,hx=>by simp at hx
 |y :: l,i,xs,⟨c,rest,e,h1,h2⟩,0,x,hx=>by
  simp only [List.getElem?_cons_zero,Option.some.injEq] at hx
  subst hx
  refine ⟨c,fun j hj=>by rw [e,Nat.zero_mul,Nat.zero_add,List.getElem?_append_left (by rw [r.len h1];exact hj)],h1,fun w' x' hf hr=>?_⟩
  refine ⟨c,rest,e,hr,?_⟩
  -- the tail's elements bear other tags
  have:∀ {l:List α} {m:Nat} {xs:List Value},i<m→ChunksD r tag ok w m xs l→ChunksD r tag ok w' m xs l:=by
   intro l
   induction l with
   |nil=>intro m xs _ h;exact h
   |cons z l ih =>
    intro m xs hm h
    obtain ⟨d,rs,e',h3,h4⟩:=h
    exact ⟨d,rs,e',r.frame (fun b hb=>hf b hb.1 (by rw [hb.2];omega)) h3,ih (by omega) h4⟩
  exact this (Nat.lt_succ_self _) h2
 |y :: l,i,xs,⟨c,rest,e,h1,h2⟩,k+1,x,hx=>by
  obtain ⟨d,h3,h4,h5⟩:=h2.pick (k:=k) (x:=x) (by simpa using hx)
  have ei:i+1+k=i+(k+1):=by omega
  refine ⟨d,fun j hj=>?_,by rw [← ei];exact h4,fun w' x' hf hr=>?_⟩
  ·rw [e,List.getElem?_append_right (by rw [r.len h1,Nat.add_mul];omega),r.len h1,← h3 j hj]
   congr 1
   rw [Nat.add_mul];omega
  ·refine ⟨c,rest,e,r.frame (fun b hb=>hf b hb.1 (by rw [hb.2];omega)) h1,?_⟩
   exact h5 w' x' (fun b hb hne=>hf b hb (by rw [← ei];exact hne)) (by rw [ei];exact hr)
end
def OwnD {α:Type} (r:Rep α) (B F:Nat) (E:TypeId) (w:World) (v:Value) (l:List α):Prop :=
 ∃ tag xs,w.ownsRow B E r.sz v l.length xs∧ChunksD r tag (fun b=>B≤b∧b<F∧Option.some b≠v.ownBlock) w 0 xs l
section
variable {α:Type} {r:Rep α} {B F:Nat} {E:TypeId} {w w':World} {v:Value} {l:List α}
theorem OwnD.nil (r:Rep α) (B F:Nat) (E:TypeId) (w:World):OwnD r B F E w (.slice none 0 0) []:=⟨fun _=>0,[],World.ownsRow_nil _ _ _ _,rfl⟩
theorem OwnD.live (h:OwnD r B F E w v l):OwnD r B w.heap.size E w v l :=
 let ⟨tag,xs,h1,h2⟩:=h;⟨tag,xs,h1,h2.live.mono fun _ hb=>⟨hb.1.1,hb.2,hb.1.2.2⟩⟩
theorem OwnD.lt (h:OwnD r B F E w v l):∀ k,v.ownBlock=some k→B≤k∧k<w.heap.size:=let ⟨_,_,h1,_⟩:=h;h1.lt
theorem OwnD.below (h:OwnD r B F E w v l) (hb:Below w.heap.size w w'):OwnD r B F E w' v l:=by
 obtain ⟨tag,xs,h1,h2⟩:=h
 exact ⟨tag,xs,h1.kept (below_grown hb) (by cases v.ownBlock<;>simp),(ChunksD.frame (fun b hb'=>hb.block b hb'.2) h2.live).mono fun b hb=>hb.1⟩
theorem OwnD.own (h:OwnD r B F E w v l):Own r B E (B≤·) w v l :=
 let ⟨_,xs,h1,h2⟩:=h;⟨xs,h1,h2.chunks.mono fun _ hb=>⟨hb.1,hb.2.2⟩⟩
theorem OwnD.sl (h:OwnD r B F E w v l):∃ a n c,v=.slice a n c∧Sl r (B≤·) w a n c l :=
 let ⟨a,n,c,e,h⟩:=h.own.sl;⟨a,n,c,e,h.mono fun _ hb=>hb.elim id id⟩
def RetSlE {α:Type} (r:Rep α) (ok:Nat→Prop) (w:World) (l:List α) (err:Int):Ending→World→Prop:=fun e w' =>
 ∃ a n c,e=.returned (.tuple #[.slice a n c,.int .i64 err])∧Sl r ok w' a n c l∧Below w.heap.size w w'
theorem RetSlE.mk {α:Type} {r:Rep α} {ok:Nat→Prop} {w w':World} {l:List α} {err err':Int} {a:Option Addr} {n c:Nat} (he:err'=err) (h:Sl r ok w' a n c l) (hB:Below w.heap.size w w') :
  RetSlE r ok w l err (.returned (.tuple #[.slice a n c,.int .i64 err'])) w':=⟨a,n,c,by rw [he],h,hB⟩
def Flat {α:Type} (r:Rep α):Prop:=∀ {ok ok':Nat→Prop} {w w':World} {cs:List Value} {x:α},r.rd ok w cs x→r.rd ok' w' cs x
theorem Flat.int:Flat intR:=fun h=>h
theorem Flat.u8:Flat u8R:=fun h=>h
theorem Flat.u64:Flat u64R:=fun h=>h
theorem Flat.bool:Flat boolR:=fun h=>h
theorem Chunks.flat {α:Type} {r:Rep α} (hf:Flat r) {ok ok':Nat→Prop} {w w':World}:∀ {l:List α} {xs:List Value},Chunks r ok w xs l→Chunks r ok' w' xs l
 |[],_,h=>h
 |_ :: _,_,⟨c,rest,e,h1,h2⟩=>⟨c,rest,e,hf h1,h2.flat hf⟩
theorem Src.flat {α:Type} {r:Rep α} (hf:Flat r) {ok ok':Nat→Prop} {w:World} {ao:Option Addr} {m c:Nat} {ys:List α} (h:Src r ok w ao m c ys):Src r ok' w ao m c ys :=
 let ⟨h1,h2,news,h3,h4⟩:=h;⟨h1,h2,news,h3,h4.flat hf⟩
theorem Own.lit0 {α:Type} (r:Rep α) {B:Nat} {E:TypeId} {ok:Nat→Prop} {w:World} (hB:B≤w.heap.size):Own r B E ok (w.alloc (.cells #[] E)) (.slice (some ⟨w.heap.size,0,none⟩) 0 0) [] :=
 ⟨[],World.ownsRow_lit w #[] 0 hB (Nat.zero_le _) (by simp),rfl⟩
theorem OwnD.at (h:OwnD r B F E w v l) {k:Nat} {x:α} (hx:l[k]?=some x) :
  ∃ g cap c,∃ okk:Nat→Prop,v=.slice (some ⟨g,0,none⟩) l.length cap∧B≤g∧g<w.heap.size∧(∀ j,j<r.sz→w.cell? ⟨g,k * r.sz+j,none⟩=c[j]?)∧r.rd okk w c x∧(∀ b,okk b→B≤b∧b<F∧b≠g) ∧
   ∀ (w':World) (x':α),(∀ b,b<w.heap.size→¬ okk b→w'.heap[b]?=w.heap[b]?)→w'.os=w.os→w'.tape=w.tape→w'.output=w.output→w.heap.size≤w'.heap.size→r.rd okk w' c x'→OwnD r B F E w' v (l.set k x'):=by
 obtain ⟨tag,xs,h1,h2⟩:=h
 have hk:=(List.getElem?_eq_some_iff.1 hx).1
 obtain ⟨g,cap,rfl,hBg,hg⟩:∃ g cap,v=.slice (some ⟨g,0,none⟩) l.length cap∧B≤g∧g<w.heap.size:=by
  rcases h1.2 with ⟨_,h0⟩|⟨g,cap,cur,hv,hb,hg,_⟩
  ·omega
  ·exact ⟨g,cap,hv,hb,(Array.getElem?_eq_some_iff.1 hg).1⟩
 obtain ⟨c,h3,h4,h5⟩:=h2.live.pick hx
 refine ⟨g,cap,c,_,rfl,hBg,hg,fun j hj=>?_,h4,fun b hb=>⟨hb.1.1.1,hb.1.1.2.1,fun e=>hb.1.1.2.2 (by rw [e];rfl)⟩,fun w' x' hf hos htp hout hsz hr=>?_⟩
 ·rw [← h3 j hj,h1.cellAt]
  calc k * r.sz+j<k * r.sz+r.sz:=by omega
   _=(k+1) * r.sz:=by rw [Nat.add_mul];omega
   _≤l.length * r.sz:=Nat.mul_le_mul_right _ (by omega)
 ·have h6:=h5 w' x' (fun b hb hne=>hf b hb.2 fun e=>hne (by simpa using e.2)) hr
  refine ⟨tag,xs,?_,h6.mono fun b hb=>hb.1⟩
  rw [List.length_set]
  have hgk:w'.heap[g]?=w.heap[g]?:=hf g hg fun e=>e.1.1.2.2 rfl
  obtain ⟨hl,⟨hv,h0⟩|⟨g',cap',cur,hv,r1,r2,r3⟩⟩:=h1
  ·cases hv
  ·cases hv
   exact ⟨hl,.inr ⟨g,cap,cur,rfl,r1,by rw [hgk];exact r2,r3⟩⟩
end
def ownRowR {α:Type} (r:Rep α) (E:TypeId):Rep (List α) where
 sz:=1
 rd ok w cs l:=∃ v,cs=[v]∧(∀ b,v.ownBlock=some b→ok b)∧Own r 0 E (fun _=>False) w v l∧(l=[]→v=.slice none 0 0∨∃ g c,v=.slice (some ⟨g,0,none⟩) 0 c)
 len h:=by obtain ⟨v,rfl,_⟩:=h;rfl
 mono hk h:=let ⟨v,e,h1,h2⟩:=h;⟨v,e,fun b hb=>hk b (h1 b hb),h2⟩
 live h:=let ⟨v,e,h1,h2,h3⟩:=h;⟨v,e,fun b hb=>⟨h1 b hb,(h2.lt b hb).2⟩,h2,h3⟩
 frame hf h:=by
  obtain ⟨v,e,h1,⟨xs,h2,h3⟩,h4⟩:=h
  refine ⟨v,e,h1,⟨xs,⟨h2.1,?_⟩,(Chunks.frame (fun b hb=>hb.1.elim) h3)⟩,h4⟩
  rcases h2.2 with h0|⟨g,cap,cur,hv,hb,hg,rest⟩
  ·exact .inl h0
  ·refine .inr ⟨g,cap,cur,hv,hb,?_,rest⟩
   rw [hf g (h1 g (by rw [hv];rfl))];exact hg
 one h:=by
  obtain ⟨v,rfl,_,⟨xs,h2,_⟩,_⟩:=h
  intro u hu
  cases List.mem_singleton.1 hu
  rcases h2.2 with ⟨rfl,_⟩|⟨g,cap,cur,rfl,_⟩<;>rfl
theorem ownRowR.sl {α:Type} {r:Rep α} {E:TypeId} {ok:Nat→Prop} {w:World} {v:Value} {l:List α} (hf:Flat r) (h:(ownRowR r E).rd ok w [v] l):∃ a n c,v=.slice a n c∧Sl r ok w a n c l:=by
 obtain ⟨_,e,h1,h2,_⟩:=h
 cases e
 obtain ⟨a,n,c,rfl,h3⟩:=h2.sl
 refine ⟨a,n,c,rfl,h3.len,h3.cap,h3.bnd,h3.nil,h3.cells.imp id fun ⟨b,off,e,_,hb,hc⟩=>⟨b,off,e,h1 b (by rw [e];rfl),hb,fun i x hx=>let ⟨cs,g1,g2⟩:=hc i x hx;⟨cs,g1,hf g2⟩⟩⟩
theorem ownRowR.mk {α:Type} {r:Rep α} {B:Nat} {E:TypeId} {w:World} {v:Value} {l:List α} (h:Own r B E (fun _=>False) w v l) (hv:l=[]→v=.slice none 0 0∨∃ g c,v=.slice (some ⟨g,0,none⟩) 0 c):(ownRowR r E).rd (B≤·) w [v] l:=by
 refine ⟨v,rfl,fun b hb=>(h.lt b hb).1,?_,hv⟩
 obtain ⟨xs,h1,h2⟩:=h
 refine ⟨xs,⟨h1.1,h1.2.imp id fun ⟨g,cap,cur,a1,a2,a3⟩=>⟨g,cap,cur,a1,Nat.zero_le _,a3⟩⟩,h2⟩
section
variable {P:Program} {ops:Array Oper} {rest:List Oper} {o:Oper} {a:Act} {Q:Exit→Act→World→Prop} {α:Type} {r:Rep α} {B:Nat} {E:TypeId} {w:World}
end
section
variable {P:Program} {α:Type} {r:Rep α} {B:Nat} {E:TypeId} {w:World} {g cap:Nat} {l:List α}
end
def subAddr (a:Option Addr) (c lo sz:Nat):Option Addr:=if c=lo then a else a.map (·.add (lo * sz))
theorem Sl.sub {α:Type} {r:Rep α} {ok:Nat→Prop} {w:World} {a:Option Addr} {n c:Nat} {l:List α} (h:Sl r ok w a n c l) {s k:Nat} (hk:s+k≤n):Sl r ok w (subAddr a c s r.sz) k (c - s) ((l.drop s).take k):=by
 have h1:=h.len
 have h2:=h.cap
 refine ⟨by simp;omega,by omega,Nat.le_trans (Nat.sub_le _ _) h.bnd,fun e=>?_,?_⟩
 ·unfold subAddr at e
  split at e
  ·omega
  ·have:a=none:=by simpa using e
   have:=h.nil this
   omega
 ·rcases h.cells with h0|⟨b,off,rfl,hb,hlt,hc⟩
  ·left;omega
  ·by_cases hk0:k=0
   ·exact .inl hk0
   ·refine .inr ⟨b,off+s * r.sz,?_,hb,hlt,fun i x hx=>?_⟩
    ·unfold subAddr
     rw [if_neg (by omega)]
     simp [Addr.add_lit]
    ·have hik:i<k:=by have:=(List.getElem?_eq_some_iff.1 hx).1;simp at this;omega
     rw [List.getElem?_take,if_pos hik,List.getElem?_drop] at hx
     obtain ⟨cs,g1,g2⟩:=hc (s+i) x hx
     refine ⟨cs,fun j hj=>?_,g2⟩
     rw [← g1 j hj,Nat.add_mul,Nat.add_assoc off]
section
variable {P:Program} {ops:Array Oper} {rest:List Oper} {o:Oper} {a:Act} {Q:Exit→Act→World→Prop} {α:Type} {r:Rep α} {B:Nat} {E:TypeId} {w:World} {g cap:Nat} {l:List α}
end
section
variable {ok:Nat→Prop} {w:World} {n c:Nat}
theorem Sl.wr {b off:Nat} {l:List (Int × Int × List Sec)} (h:Sl (pairR intR (pairR intR (listR secR))) ok w (some ⟨b,off,none⟩) n c l) {k:Nat} {v s:Int} {d:List Sec} (hx:l[k]?=some (v,s,d)) :
  ∃ a' n' c',w.cell? ⟨b,off+k * 3,none⟩=some (.int .i64 v)∧w.cell? ⟨b,off+k * 3+1,none⟩=some (.int .i64 s)∧w.cell? ⟨b,off+k * 3+2,none⟩=some (.slice a' n' c')∧i64ok v∧i64ok s∧Sl secR ok w a' n' c' d:=by
 obtain ⟨cs,h1,c1,c2,rfl,⟨rfl,hv⟩,c3,c4,rfl,⟨rfl,hs⟩,a',n',c',rfl,hd⟩:=h.at hx
 refine ⟨a',n',c',?_,?_,?_,hv,hs,hd⟩
 ·exact h1 0 (by show 0<3;omega)
 ·exact h1 1 (by show 1<3;omega)
 ·exact h1 2 (by show 2<3;omega)
theorem Sl.ext {b off:Nat} {l:List (Int × Int)} (h:Sl (pairR intR intR) ok w (some ⟨b,off,none⟩) n c l) {k:Nat} {s m:Int} (hx:l[k]?=some (s,m)) :
  w.cell? ⟨b,off+k * 2,none⟩=some (.int .i64 s)∧w.cell? ⟨b,off+k * 2+1,none⟩=some (.int .i64 m)∧i64ok s∧i64ok m:=by
 obtain ⟨cs,h1,c1,c2,rfl,⟨rfl,hv⟩,⟨rfl,hs⟩⟩:=h.at hx
 exact ⟨h1 0 (by show 0<2;omega),h1 1 (by show 1<2;omega),hv,hs⟩
end
end Go.Proofs.YtpcncggjmabnaaaGreatDoor

namespace Go.Proofs.YtpcncggjmabnaaaGreatDoor
open Go.RowKit
abbrev secsR:Rep (List Sec):=listR secR
abbrev Wr:=Int × Int × List Sec
def zeroSec:Sec:=Vector.replicate 8 0
theorem Tryz.mixed:Tryz.prog.follows .mixedOrders=true:=by kernel_rfl
theorem i64ok_nat {n:Nat} (h:n≤maxLen):i64ok (n:Int):=by unfold i64ok maxLen at *;omega
theorem Sl.i64 {α:Type} {r:Rep α} {ok:Nat→Prop} {w:World} {a:Option Addr} {n c:Nat} {l:List α} (h:Sl r ok w a n c l):i64ok (n:Int):=i64ok_nat (Nat.le_trans h.cap h.bnd)
end Go.Proofs.YtpcncggjmabnaaaGreatDoor

namespace Go.Proofs.YtpcncggjmabnaaaGreatDoor
open Go.RowKit
def badSize (n:Int):Bool:=decide (n<1) || decide (4096<n)
def sizesErr (l:List Int):Int:=if l.length<1∨8<l.length then 6 else if l.any badSize then 2 else 0
def lens (im:List (List Sec)):List Int:=im.map fun v=>(v.length:Int)
def imgErr (im:List (List Sec)):Int:=sizesErr (lens im)
end Go.Proofs.YtpcncggjmabnaaaGreatDoor

namespace Go.Proofs.YtpcncggjmabnaaaGreatDoor
open Go.RowKit
def fitErr (sizes:List Int) (vol start:Int) (len:Nat):Int :=
 if vol<0∨(sizes.length:Int)≤vol then 7 else if len=0 then 1
 else if start<0∨sizes.getD vol.toNat 0≤start∨sizes.getD vol.toNat 0 - start<len then 2 else 0
end Go.Proofs.YtpcncggjmabnaaaGreatDoor

namespace Go.Proofs.YtpcncggjmabnaaaGreatDoor
open Go.RowKit
def fitsErr (im:List (List Sec)) (vol start:Int) (len:Nat):Int:=if imgErr im≠0 then imgErr im else fitErr (lens im) vol start len
end Go.Proofs.YtpcncggjmabnaaaGreatDoor

namespace Go.Proofs.YtpcncggjmabnaaaGreatDoor
open Go.RowKit
end Go.Proofs.YtpcncggjmabnaaaGreatDoor

namespace Go.Proofs.YtpcncggjmabnaaaGreatDoor
open Go.RowKit
end Go.Proofs.YtpcncggjmabnaaaGreatDoor

namespace Go.Proofs.YtpcncggjmabnaaaGreatDoor
open Go.RowKit
end Go.Proofs.YtpcncggjmabnaaaGreatDoor

namespace Go.Proofs.YtpcncggjmabnaaaGreatDoor
open Go.RowKit
def orNil {α:Type} (e:Int) (l:List α):List α:=if e=0 then l else []
def zeros (n:Int):List Sec:=List.replicate n.toNat zeroSec
def newImg (l:List Int):List (List Sec):=l.map zeros
end Go.Proofs.YtpcncggjmabnaaaGreatDoor

namespace Go.Proofs.YtpcncggjmabnaaaGreatDoor
open Go.RowKit
theorem Sl.imp {α:Type} {r s:Rep α} {ok:Nat→Prop} {w:World} {a:Option Addr} {n c:Nat} {l:List α} (hz:s.sz=r.sz) (hi:∀ cs x,r.rd ok w cs x→s.rd ok w cs x) (h:Sl r ok w a n c l):Sl s ok w a n c l :=
 ⟨h.len,h.cap,h.bnd,h.nil,h.cells.imp id fun ⟨b,off,e,hb,hl,hc⟩=>⟨b,off,e,hb,hl,fun i x hx=>let ⟨cs,g1,g2⟩:=hc i x hx;⟨cs,by rw [hz];exact g1,hi cs x g2⟩⟩⟩
end Go.Proofs.YtpcncggjmabnaaaGreatDoor

namespace Go.Proofs.YtpcncggjmabnaaaGreatDoor
open Go.RowKit
end Go.Proofs.YtpcncggjmabnaaaGreatDoor

namespace Go.Proofs.YtpcncggjmabnaaaGreatDoor
open Go.RowKit
def writeAt (l:List Sec) (s:Nat) (d:List Sec):List Sec:=l.take s++d++l.drop (s+d.length)
def putW (im:List (List Sec)) (x:Wr):List (List Sec):=im.set x.1.toNat (writeAt (im.getD x.1.toNat []) x.2.1.toNat x.2.2)
def fitW (sz:List Int) (x:Wr):Int:=fitErr sz x.1 x.2.1 x.2.2.length
def applyErr (sz:List Int):List Wr→Nat→Int × Int
 |[],_=>(0,0)
 |x :: l,i=>if fitW sz x≠0 then (i,fitW sz x) else applyErr sz l (i+1)
def applyImg (im:List (List Sec)) (l:List Wr):List (List Sec):=if imgErr im≠0 then [] else orNil (applyErr (lens im) l 0).2 (l.foldl putW im)
def applyIdx (im:List (List Sec)) (l:List Wr):Int:=if imgErr im≠0 then 0 else (applyErr (lens im) l 0).1
def applyE (im:List (List Sec)) (l:List Wr):Int:=if imgErr im≠0 then imgErr im else (applyErr (lens im) l 0).2
def RetApply (w:World) (im:List (List Sec)) (l:List Wr):Ending→World→Prop:=fun e w' =>
 ∃ a n c,e=.returned (.tuple #[.slice a n c,.int .i64 (applyIdx im l),.int .i64 (applyE im l)])∧Sl secsR (w.heap.size≤·) w' a n c (applyImg im l)∧(a=none∨applyE im l=0)∧Below w.heap.size w w'
theorem RetApply.mk {w w':World} {im:List (List Sec)} {l:List Wr} {a:Option Addr} {n c:Nat} {i e:Int} (hi:i=applyIdx im l) (he:e=applyE im l) (h:Sl secsR (w.heap.size≤·) w' a n c (applyImg im l)) (hz:a=none∨applyE im l=0) (hB:Below w.heap.size w w') :
  RetApply w im l (.returned (.tuple #[.slice a n c,.int .i64 i,.int .i64 e])) w':=⟨a,n,c,by rw [hi,he],h,hz,hB⟩
end Go.Proofs.YtpcncggjmabnaaaGreatDoor

namespace Go.Proofs.YtpcncggjmabnaaaGreatDoor
open Go.RowKit V
end Go.Proofs.YtpcncggjmabnaaaGreatDoor

namespace Go.Proofs.YtpcncggjmabnaaaGreatDoor
open Go.RowKit V
def oneEnv (f:Nat) (fn:VFn):Env:=fun k=>if k=f then some (.code fn) else none
theorem oneEnv_ok {P:Program} {f:Nat} {fn:VFn} (h:fnOk P f fn=true):EnvOk P (oneEnv f fn):=fun k d hk=>by
 unfold oneEnv at hk
 split at hk
 ·rename_i e;subst e;cases hk;exact h
 ·cases hk
def emR (n:Nat):Rep Unit where
 sz:=n
 rd _ _ cs _:=cs.length=n∧∀ u∈cs,u.oneCell'=true
 len h:=h.1
 mono _ h:=h
 live h:=h
 frame _ h:=h
 one h:=h.2
theorem Flat.em (n:Nat):Flat (emR n):=fun h=>h
theorem sl_nil {ok:Nat→Prop} {w:World} {sz:Nat} {v:Value} (h:PRep ok w (.list sz []) v):∃ a c,v=.slice a 0 c∧Sl (emR sz) (fun _=>True) w a 0 c []:=by
 obtain ⟨l,hl⟩:∃ l:List PV,l=[]:=⟨_,rfl⟩
 rw [← hl] at h
 cases h with
 |nil _ a=>exact ⟨a,0,rfl,⟨rfl,Nat.le_refl _,Nat.zero_le _,fun _=>rfl,.inl rfl⟩⟩
 |list _ _ b off c cv h1 h2 h3 h4 h6 h7 h8=>subst hl;exact ⟨_,c,rfl,⟨rfl,Nat.zero_le _,h4,(fun e=>by cases e),.inl rfl⟩⟩
--+
theorem slt86:SliceT Tryz.prog 74 79 8 8 (.agg #[.int .u8 0,.int .u8 0,.int .u8 0,.int .u8 0,.int .u8 0,.int .u8 0,.int .u8 0,.int .u8 0]):=⟨Tryz.underlying74,by kernel_rfl,rfl,by decide⟩
set_option maxHeartbeats 1000000 in
theorem cempty86 {a:Option Addr} {n c:Nat} {l:List Unit} {ok:Nat→Prop} {w:World} (h:Sl (emR 8) ok w a n c l) (hn:n≤1000000) :
  Calls Tryz.prog 86 #[.slice a n c] w fun e w'=>∃ a' n' c',e=.returned (.slice a' n' c')∧(ownRowR (emR 8) 79).rd (w.heap.size≤·) w' [.slice a' n' c'] l∧Below w.heap.size w w':=by
 have heq:=fun (a:Option Addr) (n c:Nat) (w:World)=>Lib.run_eql_slice_nil (P:=Tryz.prog) w 74 79 a n c 0 0 Tryz.underlying74
 cases a with
 |none =>
  have h0:l=[]:=List.eq_nil_of_length_eq_zero (by rw [h.len];have:=h.nil rfl;have:=h.cap;omega)
  have H0:=Lib.hid h0;clear h0
  go_enter Tryz.func86,Tryz.ntmps86
  go_wp2
  go_ret
  refine ⟨_,_,_,rfl,?_,Below.refl _ _⟩
  rw [H0.out]
  exact ownRowR.mk (Own.nil _ _ _ _ _) (fun _=>.inl rfl)
 |some ad =>
  have hs:n≤9223372036854775807:=by have:=Nat.le_trans h.cap h.bnd;unfold maxLen at this;omega
  go_enter Tryz.func86,Tryz.ntmps86
  go_wp2_with (at_builtin;refine wpList_app slt86 rfl _ _ rfl rfl (Own.lit0 (emR 8) (ok:=fun _=>False) (Nat.le_refl _)) rfl ((Src.of_sl (h.below ((Below.refl _ _).alloc (Nat.le_refl _) _))).flat (Flat.em 8)) ?c1 ?c2 ?c3 ?_)
  case c1=>simp;unfold maxLen;omega
  case c2=>simp;omega
  case c3=>simp
  intro v' w1 hown hgrow hat
  obtain ⟨a',n',c',rfl,_⟩:=hown.sl
  go_wp2
  go_ret
  refine ⟨_,_,_,rfl,ownRowR.mk (by simpa using hown) (fun e=>?_),((Below.refl _ _).alloc (Nat.le_refl _) _).grown hgrow (by simp) (fun k hk=>by cases hk;exact Nat.le_refl _)⟩
  subst e
  obtain ⟨xs,h1,_⟩:=hown
  rcases h1.2 with ⟨hv,_⟩|⟨g,cap,cur,hv,_⟩
  ·exact .inl hv
  ·exact .inr ⟨g,cap,by simpa using hv⟩
theorem clone86_fn:fnOk Tryz.prog 86 fn86=true:=by kernel_rfl
theorem clone86_some {en:Env} (hen:en 86=some (.code fn86)) {e:PV} {es:List PV} (hl:(e :: es).length≤lim):cal en 86 [.list 8 (e :: es)]=some [(.list 8 (e :: es),true)]:=by
 have F1:(es.length+1≤lim)=True:=eq_true (by simpa using hl)
 rw [cal_code hen rfl]
 simp only [fn86]
 simp only [start,z_map_cons,z_map_nil,z_len_cons,z_len_nil,z_repl_zero,z_repl_succ,z_cons_app,z_nil_app,Nat.reduceAdd,Nat.reduceSub]
 simp only [F1,z_nil_app,memAll,vAll,reduceCtorEq,Nat.reduceEqDiff,Nat.reduceAdd,Nat.reduceLT,Nat.reduceLeDiff,Nat.beq]
theorem clone86_ok:∀ args rs,cloneX 8 args=some rs→callable Tryz.prog 86=true∧CallOk Tryz.prog 86 args rs:=fun args rs h=>by
 unfold cloneX at h
 split at h
 case h_2=>cases h
 rename_i sz es
 split at h
 case isFalse=>cases h
 rename_i hc
 obtain ⟨rfl,hl⟩:=hc
 cases h
 cases es with
 |cons e es =>
  obtain ⟨n,hn⟩:=vmCall_of_cal (clone86_some (en:=oneEnv 86 fn86) (if_pos rfl) hl)
  exact vmCall_ok (oneEnv_ok clone86_fn) hn
 |nil =>
  refine ⟨by kernel_rfl,fun T0 w vs h1 h2 h3 h4 _=>?_⟩
  match vs,h3 with
  |[v],_ =>
   have hv:=h4 0 _ v rfl rfl
   obtain ⟨a,c,rfl,hsl⟩:=sl_nil hv
   refine (cempty86 (ok:=fun _=>True) hsl (by omega)).mono ?_
   rintro e w' ⟨a',n',c',rfl,hrd,hB⟩
   obtain ⟨v,hv,hb,⟨xs,hown,_⟩,hnil⟩:=hrd
   obtain rfl:Value.slice a' n' c'=v:=by simpa using hv
   rcases hown.2 with ⟨e1,_⟩|⟨g,cap,cur,e1,_,hg,_,hm,hs,_⟩
   ·refine ⟨_,T0,rfl,hB,fun _ _=>rfl,fun b hb=>h2 b (by have:=hB.size;omega),#[_],rfl,rfl,fun i r u hr hu=>?_⟩
    cases i with
    |zero=>cases hr;cases hu;exact .inl ⟨rfl,none,e1⟩
    |succ i=>simp at hr
   ·have hg0:w.heap.size≤g:=hb g (by rw [e1];rfl)
    have hgl:g<w'.heap.size:=(Array.getElem?_eq_some_iff.1 hg).1
    refine ⟨_,fun b=>if b=g then .row (.part 0 0) else T0 b,rfl,hB,fun b hb=>if_neg (by omega),fun b hb=>?_,#[_],rfl,rfl,fun i r u hr hu=>?_⟩
    ·show (if b=g then _ else T0 b)=_
     rw [if_neg (by omega)];exact h2 b (by have:=hB.size;omega)
    ·cases i with
     |zero =>
      cases hr;cases hu
      exact .inr ⟨g,cap,cur,_,e1,if_pos rfl,hg,hs,Nat.zero_le _,hm,(fun e he=>by cases he),fun i e j x hi=>by simp at hi⟩
     |succ i=>simp at hr
--+
theorem slt39:SliceT Tryz.prog 22 3 1 8 (.int .i64 0):=⟨Tryz.underlying22,by kernel_rfl,rfl,by decide⟩
set_option maxHeartbeats 1000000 in
theorem cempty39 {a:Option Addr} {n c:Nat} {l:List Unit} {ok:Nat→Prop} {w:World} (h:Sl (emR 1) ok w a n c l) (hn:n≤1000000) :
  Calls Tryz.prog 39 #[.slice a n c] w fun e w'=>∃ a' n' c',e=.returned (.slice a' n' c')∧(ownRowR (emR 1) 3).rd (w.heap.size≤·) w' [.slice a' n' c'] l∧Below w.heap.size w w':=by
 have heq:=fun (a:Option Addr) (n c:Nat) (w:World)=>Lib.run_eql_slice_nil (P:=Tryz.prog) w 22 3 a n c 0 0 Tryz.underlying22
 cases a with
 |none =>
  have h0:l=[]:=List.eq_nil_of_length_eq_zero (by rw [h.len];have:=h.nil rfl;have:=h.cap;omega)
  have H0:=Lib.hid h0;clear h0
  go_enter Tryz.func39,Tryz.ntmps39
  go_wp2
  go_ret
  refine ⟨_,_,_,rfl,?_,Below.refl _ _⟩
  rw [H0.out]
  exact ownRowR.mk (Own.nil _ _ _ _ _) (fun _=>.inl rfl)
 |some ad =>
  have hs:n≤9223372036854775807:=by have:=Nat.le_trans h.cap h.bnd;unfold maxLen at this;omega
  go_enter Tryz.func39,Tryz.ntmps39
  go_wp2_with (at_builtin;refine wpList_app slt39 rfl _ _ rfl rfl (Own.lit0 (emR 1) (ok:=fun _=>False) (Nat.le_refl _)) rfl ((Src.of_sl (h.below ((Below.refl _ _).alloc (Nat.le_refl _) _))).flat (Flat.em 1)) ?c1 ?c2 ?c3 ?_)
  case c1=>simp;unfold maxLen;omega
  case c2=>simp;omega
  case c3=>simp
  intro v' w1 hown hgrow hat
  obtain ⟨a',n',c',rfl,_⟩:=hown.sl
  go_wp2
  go_ret
  refine ⟨_,_,_,rfl,ownRowR.mk (by simpa using hown) (fun e=>?_),((Below.refl _ _).alloc (Nat.le_refl _) _).grown hgrow (by simp) (fun k hk=>by cases hk;exact Nat.le_refl _)⟩
  subst e
  obtain ⟨xs,h1,_⟩:=hown
  rcases h1.2 with ⟨hv,_⟩|⟨g,cap,cur,hv,_⟩
  ·exact .inl hv
  ·exact .inr ⟨g,cap,by simpa using hv⟩
theorem clone39_fn:fnOk Tryz.prog 39 fn39=true:=by kernel_rfl
theorem clone39_some {en:Env} (hen:en 39=some (.code fn39)) {e:PV} {es:List PV} (hl:(e :: es).length≤lim):cal en 39 [.list 1 (e :: es)]=some [(.list 1 (e :: es),true)]:=by
 have F1:(es.length+1≤lim)=True:=eq_true (by simpa using hl)
 rw [cal_code hen rfl]
 simp only [fn39]
 simp only [start,z_map_cons,z_map_nil,z_len_cons,z_len_nil,z_repl_zero,z_repl_succ,z_cons_app,z_nil_app,Nat.reduceAdd,Nat.reduceSub]
 simp only [F1,z_nil_app,memAll,vAll,reduceCtorEq,Nat.reduceEqDiff,Nat.reduceAdd,Nat.reduceLT,Nat.reduceLeDiff,Nat.beq]
theorem clone39_ok:∀ args rs,cloneX 1 args=some rs→callable Tryz.prog 39=true∧CallOk Tryz.prog 39 args rs:=fun args rs h=>by
 unfold cloneX at h
 split at h
 case h_2=>cases h
 rename_i sz es
 split at h
 case isFalse=>cases h
 rename_i hc
 obtain ⟨rfl,hl⟩:=hc
 cases h
 cases es with
 |cons e es =>
  obtain ⟨n,hn⟩:=vmCall_of_cal (clone39_some (en:=oneEnv 39 fn39) (if_pos rfl) hl)
  exact vmCall_ok (oneEnv_ok clone39_fn) hn
 |nil =>
  refine ⟨by kernel_rfl,fun T0 w vs h1 h2 h3 h4 _=>?_⟩
  match vs,h3 with
  |[v],_ =>
   have hv:=h4 0 _ v rfl rfl
   obtain ⟨a,c,rfl,hsl⟩:=sl_nil hv
   refine (cempty39 (ok:=fun _=>True) hsl (by omega)).mono ?_
   rintro e w' ⟨a',n',c',rfl,hrd,hB⟩
   obtain ⟨v,hv,hb,⟨xs,hown,_⟩,hnil⟩:=hrd
   obtain rfl:Value.slice a' n' c'=v:=by simpa using hv
   rcases hown.2 with ⟨e1,_⟩|⟨g,cap,cur,e1,_,hg,_,hm,hs,_⟩
   ·refine ⟨_,T0,rfl,hB,fun _ _=>rfl,fun b hb=>h2 b (by have:=hB.size;omega),#[_],rfl,rfl,fun i r u hr hu=>?_⟩
    cases i with
    |zero=>cases hr;cases hu;exact .inl ⟨rfl,none,e1⟩
    |succ i=>simp at hr
   ·have hg0:w.heap.size≤g:=hb g (by rw [e1];rfl)
    have hgl:g<w'.heap.size:=(Array.getElem?_eq_some_iff.1 hg).1
    refine ⟨_,fun b=>if b=g then .row (.part 0 0) else T0 b,rfl,hB,fun b hb=>if_neg (by omega),fun b hb=>?_,#[_],rfl,rfl,fun i r u hr hu=>?_⟩
    ·show (if b=g then _ else T0 b)=_
     rw [if_neg (by omega)];exact h2 b (by have:=hB.size;omega)
    ·cases i with
     |zero =>
      cases hr;cases hu
      exact .inr ⟨g,cap,cur,_,e1,if_pos rfl,hg,hs,Nat.zero_le _,hm,(fun e he=>by cases he),fun i e j x hi=>by simp at hi⟩
     |succ i=>simp at hr
--+
theorem slt80:SliceT Tryz.prog 91 134 1 8 (.int .u64 0):=⟨Tryz.underlying91,by kernel_rfl,rfl,by decide⟩
set_option maxHeartbeats 1000000 in
theorem cempty80 {a:Option Addr} {n c:Nat} {l:List Unit} {ok:Nat→Prop} {w:World} (h:Sl (emR 1) ok w a n c l) (hn:n≤1000000) :
  Calls Tryz.prog 80 #[.slice a n c] w fun e w'=>∃ a' n' c',e=.returned (.slice a' n' c')∧(ownRowR (emR 1) 134).rd (w.heap.size≤·) w' [.slice a' n' c'] l∧Below w.heap.size w w':=by
 have heq:=fun (a:Option Addr) (n c:Nat) (w:World)=>Lib.run_eql_slice_nil (P:=Tryz.prog) w 91 134 a n c 0 0 Tryz.underlying91
 cases a with
 |none =>
  have h0:l=[]:=List.eq_nil_of_length_eq_zero (by rw [h.len];have:=h.nil rfl;have:=h.cap;omega)
  have H0:=Lib.hid h0;clear h0
  go_enter Tryz.func80,Tryz.ntmps80
  go_wp2
  go_ret
  refine ⟨_,_,_,rfl,?_,Below.refl _ _⟩
  rw [H0.out]
  exact ownRowR.mk (Own.nil _ _ _ _ _) (fun _=>.inl rfl)
 |some ad =>
  have hs:n≤9223372036854775807:=by have:=Nat.le_trans h.cap h.bnd;unfold maxLen at this;omega
  go_enter Tryz.func80,Tryz.ntmps80
  go_wp2_with (at_builtin;refine wpList_app slt80 rfl _ _ rfl rfl (Own.lit0 (emR 1) (ok:=fun _=>False) (Nat.le_refl _)) rfl ((Src.of_sl (h.below ((Below.refl _ _).alloc (Nat.le_refl _) _))).flat (Flat.em 1)) ?c1 ?c2 ?c3 ?_)
  case c1=>simp;unfold maxLen;omega
  case c2=>simp;omega
  case c3=>simp
  intro v' w1 hown hgrow hat
  obtain ⟨a',n',c',rfl,_⟩:=hown.sl
  go_wp2
  go_ret
  refine ⟨_,_,_,rfl,ownRowR.mk (by simpa using hown) (fun e=>?_),((Below.refl _ _).alloc (Nat.le_refl _) _).grown hgrow (by simp) (fun k hk=>by cases hk;exact Nat.le_refl _)⟩
  subst e
  obtain ⟨xs,h1,_⟩:=hown
  rcases h1.2 with ⟨hv,_⟩|⟨g,cap,cur,hv,_⟩
  ·exact .inl hv
  ·exact .inr ⟨g,cap,by simpa using hv⟩
theorem clone80_fn:fnOk Tryz.prog 80 fn80=true:=by kernel_rfl
theorem clone80_some {en:Env} (hen:en 80=some (.code fn80)) {e:PV} {es:List PV} (hl:(e :: es).length≤lim):cal en 80 [.list 1 (e :: es)]=some [(.list 1 (e :: es),true)]:=by
 have F1:(es.length+1≤lim)=True:=eq_true (by simpa using hl)
 rw [cal_code hen rfl]
 simp only [fn80]
 simp only [start,z_map_cons,z_map_nil,z_len_cons,z_len_nil,z_repl_zero,z_repl_succ,z_cons_app,z_nil_app,Nat.reduceAdd,Nat.reduceSub]
 simp only [F1,z_nil_app,memAll,vAll,reduceCtorEq,Nat.reduceEqDiff,Nat.reduceAdd,Nat.reduceLT,Nat.reduceLeDiff,Nat.beq]
theorem clone80_ok:∀ args rs,cloneX 1 args=some rs→callable Tryz.prog 80=true∧CallOk Tryz.prog 80 args rs:=fun args rs h=>by
 unfold cloneX at h
 split at h
 case h_2=>cases h
 rename_i sz es
 split at h
 case isFalse=>cases h
 rename_i hc
 obtain ⟨rfl,hl⟩:=hc
 cases h
 cases es with
 |cons e es =>
  obtain ⟨n,hn⟩:=vmCall_of_cal (clone80_some (en:=oneEnv 80 fn80) (if_pos rfl) hl)
  exact vmCall_ok (oneEnv_ok clone80_fn) hn
 |nil =>
  refine ⟨by kernel_rfl,fun T0 w vs h1 h2 h3 h4 _=>?_⟩
  match vs,h3 with
  |[v],_ =>
   have hv:=h4 0 _ v rfl rfl
   obtain ⟨a,c,rfl,hsl⟩:=sl_nil hv
   refine (cempty80 (ok:=fun _=>True) hsl (by omega)).mono ?_
   rintro e w' ⟨a',n',c',rfl,hrd,hB⟩
   obtain ⟨v,hv,hb,⟨xs,hown,_⟩,hnil⟩:=hrd
   obtain rfl:Value.slice a' n' c'=v:=by simpa using hv
   rcases hown.2 with ⟨e1,_⟩|⟨g,cap,cur,e1,_,hg,_,hm,hs,_⟩
   ·refine ⟨_,T0,rfl,hB,fun _ _=>rfl,fun b hb=>h2 b (by have:=hB.size;omega),#[_],rfl,rfl,fun i r u hr hu=>?_⟩
    cases i with
    |zero=>cases hr;cases hu;exact .inl ⟨rfl,none,e1⟩
    |succ i=>simp at hr
   ·have hg0:w.heap.size≤g:=hb g (by rw [e1];rfl)
    have hgl:g<w'.heap.size:=(Array.getElem?_eq_some_iff.1 hg).1
    refine ⟨_,fun b=>if b=g then .row (.part 0 0) else T0 b,rfl,hB,fun b hb=>if_neg (by omega),fun b hb=>?_,#[_],rfl,rfl,fun i r u hr hu=>?_⟩
    ·show (if b=g then _ else T0 b)=_
     rw [if_neg (by omega)];exact h2 b (by have:=hB.size;omega)
    ·cases i with
     |zero =>
      cases hr;cases hu
      exact .inr ⟨g,cap,cur,_,e1,if_pos rfl,hg,hs,Nat.zero_le _,hm,(fun e he=>by cases he),fun i e j x hi=>by simp at hi⟩
     |succ i=>simp at hr
end Go.Proofs.YtpcncggjmabnaaaGreatDoor

namespace Go.Proofs.YtpcncggjmabnaaaGreatDoor
open Go.RowKit
def ButB (w w':World) (b:Nat):Prop:=w.heap.size≤w'.heap.size∧w'.os=w.os∧w'.tape=w.tape∧w'.output=w.output∧∀ c,c<w.heap.size→c≠b→w'.heap[c]?=w.heap[c]?
theorem ButB.alloc (w:World) (b:Nat) (o:Obj):ButB w (w.alloc o) b:=⟨by simp,rfl,rfl,rfl,fun c hc _=>Below.heap_alloc _ _ _ hc⟩
theorem ButB.set {w w':World} {b:Nat} (h:ButB w w' b) (k:Nat) (v:Value):ButB w (w'.setCell ⟨b,k,none⟩ v) b :=
 ⟨by simpa [World.setCell] using h.1,h.2.1,h.2.2.1,h.2.2.2.1,fun c hc hne=>by
  rw [← h.2.2.2.2 c hc hne]
  exact Below.heap_setCell w' _ v c fun e=>hne e⟩
end Go.Proofs.YtpcncggjmabnaaaGreatDoor
