/-
  Part 11 of the texts that the statement stands on.
-/
import Derived.Test.YtpcncggjmabnaaaGreatDoorZ10
import Derived.Test.YtpcncggjmabnaaaGreatDoorChecked
set_option linter.all false
namespace Go.Proofs.YtpcncggjmabnaaaGreatDoor.V
theorem aki (im:ig) (l:List gZ):bW (fW im l 0)=[.pv (.bool false),.pv (.bool false),.pv (.bool false),.pv (.bool false),.pv (.bool false),.pv (.bool false),.pv (.bool false),.pv (.bool false),.pv (.bool false),.pv (.bool false),.pv (.bool false),.pv (.bool false),.pv (.bool false),.pv (.bool false),.pv (.bool false),.pv (.bool false),.pv (.bool false),.pv (.bool false),.pv (.bool false),.pv (.bool false),.pv (.bool false),.pv (.bool false),.pv (.bool false),.pv (.bool false),.pv (.bool false),.pv (.bool false),.pv (.bool false),.pv (.bool false),.pv (.bool false),.pv (.bool false),.pv (.bool false),.pv (.bool false),.pv (.bool false),.pv (.bool false),.pv (.bool false),.pv (.bool false),.pv (.bool false),.pv (.bool false),.pv (.bool false),.pv (.bool false),.pv (.bool false),.pv (.bool false),.pv (.bool false),.pv (.bool false),.pv (.bool false),.pv (.bool false),.pv (.bool false),.pv (.bool false),.pv (.bool false),.pv (.bool false),.pv (.bool false),.pv (.bool false),.pv (.bool false),.pv (.bool false),.pv (.bool false),.pv (.bool false),.pv (.bool false),.pv (.bool false),.pv (.bool false),.pv (.bool false)]:=rfl
def wo (f:Nat→Bool) (v j:Nat):Nat:=((List.range j).filter fun n=>f (v * 30+n)).length
theorem Zg (f:Nat→Bool) (v j:Nat):wo f v (j+1)=wo f v j+(if f (v * 30+j) then 1 else 0):=by
 unfold wo
 rw [List.range_succ,List.filter_append,List.length_append]
 cases c:f (v * 30+j)<;>simp [c]
theorem Wu (f:Nat→Bool) (v j:Nat):wo f v j≤j:=by
 unfold wo
 have:=List.length_filter_le (fun n=>f (v * 30+n)) (List.range j)
 rw [List.length_range] at this;exact this
def cA (f:Nat→Bool) (im:ig):Nat→Nat
 |0=>0
 |v+1=>cA f im v+wo f v (im.getD v []).length
theorem Wv {s:og} {im:ig} {f:Nat→Bool} (h:xg s.dt s.sz=true) (hs:FC im s.sz=true) (hb:∀ v n:Nat,v<im.length→n<(im.getD v []).length→bit (s.dt.getD v ⟨0,[]⟩).ws n=f (v * 30+n)):∀ n,n≤im.length→dL (FB im (s.dt.map qj) n)=(cA f im n:Int)
 |0,_=>by simp [FB,dL,cA]
 |n+1,hn=>by
  have ih:=Wv h hs hb n (by omega)
  have hz:=vU h
  have e:=Dl.1 hs
  have hl:s.dt.length=im.length:=by rw [hz.1,← e];simp [aA]
  have hv:n<s.dt.length:=by omega
  have Cm:n<im.length:=by omega
  obtain ⟨k1,k2⟩:=hz.2 n hv
  have hsz:s.dt[n].size=(im[n].length:Int):=by
   rw [k2,← e]
   simp [aA,List.getD_eq_getElem?_getD,Cm]
  have e2:(s.dt.map qj).getD n []=ext (bit s.dt[n].ws) im[n].length:=by
   rw [List.getD_eq_getElem?_getD,List.getElem?_map,List.getElem?_eq_getElem hv]
   show qj s.dt[n]=_
   unfold qj xR
   rw [if_pos k1,hsz];rfl
  have e3:im.getD n []=im[n]:=by simp [Cm]
  rw [zI,I4,e2,FQ (fun x hx=>by
   have:=Az _ _ x hx
   rw [e3];exact this),VO,ih]
  have e4:(List.range im[n].length).filter (bit s.dt[n].ws)=(List.range im[n].length).filter fun k=>f (n * 30+k):=by
   refine List.filter_congr fun k hk=>?_
   have:=hb n k Cm (by rw [e3];exact List.mem_range.1 hk)
   rw [← this,List.getD_eq_getElem?_getD,List.getElem?_eq_getElem hv];rfl
  rw [e4]
  show _=((cA f im n+wo f n (im.getD n []).length:Nat):Int)
  unfold wo
  rw [e3];omega
structure akj (ws:List bK) (im:ig) (f:Nat→Bool):Prop where
 md:∀ w∈ws,CB w
 ln:ws.length≤100000
 lk:∀ v n:Nat,v<im.length→n<(im.getD v []).length→pG ws (v:Int) (n:Int)=if f (v * 30+n) then some (BR im v n) else none
 sz:∀ v:Nat,(im.getD v []).length≤20
theorem ag1 {s:lS} {ws:List bK} {v c:Nat} {f:Nat→Bool} {y0 y1 y2 y3 y4 y5 y6 x0 x1 x2 x3 x4 x5 x6 c0 c1 c2 c3 Wx:PV} (hH:akj ws s.so f) (hv:v<s.so.length) (hv2:v<2) (hc:c≤1000) {st:St} (h:st.head [5,10,11,17,18,19,20,21,37] st.boxes.length=some ⟨sl 183 [(5,.pv (.list 1 ((aA s.so).map eI))),(10,.aF 1 0),(11,.aF 2 0),(17,.aF 4 0),(18,.pv Wx),(19,.pv (.int .i64 ((c+wo f v ((0:Nat)):Nat):Int))),(20,.pv (.int .i64 (v:Nat))),(21,.pv (.int .i64 (0:Nat))),(37,.any)],[⟨false,[.pv y0,.pv y1,.pv y2,.pv y3,.pv y4,.pv y5,.pv y6]⟩,⟨false,BQ s⟩,⟨false,bW f⟩,⟨false,[.pv x0,.pv x1,.pv x2,.pv x3,.pv x4,.pv x5,.pv x6]⟩,⟨false,[.pv c0,.pv c1,.pv c2,.pv c3,.pv (.list 3 (ws.map dQ))]⟩],[],none⟩) :
  den env TS st=some (.normal,⟨sl 183 [(4,.any),(5,.pv (.list 1 ((aA s.so).map eI))),(10,.aF 1 0),(11,.aF 2 0),(17,.aF 4 0),(18,.pv Wx),(19,.pv (.int .i64 ((c+wo f v (s.so.getD v []).length:Nat):Int))),(20,.pv (.int .i64 (v:Nat))),(37,.any)],[⟨false,[.pv y0,.pv y1,.pv y2,.pv y3,.pv y4,.pv y5,.pv y6]⟩,⟨false,BQ s⟩,⟨false,bW f⟩,⟨false,[.pv x0,.pv x1,.pv x2,.pv x3,.pv x4,.pv x5,.pv x6]⟩,⟨false,[.pv c0,.pv c1,.pv c2,.pv c3,.pv (.list 3 (ws.map dQ))]⟩],[],none⟩):=by
 unfold TS
 refine bC (env:=env) (nb:=5) ((s.so.getD v []).length) (fun i=>⟨sl 183 [(5,.pv (.list 1 ((aA s.so).map eI))),(10,.aF 1 0),(11,.aF 2 0),(17,.aF 4 0),(18,.pv Wx),(19,.pv (.int .i64 ((c+wo f v (i):Nat):Int))),(20,.pv (.int .i64 (v:Nat))),(21,.pv (.int .i64 i)),(37,.any)],[⟨false,[.pv y0,.pv y1,.pv y2,.pv y3,.pv y4,.pv y5,.pv y6]⟩,⟨false,BQ s⟩,⟨false,bW f⟩,⟨false,[.pv x0,.pv x1,.pv x2,.pv x3,.pv x4,.pv x5,.pv x6]⟩,⟨false,[.pv c0,.pv c1,.pv c2,.pv c3,.pv (.list 3 (ws.map dQ))]⟩],[],none⟩) (fun i=>some (.normal,⟨sl 183 [(4,.any),(5,.pv (.list 1 ((aA s.so).map eI))),(10,.aF 1 0),(11,.aF 2 0),(17,.aF 4 0),(18,.pv Wx),(19,.pv (.int .i64 ((c+wo f v (s.so.getD v []).length:Nat):Int))),(20,.pv (.int .i64 (v:Nat))),(37,.any)],[⟨false,[.pv y0,.pv y1,.pv y2,.pv y3,.pv y4,.pv y5,.pv y6]⟩,⟨false,BQ s⟩,⟨false,bW f⟩,⟨false,[.pv x0,.pv x1,.pv x2,.pv x3,.pv x4,.pv x5,.pv x6]⟩,⟨false,[.pv c0,.pv c1,.pv c2,.pv c3,.pv (.list 3 (ws.map dQ))]⟩],[],none⟩)) h (fun _=>rfl) (fun _=>by simp only [aB,bg,Nat.reduceMul,Nat.reduceBEq,Nat.reduceLT,Nat.reduceLeDiff,Nat.reduceAdd,decide_true,Bool.and_self,Bool.true_and]) ?_ ?_
 ·intro i rb hi ih
  have aqN:=hH.sz v
  have hi1:=bG (n:=20) (i:=i) (by omega) (by unfold lim;omega)
  have hlv:v<(aA s.so).length:=by simp [aA];exact hv
  have hgv:s.so.getD v []=s.so[v]:=by simp [hv]
  have hy:((aA s.so).map eI)[v]?=some (.int .i64 ((s.so.getD v []).length:Nat)):=by
   rw [hgv,List.getElem?_map]
   unfold aA
   rw [List.getElem?_map,List.getElem?_eq_getElem hv];rfl
  have F1:((i:Int)<(((s.so.getD v []).length:Nat):Int))=True:=eq_true (by omega)
  have e1:=ahA (l:=ws) (v:=(v:Nat)) (s:=(i:Nat)) hH.md hH.ln (by omega)
  have hlk:=hH.lk v i hv hi
  have hxv:=wY hv
  have hiv:i<s.so[v].length:=by rw [← hgv];exact hi
  have hxs:(s.so[v].map iJ)[i]?=some (iJ s.so[v][i]):=by rw [List.getElem?_map,List.getElem?_eq_getElem hiv];rfl
  have hat:BR s.so v i=s.so[v][i]:=by unfold BR;rw [hgv,List.getD_eq_getElem?_getD,List.getElem?_eq_getElem hiv];rfl
  have I1:index (.int .i64 (v:Nat)) 2=some v:=aj hv2
  have I2:index (.int .i64 (i:Nat)) 30=some i:=aj (by omega)
  have I3:index (.int .i64 (v:Nat)) (aA s.so).length=some v:=aj hlv
  have G1:(bW f)[v * 30+i]?=some (.pv (.bool (f (v * 30+i)))):=MP (by omega)
  have L1:=AZ f
  have hcw:=Wu f v i
  have hcs:=Zg f v i
  generalize bW f=B1 at *
  cases hf:f (v * 30+i) with
  |true =>
   rw [hf,if_pos rfl] at hlk hcs
   rw [hlk,hat,Option.getD_some,Option.isSome_some] at e1
   rw [hf] at G1
   have W1:IntKind.i64.wrap (((c+wo f v i:Nat):Int)+1)=((c+wo f v (i+1):Nat):Int):=by rw [hcs,bn (by omega)];omega
   have hec:=PK s.so[v][i] s.so[v][i]
   obtain ⟨q0,q1,q2,q3,q4,q5,q6,q7,h8⟩:=agy s.so[v][i]
   have hsp:lY s.so[v][i]=[.int .u8 q0,.int .u8 q1,.int .u8 q2,.int .u8 q3,.int .u8 q4,.int .u8 q5,.int .u8 q6,.int .u8 q7]:=by unfold iJ at h8;injection h8
   rw [hsp,decide_eq_true rfl] at hec
   rw [h8] at hxs e1
   simp only [JO,F1,e1,hxv,hxs,hy,I1,I2,I3,G1,L1,W1,hec,Nat.mul_one,IV,dD,aj hv,aj hiv,List.length_map,au,Nat.reduceMul,Nat.reduceBEq,Nat.reduceLT,Nat.reduceLeDiff,reduceCtorEq,Nat.reduceEqDiff,Nat.reduceAdd,Nat.beq]
   rw [ih _ (by simp only [hi1,dD,au,Nat.reduceMul,Nat.reduceBEq,Nat.reduceLT,Nat.reduceLeDiff,reduceCtorEq,Nat.reduceEqDiff,Nat.reduceAdd,Nat.beq]<;>rfl)]
   try rfl
  |false =>
   rw [hf,if_neg Bool.false_ne_true] at hlk hcs
   rw [hlk,Option.getD_none,Option.isSome_none,adq] at e1
   rw [hf] at G1
   rw [Nat.add_zero] at hcs
   rw [hcs] at ih
   simp only [JO,F1,e1,hxv,hxs,hy,I1,I2,I3,G1,L1,Nat.mul_one,IV,dD,aj hv,aj hiv,List.length_map,au,Nat.reduceMul,Nat.reduceBEq,Nat.reduceLT,Nat.reduceLeDiff,reduceCtorEq,Nat.reduceEqDiff,Nat.reduceAdd,Nat.beq]
   rw [ih _ (by simp only [hi1,dD,au,Nat.reduceMul,Nat.reduceBEq,Nat.reduceLT,Nat.reduceLeDiff,reduceCtorEq,Nat.reduceEqDiff,Nat.reduceAdd,Nat.beq]<;>rfl)]
   try rfl
 ·intro rb
  have hlv:v<(aA s.so).length:=by simp [aA];exact hv
  have hgv:s.so.getD v []=s.so[v]:=by simp [hv]
  have hy:((aA s.so).map eI)[v]?=some (.int .i64 ((s.so.getD v []).length:Nat)):=by
   rw [hgv,List.getElem?_map]
   unfold aA
   rw [List.getElem?_map,List.getElem?_eq_getElem hv];rfl
  have I3:index (.int .i64 (v:Nat)) (aA s.so).length=some v:=aj hlv
  generalize bW f=B1 at *
  simp only [JO,hy,I3,Int.lt_irrefl,dD,List.length_map,au,Nat.reduceMul,Nat.reduceBEq,Nat.reduceLT,Nat.reduceLeDiff,reduceCtorEq,Nat.reduceEqDiff,Nat.reduceAdd,Nat.beq]
theorem ag2 {s:lS} {ws:List bK} {f:Nat→Bool} {y0 y1 y2 y3 y4 y5 y6 x0 x1 x2 x3 x4 x5 x6 c0 c1 c2 c3 Wx:PV} (hH:akj ws s.so f) (hv:s.so.length=2) {st:St} (h:st.head [5,10,11,17,18,19,20,37] st.boxes.length=some ⟨sl 183 [(5,.pv (.list 1 ((aA s.so).map eI))),(10,.aF 1 0),(11,.aF 2 0),(17,.aF 4 0),(18,.pv Wx),(19,.pv (.int .i64 ((cA f s.so ((0:Nat)):Nat):Int))),(20,.pv (.int .i64 (0:Nat))),(37,.any)],[⟨false,[.pv y0,.pv y1,.pv y2,.pv y3,.pv y4,.pv y5,.pv y6]⟩,⟨false,BQ s⟩,⟨false,bW f⟩,⟨false,[.pv x0,.pv x1,.pv x2,.pv x3,.pv x4,.pv x5,.pv x6]⟩,⟨false,[.pv c0,.pv c1,.pv c2,.pv c3,.pv (.list 3 (ws.map dQ))]⟩],[],none⟩) :
  den env TV st=some (.normal,⟨sl 183 [(4,.any),(10,.aF 1 0),(17,.aF 4 0),(18,.pv Wx),(19,.pv (.int .i64 ((cA f s.so 2:Nat):Int)))],[⟨false,[.pv y0,.pv y1,.pv y2,.pv y3,.pv y4,.pv y5,.pv y6]⟩,⟨false,BQ s⟩,⟨false,bW f⟩,⟨false,[.pv x0,.pv x1,.pv x2,.pv x3,.pv x4,.pv x5,.pv x6]⟩,⟨false,[.pv c0,.pv c1,.pv c2,.pv c3,.pv (.list 3 (ws.map dQ))]⟩],[],none⟩):=by
 unfold TV
 refine bC (env:=env) (nb:=5) (2) (fun i=>⟨sl 183 [(5,.pv (.list 1 ((aA s.so).map eI))),(10,.aF 1 0),(11,.aF 2 0),(17,.aF 4 0),(18,.pv Wx),(19,.pv (.int .i64 ((cA f s.so (i):Nat):Int))),(20,.pv (.int .i64 i)),(37,.any)],[⟨false,[.pv y0,.pv y1,.pv y2,.pv y3,.pv y4,.pv y5,.pv y6]⟩,⟨false,BQ s⟩,⟨false,bW f⟩,⟨false,[.pv x0,.pv x1,.pv x2,.pv x3,.pv x4,.pv x5,.pv x6]⟩,⟨false,[.pv c0,.pv c1,.pv c2,.pv c3,.pv (.list 3 (ws.map dQ))]⟩],[],none⟩) (fun i=>some (.normal,⟨sl 183 [(4,.any),(10,.aF 1 0),(17,.aF 4 0),(18,.pv Wx),(19,.pv (.int .i64 ((cA f s.so 2:Nat):Int)))],[⟨false,[.pv y0,.pv y1,.pv y2,.pv y3,.pv y4,.pv y5,.pv y6]⟩,⟨false,BQ s⟩,⟨false,bW f⟩,⟨false,[.pv x0,.pv x1,.pv x2,.pv x3,.pv x4,.pv x5,.pv x6]⟩,⟨false,[.pv c0,.pv c1,.pv c2,.pv c3,.pv (.list 3 (ws.map dQ))]⟩],[],none⟩)) h (fun _=>rfl) (fun _=>by simp only [aB,bg,Nat.reduceMul,Nat.reduceBEq,Nat.reduceLT,Nat.reduceLeDiff,Nat.reduceAdd,decide_true,Bool.and_self,Bool.true_and]) ?_ ?_
 ·intro i rb hi ih
  have hi1:=bG (n:=2) hi (by unfold lim;omega)
  have F1:((i:Int)<2)=True:=eq_true (by omega)
  have aoI:cA f s.so i≤1000:=by
   have k0:=Wu f 0 (s.so.getD 0 []).length
   have:=hH.sz 0
   match i,hi with
   |0,_=>exact Nat.zero_le _
   |1,_=>show 0+wo f 0 (s.so.getD 0 []).length≤1000;omega
  have H:=fun (st:St)=>ag1 (st:=st) (s:=s) (ws:=ws) (v:=i) (c:=cA f s.so i) (f:=f) (y0:=y0) (y1:=y1) (y2:=y2) (y3:=y3) (y4:=y4) (y5:=y5) (y6:=y6) (x0:=x0) (x1:=x1) (x2:=x2) (x3:=x3) (x4:=x4) (x5:=x5) (x6:=x6) (c0:=c0) (c1:=c1) (c2:=c2) (c3:=c3) (Wx:=Wx) hH (by omega) hi aoI
  rw [show cA f s.so i+wo f i (s.so.getD i []).length=cA f s.so (i+1) from rfl,show cA f s.so i+wo f i 0=cA f s.so i from rfl] at H
  generalize bW f=B1 at *
  simp only [TU,F1,dD,List.length_map,au,Nat.reduceMul,Nat.reduceBEq,Nat.reduceLT,Nat.reduceLeDiff,reduceCtorEq,Nat.reduceEqDiff,Nat.reduceAdd,Nat.beq]
  rw [H _ (by simp only [dD];simp only [aB,bg,Nat.reduceMul,Nat.reduceBEq,Nat.reduceLT,Nat.reduceLeDiff,Nat.reduceAdd,decide_true,Bool.and_self,Bool.true_and]<;>rfl)]
  simp only [dD,au,Nat.reduceMul,Nat.reduceBEq,Nat.reduceLT,Nat.reduceLeDiff,reduceCtorEq,Nat.reduceEqDiff,Nat.reduceAdd,Nat.beq]
  rw [ih _ (by simp only [hi1,dD,au,Nat.reduceMul,Nat.reduceBEq,Nat.reduceLT,Nat.reduceLeDiff,reduceCtorEq,Nat.reduceEqDiff,Nat.reduceAdd,Nat.beq]<;>rfl)]
  try rfl
 ·intro rb
  have F1:(((2:Nat):Int)<2)=False:=eq_false (by omega)
  generalize bW f=B1 at *
  simp only [TU,F1,dD,List.length_map,au,Nat.reduceMul,Nat.reduceBEq,Nat.reduceLT,Nat.reduceLeDiff,reduceCtorEq,Nat.reduceEqDiff,Nat.reduceAdd,Nat.beq]
theorem akk {s:og} {im:ig} (h:xg s.dt s.sz=true) (hs:FC im s.sz=true) (hi:smI im):∀ w∈Gi im (s.dt.map qj),CB w:=by
 have hF:=UF h hs hi
 obtain ⟨w1,w2⟩:=UG h hs hi
 intro w hw
 refine ⟨?_,Nat.le_trans (w2 w hw) (by decide)⟩
 unfold Gi FB at hw
 obtain ⟨v,hv1,hx1⟩:=List.mem_flatMap.1 hw
 have hv:v<(s.dt.map qj).length:=List.mem_range.1 hv1
 unfold Dk at hx1
 obtain ⟨e,he,rfl⟩:=List.mem_map.1 hx1
 have e1:(s.dt.map qj).getD v []=(s.dt.map qj)[v]:=by rw [List.getD_eq_getElem?_getD,List.getElem?_eq_getElem hv];rfl
 rw [e1] at he
 have q:=hF.fx v hv e he
 have Cm:v<im.length:=by have:=hF.ln;omega
 have e2:im.getD v []=im[v]:=by simp [Cm]
 have:=hi.vo _ (List.getElem_mem Cm)
 rw [e2] at q
 show 0≤e.start∧e.start≤100000
 omega
theorem amY {a:Int} (h:0≤a∧a≤255):ad3 [1+a % 20,3]:=by
 refine ⟨rfl,fun x hx=>?_⟩
 rcases List.mem_cons.1 hx with e|e
 ·omega
 ·rw [List.mem_singleton.1 e];decide
set_option maxRecDepth 40000 in
set_option maxHeartbeats 2000000 in
theorem aoJ {a:Int} {l:List gZ} (ha:0≤a∧a≤255) (hz:szE l):cal env 9 [.int .u8 a,.list 3 (l.map CJ)]=some [(.bool true,false)]:=by
 have a1:=acI
 have e0:=amN hz
 cases c0:MK l with
 |false =>
  rw [c0] at e0
  rw [ah aiv rfl];simp only [fn9,aB,Nat.reduceBEq,Nat.reduceLeDiff,Nat.reduceAdd,List.length_cons,List.length_nil]
  simp only [a1,e0,List.length_map,au,Nat.reduceMul,Nat.reduceBEq,Nat.reduceLT,Nat.reduceLeDiff,reduceCtorEq,Nat.reduceEqDiff,Nat.reduceAdd,Nat.beq]
 |true =>
  rw [c0] at e0
  by_cases c2:l.length<2
  ·have F2:((l.length:Int)<2)=True:=eq_true (by omega)
   rw [ah aiv rfl];simp only [fn9,aB,Nat.reduceBEq,Nat.reduceLeDiff,Nat.reduceAdd,List.length_cons,List.length_nil]
   simp only [a1,e0,F2,List.length_map,au,Nat.reduceMul,Nat.reduceBEq,Nat.reduceLT,Nat.reduceLeDiff,reduceCtorEq,Nat.reduceEqDiff,Nat.reduceAdd,Nat.beq]
  have F2:((l.length:Int)<2)=False:=eq_false (by omega)
  obtain ⟨z1,z2⟩:=amQ ha
  have z3:=amY ha
  have W1:IntKind.i64.wrap a=a:=bn (by omega)
  have T1:a.tmod 20=a % 20:=Int.tmod_eq_emod_of_nonneg ha.1
  have W3:IntKind.i64.wrap (a % 20)=a % 20:=bn (by omega)
  have W4:IntKind.i64.wrap (1+a % 20)=1+a % 20:=bn (by omega)
  have Z20:((20:Int)=0)=False:=eq_false (by decide)
  have Z0:((0:Int)==0)=true:=rfl
  have hl2:[1+a % 20,(3:Int)].map eI=[.int .i64 (1+a % 20),.int .i64 3]:=rfl
  generalize hzz:[1+a % 20,(3:Int)]=z at *
  have e1:=alZ (z:=z) (by rw [z3.1];decide)
  rw [z1,if_pos rfl] at e1
  have e2:=alY (z:=z) (n:=1) (by rw [z3.1];unfold lim;decide)
  obtain ⟨q1,q2⟩:=agU (z:=z) (n:=1) z1 (by decide)
  rw [q1,q2] at e2
  have hE:oI (q0 z 1)=.agg [.int .i64 1,.list 1 (z.map eI),.list 5 [],.bool false,.int .i64 0,.int .i64 0,.list 2 []]:=rfl
  rw [hE] at e2
  have hs0:BQ (s0 z 1)=[.pv (.list 1 ((aC z).map bf)),.pv (.list 1 ((aC z).map bf)),.pv (.int .i64 1),.pv (.list 1 (z.map eI)),.pv (.list 5 []),.pv (.bool false),.pv (.int .i64 0),.pv (.int .i64 0),.pv (.list 2 []),.pv (.int .i64 0),.pv (.int .i64 0),.pv (.bool true)]:=rfl
  have hI:=Dt z1 z2 c0 hz l.length (Nat.le_refl _)
  have hov:=hI.o1 (by omega)
  have H5:=@ag0 z l
  have hb0:=aki (aC z) l
  have aoK:QA (s0 z 1) l 0=s0 z 1:=rfl
  rw [hb0,aoK,hs0] at H5
  rw [hl2] at e1 e2 H5
  have hmk:∀ v n:Nat,v<8→(n:Int)<z.getD v 0→bit ((QA (s0 z 1) l l.length).q.dt.getD v ⟨0,[]⟩).ws n=fW (aC z) l l.length (v * 30+n):=fun v n hv hn=>by
   have:=hI.mr v n hv hn
   unfold mrk at this
   rw [hov,if_pos rfl] at this
   rw [this]
   have h20:n<30:=by
    have:z.getD v 0≤20:=by
     rw [List.getD_eq_getElem?_getD]
     cases e:z[v]? with
     |none=>decide
     |some x=>exact z3.2 x (List.mem_of_getElem? e)
    omega
   unfold fW
   rw [show (v * 30+n) / 30=v by omega,show (v * 30+n) % 30=n by omega]
  generalize fW (aC z) l l.length=f at *
  have hrt:=hI.gd.rt
  have hsm:=hI.gd.sm
  obtain ⟨d1,d2,d3,d4⟩:=aj8 ⟨hI.gd.im,hI.gd.sz,hI.gd.ck,hI.gd.sm,hI.gd.vo,hI.gd.rt⟩ hov
  have hsz:=hI.gd.sz
  have hqz:=hI.sz
  have hd0:GU (QA (s0 z 1) l l.length).q (QA (s0 z 1) l l.length).so 0=0:=by
   unfold GU
   rw [if_pos hI.gd.ck,if_pos hI.gd.im,if_pos hov,if_pos d4,if_neg (by decide)]
  generalize QA (s0 z 1) l l.length=S at *
  have e3:=amv (t:=0) hsm d2
  have hC:adp S.q S.so 0=xw S.q S.so 0:=by unfold adp;rw [if_pos hd0]
  have hcE:gU (xw S.q S.so 0)=.agg [.int .i64 S.q.fs,.int .i64 S.q.ls,.int .i64 0,.list 1 [],.list 3 ((Gi S.so (S.q.dt.map qj)).map dQ)]:=rfl
  rw [hd0,hC,hcE] at e3
  obtain ⟨w1,w2⟩:=UG d3 d4 d2
  have e4:=amn (l:=Gi S.so (S.q.dt.map qj)) w2 (by omega)
  have hlen:(S.q.dt.map qj).length=S.so.length:=by
   rw [List.length_map,(vU d3).1,← hsz];simp [aA]
  have amZ:S.so.length=2:=by
   have:(aA S.so).length=S.so.length:=by simp [aA]
   rw [← this,hsz,hqz];exact z3.1
  have hzv:∀ v:Nat,((S.so.getD v []).length:Int)=z.getD v 0:=fun v=>by
   rw [← hqz,← hsz]
   by_cases c:v<S.so.length
   ·simp [aA,List.getD_eq_getElem?_getD,c]
   ·simp [aA,List.getD_eq_getElem?_getD,Nat.le_of_not_lt c]
  have hb:∀ v n:Nat,v<S.so.length→n<(S.so.getD v []).length→bit (S.q.dt.getD v ⟨0,[]⟩).ws n=f (v * 30+n):=fun v n hv hn=>hmk v n (by omega) (by rw [← hzv];omega)
  have aoL:=Wv d3 d4 hb S.so.length (Nat.le_refl _)
  have am0:dL (Gi S.so (S.q.dt.map qj))=((cA f S.so 2:Nat):Int):=by
   unfold Gi
   rw [hlen,aoL,amZ]
  rw [am0] at e4
  have hH:akj (Gi S.so (S.q.dt.map qj)) S.so f:=by
   refine ⟨akk d3 d4 d2,by omega,fun v n hv hn=>?_,fun v=>?_⟩
   ·have aoM:=vU d3
    have hvd:v<S.q.dt.length:=by rw [List.length_map] at hlen;omega
    obtain ⟨b1,b2⟩:=aoM.2 v hvd
    have e5:(S.q.dt.map qj).getD v []=qj S.q.dt[v]:=by simp [List.getD_eq_getElem?_getD,hvd]
    have e6:S.q.dt.getD v ⟨0,[]⟩=S.q.dt[v]:=by simp [List.getD_eq_getElem?_getD,hvd]
    have hbv:=hb v n hv hn
    rw [e6] at hbv
    unfold Gi
    rw [Wi (UF d3 d4 d2) v n _ (Nat.le_refl _),e5,agT b1,hbv]
    cases f (v * 30+n) with
    |true=>rw [if_pos ⟨by rw [hlen];exact hv,rfl⟩,if_pos rfl]
    |false=>rw [if_neg (by simp),if_neg Bool.false_ne_true]
   ·have h1:=hzv v
    have h2:z.getD v 0≤20:=by
     rw [List.getD_eq_getElem?_getD]
     cases e:z[v]? with
     |none=>decide
     |some x=>exact z3.2 x (List.mem_of_getElem? e)
    omega
  have hN:(((cA f S.so 2:Nat):Int)==((cA f S.so 2:Nat):Int))=true:=by simp
  have hzi:z.map eI=(aA S.so).map eI:=by rw [hsz,hqz]
  have H9:=fun {y0 y1 y2 y3 y4 y5 y6 x0 x1 x2 x3 x4 x5 x6 c0 c1 c2 c3 Wx:PV} {st:St}=>ag2 (s:=S) (ws:=Gi S.so (S.q.dt.map qj)) (f:=f) (y0:=y0) (y1:=y1) (y2:=y2) (y3:=y3) (y4:=y4) (y5:=y5) (y6:=y6) (x0:=x0) (x1:=x1) (x2:=x2) (x3:=x3) (x4:=x4) (x5:=x5) (x6:=x6) (c0:=c0) (c1:=c1) (c2:=c2) (c3:=c3) (Wx:=Wx) (st:=st) hH amZ
  rw [← hzi,hl2] at H9
  rw [show cA f S.so 0=0 from rfl] at H9
  generalize agv S.q S.so 0=Q at *
  rw [eP,hov,eP Q] at e3
  generalize cA f S.so 2=cnt at *
  generalize (Gi S.so (S.q.dt.map qj)).map dQ=WW at *
  generalize (aC z).map bf=IM at *
  generalize bW f=B1 at *
  have SC:(PV.agg [.int .i64 1,.list 1 [.int .i64 (1+a % 20),.int .i64 3],.list 5 [],.bool false,.int .i64 0,.int .i64 0,.list 2 []]).scalar=false:=rfl
  rw [ah aiv rfl];simp only [fn9,aB,Nat.reduceBEq,Nat.reduceLeDiff,Nat.reduceAdd,List.length_cons,List.length_nil]
  simp only [SC,a1,e0,e1,e2,F2,W1,W3,W4,T1,Z20,Z0,fP,FP,List.length_map,au,Nat.reduceMul,Nat.reduceBEq,Nat.reduceLT,Nat.reduceLeDiff,reduceCtorEq,Nat.reduceEqDiff,Nat.reduceAdd,Nat.beq]
  rw [H5 z3 z1 c0 hz (by simp only [aB,bg,Nat.reduceMul,Nat.reduceBEq,Nat.reduceLT,Nat.reduceLeDiff,Nat.reduceAdd,decide_true,Bool.and_self,Bool.true_and]<;>rfl)]
  simp only [e3,hov,hrt,dD,fP,FP,au,Nat.reduceMul,Nat.reduceBEq,Nat.reduceLT,Nat.reduceLeDiff,reduceCtorEq,Nat.reduceEqDiff,Nat.reduceAdd,Nat.beq]
  rw [H9 (by simp only [dD,hov,hrt];simp only [aB,bg,Nat.reduceMul,Nat.reduceBEq,Nat.reduceLT,Nat.reduceLeDiff,Nat.reduceAdd,decide_true,Bool.and_self,Bool.true_and]<;>rfl)]
  simp only [a1,e4,hrt,hN,Z0,dD,fP,FP,au,Nat.reduceMul,Nat.reduceBEq,Nat.reduceLT,Nat.reduceLeDiff,reduceCtorEq,Nat.reduceEqDiff,Nat.reduceAdd,Nat.beq]
end Go.Proofs.YtpcncggjmabnaaaGreatDoor.V

namespace Go.Proofs.YtpcncggjmabnaaaGreatDoor
open Go.RowKit
def iZ (arr:Array Value) (fr to:Nat):Array Value:=arr.mapIdx fun t u=>if fr≤t∧t<to then .bool true else u
theorem lF (arr:Array Value) (fr:Nat):iZ arr fr fr=arr:=by
 unfold iZ
 apply Array.ext (by simp)
 intro i h1 h2
 simp only [Array.getElem_mapIdx]
 rw [if_neg (by omega)]
theorem sK (arr:Array Value) {fr k:Nat} (h:fr≤k):(iZ arr fr k).setIfInBounds k (.bool true)=iZ arr fr (k+1):=by
 unfold iZ
 apply Array.ext_getElem?
 intro i
 rw [Array.getElem?_setIfInBounds,Array.getElem?_mapIdx,Array.getElem?_mapIdx,Array.size_mapIdx]
 by_cases e:k=i
 ·subst e
  rw [if_pos rfl]
  by_cases hk:k<arr.size
  ·rw [if_pos hk,Array.getElem?_eq_getElem hk,Option.map_some,if_pos ⟨h,by omega⟩]
  ·rw [if_neg hk,Array.getElem?_eq_none (by omega)];rfl
 ·rw [if_neg e]
  cases arr[i]? with
  |none=>rfl
  |some u =>
   simp only [Option.map_some]
   by_cases q:fr≤i∧i<k
   ·rw [if_pos q,if_pos ⟨q.1,by omega⟩]
   ·rw [if_neg q,if_neg (by omega)]
def uO (w w':World) (b:Nat):Prop:=w.heap.size≤w'.heap.size∧w'.os=w.os∧w'.tape=w.tape∧w'.output=w.output∧∀ c,c<w.heap.size→c≠b→w'.heap[c]?=w.heap[c]?
theorem uO.alloc (w:World) (b:Nat) (o:Obj):uO w (w.alloc o) b:=⟨by simp,rfl,rfl,rfl,fun c hc _=>Below.heap_alloc _ _ _ hc⟩
theorem uO.set {w w':World} {b:Nat} (h:uO w w' b) (k:Nat) (v:Value):uO w (w'.setCell ⟨b,k,none⟩ v) b :=
 ⟨by simpa [World.setCell] using h.1,h.2.1,h.2.2.1,h.2.2.2.1,fun c hc hne=>by
  rw [← h.2.2.2.2 c hc hne]
  exact Below.heap_setCell w' _ v c fun e=>hne e⟩
set_option maxHeartbeats 4000000 in
theorem add_any {b cc n:Nat} {arr:Array Value} {E:TypeId} {s c:Int} {w:World} (hb:w.heap[b]?=some (.cells arr E (0,0))) (hn:n≤arr.size) (hn2:n≤4096) (hs:-9223372036854775808≤s∧s≤9223372036854775807) (hc:-9223372036854775808≤c∧c≤9223372036854775807) :
  Calls Tryz.prog 115 #[.slice (some ⟨b,0,none⟩) n cc,.agg #[.int .i64 s,.int .i64 c]] w fun e w'=>e=.returned (.tuple #[])∧uO w w' b∧∃ fr to:Nat,w'.heap[b]?=some (.cells (iZ arr fr to) E (0,0))∧to≤max fr n∧∀ t:Nat,t<n→((fr≤t∧t<to) ↔ (0<c∧s≤(t:Int)∧(t:Int)<s+c)):=by
 have hbl:b<w.heap.size:=(Array.getElem?_eq_some_iff.1 hb).1
 by_cases h1:c≤0
 ·have key:∀ t:Nat,t<n→((0≤t∧t<0) ↔ (0<c∧s≤(t:Int)∧(t:Int)<s+c)):=fun t ht=>⟨fun h=>by omega,fun h=>by omega⟩
  go_enter Tryz.func115,Tryz.ntmps115
  go_wp2
  refine bodyPost_ret (results_none rfl _ _ _) rfl ?_
  exact ⟨rfl,uO.alloc w b _,0,0,by rw [lF,Below.heap_alloc _ _ _ hbl];exact hb,by omega,fun t ht=>⟨fun h=>by omega,fun h=>by omega⟩⟩
 by_cases h3:(n:Int)≤s
 ·have key:∀ t:Nat,t<n→((0≤t∧t<0) ↔ (0<c∧s≤(t:Int)∧(t:Int)<s+c)):=fun t ht=>⟨fun h=>by omega,fun h=>by omega⟩
  go_enter Tryz.func115,Tryz.ntmps115
  go_wp2
  refine bodyPost_ret (results_none rfl _ _ _) rfl ?_
  exact ⟨rfl,uO.alloc w b _,0,0,by rw [lF,Below.heap_alloc _ _ _ hbl];exact hb,by omega,fun t ht=>⟨fun h=>by omega,fun h=>by omega⟩⟩
 by_cases h2:s<0
 ·by_cases h4:(n:Int)≤s+c
  ·go_enter Tryz.func115,Tryz.ntmps115
   go_wp2
   go_loopw [6] (fun i wr=>∃ k:Nat,0≤k∧((k:Int)≤(n:Int)∨k=0)∧i=.int .i64 k∧wr.heap[b]?=some (.cells (iZ arr (0) k) E (0,0))∧uO w wr b) (fun i _=>((n:Int) - intOf i).toNat)
   case atStart =>
    exact ⟨0,Nat.le_refl _,.inr rfl,by first|rfl|(congr 1;omega),by rw [lF,Below.heap_alloc _ _ _ hbl];exact hb,uO.alloc w b _⟩
   case round =>
    obtain ⟨k,hk1,hk2,rfl,hg,hB⟩:=hrel
    by_cases hlt:(k:Int)<(n:Int)
    ·have hka:k<arr.size:=by omega
     have hfz:wr.frozen? ⟨b,k,none⟩=false:=by simp [World.frozen?,hg]
     have hsz:k<(iZ arr (0) k).size:=by simpa [iZ] using hka
     have hcell:wr.cell? ⟨b,k,none⟩=some (iZ arr (0) k)[k]:=by rw [cell_of_row wr _ _ _ _ (0,0) hg];exact Array.getElem?_eq_getElem hsz
     go_wp2
     go_roundw
     case rel =>
      refine ⟨k+1,by omega,.inl (by omega),by go_num,?_,hB.set _ _⟩
      simp only [World.setCell,Array.getElem?_modify,hg,if_true,Option.map_some,Option.isSome_none,Bool.false_eq_true,if_false]
      rw [sK arr hk1]
     case measure=>simp [intOf];omega
    ·go_wp2
     first|go_end0|go_ret
     exact ⟨rfl,hB,0,k,hg,by omega,fun t ht=>⟨fun h=>by omega,fun h=>by omega⟩⟩
  ·go_enter Tryz.func115,Tryz.ntmps115
   go_wp2
   go_loopw [6] (fun i wr=>∃ k:Nat,0≤k∧((k:Int)≤(s+c)∨k=0)∧i=.int .i64 k∧wr.heap[b]?=some (.cells (iZ arr (0) k) E (0,0))∧uO w wr b) (fun i _=>((s+c) - intOf i).toNat)
   case atStart =>
    exact ⟨0,Nat.le_refl _,.inr rfl,by first|rfl|(congr 1;omega),by rw [lF,Below.heap_alloc _ _ _ hbl];exact hb,uO.alloc w b _⟩
   case round =>
    obtain ⟨k,hk1,hk2,rfl,hg,hB⟩:=hrel
    by_cases hlt:(k:Int)<(s+c)
    ·have hka:k<arr.size:=by omega
     have hfz:wr.frozen? ⟨b,k,none⟩=false:=by simp [World.frozen?,hg]
     have hsz:k<(iZ arr (0) k).size:=by simpa [iZ] using hka
     have hcell:wr.cell? ⟨b,k,none⟩=some (iZ arr (0) k)[k]:=by rw [cell_of_row wr _ _ _ _ (0,0) hg];exact Array.getElem?_eq_getElem hsz
     go_wp2
     go_roundw
     case rel =>
      refine ⟨k+1,by omega,.inl (by omega),by go_num,?_,hB.set _ _⟩
      simp only [World.setCell,Array.getElem?_modify,hg,if_true,Option.map_some,Option.isSome_none,Bool.false_eq_true,if_false]
      rw [sK arr hk1]
     case measure=>simp [intOf];omega
    ·go_wp2
     first|go_end0|go_ret
     exact ⟨rfl,hB,0,k,hg,by omega,fun t ht=>⟨fun h=>by omega,fun h=>by omega⟩⟩
 ·obtain ⟨fr,rfl⟩:∃ fr:Nat,s=(fr:Int):=⟨s.toNat,by omega⟩
  have hfr:fr<n:=by omega
  by_cases h5:c≤4096
  ·by_cases h4:(n:Int)≤(fr:Int)+c
   ·go_enter Tryz.func115,Tryz.ntmps115
    go_wp2
    go_loopw [6] (fun i wr=>∃ k:Nat,fr≤k∧((k:Int)≤(n:Int)∨k=fr)∧i=.int .i64 k∧wr.heap[b]?=some (.cells (iZ arr (fr) k) E (0,0))∧uO w wr b) (fun i _=>((n:Int) - intOf i).toNat)
    case atStart =>
     exact ⟨fr,Nat.le_refl _,.inr rfl,by first|rfl|(congr 1;omega),by rw [lF,Below.heap_alloc _ _ _ hbl];exact hb,uO.alloc w b _⟩
    case round =>
     obtain ⟨k,hk1,hk2,rfl,hg,hB⟩:=hrel
     by_cases hlt:(k:Int)<(n:Int)
     ·have hka:k<arr.size:=by omega
      have hfz:wr.frozen? ⟨b,k,none⟩=false:=by simp [World.frozen?,hg]
      have hsz:k<(iZ arr (fr) k).size:=by simpa [iZ] using hka
      have hcell:wr.cell? ⟨b,k,none⟩=some (iZ arr (fr) k)[k]:=by rw [cell_of_row wr _ _ _ _ (0,0) hg];exact Array.getElem?_eq_getElem hsz
      go_wp2
      go_roundw
      case rel =>
       refine ⟨k+1,by omega,.inl (by omega),by go_num,?_,hB.set _ _⟩
       simp only [World.setCell,Array.getElem?_modify,hg,if_true,Option.map_some,Option.isSome_none,Bool.false_eq_true,if_false]
       rw [sK arr hk1]
      case measure=>simp [intOf];omega
     ·go_wp2
      first|go_end0|go_ret
      exact ⟨rfl,hB,fr,k,hg,by omega,fun t ht=>⟨fun h=>by omega,fun h=>by omega⟩⟩
   ·go_enter Tryz.func115,Tryz.ntmps115
    go_wp2
    go_loopw [6] (fun i wr=>∃ k:Nat,fr≤k∧((k:Int)≤((fr:Int)+c)∨k=fr)∧i=.int .i64 k∧wr.heap[b]?=some (.cells (iZ arr (fr) k) E (0,0))∧uO w wr b) (fun i _=>(((fr:Int)+c) - intOf i).toNat)
    case atStart =>
     exact ⟨fr,Nat.le_refl _,.inr rfl,by first|rfl|(congr 1;omega),by rw [lF,Below.heap_alloc _ _ _ hbl];exact hb,uO.alloc w b _⟩
    case round =>
     obtain ⟨k,hk1,hk2,rfl,hg,hB⟩:=hrel
     by_cases hlt:(k:Int)<((fr:Int)+c)
     ·have hka:k<arr.size:=by omega
      have hfz:wr.frozen? ⟨b,k,none⟩=false:=by simp [World.frozen?,hg]
      have hsz:k<(iZ arr (fr) k).size:=by simpa [iZ] using hka
      have hcell:wr.cell? ⟨b,k,none⟩=some (iZ arr (fr) k)[k]:=by rw [cell_of_row wr _ _ _ _ (0,0) hg];exact Array.getElem?_eq_getElem hsz
      go_wp2
      go_roundw
      case rel =>
       refine ⟨k+1,by omega,.inl (by omega),by go_num,?_,hB.set _ _⟩
       simp only [World.setCell,Array.getElem?_modify,hg,if_true,Option.map_some,Option.isSome_none,Bool.false_eq_true,if_false]
       rw [sK arr hk1]
      case measure=>simp [intOf];omega
     ·go_wp2
      first|go_end0|go_ret
      exact ⟨rfl,hB,fr,k,hg,by omega,fun t ht=>⟨fun h=>by omega,fun h=>by omega⟩⟩
  ·have h4:(n:Int)≤(fr:Int)+4096:=by omega
   have h5':(4096:Int)<c:=by omega
   clear h5
   go_enter Tryz.func115,Tryz.ntmps115
   go_wp2
   go_loopw [6] (fun i wr=>∃ k:Nat,fr≤k∧((k:Int)≤(n:Int)∨k=fr)∧i=.int .i64 k∧wr.heap[b]?=some (.cells (iZ arr (fr) k) E (0,0))∧uO w wr b) (fun i _=>((n:Int) - intOf i).toNat)
   case atStart =>
    exact ⟨fr,Nat.le_refl _,.inr rfl,by first|rfl|(congr 1;omega),by rw [lF,Below.heap_alloc _ _ _ hbl];exact hb,uO.alloc w b _⟩
   case round =>
    obtain ⟨k,hk1,hk2,rfl,hg,hB⟩:=hrel
    by_cases hlt:(k:Int)<(n:Int)
    ·have hka:k<arr.size:=by omega
     have hfz:wr.frozen? ⟨b,k,none⟩=false:=by simp [World.frozen?,hg]
     have hsz:k<(iZ arr (fr) k).size:=by simpa [iZ] using hka
     have hcell:wr.cell? ⟨b,k,none⟩=some (iZ arr (fr) k)[k]:=by rw [cell_of_row wr _ _ _ _ (0,0) hg];exact Array.getElem?_eq_getElem hsz
     go_wp2
     go_roundw
     case rel =>
      refine ⟨k+1,by omega,.inl (by omega),by go_num,?_,hB.set _ _⟩
      simp only [World.setCell,Array.getElem?_modify,hg,if_true,Option.map_some,Option.isSome_none,Bool.false_eq_true,if_false]
      rw [sK arr hk1]
     case measure=>simp [intOf];omega
    ·go_wp2
     first|go_end0|go_ret
     exact ⟨rfl,hB,fr,k,hg,by omega,fun t ht=>⟨fun h=>by omega,fun h=>by omega⟩⟩
theorem akl:callable Tryz.prog 115=true∧DW Tryz.prog 115 OO:=by
 refine ⟨by kernel_rfl,?_⟩
 intro p sz es es' h T w r v cv hfresh hrow hc
 obtain ⟨s,c,m,rfl,rfl,h1,h2,h3,h4,rfl⟩:=afy h
 have hcv:cv=.agg #[.int .i64 s,.int .i64 c]:=by
  cases hc with
  |agg cs arr g1 g2 g3 =>
   have e0:arr[0]?=some (arr[0]'(by rw [g1];simp)):=Array.getElem?_eq_getElem _
   have e1:arr[1]?=some (arr[1]'(by rw [g1];simp)):=Array.getElem?_eq_getElem _
   have k0:=g3 0 _ _ rfl e0
   have k1:=g3 1 _ _ rfl e1
   have q0:arr[0]'(by rw [g1];simp)=.int .i64 s:=by
    generalize arr[0]'(by rw [g1];simp)=u at k0
    cases k0;rfl
   have q1:arr[1]'(by rw [g1];simp)=.int .i64 c:=by
    generalize arr[1]'(by rw [g1];simp)=u at k1
    cases k1;rfl
   congr 1
   apply Array.ext
   ·rw [g1];rfl
   ·intro i hi1 hi2
    match i,hi1,hi2 with
    |0,_,_=>exact q0
    |1,_,_=>exact q1
    |i+2,_,hi2=>exact absurd hi2 (by simp)
 subst hcv
 rcases hrow with ⟨he,_⟩|⟨b,cc,arr,E,rfl,k2,k3,k4,k5,k6,k7,k8⟩
 ·exact absurd (List.map_eq_nil_iff.1 he) h3
 have hsz:sz=1:=by
  obtain ⟨y,l',rfl⟩:∃ y l',m=y :: l':=by cases m with
   |nil=>exact absurd rfl h3
   |cons y l'=>exact ⟨y,l',rfl⟩
  exact (k7 (V.eB y) (by simp)).symm
 subst hsz
 rw [List.length_map] at k5
 rw [Nat.mul_one] at k4
 simp only [nP,Bool.and_eq_true,decide_eq_true_eq] at h1 h2
 have hcon:=add_any (cc:=cc) (n:=m.length) k3 (by omega) h4 h1 h2
 have hl:(m.map V.eB).length=m.length:=List.length_map _
 rw [← hl] at hcon
 refine hcon.mono ?_
 rintro e w' ⟨rfl,⟨b1,b2,b3,b4,b5⟩,fr,to,q1,q2,q3⟩
 refine ⟨_,rfl,b1,b2,b3,b4,fun x hx hT=>b5 x hx fun e=>hT (by rw [e];exact k2),?_⟩
 refine .inr ⟨b,cc,_,E,?_,k2,q1,by simp [iZ,k4],?_,k6,?_,?_⟩
 ·simp [zf]
 ·simpa [zf] using k5
 ·intro e he
  obtain ⟨y,_,rfl⟩:=List.mem_map.1 he
  rfl
 ·intro i e j x hi hj
  rw [List.getElem?_map] at hi
  obtain ⟨y,hy,rfl⟩:=Option.map_eq_some_iff.1 hi
  obtain ⟨rfl,rfl⟩:j=0∧x=.bool y:=by
   cases j with
   |zero=>simp [V.eB,PV.cells] at hj;exact ⟨rfl,hj.symm⟩
   |succ j=>simp [V.eB,PV.cells] at hj
  unfold zf at hy
  rw [List.getElem?_mapIdx] at hy
  obtain ⟨u,hu,rfl⟩:=Option.map_eq_some_iff.1 hy
  have hil:i<m.length:=(List.getElem?_eq_some_iff.1 hu).1
  obtain ⟨a,g1,g2,g3⟩:=k8 i (V.eB u) 0 (.bool u) (by rw [List.getElem?_map,hu];rfl) rfl
  have ha:a=.bool u:=by cases g3;rfl
  subst ha
  rw [Nat.mul_one,Nat.add_zero] at g1 ⊢
  refine ⟨.bool (u || inX s c i),?_,rfl,.bool _⟩
  simp only [iZ,Array.getElem?_mapIdx,g1,Option.map_some]
  have hq:=q3 i (by rw [hl];exact hil)
  have hin:inX s c i=decide (fr≤i∧i<to):=by
   unfold inX
   by_cases hf:fr≤i∧i<to
   ·obtain ⟨z1,z2,z3⟩:=hq.1 hf
    rw [decide_eq_true z1,decide_eq_true z2,decide_eq_true z3,decide_eq_true hf];rfl
   ·rw [decide_eq_false hf]
    cases hx:(decide (0<c)&&(decide (s≤(i:Int))&&decide ((i:Int)<s+c))) with
    |false=>rfl
    |true =>
     simp only [Bool.and_eq_true,decide_eq_true_eq] at hx
     exact absurd (hq.2 ⟨hx.1,hx.2.1,hx.2.2⟩) hf
  rw [hin]
  by_cases hf:fr≤i∧i<to
  ·rw [if_pos hf,decide_eq_true hf,Bool.or_true]
  ·rw [if_neg hf,decide_eq_false hf,Bool.or_false]
end Go.Proofs.YtpcncggjmabnaaaGreatDoor
