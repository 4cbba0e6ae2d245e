/-
  Part 10 of the texts that the statement stands on.
-/
import Derived.Test.YtpcncggjmabnaaaGreatDoorZ9
set_option linter.all false
namespace Go.Proofs.YtpcncggjmabnaaaGreatDoor.V
def smE (x:gZ):Bool:=decide (x.ws.length≤8)&&Y0 x.ws
def MK (l:List gZ):Bool:=l.all smE&&decide (l.length≤30)
theorem ML {l:List gZ} {i:Nat} (h:i<l.length):(l.map CJ)[i]?=some (.agg [.int .u8 l[i].kind,.int .u8 l[i].step,.list 3 (l[i].ws.map dQ)]):=by rw [List.getElem?_map,List.getElem?_eq_getElem h];rfl
def szE (l:List gZ):Prop:=l.length≤140737488351232∧∀ x∈l,szW x.ws∧(0≤x.kind∧x.kind≤255)∧0≤x.step∧x.step≤255
def Wn (k1 k2:List (Nat × AV)) (b:Bool):Option (Ex × St):=if b then some (.normal,⟨sl 29 k1,[],[],none⟩) else some (.ret,⟨sl 29 k2,[],[],none⟩)
theorem Wp (k1 k2:List (Nat × AV)):Wn k1 k2 true=some (.normal,⟨sl 29 k1,[],[],none⟩):=rfl
theorem MN (k1 k2:List (Nat × AV)):Wn k1 k2 false=some (.ret,⟨sl 29 k2,[],[],none⟩):=rfl
theorem akb {l:List gZ} (hz:szE l) {st:St} (h:st.head [0,3] st.boxes.length=some ⟨sl 29 [(0,.pv (.list 3 (l.map CJ))),(3,.pv (.int .i64 (0:Nat)))],[],[],none⟩) :
  den env JU st=Wn [(0,.pv (.list 3 (l.map CJ))),(2,.any)] [(0,.pv (.list 3 (l.map CJ))),(2,.pv (.bool false))] ((l.drop ((0:Nat))).all smE):=by
 unfold JU
 refine bC (env:=env) (nb:=0) (l.length) (fun i=>⟨sl 29 [(0,.pv (.list 3 (l.map CJ))),(3,.pv (.int .i64 i))],[],[],none⟩) (fun i=>Wn [(0,.pv (.list 3 (l.map CJ))),(2,.any)] [(0,.pv (.list 3 (l.map CJ))),(2,.pv (.bool false))] ((l.drop (i)).all smE)) h (fun _=>rfl) (fun _=>by simp only [aB,bg,Nat.reduceMul,Nat.reduceBEq,Nat.reduceLT,Nat.reduceLeDiff,Nat.reduceAdd,decide_true,Bool.and_self,Bool.true_and]) ?_ ?_
 ·intro i rb hi ih
  have hll:=hz.1
  have hi1:IntKind.i64.wrap ((i:Int)+1)=((i+1:Nat):Int):=by rw [bn (by omega)];omega
  have F1:((i:Int)<(l.length:Int))=True:=eq_true (by omega)
  have hx:=ML hi
  have e1:=amo (hz.2 _ (List.getElem_mem hi)).1
  rw [Y1 hi]
  unfold smE
  by_cases c:l[i].ws.length≤8
  ·have G:((l[i].ws.length:Int) > 8)=False:=eq_false (by omega)
   rw [decide_eq_true c,Bool.true_and]
   cases c2:Y0 l[i].ws with
   |true =>
    rw [c2] at e1
    rw [Bool.true_and]
    simp only [zi,F1,G,e1,hx,iV,aj hi,List.length_map,au,Nat.reduceMul,Nat.reduceBEq,Nat.reduceLT,Nat.reduceLeDiff,reduceCtorEq,Nat.reduceEqDiff,Nat.reduceAdd,Nat.beq]
    rw [ih _ (by simp only [hi1,au,Nat.reduceMul,Nat.reduceBEq,Nat.reduceLT,Nat.reduceLeDiff,reduceCtorEq,Nat.reduceEqDiff,Nat.reduceAdd,Nat.beq]<;>rfl)]
    rfl
   |false =>
    rw [c2] at e1
    rw [Bool.false_and,MN]
    simp only [zi,F1,G,e1,hx,iV,aj hi,List.length_map,au,Nat.reduceMul,Nat.reduceBEq,Nat.reduceLT,Nat.reduceLeDiff,reduceCtorEq,Nat.reduceEqDiff,Nat.reduceAdd,Nat.beq]
  ·have G:((l[i].ws.length:Int) > 8)=True:=eq_true (by omega)
   rw [decide_eq_false c,Bool.false_and,Bool.false_and,MN]
   simp only [zi,F1,G,hx,iV,aj hi,List.length_map,au,Nat.reduceMul,Nat.reduceBEq,Nat.reduceLT,Nat.reduceLeDiff,reduceCtorEq,Nat.reduceEqDiff,Nat.reduceAdd,Nat.beq]
 ·intro rb
  rw [adl,Wp]
  simp only [zi,Int.lt_irrefl,List.length_map,au,Nat.reduceMul,Nat.reduceBEq,Nat.reduceLT,Nat.reduceLeDiff,reduceCtorEq,Nat.reduceEqDiff,Nat.reduceAdd,Nat.beq]
theorem amN {l:List gZ} (hz:szE l):cal env 28 [.list 3 (l.map CJ)]=some [(.bool (MK l),false)]:=by
 unfold MK
 rw [ah alh rfl];simp only [abg,aB,Nat.reduceBEq,Nat.reduceLeDiff,Nat.reduceAdd,List.length_cons,List.length_nil]
 simp only [List.length_map,au,Nat.reduceMul,Nat.reduceBEq,Nat.reduceLT,Nat.reduceLeDiff,reduceCtorEq,Nat.reduceEqDiff,Nat.reduceAdd,Nat.beq]
 rw [akb (l:=l) hz (by simp only [aB,bg,Nat.reduceMul,Nat.reduceBEq,Nat.reduceLT,Nat.reduceLeDiff,Nat.reduceAdd,decide_true,Bool.and_self,Bool.true_and]<;>rfl),List.drop_zero]
 cases l.all smE with
 |false=>rw [MN,Bool.false_and];simp only [au,Nat.reduceMul,Nat.reduceBEq,Nat.reduceLT,Nat.reduceLeDiff,reduceCtorEq,Nat.reduceEqDiff,Nat.reduceAdd,Nat.beq]
 |true =>
  rw [Wp,Bool.true_and]
  by_cases c:l.length≤30
  ·have G:((l.length:Int)≤30)=True:=eq_true (by omega)
   rw [decide_eq_true c]
   simp only [G,List.length_map,au,Nat.reduceMul,Nat.reduceBEq,Nat.reduceLT,Nat.reduceLeDiff,reduceCtorEq,Nat.reduceEqDiff,Nat.reduceAdd,Nat.beq]
  ·have G:((l.length:Int)≤30)=False:=eq_false (by omega)
   rw [decide_eq_false c]
   simp only [G,List.length_map,au,Nat.reduceMul,Nat.reduceBEq,Nat.reduceLT,Nat.reduceLeDiff,reduceCtorEq,Nat.reduceEqDiff,Nat.reduceAdd,Nat.beq]
def zEv:gZ:=⟨0,0,[]⟩
def Ze (l:List gZ) (i:Nat):gZ:=l.getD i zEv
theorem Wq {l:List gZ} (h:MK l=true) (hz:szE l) (i:Nat):gdE (Ze l i):=by
 unfold Ze
 rw [List.getD_eq_getElem?_getD]
 cases e:l[i]? with
 |none=>exact ⟨⟨by decide,by decide⟩,fun w hw=>by cases hw⟩
 |some x =>
  have hx:=List.mem_of_getElem? e
  unfold MK at h
  simp only [Bool.and_eq_true,List.all_eq_true,decide_eq_true_eq] at h
  have:=h.1 x hx
  unfold smE at this
  simp only [Bool.and_eq_true,decide_eq_true_eq] at this
  exact ⟨(hz.2 x hx).2.2,fun w hw=>(ajN this.2).2.2 w hw⟩
def QA (s:lS) (l:List gZ):Nat→lS
 |0=>s
 |i+1=>vZ (QA s l i) (Ze l i)
end Go.Proofs.YtpcncggjmabnaaaGreatDoor.V

namespace Go.Proofs.YtpcncggjmabnaaaGreatDoor.V
def q0 (z:List Int) (n:Int):og:=⟨n,z,[],false,0,0,[]⟩
def s0 (z:List Int) (n:Int):lS:=⟨aC z,aC z,q0 z n,0,0,true⟩
theorem agU {z:List Int} {n:Int} (h:aN z=0) (hn:1≤n∧n≤1024):af2 z n=q0 z n∧IJ z n=0:=by
 have e:IJ z n=0:=by unfold IJ;rw [if_pos h,if_neg (by omega)]
 exact ⟨by unfold af2;rw [if_pos e];rfl,e⟩
theorem amO {z:List Int} {n:Int} (h:aN z=0) (hz:∀ x∈z,x≤400) (hn:1≤n∧n≤1024):gdP (s0 z n):=by
 have hl:z.length≤8:=by
  unfold aN at h
  split at h
  ·omega
  ·omega
 refine ⟨?_,jA h,MI h ⟨hn.1,hn.2,Int.le_refl _,Int.le_refl _,(by decide:(0:Int)≤1073741824)⟩ (.inr ⟨rfl,rfl,by show (0:Int)≤n;omega,rfl⟩),⟨by show z.length≤1000;omega,Nat.zero_le _,Nat.zero_le _,fun c hc=>(by cases hc),fun b hb=>(by cases hb)⟩,fun v hv=>?_,by show (0:Int)≤1000000;decide,rfl⟩
 ·show aN (aA (aC z))=0
  rw [jA h];exact h
 ·have hv:v∈aC z:=hv
  unfold aC at hv
  obtain ⟨x,hx,rfl⟩:=List.mem_map.1 hv
  have:=hz x hx
  rw [List.length_replicate];omega
end Go.Proofs.YtpcncggjmabnaaaGreatDoor.V

namespace Go.Proofs.YtpcncggjmabnaaaGreatDoor.V
theorem Ws (l:List bK) (v n:Nat):jq (lQ (v:Int) l) n=l.any fun w=>mQ w (v:Int) (n:Int):=by
 unfold lQ jq
 induction l with
 |nil=>rfl
 |cons w l ih =>
  rw [List.any_cons,← ih,List.filter_cons]
  by_cases c:w.volume=(v:Int)
  ·rw [if_pos (by simpa using c),List.map_cons,List.any_cons]
   congr 1
   unfold IL mQ LW
   rw [decide_eq_true c,Bool.true_and,Bool.eq_iff_iff]
   simp only [Bool.and_eq_true,decide_eq_true_eq]
   omega
  ·rw [if_neg (by simpa using c)]
   have:mQ w (v:Int) (n:Int)=false:=by unfold mQ LW;rw [decide_eq_false c];rfl
   rw [this,Bool.false_or]
theorem Zf (l:List bK) (v n:Int):(pG l v n).isSome=l.any fun w=>mQ w v n:=by
 have h:∀ m:List bK,(qB v n m).isSome=m.any fun w=>mQ w v n:=by
  intro m
  induction m with
  |nil=>rfl
  |cons w m ih =>
   rw [qB,List.any_cons]
   cases c:mQ w v n with
   |true=>rw [if_pos rfl,FU c];rfl
   |false=>rw [if_neg Bool.false_ne_true,ih];rfl
 unfold pG
 rw [h,List.any_reverse]
theorem agV {im:ig} {l:List bK} (hi:dH im=0) (hl:∀ w∈l,aT im w=0) {v:Nat} (hv:v<8) (n:Nat):jq (lQ (v:Int) (uN l)) n=l.any fun w=>mQ w (v:Int) (n:Int):=by
 obtain ⟨s1,s2⟩:=lJ hi
 have hb:∀ e∈lQ (v:Int) l,mZ 4096 e=true:=fun e he=>by
  unfold lQ at he
  obtain ⟨w,hw,rfl⟩:=List.mem_map.1 he
  obtain ⟨q1,q2,q3,q4⟩:=kY (hl w (List.mem_filter.1 hw).1)
  have Cm:w.volume.toNat<im.length:=by omega
  have e2:im.getD w.volume.toNat []=im[w.volume.toNat]:=by simp [Cm]
  have:=s2 _ (List.getElem_mem Cm)
  rw [e2] at q4
  unfold mZ
  simp only [Bool.and_eq_true,decide_eq_true_eq]
  omega
 obtain ⟨_,u2⟩:=zG (n:=4096) (by decide) hb
 have h1:=Zf (uN l) (v:Int) (n:Int)
 rw [Ws,← h1]
 unfold uN
 rw [Qz,u2 n,Ws]
 cases c:l.any fun w=>mQ w (v:Int) (n:Int) with
 |true=>rw [if_pos ⟨hv,rfl⟩];rfl
 |false=>rw [if_neg (by simp)];rfl
theorem adW (z:Int) (n:Nat):bit (mW z).ws n=false:=by
 have h:∀ k i:Nat,bit (List.replicate k (0:Wd)) i=false:=fun k i=>by
  unfold bit
  have:(List.replicate k (0:Wd)).getD (i / 64) 0=0:=by
   rw [List.getD_eq_getElem?_getD,List.getElem?_replicate]
   split<;>rfl
  rw [this];simp
 unfold mW
 split
 ·exact h 0 n
 ·exact h _ n
theorem QB {z:List Int} {v n:Nat} (hn:(n:Int)<z.getD v 0):∀ (cs:List kX) {l:List Bm},VW z l→(hv:v<l.length)→(∀ c∈cs,mX z c.ws)→∃ b,(AA l cs)[v]?=some b∧bit b.ws n=(bit l[v].ws n || cs.any fun c=>jq (lQ (v:Int) c.ws) n)
 |[],l,_,hv,_=>⟨l[v],List.getElem?_eq_getElem hv,by rw [List.any_nil,Bool.or_false]⟩
 |c :: cs,l,hz,hv,hf=>by
  have f1:=hf c (by simp)
  obtain ⟨b,hb,hbit⟩:=Wj hz f1 hv
  have hz2:=adi hz f1
  have hv2:v<(Fv c.ws l).length:=by rw [hz2.1,← hz.1];exact hv
  have eb:(Fv c.ws l)[v]=b:=by rw [List.getElem?_eq_getElem hv2] at hb;exact Option.some.inj hb
  obtain ⟨b2,g1,g2⟩:=QB hn cs (l:=Fv c.ws l) hz2 hv2 fun y hy=>hf y (by simp [hy])
  exact ⟨b2,g1,by rw [g2,eb,hbit n hn,List.any_cons,Bool.or_assoc]⟩
def mrk (s:og) (v n:Nat):Bool:=if s.ov then bit (s.dt.getD v ⟨0,[]⟩).ws n else s.cy.any fun c=>jq (lQ (v:Int) c.ws) n
theorem FV {l:List Bm} {v:Nat} {b:Bm} (h:l[v]?=some b) (n:Nat):bit (l.getD v ⟨0,[]⟩).ws n=bit b.ws n:=by rw [List.getD_eq_getElem?_getD,h];rfl
theorem adX {s:lS} {x:gZ} (h:gdP s) (hx:gdE x) {v n:Nat} (hn:(n:Int)<s.q.sz.getD v 0):mrk (vZ s x).q v n=(mrk s.q v n || jq (lQ (v:Int) (iY s x).ws) n):=by
 obtain ⟨c1,c2,c3⟩:=zO h hx
 obtain ⟨k1,k2,k3⟩:=BN h.ck
 have hvz:v<s.q.sz.length:=by
  refine Nat.lt_of_not_le fun hle=>?_
  rw [List.getD_eq_getElem?_getD,List.getElem?_eq_none hle] at hn
  simp at hn;omega
 have hq:(vZ s x).q=iG s.q (iY s x):=rfl
 rw [hq]
 unfold iG
 rw [if_pos c3]
 cases ho:s.q.ov with
 |true =>
  rcases k3 with ⟨_,g1,g2,g3⟩|⟨g,_⟩
  rotate_left
  ·rw [ho] at g;cases g
  have hz:=vU g3
  have hdl:v<s.q.dt.length:=by rw [hz.1];exact hvz
  obtain ⟨b,hb,hbit⟩:=Wj hz (uz c2) hdl
  rw [if_pos rfl]
  unfold mrk
  rw [show ({ s.q with dt:=Fv (iY s x).ws s.q.dt,ls:=(iY s x).num }:og).ov=true from ho,if_pos rfl,if_pos rfl]
  show bit ((Fv (iY s x).ws s.q.dt).getD v ⟨0,[]⟩).ws n=_
  rw [FV hb,FV (List.getElem?_eq_getElem hdl),hbit n hn]
 |false =>
  rcases k3 with ⟨g,_⟩|⟨_,g1,g2,g3⟩
  ·rw [ho] at g;cases g
  rw [if_neg Bool.false_ne_true]
  unfold Uz
  by_cases k:(s.q.cy.length:Int)<s.q.lm
  ·rw [if_pos k]
   unfold mrk
   rw [ho]
   simp only [Bool.false_eq_true,if_false]
   rw [List.any_append]
   simp
  ·rw [if_neg k]
   have hz:=adk (uy k1)
   obtain ⟨b,hb,hbit⟩:=QB hn (s.q.cy++[iY s x]) hz (by rw [List.length_map];exact hvz) (fun c hc=>by
    rcases List.mem_append.1 hc with e|e
    ·exact uz (Dj g3 c e)
    ·rw [List.mem_singleton.1 e];exact uz c2)
   rw [List.getElem_map,adW,Bool.false_or] at hbit
   unfold mrk
   rw [ho]
   simp only [if_true,Bool.false_eq_true,if_false]
   rw [FV hb,hbit,List.any_append]
   simp
def MO (im:ig) (x:gZ) (v n:Nat):Bool:=(x.ws.take 6).any fun w=>decide (aT im w=0)&&mQ w (v:Int) (n:Int)
def adY (im:ig) (l:List gZ) (i v n:Nat):Bool:=(l.take i).any fun x=>MO im x v n
theorem adZ {s:lS} {x:gZ} (h:gdP s) {v:Nat} (hv:v<8) (n:Nat):jq (lQ (v:Int) (iY s x).ws) n=MO s.so x v n:=by
 obtain ⟨w1,w2,w3⟩:=U6 (x:=x) h
 show jq (lQ (v:Int) (uN (Wh s.so x))) n=_
 rw [agV h.im w1 hv]
 unfold MO Wh Qu Dp
 rw [List.any_filter]
 have:x.ws.take (min x.ws.length 6)=x.ws.take 6:=by
  rcases Nat.le_total x.ws.length 6 with c|c
  ·rw [Nat.min_eq_left c,List.take_of_length_le (Nat.le_refl _),List.take_of_length_le c]
  ·rw [Nat.min_eq_right c]
 rw [this]
theorem ad1 {a b:ig} (h:aA a=aA b) (x:gZ) (v n:Nat):MO a x v n=MO b x v n:=by
 unfold MO
 congr 1
 funext w
 rw [Qw h]
theorem I5 {im:ig} {l:List gZ} {i:Nat} (h:i<l.length) (v n:Nat):adY im l (i+1) v n=(adY im l i v n || MO im l[i] v n):=by
 unfold adY
 rw [List.take_succ_eq_append_getElem h,List.any_append]
 simp
structure trI (z:List Int) (l:List gZ) (s:lS) (i:Nat):Prop where
 gd:gdP s
 lm:s.q.lm=1
 sz:s.q.sz=z
 ls:s.q.ls≤3 * (i:Int)
 o0:i≤1→s.q.ov=false∧s.q.cy.length=i
 o1:2≤i→s.q.ov=true
 mr:∀ v n:Nat,v<8→(n:Int)<z.getD v 0→mrk s.q v n=adY (aC z) l i v n
theorem Dq {l:List gZ} {i:Nat} (h:i<l.length):Ze l i=l[i]:=by unfold Ze;rw [List.getD_eq_getElem?_getD,List.getElem?_eq_getElem h];rfl
theorem ad2 {z:List Int} {l:List gZ} {s:lS} {i:Nat} (hz0:aN z=0) (h:trI z l s i) (hi:i<l.length) (hx:gdE l[i]) (hl:l.length≤1000):trI z l (vZ s l[i]) (i+1):=by
 obtain ⟨h1,h2,h3,h4,h5,h6,h7⟩:=h
 obtain ⟨g1,g2,g3⟩:=adU h1 hx (by omega) (by omega)
 obtain ⟨c1,c2,c3⟩:=zO h1 hx
 obtain ⟨p1,p2,p3,p4,p5,p6,p7,p8,p9⟩:=U7 c3
 refine ⟨g1,by rw [g3,p3];exact h2,by rw [g3,p2];exact h3,by omega,fun hle=>?_,fun hlt=>?_,fun v n hv hn=>?_⟩
 ·obtain ⟨k1,k2⟩:=h5 (by omega)
  have ho:(iG s.q (iY s l[i])).ov=false:=by rw [p6,k1,decide_eq_false (by omega)];rfl
  rw [g3]
  exact ⟨ho,by rw [p7 ho,List.length_append,k2];rfl⟩
 ·rw [g3,p6]
  by_cases k:i≤1
  ·obtain ⟨k1,k2⟩:=h5 k
   rw [k1,decide_eq_true (by omega)];rfl
  ·rw [h6 (by omega)];rfl
 ·rw [adX h1 hx (by rw [h3];exact hn),h7 v n hv hn,I5 hi,adZ h1 hv,ad1 (b:=aC z) (by rw [h1.sz,h3,jA hz0])]
theorem Dt {z:List Int} {l:List gZ} (hz0:aN z=0) (hz4:∀ x∈z,x≤400) (hs:MK l=true) (hz:szE l):∀ i,i≤l.length→trI z l (QA (s0 z 1) l i) i
 |0,_=>⟨amO hz0 hz4 (by decide),rfl,rfl,by show (0:Int)≤_;omega,fun _=>⟨rfl,rfl⟩,fun h=>by omega,fun v n _ _=>rfl⟩
 |i+1,hi=>by
  have hlt:i<l.length:=by omega
  have hle:l.length≤30:=by
   unfold MK at hs
   simp only [Bool.and_eq_true,decide_eq_true_eq] at hs
   exact hs.2
  have hx:=Wq hs hz i
  rw [Dq hlt] at hx
  have:=ad2 hz0 (Dt hz0 hz4 hs hz i (by omega)) hlt hx (by omega)
  show trI z l (vZ (QA (s0 z 1) l i) (Ze l i)) (i+1)
  rw [Dq hlt]
  exact this
end Go.Proofs.YtpcncggjmabnaaaGreatDoor.V

namespace Go.Proofs.YtpcncggjmabnaaaGreatDoor.V
end Go.Proofs.YtpcncggjmabnaaaGreatDoor.V

namespace Go.Proofs.YtpcncggjmabnaaaGreatDoor.V
theorem amQ {a:Int} (h:0≤a∧a≤255):aN [1+a % 20,3]=0∧∀ x∈[1+a % 20,3],x≤400:=by
 refine ⟨?_,fun x hx=>?_⟩
 ·unfold aN
  have e1:decide (1+a % 20<1)=false:=decide_eq_false (by omega)
  have e2:decide (1+a % 20 > 4096)=false:=decide_eq_false (by omega)
  rw [if_neg (by show ¬ ((2:Nat)<1∨8<2);decide),if_neg (by simp only [List.any_cons,List.any_nil,e1,e2];decide)]
 ·rcases List.mem_cons.1 hx with e|e
  ·omega
  ·rw [List.mem_singleton.1 e];decide
end Go.Proofs.YtpcncggjmabnaaaGreatDoor.V

namespace Go.Proofs.YtpcncggjmabnaaaGreatDoor.V
def bW (f:Nat→Bool):List BV:=(List.range 60).map fun k=>.pv (.bool (f k))
theorem MP {f:Nat→Bool} {k:Nat} (h:k<60):(bW f)[k]?=some (.pv (.bool (f k))):=by
 unfold bW;rw [List.getElem?_map,List.getElem?_range h];rfl
theorem AZ (f:Nat→Bool):(bW f).length=60:=by unfold bW;rw [List.length_map,List.length_range]
theorem FX {f g:Nat→Bool} (h:∀ k,k<60→f k=g k):bW f=bW g:=by
 unfold bW
 refine List.map_congr_left fun k hk=>?_
 rw [h k (List.mem_range.1 hk)]
theorem akd {f:Nat→Bool} {m:Nat} (h:m<60):(bW f).set m (.pv (.bool true))=bW (fun k=>f k || decide (k=m)):=by
 apply List.ext_getElem?
 intro k
 by_cases c:k<60
 ·rw [MP c,List.getElem?_set]
  by_cases d:m=k
  ·rw [if_pos d,if_pos (by rw [AZ];omega),decide_eq_true d.symm,Bool.or_true]
  ·rw [if_neg d,MP c,decide_eq_false (fun e=>d e.symm),Bool.or_false]
 ·rw [List.getElem?_eq_none (by rw [List.length_set,AZ];omega),List.getElem?_eq_none (by rw [AZ];omega)]
theorem ake {f:Nat→Bool} {m:Nat} (h:m<60):List.take m (bW f)++[.pv (.bool true)]++List.drop (m+1) (bW f)=bW (fun k=>f k || decide (k=m)):=by
 rw [← akd h,List.set_eq_take_append_cons_drop,if_pos (by rw [AZ];exact h),List.append_assoc];rfl
def jW (w:bK) (i k:Nat):Bool:=decide (w.volume=((k / 30:Nat):Int))&&(decide (w.start≤((k % 30:Nat):Int))&&decide (((k % 30:Nat):Int)<w.start+(i:Nat)))
theorem amR (w:bK) (k:Nat):jW w 0 k=false:=by
 unfold jW
 rw [Bool.eq_false_iff]
 intro h
 simp only [Bool.and_eq_true,decide_eq_true_eq] at h
 omega
theorem akf {im:ig} {w:bK} (k:Nat):(decide (aT im w=0)&&mQ w ((k / 30:Nat):Int) ((k % 30:Nat):Int))=jW w (if aT im w=0 then w.data.length else 0) k:=by
 by_cases c:aT im w=0
 ·rw [decide_eq_true c,if_pos c,Bool.true_and]
  unfold mQ LW jW
  rw [Bool.eq_iff_iff]
  simp only [Bool.and_eq_true,decide_eq_true_eq]
  omega
 ·rw [decide_eq_false c,if_neg c,amR,Bool.false_and]
theorem agW {w:bK} {v m i:Nat} (hv:w.volume=(v:Nat)) (hm:w.start+(i:Nat)=(m:Nat)) (akg:m<30) (k:Nat):jW w (i+1) k=(jW w i k || decide (k=v * 30+m)):=by
 unfold jW
 rw [hv,Bool.eq_iff_iff]
 simp only [Bool.and_eq_true,Bool.or_eq_true,decide_eq_true_eq]
 have e1:k=k / 30 * 30+k % 30:=by omega
 constructor
 ·intro h
  by_cases c:((k % 30:Nat):Int)<w.start+(i:Nat)
  ·exact .inl ⟨h.1,h.2.1,c⟩
  ·right;omega
 ·intro h
  rcases h with h|h
  ·exact ⟨h.1,h.2.1,by omega⟩
  ·omega
def tW (im:ig) (w:bK):Nat:=if aT im w=0 then w.data.length else 0
def kW (im:ig) (x:gZ) (i k:Nat):Bool:=(x.ws.take i).any fun w=>decide (aT im w=0)&&mQ w ((k / 30:Nat):Int) ((k % 30:Nat):Int)
theorem agX {im:ig} {x:gZ} {i:Nat} (h:i<x.ws.length) (k:Nat):kW im x (i+1) k=(kW im x i k || (decide (aT im x.ws[i]=0)&&mQ x.ws[i] ((k / 30:Nat):Int) ((k % 30:Nat):Int))):=by
 unfold kW
 rw [List.take_succ_eq_append_getElem h,List.any_append]
 simp
theorem akh (im:ig) (x:gZ) (k:Nat):kW im x (Dp x) k=MO im x (k / 30) (k % 30):=by
 unfold kW MO Dp
 have:x.ws.take (min x.ws.length 6)=x.ws.take 6:=by
  rcases Nat.le_total x.ws.length 6 with c|c
  ·rw [Nat.min_eq_left c,List.take_of_length_le (Nat.le_refl _),List.take_of_length_le c]
  ·rw [Nat.min_eq_right c]
 rw [this]
def fW (im:ig) (l:List gZ) (i k:Nat):Bool:=adY im l i (k / 30) (k % 30)
theorem agY {im:ig} {l:List gZ} {i:Nat} (h:i<l.length) (k:Nat):(fW im l i k || kW im l[i] (Dp l[i]) k)=fW im l (i+1) k:=by
 unfold fW
 rw [akh,I5 h]
def bWr (w:bK):List BV:=[.pv (.int .i64 w.volume),.pv (.int .i64 w.start),.pv (.list 8 (w.data.map iJ))]
theorem yt (w:bK):bWr w=[.pv (.int .i64 w.volume),.pv (.int .i64 w.start),.pv (.list 8 (w.data.map iJ))]:=rfl
def ad3 (z:List Int):Prop:=z.length=2∧∀ x∈z,x≤20
theorem amT {z:List Int} {w:bK} (hz:ad3 z) (h0:aN z=0) (h:aT (aC z) w=0):∃ v:Nat,w.volume=(v:Nat)∧v<2∧0≤w.start∧w.start+(w.data.length:Int)≤20:=by
 obtain ⟨q1,q2,q3,q4⟩:=kY h
 have hl:(aC z).length=2:=by rw [iR];exact hz.1
 have hv:w.volume.toNat<(aC z).length:=by omega
 have hb:=jA h0
 have e2:(aC z).getD w.volume.toNat []=(aC z)[w.volume.toNat]:=by simp [hv]
 rw [e2] at q4
 have hm:(((aC z)[w.volume.toNat].length:Nat):Int)∈aA (aC z):=by
  unfold aA
  exact List.mem_map.2 ⟨_,List.getElem_mem hv,rfl⟩
 rw [hb] at hm
 have:=hz.2 _ hm
 exact ⟨w.volume.toNat,by omega,by omega,by omega,by omega⟩
theorem amU {z:List Int} {l:List gZ} {s:lS} {w:bK} {f:Nat→Bool} {y0 y1 y2 y3 y4 y5 y6 a12 a13:PV} (hz:ad3 z) (h0:aN z=0) (hw:w.data.length≤400) {st:St} (h:st.head [1,5,6,10,11,12,13,14,15,37,41] st.boxes.length=some ⟨sl 183 [(1,.pv (.list 3 (l.map CJ))),(5,.pv (.list 1 (z.map eI))),(6,.pv (.list 1 ((aC z).map bf))),(10,.aF 1 0),(11,.aF 2 0),(12,.pv a12),(13,.pv a13),(14,.aF 3 0),(15,.pv (.int .i64 (0:Nat))),(37,.any),(41,.any)],[⟨false,[.pv y0,.pv y1,.pv y2,.pv y3,.pv y4,.pv y5,.pv y6]⟩,⟨false,BQ s⟩,⟨false,bW (fun k=>f k || jW w ((0:Nat)) k)⟩,⟨false,bWr w⟩],[],none⟩) :
  den env TM st=some (.normal,⟨sl 183 [(1,.pv (.list 3 (l.map CJ))),(4,.any),(5,.pv (.list 1 (z.map eI))),(6,.pv (.list 1 ((aC z).map bf))),(10,.aF 1 0),(11,.aF 2 0),(12,.pv a12),(13,.pv a13),(37,.any),(41,.any)],[⟨false,[.pv y0,.pv y1,.pv y2,.pv y3,.pv y4,.pv y5,.pv y6]⟩,⟨false,BQ s⟩,⟨false,bW (fun k=>f k || jW w (tW (aC z) w) k)⟩,⟨false,bWr w⟩],[],none⟩):=by
 unfold TM
 refine bC (env:=env) (nb:=4) (tW (aC z) w) (fun i=>⟨sl 183 [(1,.pv (.list 3 (l.map CJ))),(5,.pv (.list 1 (z.map eI))),(6,.pv (.list 1 ((aC z).map bf))),(10,.aF 1 0),(11,.aF 2 0),(12,.pv a12),(13,.pv a13),(14,.aF 3 0),(15,.pv (.int .i64 i)),(37,.any),(41,.any)],[⟨false,[.pv y0,.pv y1,.pv y2,.pv y3,.pv y4,.pv y5,.pv y6]⟩,⟨false,BQ s⟩,⟨false,bW (fun k=>f k || jW w (i) k)⟩,⟨false,bWr w⟩],[],none⟩) (fun i=>some (.normal,⟨sl 183 [(1,.pv (.list 3 (l.map CJ))),(4,.any),(5,.pv (.list 1 (z.map eI))),(6,.pv (.list 1 ((aC z).map bf))),(10,.aF 1 0),(11,.aF 2 0),(12,.pv a12),(13,.pv a13),(37,.any),(41,.any)],[⟨false,[.pv y0,.pv y1,.pv y2,.pv y3,.pv y4,.pv y5,.pv y6]⟩,⟨false,BQ s⟩,⟨false,bW (fun k=>f k || jW w (tW (aC z) w) k)⟩,⟨false,bWr w⟩],[],none⟩)) h (fun _=>rfl) (fun _=>by simp only [aB,bg,Nat.reduceMul,Nat.reduceBEq,Nat.reduceLT,Nat.reduceLeDiff,Nat.reduceAdd,decide_true,Bool.and_self,Bool.true_and]) ?_ ?_
 ·intro i rb hi ih
  have hf:aT (aC z) w=0:=by
   refine Classical.byContradiction fun c=>?_
   unfold tW at hi
   rw [if_neg c] at hi;omega
  have hi':i<w.data.length:=by unfold tW at hi;rw [if_pos hf] at hi;exact hi
  have hi1:=bG (n:=400) (i:=i) (by omega) (by unfold lim;omega)
  have F1:((i:Int)<(w.data.length:Int))=True:=eq_true (by omega)
  have hIm:dH (aC z)=0:=by unfold dH;rw [jA h0];exact h0
  obtain ⟨s1,s2⟩:=lJ hIm
  have e1:=abY (im:=aC z) (w:=w) (by unfold lim;omega) (fun v hv=>by have:=s2 v hv;unfold lim;omega) (by unfold lim;omega)
  rw [show nS (aC z) w=0 by unfold nS;rw [if_neg (by rw [hIm];simp)];exact hf] at e1
  unfold dQ at e1
  obtain ⟨v,v1,v2,v3,v4⟩:=amT hz h0 hf
  obtain ⟨m,hm⟩:∃ m:Nat,w.start+(i:Int)=(m:Int):=⟨(w.start+(i:Int)).toNat,by omega⟩
  have akg:m<30:=by omega
  have W1:IntKind.i64.wrap (w.start+(i:Int))=(m:Int):=by rw [hm];exact bn (by omega)
  have I1:index (.int .i64 w.volume) 2=some v:=by rw [v1];exact aj v2
  have I2:index (.int .i64 (m:Int)) 30=some m:=aj akg
  have Z:((0:Int)==0)=true:=rfl
  have L1:=AZ (fun k=>f k || jW w i k)
  have L2:(v * 30+m≤59)=True:=eq_true (by omega)
  have G1:∀ k,k<60→(bW (fun k=>f k || jW w i k))[k]?=some (.pv (.bool (f k || jW w i k))):=fun k h=>MP h
  have amX:v * 30+m<60:=by omega
  have G2:=G1 _ amX
  have hS:List.take (v * 30+m) (bW (fun k=>f k || jW w i k))++[.pv (.bool true)]++List.drop (v * 30+m+1) (bW (fun k=>f k || jW w i k))=bW (fun k=>f k || jW w (i+1) k):=by
   rw [ake amX]
   refine FX fun k _=>?_
   rw [agW v1 hm akg,Bool.or_assoc]
  generalize bW (fun k=>f k || jW w (i+1) k)=B2 at *
  generalize bW (fun k=>f k || jW w i k)=B1 at *
  simp only [Ep,F1,e1,Z,W1,I1,I2,L1,L2,G2,hS,Nat.mul_one,iV,dD,yt,List.length_map,au,Nat.reduceMul,Nat.reduceBEq,Nat.reduceLT,Nat.reduceLeDiff,reduceCtorEq,Nat.reduceEqDiff,Nat.reduceAdd,Nat.beq]
  rw [ih _ (by simp only [hi1,dD,yt,au,Nat.reduceMul,Nat.reduceBEq,Nat.reduceLT,Nat.reduceLeDiff,reduceCtorEq,Nat.reduceEqDiff,Nat.reduceAdd,Nat.beq]<;>rfl)]
  try rfl
 ·intro rb
  generalize bW (fun k=>f k || jW w (tW (aC z) w) k)=B1 at *
  have hIm:dH (aC z)=0:=by unfold dH;rw [jA h0];exact h0
  obtain ⟨s1,s2⟩:=lJ hIm
  have e1:=abY (im:=aC z) (w:=w) (by unfold lim;omega) (fun v hv=>by have:=s2 v hv;unfold lim;omega) (by unfold lim;omega)
  rw [show nS (aC z) w=aT (aC z) w by unfold nS;rw [if_neg (by rw [hIm];simp)]] at e1
  unfold dQ at e1
  by_cases c:aT (aC z) w=0
  ·have hT:tW (aC z) w=w.data.length:=by unfold tW;rw [if_pos c]
   rw [hT]
   simp only [Ep,Int.lt_irrefl,dD,yt,List.length_map,au,Nat.reduceMul,Nat.reduceBEq,Nat.reduceLT,Nat.reduceLeDiff,reduceCtorEq,Nat.reduceEqDiff,Nat.reduceAdd,Nat.beq]
  ·have hT:tW (aC z) w=0:=by unfold tW;rw [if_neg c]
   have Z:(aT (aC z) w==0)=false:=by simp [c]
   rw [hT]
   by_cases d:w.data.length=0
   ·have F1:(((0:Nat):Int)<(w.data.length:Int))=False:=eq_false (by omega)
    simp only [Ep,F1,dD,yt,List.length_map,au,Nat.reduceMul,Nat.reduceBEq,Nat.reduceLT,Nat.reduceLeDiff,reduceCtorEq,Nat.reduceEqDiff,Nat.reduceAdd,Nat.beq]
   ·have F1:(((0:Nat):Int)<(w.data.length:Int))=True:=eq_true (by omega)
    simp only [Ep,F1,e1,Z,iV,dD,yt,List.length_map,au,Nat.reduceMul,Nat.reduceBEq,Nat.reduceLT,Nat.reduceLeDiff,reduceCtorEq,Nat.reduceEqDiff,Nat.reduceAdd,Nat.beq]
theorem agZ {z:List Int} {l:List gZ} {s:lS} {j:Nat} {f:Nat→Bool} {y0 y1 y2 y3 y4 y5 y6:PV} (hz:ad3 z) (h0:aN z=0) (hj:j<l.length) (hw:∀ w∈l[j].ws,w.data.length≤400) {st:St} (h:st.head [1,5,6,10,11,12,13,37,41] st.boxes.length=some ⟨sl 183 [(1,.pv (.list 3 (l.map CJ))),(5,.pv (.list 1 (z.map eI))),(6,.pv (.list 1 ((aC z).map bf))),(10,.aF 1 0),(11,.aF 2 0),(12,.pv (.int .i64 (j:Nat))),(13,.pv (.int .i64 (0:Nat))),(37,.any),(41,.any)],[⟨false,[.pv y0,.pv y1,.pv y2,.pv y3,.pv y4,.pv y5,.pv y6]⟩,⟨false,BQ s⟩,⟨false,bW (fun k=>f k || kW (aC z) l[j] ((0:Nat)) k)⟩],[],none⟩) :
  den env TN st=some (.normal,⟨sl 183 [(1,.pv (.list 3 (l.map CJ))),(4,.any),(5,.pv (.list 1 (z.map eI))),(6,.pv (.list 1 ((aC z).map bf))),(10,.aF 1 0),(11,.aF 2 0),(12,.pv (.int .i64 (j:Nat))),(37,.any),(41,.any)],[⟨false,[.pv y0,.pv y1,.pv y2,.pv y3,.pv y4,.pv y5,.pv y6]⟩,⟨false,BQ s⟩,⟨false,bW (fun k=>f k || kW (aC z) l[j] (Dp l[j]) k)⟩],[],none⟩):=by
 unfold TN
 refine bC (env:=env) (nb:=3) (Dp l[j]) (fun i=>⟨sl 183 [(1,.pv (.list 3 (l.map CJ))),(5,.pv (.list 1 (z.map eI))),(6,.pv (.list 1 ((aC z).map bf))),(10,.aF 1 0),(11,.aF 2 0),(12,.pv (.int .i64 (j:Nat))),(13,.pv (.int .i64 i)),(37,.any),(41,.any)],[⟨false,[.pv y0,.pv y1,.pv y2,.pv y3,.pv y4,.pv y5,.pv y6]⟩,⟨false,BQ s⟩,⟨false,bW (fun k=>f k || kW (aC z) l[j] (i) k)⟩],[],none⟩) (fun i=>some (.normal,⟨sl 183 [(1,.pv (.list 3 (l.map CJ))),(4,.any),(5,.pv (.list 1 (z.map eI))),(6,.pv (.list 1 ((aC z).map bf))),(10,.aF 1 0),(11,.aF 2 0),(12,.pv (.int .i64 (j:Nat))),(37,.any),(41,.any)],[⟨false,[.pv y0,.pv y1,.pv y2,.pv y3,.pv y4,.pv y5,.pv y6]⟩,⟨false,BQ s⟩,⟨false,bW (fun k=>f k || kW (aC z) l[j] (Dp l[j]) k)⟩],[],none⟩)) h (fun _=>rfl) (fun _=>by simp only [aB,bg,Nat.reduceMul,Nat.reduceBEq,Nat.reduceLT,Nat.reduceLeDiff,Nat.reduceAdd,decide_true,Bool.and_self,Bool.true_and]) ?_ ?_
 ·intro i rb hi ih
  have hn:i<l[j].ws.length∧i<6:=by unfold Dp at hi;omega
  have hi1:=bG (n:=6) hn.2 (by unfold lim;omega)
  have F1:((i:Int)<(l[j].ws.length:Int))=True:=eq_true (by omega)
  have F2:((i:Int)<6)=True:=eq_true (by omega)
  have hx:=ML hj
  have hy:=rC hn.1
  have hwl:=hw _ (List.getElem_mem hn.1)
  have H:=fun (st:St)=>amU (st:=st) (z:=z) (l:=l) (s:=s) (w:=l[j].ws[i]) (f:=fun k=>f k || kW (aC z) l[j] i k) (y0:=y0) (y1:=y1) (y2:=y2) (y3:=y3) (y4:=y4) (y5:=y5) (y6:=y6) (a12:=.int .i64 (j:Nat)) (a13:=.int .i64 (i:Nat)) hz h0 hwl
  have b0:bW (fun k=>(f k || kW (aC z) l[j] i k) || jW l[j].ws[i] 0 k)=bW (fun k=>f k || kW (aC z) l[j] i k):=FX fun k _=>by rw [amR,Bool.or_false]
  have b1:bW (fun k=>(f k || kW (aC z) l[j] i k) || jW l[j].ws[i] (tW (aC z) l[j].ws[i]) k)=bW (fun k=>f k || kW (aC z) l[j] (i+1) k):=FX fun k _=>by
   rw [agX hn.1,akf];unfold tW;rw [Bool.or_assoc]
  rw [b0,b1] at H
  generalize bW (fun k=>f k || kW (aC z) l[j] (i+1) k)=B2 at *
  generalize bW (fun k=>f k || kW (aC z) l[j] i k)=B1 at *
  simp only [JM,F1,F2,hx,hy,iV,dD,aj hj,aj hn.1,List.length_map,au,Nat.reduceMul,Nat.reduceBEq,Nat.reduceLT,Nat.reduceLeDiff,reduceCtorEq,Nat.reduceEqDiff,Nat.reduceAdd,Nat.beq]
  rw [H _ (by simp only [dD,yt];simp only [aB,bg,Nat.reduceMul,Nat.reduceBEq,Nat.reduceLT,Nat.reduceLeDiff,Nat.reduceAdd,decide_true,Bool.and_self,Bool.true_and]<;>rfl)]
  simp only [dD,yt,au,Nat.reduceMul,Nat.reduceBEq,Nat.reduceLT,Nat.reduceLeDiff,reduceCtorEq,Nat.reduceEqDiff,Nat.reduceAdd,Nat.beq]
  rw [ih _ (by simp only [hi1,dD,au,Nat.reduceMul,Nat.reduceBEq,Nat.reduceLT,Nat.reduceLeDiff,reduceCtorEq,Nat.reduceEqDiff,Nat.reduceAdd,Nat.beq]<;>rfl)]
  try rfl
 ·intro rb
  have hx:=ML hj
  by_cases c:l[j].ws.length≤6
  ·have hE:Dp l[j]=l[j].ws.length:=by unfold Dp;omega
   rw [hE]
   generalize bW (fun k=>f k || kW (aC z) l[j] l[j].ws.length k)=B1 at *
   simp only [JM,Int.lt_irrefl,hx,iV,dD,aj hj,List.length_map,au,Nat.reduceMul,Nat.reduceBEq,Nat.reduceLT,Nat.reduceLeDiff,reduceCtorEq,Nat.reduceEqDiff,Nat.reduceAdd,Nat.beq]
  ·have hE:Dp l[j]=6:=by unfold Dp;omega
   have F1:(((6:Nat):Int)<(l[j].ws.length:Int))=True:=eq_true (by omega)
   have F2:(((6:Nat):Int)<6)=False:=eq_false (by omega)
   rw [hE]
   generalize bW (fun k=>f k || kW (aC z) l[j] 6 k)=B1 at *
   simp only [JM,F1,F2,hx,iV,dD,aj hj,List.length_map,au,Nat.reduceMul,Nat.reduceBEq,Nat.reduceLT,Nat.reduceLeDiff,reduceCtorEq,Nat.reduceEqDiff,Nat.reduceAdd,Nat.beq]
theorem ag0 {z:List Int} {l:List gZ} {y0 y1 y2 y3 y4 y5 y6:PV} (hz:ad3 z) (h0:aN z=0) (hs:MK l=true) (hl:szE l) {st:St} (h:st.head [1,5,6,10,11,12,37,41] st.boxes.length=some ⟨sl 183 [(1,.pv (.list 3 (l.map CJ))),(5,.pv (.list 1 (z.map eI))),(6,.pv (.list 1 ((aC z).map bf))),(10,.aF 1 0),(11,.aF 2 0),(12,.pv (.int .i64 (0:Nat))),(37,.any),(41,.any)],[⟨false,[.pv y0,.pv y1,.pv y2,.pv y3,.pv y4,.pv y5,.pv y6]⟩,⟨false,BQ (QA (s0 z 1) l ((0:Nat)))⟩,⟨false,bW (fW (aC z) l ((0:Nat)))⟩],[],none⟩) :
  den env TQ st=some (.normal,⟨sl 183 [(4,.any),(5,.pv (.list 1 (z.map eI))),(10,.aF 1 0),(11,.aF 2 0),(37,.any)],[⟨false,[.pv y0,.pv y1,.pv y2,.pv y3,.pv y4,.pv y5,.pv y6]⟩,⟨false,BQ (QA (s0 z 1) l l.length)⟩,⟨false,bW (fW (aC z) l l.length)⟩],[],none⟩):=by
 unfold TQ
 refine bC (env:=env) (nb:=3) (l.length) (fun i=>⟨sl 183 [(1,.pv (.list 3 (l.map CJ))),(5,.pv (.list 1 (z.map eI))),(6,.pv (.list 1 ((aC z).map bf))),(10,.aF 1 0),(11,.aF 2 0),(12,.pv (.int .i64 i)),(37,.any),(41,.any)],[⟨false,[.pv y0,.pv y1,.pv y2,.pv y3,.pv y4,.pv y5,.pv y6]⟩,⟨false,BQ (QA (s0 z 1) l (i))⟩,⟨false,bW (fW (aC z) l (i))⟩],[],none⟩) (fun i=>some (.normal,⟨sl 183 [(4,.any),(5,.pv (.list 1 (z.map eI))),(10,.aF 1 0),(11,.aF 2 0),(37,.any)],[⟨false,[.pv y0,.pv y1,.pv y2,.pv y3,.pv y4,.pv y5,.pv y6]⟩,⟨false,BQ (QA (s0 z 1) l l.length)⟩,⟨false,bW (fW (aC z) l l.length)⟩],[],none⟩)) h (fun _=>rfl) (fun _=>by simp only [aB,bg,Nat.reduceMul,Nat.reduceBEq,Nat.reduceLT,Nat.reduceLeDiff,Nat.reduceAdd,decide_true,Bool.and_self,Bool.true_and]) ?_ ?_
 ·intro i rb hi ih
  have hle:l.length≤30:=by
   unfold MK at hs
   simp only [Bool.and_eq_true,decide_eq_true_eq] at hs
   exact hs.2
  have hz4:∀ x∈z,x≤400:=fun x hx=>by have:=hz.2 x hx;omega
  have hi1:=bG hi (by unfold lim;omega)
  have F1:((i:Int)<(l.length:Int))=True:=eq_true (by omega)
  have hI:=Dt h0 hz4 hs hl i (by omega)
  have hI2:=Dt h0 hz4 hs hl (i+1) (by omega)
  have hgx:=Wq hs hl i
  rw [Dq hi] at hgx
  have e0:=amM hI.gd hgx
  rw [show vZ (QA (s0 z 1) l i) l[i]=QA (s0 z 1) l (i+1) by rw [← Dq hi];rfl] at e0
  have hx:=ML hi
  have hrt:=hI.gd.rt
  have H:=fun (st:St)=>agZ (st:=st) (z:=z) (l:=l) (s:=QA (s0 z 1) l (i+1)) (j:=i) (f:=fW (aC z) l i) (y0:=y0) (y1:=y1) (y2:=y2) (y3:=y3) (y4:=y4) (y5:=y5) (y6:=y6) hz h0 hi hgx.ws
  have b0:bW (fun k=>fW (aC z) l i k || kW (aC z) l[i] 0 k)=bW (fW (aC z) l i):=FX fun k _=>by
   show (fW (aC z) l i k || false)=_
   rw [Bool.or_false]
  have b1:bW (fun k=>fW (aC z) l i k || kW (aC z) l[i] (Dp l[i]) k)=bW (fW (aC z) l (i+1)):=FX fun k _=>agY hi k
  rw [b0,b1] at H
  generalize bW (fW (aC z) l (i+1))=B2 at *
  generalize bW (fW (aC z) l i)=B1 at *
  generalize QA (s0 z 1) l (i+1)=S2 at *
  generalize QA (s0 z 1) l i=S1 at *
  rw [U5 S1,U5 S2,hrt,adO] at e0
  simp only [TP,F1,hrt,e0,hx,iV,FP,dD,aj hi,List.length_map,au,Nat.reduceMul,Nat.reduceBEq,Nat.reduceLT,Nat.reduceLeDiff,reduceCtorEq,Nat.reduceEqDiff,Nat.reduceAdd,Nat.beq]
  rw [H _ (by simp only [dD];simp only [aB,bg,Nat.reduceMul,Nat.reduceBEq,Nat.reduceLT,Nat.reduceLeDiff,Nat.reduceAdd,decide_true,Bool.and_self,Bool.true_and]<;>rfl)]
  simp only [dD,au,Nat.reduceMul,Nat.reduceBEq,Nat.reduceLT,Nat.reduceLeDiff,reduceCtorEq,Nat.reduceEqDiff,Nat.reduceAdd,Nat.beq]
  rw [ih _ (by simp only [hi1,dD,au,Nat.reduceMul,Nat.reduceBEq,Nat.reduceLT,Nat.reduceLeDiff,reduceCtorEq,Nat.reduceEqDiff,Nat.reduceAdd,Nat.beq]<;>rfl)]
  try rfl
 ·intro rb
  generalize bW (fW (aC z) l l.length)=B1 at *
  simp only [TP,Int.lt_irrefl,dD,List.length_map,au,Nat.reduceMul,Nat.reduceBEq,Nat.reduceLT,Nat.reduceLeDiff,reduceCtorEq,Nat.reduceEqDiff,Nat.reduceAdd,Nat.beq]
end Go.Proofs.YtpcncggjmabnaaaGreatDoor.V
