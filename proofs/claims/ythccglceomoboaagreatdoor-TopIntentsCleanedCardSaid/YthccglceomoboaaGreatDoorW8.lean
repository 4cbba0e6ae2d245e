/-
  Part 8 of the texts that the statement stands on.
-/
import Derived.Test.YthccglceomoboaaGreatDoorW7
set_option linter.all false
open Bool renaming and_eq_true → ZS, true_and → Zai, and_self → Zal
open List renaming getElem?_eq_getElem → ZZ, length_map → za, length_cons → zc, getElem?_map → zd, length_nil → ze, getElem?_take → Zad, replicate → Zae, length_take → Zam, mem_singleton → Zao, map_cons → Zat, map_nil → Zav, getElem_mem → ZaD, take_succ_eq_append_getElem → ZaF, map_append → ZaH, take_length → ZaW, length_replicate → Za6, mem_map_of_mem → Zbk
open Nat renaming beq → zb, le_refl → zg, lt_or_ge → ZaP
open Int renaming tmod_eq_emod_of_nonneg → Zaq, lt_irrefl → ZaL
open Array renaming getElem?_toList → Zba, getElem?_eq_none → ZbJ
namespace Go.Proofs.YthccglceomoboaaGreatDoor.V
theorem afm {a d:List eG}{s:Int}(h1:1≤d.length)(h0:0≤s)(h:s+(d.length:Int)≤(a.length:Int))(ha:a.length≤60):cal env 39 [oJ [a],.list 3 [Zt ⟨0,s,d⟩]]=some [(oJ [putAt a s.toNat d],false),(.int .i64 (apI [a] [⟨0,s,d⟩]),false),(.int .i64 0,false)]:=by
 have hz:Dt (kT [a])=0:=by
  unfold Dt kT
  simp
  omega
 have hw:Du (kT [a]) ⟨0,s,d⟩=0:=by
  unfold Du kT
  simp only [Zat,Zav,zc,ze,Int.toNat_zero,List.getD_cons_zero]
  rw [if_neg (by omega),if_neg (by omega),if_neg (by omega)]
 have hE:Vj [a] [⟨0,s,d⟩]=0:=by
  unfold Vj
  rw [if_neg (by rw [hz];simp)]
  unfold wM
  rw [if_neg (by rw [hw];simp)]
  rfl
 have hO:Vk [a] [⟨0,s,d⟩]=[putAt a s.toNat d]:=by
  unfold Vk
  rw [if_pos hE]
  rfl
 have:=anS (im:=[a]) (l:=[⟨0,s,d⟩]) (fun w hw=>by
  rw [Zao.1 hw]
  unfold vJ
  simp only [ZS,decide_eq_true_eq]
  omega) (by simp) (fun v hv=>by rw [Zao.1 hv];omega)
 rw [hO,hE] at this
 exact this
theorem amk {n g:Int}{N:Nat}{m:TM}{j:iL}{c:Nat}{x:TE}(h:Inv n g N (toM m) j c)(hN:n=(N:Int))(h60:N≤60)(hc:c≤200)(hx:uU x)(hdl:x.dat.length≤1000):cal env 134 [zB m,pU x]=some [(zB (Q7 m x),false)]:=by
 have hok:m.ok=true:=h.ok
 have hla:m.a.length=N:=h.la
 have hlb:m.b.length=N:=h.lb
 have hlg:fP m.log=true:=h.lg
 obtain ⟨z1,z2,z3,z4⟩:=cZ.1 h.n60
 have hwl:m.ws.length≤c:=by have:=h.wl;simpa [toM] using this
 have hwf:∀ w∈m.ws,0≤w.st∧1≤w.dat.length∧w.st+(w.dat.length:Int)≤n:=fun w hw=>by
  have hb:=jW.1 (h.wf (toW w).e (Zbk (show toW w∈m.ws.map toW from Zbk hw)))
  unfold toW at hb
  simp only at hb
  omega
 unfold Q7
 by_cases k0:x.kd % 5=0
 ·rw [if_pos k0]
  refine aiG hx k0 (al4 (by omega) hlg hx hdl (fun w hw=>by have:=hwf w hw;omega) (by omega) hok (fun d0=>?_))
  have hp:ni m x<m.a.length:=Nat.mod_lt _ (by omega)
  have hdl:(pV m x).length=min x.dat.length (m.a.length - ni m x):=by unfold pV;rw [Zam];omega
  exact UF h (by omega) (jW.2 (by unfold Q5;simp only;omega))
 ·rw [if_neg k0]
  by_cases k4:x.kd % 5=4
  ·rw [if_pos k4]
   exact aiH hlg hx k4
  ·rw [if_neg k4]
   cases hw:m.ws[x.wh % m.ws.length]? with
   |none =>
    refine aiI hx k0 k4 ?_
    rcases Nat.eq_zero_or_pos m.ws.length with e|e
    ·exact List.eq_nil_of_length_eq_zero e
    ·rw [ZZ (Nat.mod_lt _ e)] at hw;cases hw
   |some w =>
    have hb:=hwf w (List.mem_of_getElem? hw)
    simp only
    by_cases k1:x.kd % 5=1
    ·rw [if_pos k1]
     exact afi hx (by omega) hok k1 hw (afm hb.2.1 hb.1 (by omega) (by omega))
    ·rw [if_neg k1]
     by_cases k2:x.kd % 5=2
     ·rw [if_pos k2]
      exact afk hx (by omega) hok k2 hw (afm hb.2.1 hb.1 (by omega) (by omega))
     ·rw [if_neg k2]
      have k3:x.kd % 5=3:=by omega
      by_cases hfs:w.f=true∧w.s=true
      ·rw [if_pos hfs]
       have hk:(toM m).ws[x.wh % m.ws.length]?=some (toW w):=by show (m.ws.map toW)[_]?=_;rw [zd,hw];rfl
       have e2:=(VW h (by omega) hk hfs.1 hfs.2).2
       have aqA:m.log.act.length≤lim:=by have:=bP.1 hlg;have:=lG this.1;unfold lim;have:=cZ.1 (bP.1 hlg).1;have:=(bP.1 hlg).2.1;omega
       have:=alv (i:=m.log) (e:=(toW w).e) aqA
       rw [show DZ nT m.log (toW w).e=0 from e2] at this
       exact aiO hx (by omega) hok k3 hw hfs.1 hfs.2 this
      ·rw [if_neg hfs]
       refine aiN hx (by omega) hok k3 hw ?_
       cases hf:w.f with
       |false=>exact .inl rfl
       |true =>
        cases hs:w.s with
        |false=>exact .inr rfl
        |true=>exact absurd ⟨hf,hs⟩ hfs
def runT (m:TM)(l:List TE):TM:=l.foldl Q7 m
theorem Zf (m:TM)(x:TE)(l:List TE):runT m (x::l)=runT (Q7 m x) l:=rfl
theorem J8 (m:TM)(l:List TE)(x:TE):runT m (l++[x])=Q7 (runT m l) x:=by simp [runT]
theorem QV {n g:Int}{N:Nat}(hN:n=(N:Int)):∀ (l:List TE) {m:TM} {j:iL} {c:Nat},Inv n g N (toM m) j c→c+l.length≤4096→∃ j',Inv n g N (toM (runT m l)) j' (c+l.length)
 |[],m,j,c,h,_=>⟨j,h⟩
 |x::l,m,j,c,h,hc=>by
  simp only [zc] at hc
  obtain ⟨j',h'⟩:=amj h hN (by omega) x
  obtain ⟨j2,h2⟩:=QV hN l h' (by omega)
  exact ⟨j2,by rw [Zf,zc,show c+(l.length+1)=c+1+l.length by omega];exact h2⟩
theorem afn (m:TM):zB m=.agg [oJ [m.a],oJ [m.b],.int .i64 m.log.size,.int .i64 m.log.aV,.list 1 (m.log.act.map eI),.int .i64 m.log.bm.size,.list 1 (m.log.bm.ws.map eW),.list 1 (m.Hy.map eY),.list 5 (m.ws.map Bc),.bool m.ok]:=rfl
set_option maxRecDepth 20000 in
theorem aml {n g:Int}{N:Nat}{evs:List TE}{m0:TM}{A:List BV}(hev:∀ x∈evs,uU x∧x.dat.length≤1000)(hle:evs.length≤200)(hN:n=(N:Int))(h60:N≤60)(hI:∀ i,i≤evs.length→∃ j,Inv n g N (toM (runT m0 (evs.take i))) j i){st:St}(h:st.head [2,10,11,16,17] st.boxes.length=some ⟨sl 90 [(2,.pv (.list 4 (evs.map pU))),(10,.pv (.int .i64 n)),(11,.pv (.int .i64 g)),(16,.aP 1 0),(17,.pv (.int .i64 (0:Nat)))],[⟨false,A⟩,⟨false,cT (runT m0 (evs.take ((0:Nat))))⟩],[],none⟩) :
  den env Lu st=some (.normal,⟨sl 90 [(6,.any),(7,.any),(8,.any),(9,.any),(10,.pv (.int .i64 n)),(11,.pv (.int .i64 g)),(16,.aP 1 0)],[⟨false,A⟩,⟨false,cT (runT m0 evs)⟩],[],none⟩):=by
 unfold Lu
 refine dL (env:=env) (nb:=2) (evs.length) (fun i=>⟨sl 90 [(2,.pv (.list 4 (evs.map pU))),(10,.pv (.int .i64 n)),(11,.pv (.int .i64 g)),(16,.aP 1 0),(17,.pv (.int .i64 i))],[⟨false,A⟩,⟨false,cT (runT m0 (evs.take (i)))⟩],[],none⟩) (fun i=>some (.normal,⟨sl 90 [(6,.any),(7,.any),(8,.any),(9,.any),(10,.pv (.int .i64 n)),(11,.pv (.int .i64 g)),(16,.aP 1 0)],[⟨false,A⟩,⟨false,cT (runT m0 evs)⟩],[],none⟩)) h (fun _=>rfl) (fun _=>by simp only [aG,dN,Nat.reduceMul,Nat.reduceBEq,Nat.reduceLT,Nat.reduceLeDiff,Nat.reduceAdd,decide_true,Zal,Zai]) ?_ ?_
 ·intro i rb hi ih
  have hi1:=dV hi (by unfold lim;omega)
  have F1:((i:Int)<(evs.length:Int))=True:=eq_true (by omega)
  obtain ⟨j,hM⟩:=hI i (by omega)
  have hs:runT m0 (evs.take (i+1))=Q7 (runT m0 (evs.take i)) evs[i]:=by rw [ZaF hi,J8]
  rw [hs] at ih
  generalize runT m0 (evs.take i)=M at *
  have hx:(evs.map pU)[i]?=some (pU evs[i]):=by rw [zd,ZZ hi];rfl
  rw [oZ] at hx
  have hok:=hev _ (ZaD hi)
  generalize evs[i]=x at *
  have hMo:M.ok=true:=hM.ok
  have hc1:=amk hM hN h60 (by omega) hok.1 hok.2
  generalize Q7 M x=Q at *
  rw [afn,oZ,afn] at hc1
  have P4:∀ a b c d:PV,part [a,b,c,d] 0 (some 4)=some (.agg [a,b,c,d]):=fun _ _ _ _=>rfl
  have zC:∀ x0 x1 x2 x3 x4 x5 x6 x7 x8 x9:PV,part [x0,x1,x2,x3,x4,x5,x6,x7,x8,x9] 0 (some 10)=some (.agg [x0,x1,x2,x3,x4,x5,x6,x7,x8,x9]):=fun _ _ _ _ _ _ _ _ _ _=>rfl
  rw [hMo] at hc1
  simp only [Ls,F1,hx,hc1,P4,zC,hMo,tZ,aB hi,za,aC,Nat.reduceMul,Nat.reduceBEq,Nat.reduceLT,Nat.reduceLeDiff,reduceCtorEq,Nat.reduceEqDiff,Nat.reduceAdd,zb]
  rw [ih _ (by simp only [hi1,tZ,aC,Nat.reduceMul,Nat.reduceBEq,Nat.reduceLT,Nat.reduceLeDiff,reduceCtorEq,Nat.reduceEqDiff,Nat.reduceAdd,zb]<;>rfl)]
  rfl
 ·intro rb
  rw [ZaW]
  simp only [Ls,ZaL,tZ,za,aC,Nat.reduceMul,Nat.reduceBEq,Nat.reduceLT,Nat.reduceLeDiff,reduceCtorEq,Nat.reduceEqDiff,Nat.reduceAdd,zb]
theorem Zh (z:List Int):(mQ z).length=z.length:=by unfold mQ;simp
theorem amm {z:List Int}(hz:z.length≤1000)(hs:∀ x∈z,1≤x∧x≤4096){st:St}(h:st.head [0,5,6,25] st.boxes.length=some ⟨sl 27 [(0,.pv (.list 1 (z.map eI))),(5,.row 1 ((mQ (z.take ((0:Nat)))).map dh)),(6,.pv (.int .i64 (0:Nat))),(25,.any)],[],[],none⟩) :
  den env LD st=some (.normal,⟨sl 27 [(2,.any),(3,.any),(5,.row 1 ((mQ z).map dh))],[],[],none⟩):=by
 unfold LD
 refine dL (env:=env) (z.length) (fun i=>⟨sl 27 [(0,.pv (.list 1 (z.map eI))),(5,.row 1 ((mQ (z.take (i))).map dh)),(6,.pv (.int .i64 i)),(25,.any)],[],[],none⟩) (fun i=>some (.normal,⟨sl 27 [(2,.any),(3,.any),(5,.row 1 ((mQ z).map dh))],[],[],none⟩)) h (fun _=>rfl) (fun _=>by simp only [aG,dN,Nat.reduceMul,Nat.reduceBEq,Nat.reduceLT,Nat.reduceLeDiff,Nat.reduceAdd,decide_true,Zal,Zai]) ?_ ?_
 ·intro i rb hi ih
  have hi1:=dV hi (by unfold lim;omega)
  have F1:((i:Int)<(z.length:Int))=True:=eq_true (by omega)
  have q:=hs _ (ZaD hi)
  have F2:(0≤z[i])=True:=eq_true (by omega)
  have F3:(z[i]≤z[i])=True:=eq_true (Int.le_refl _)
  have F4:(z[i]≤(lim:Int))=True:=eq_true (by unfold lim;omega)
  have hx:(z.map eI)[i]?=some (.int .i64 z[i]):=by rw [zd,ZZ hi];rfl
  have F5:(((mQ (z.take i)).map dh).length+1≤lim)=True:=eq_true (by rw [za,Zh,Zam];unfold lim;omega)
  have hs2:(mQ (z.take (i+1))).map dh=(mQ (z.take i)).map dh++[.list 8 (Zae z[i].toNat (.agg [.int .u8 0,.int .u8 0,.int .u8 0,.int .u8 0,.int .u8 0,.int .u8 0,.int .u8 0,.int .u8 0]))]:=by
   rw [ZaF hi]
   unfold mQ
   rw [ZaH,ZaH]
   congr 1
   simp only [Zat,Zav,dh,List.map_replicate]
   rfl
  rw [hs2] at ih
  simp only [LC,F1,F2,F3,F4,F5,hx,aB hi,za,aC,Nat.reduceMul,Nat.reduceBEq,Nat.reduceLT,Nat.reduceLeDiff,reduceCtorEq,Nat.reduceEqDiff,Nat.reduceAdd,zb] at *
  simp only [F5,aC,Nat.reduceMul,Nat.reduceBEq,Nat.reduceLT,Nat.reduceLeDiff,reduceCtorEq,Nat.reduceEqDiff,Nat.reduceAdd,zb]
  rw [ih _ (by simp only [hi1,aC,Nat.reduceMul,Nat.reduceBEq,Nat.reduceLT,Nat.reduceLeDiff,reduceCtorEq,Nat.reduceEqDiff,Nat.reduceAdd,zb]<;>rfl)]
 ·intro rb
  rw [ZaW]
  simp only [LC,ZaL,za,aC,Nat.reduceMul,Nat.reduceBEq,Nat.reduceLT,Nat.reduceLeDiff,reduceCtorEq,Nat.reduceEqDiff,Nat.reduceAdd,zb]
theorem anU {z:List Int}(hz:z.length≤1000):cal env 52 [.list 1 (z.map eI)]=some [(.list 1 ((if fD z=0 then mQ z else []).map dh),true),(.int .i64 (fD z),false)]:=by
 have e1:=ak2 (l:=z) (by unfold lim;omega)
 by_cases c:fD z=0
 ·have hs:∀ x∈z,1≤x∧x≤4096:=by
   intro x hx
   have h:=c
   unfold fD at h
   split at h
   ·omega
   ·split at h
    ·omega
    ·rename_i h2
     simp only [List.any_eq_true,not_exists,not_and,Bool.not_eq_true] at h2
     have:=h2 x hx
     simp at this
     omega
  rw [c] at e1
  rw [if_pos c,c]
  have Z:((0:Int) != 0)=false:=rfl
  rw [ak ai6 rfl];simp only [Yf,aG,Nat.reduceBEq,Nat.reduceLeDiff,Nat.reduceAdd,zc,ze]
  simp only [e1,Z,aC,Nat.reduceMul,Nat.reduceBEq,Nat.reduceLT,Nat.reduceLeDiff,reduceCtorEq,Nat.reduceEqDiff,Nat.reduceAdd,zb]
  rw [amm hz hs (by simp only [aG,dN,Nat.reduceMul,Nat.reduceBEq,Nat.reduceLT,Nat.reduceLeDiff,Nat.reduceAdd,decide_true,Zal,Zai]<;>rfl)]
  simp only [e1,Z,aC,Nat.reduceMul,Nat.reduceBEq,Nat.reduceLT,Nat.reduceLeDiff,reduceCtorEq,Nat.reduceEqDiff,Nat.reduceAdd,zb]
 ·rw [if_neg c]
  have Z:(fD z != 0)=true:=by simp [c]
  rw [ak ai6 rfl];simp only [Yf,aG,Nat.reduceBEq,Nat.reduceLeDiff,Nat.reduceAdd,zc,ze]
  simp only [e1,Z,aC,Nat.reduceMul,Nat.reduceBEq,Nat.reduceLT,Nat.reduceLeDiff,reduceCtorEq,Nat.reduceEqDiff,Nat.reduceAdd,zb]
theorem aiQ (s g:Int):(jJ s g).act.length≤4096∧(jJ s g).bm.ws.length≤64:=by
 unfold jJ
 split
 ·rename_i c
  have h1:=lG c
  have h2:=(cZ.1 c).2.1
  refine ⟨by rw [Za6];omega,?_⟩
  unfold tu
  rw [if_neg (by omega),Za6]
  unfold lF
  omega
 ·exact ⟨by decide,by decide⟩
def m0T (n g:Int)(N:Nat):TM:=⟨Zae N E5,Zae N E5,jJ n g,jL (jJ n g),[],true⟩
theorem amn {n g:Int}(h:lT n g=true)(N:Nat):Inv n g N (toM (m0T n g N)) (jJ n g) 0:=by
 have:=aiC h (Zae N E5)
 rw [Za6] at this
 exact this
def oM (a:Nat):Nat:=1+a % 16
def CO (b:Nat):Int:=1+((b % 6:Nat):Int)
def Ba (a b:Nat)(evs:List TE):TM:=runT (m0T (oM a:Int) (CO b) (oM a)) evs
theorem ajl (a b:Nat):lT (oM a:Int) (CO b)=true:=by
 apply cZ.2
 unfold oM CO
 omega
theorem UO (a b:Nat){evs:List TE}(h:evs.length≤200):∃ j,Inv (oM a:Int) (CO b) (oM a) (toM (Ba a b evs)) j evs.length:=by
 obtain ⟨j,hj⟩:=QV rfl evs (amn (ajl a b) (oM a)) (by omega)
 rw [Nat.zero_add] at hj
 exact ⟨j,hj⟩
set_option maxRecDepth 20000 in
theorem ajm {a b:Nat}{evs:List TE}(ha:a<256)(hb:b<256)(hev:∀ x∈evs,uU x∧x.dat.length≤1000)(hle:evs.length≤200):cal env 45 [.int .u8 (a:Int),.int .u8 (b:Int),.list 4 (evs.map pU)]=some [(oJ [(Ba a b evs).a],false),(oJ [(Ba a b evs).b],false),(.list 1 [.list 2 ((VN (oM a:Int) (CO b) (Ba a b evs).Hy).map aZ)],true),(.bool true,false)]:=by
 have T1:(a:Int).tmod 16=((a % 16:Nat):Int):=by rw [Zaq (by omega)];omega
 have T2:(b:Int).tmod 6=((b % 6:Nat):Int):=by rw [Zaq (by omega)];omega
 have V1:IntKind.i64.wrap (a:Int)=(a:Int):=aF (by omega)
 have V2:IntKind.i64.wrap (b:Int)=(b:Int):=aF (by omega)
 have W1:IntKind.i64.wrap ((a % 16:Nat):Int)=((a % 16:Nat):Int):=aF (by omega)
 have W2:IntKind.i64.wrap ((b % 6:Nat):Int)=((b % 6:Nat):Int):=aF (by omega)
 have z16:((16:Int)=0)=False:=eq_false (by omega)
 have z6:((6:Int)=0)=False:=eq_false (by omega)
 have hz:=ajl a b
 have hI:∀ i,i≤evs.length→∃ j,Inv (oM a:Int) (CO b) (oM a) (toM (runT (m0T (oM a:Int) (CO b) (oM a)) (evs.take i))) j i:=fun i hi=>by
  obtain ⟨j,hj⟩:=UO a b (evs:=evs.take i) (by rw [Zam];omega)
  rw [Zam,Nat.min_eq_left hi] at hj
  exact ⟨j,hj⟩
 obtain ⟨j,hj⟩:=UO a b hle
 have hNl:1≤oM a∧oM a≤16:=by unfold oM;omega
 have W3:IntKind.i64.wrap (1+((a % 16:Nat):Int))=(oM a:Int):=by unfold oM;rw [aF (by omega)];omega
 have W4:IntKind.i64.wrap (1+((b % 6:Nat):Int))=CO b:=by unfold CO;rw [aF (by omega)]
 have hun:Ba a b evs=runT (m0T (oM a:Int) (CO b) (oM a)) evs:=rfl
 have hloop:=fun st A=>aml (st:=st) (n:=(oM a:Int)) (g:=CO b) (N:=oM a) (evs:=evs) (m0:=m0T (oM a:Int) (CO b) (oM a)) (A:=A) hev hle rfl (by omega) hI
 generalize hM:Ba a b evs=M at *
 rw [← hun] at hloop
 have hMo:M.ok=true:=hj.ok
 have hst:M.Hy=jL j:=hj.st
 obtain ⟨r1,r2,-⟩:=VT hj.jl
 have hrl:=aiy (i:=j) (by rw [hj.js];omega)
 rw [hj.js,hj.jg] at r2
 rw [← hst] at r1 r2 hrl
 have c3:=anL (s:=(oM a:Int)) (g:=CO b) r1 hrl
 rw [r2] at c3
 obtain ⟨e0,e00,ok0⟩:=Me hz
 have n0:=anU (z:=[(oM a:Int)]) (by simp)
 have s0:fD [(oM a:Int)]=0:=by unfold fD;simp;omega
 have i0:mQ [(oM a:Int)]=[Zae (oM a) E5]:=by simp [mQ]
 rw [s0,if_pos rfl,i0] at n0
 have n1:=ajb (s:=(oM a:Int)) (g:=CO b)
 rw [e00] at n1
 obtain ⟨l1,l2⟩:=aiQ (oM a:Int) (CO b)
 have c1:=aeN (i:=jJ (oM a:Int) (CO b)) (by unfold lim;omega)
 have Ei:∀ i:iL,oW i=.agg [.int .i64 i.size,.int .i64 i.aV,.list 1 (i.act.map eI),.int .i64 i.bm.size,.list 1 (i.bm.ws.map eW)]:=fun _=>rfl
 have P5:∀ a b c d e:PV,part [a,b,c,d,e] 0 (some 5)=some (.agg [a,b,c,d,e]):=fun _ _ _ _ _=>rfl
 have zC:∀ x0 x1 x2 x3 x4 x5 x6 x7 x8 x9:PV,part [x0,x1,x2,x3,x4,x5,x6,x7,x8,x9] 0 (some 10)=some (.agg [x0,x1,x2,x3,x4,x5,x6,x7,x8,x9]):=fun _ _ _ _ _ _ _ _ _ _=>rfl
 have E0:((0:Int)==0)=true:=rfl
 rw [Ei] at n1 c1 c3
 have hc0:cT (m0T (oM a:Int) (CO b) (oM a))=[.pv (oJ [Zae (oM a) E5]),.pv (oJ [Zae (oM a) E5]),.pv (.int .i64 (jJ (oM a:Int) (CO b)).size),.pv (.int .i64 (jJ (oM a:Int) (CO b)).aV),.pv (.list 1 ((jJ (oM a:Int) (CO b)).act.map eI)),.pv (.int .i64 (jJ (oM a:Int) (CO b)).bm.size),.pv (.list 1 ((jJ (oM a:Int) (CO b)).bm.ws.map eW)),.pv (.list 1 ((jL (jJ (oM a:Int) (CO b))).map eY)),.pv (.list 5 []),.pv (.bool true)]:=rfl
 have eIm:∀ v:List eG,oJ [v]=.list 1 [dh v]:=fun _=>rfl
 have eM1:List.map eI [(oM a:Int)]=[.int .i64 (oM a:Int)]:=rfl
 have eM2:∀ v:List eG,List.map dh [v]=[dh v]:=fun _=>rfl
 rw [eM1,eM2] at n0
 rw [ak anv rfl];simp only [abA,aG,Nat.reduceBEq,Nat.reduceLeDiff,Nat.reduceAdd,zc,ze]
 simp only [T1,T2,V1,V2,W1,W2,W3,W4,z16,z6,n0,n1,c1,P5,zC,E0,za,aC,Nat.reduceMul,Nat.reduceBEq,Nat.reduceLT,Nat.reduceLeDiff,reduceCtorEq,Nat.reduceEqDiff,Nat.reduceAdd,zb]
 rw [hloop _ _ (by rw [List.take_zero,show runT (m0T (oM a:Int) (CO b) (oM a)) []=m0T (oM a:Int) (CO b) (oM a) from rfl,hc0];simp only [aG,dN,Nat.reduceMul,Nat.reduceBEq,Nat.reduceLT,Nat.reduceLeDiff,Nat.reduceAdd,decide_true,Zal,Zai]<;>rfl)]
 simp only [c3,tZ,hMo,eIm,P5,zC,E0,za,aC,Nat.reduceMul,Nat.reduceBEq,Nat.reduceLT,Nat.reduceLeDiff,reduceCtorEq,Nat.reduceEqDiff,Nat.reduceAdd,zb]
def hit (w:zy)(v s:Nat):Bool:=decide (w.volume=(v:Int))&&(decide (w.start≤(s:Int))&&decide ((s:Int) - w.start<w.data.length))
theorem aiR {l:List bH}{s:Nat}:vk l s=true ↔ ∃ e∈l,uh e s=true:=by simp [vk]
theorem V8 {p:Nat→Bool}{n:Nat}:∀ k,(∀ s,n≤s→p s=false)→ext p (n+k)=ext p n
 |0,_=>rfl
 |k+1,h=>by
  rw [show n+(k+1)=n+k+1 by omega,mV,h (n+k) (by omega)]
  exact V8 k h
theorem afo {p:Nat→Bool}{n m:Nat}(h:n≤m)(hp:∀ s,n≤s→p s=false):ext p m=ext p n:=by
 rw [show m=n+(m - n) by omega];exact V8 _ hp
theorem amo {l:List TE}(h:smT l=true):l.length≤30∧∀ x∈l,x.dat.length≤8:=by
 unfold smT at h
 simp only [ZS,Bool.not_eq_true',decide_eq_true_eq] at h
 refine ⟨h.2,fun x hx=>?_⟩
 have:=h.1
 unfold Iz at this
 rw [List.drop_zero,List.any_eq_false] at this
 have:=this x hx
 simp at this
 omega
theorem aiS {n g:Int}{x:bH}{s:Nat}(h:uh (tX n g x) s=true):(s:Int)<n:=by
 have:=(uT.1 h).2.2
 unfold tX at this
 simp only at this
 split at this<;>omega
theorem aiT {i:iL}(h:fP i=true):VN i.size i.aV (jL i)=ext (fun s=>vK i.bm ((s:Int) / i.aV)) i.size.toNat:=by
 obtain ⟨h1,-⟩:=bP.1 h
 obtain ⟨z1,z2,z3,z4⟩:=cZ.1 h1
 obtain ⟨-,r2,-,r4,-⟩:=VT h
 have hL:VN i.size i.aV (jL i)=ext (vk ((tV (jL i)).2.2.2.map (tX i.size i.aV))) 4096:=by
  unfold VN
  rw [if_pos r2,aeS]
 rw [hL] at r4
 rw [hL,afo (n:=i.size.toNat) (by omega) (fun s hs=>?_)]
 ·refine BN fun s hs=>?_
  have:=r4 s (by omega)
  rw [yx,decide_eq_true (by omega),Zai] at this
  exact this
 ·rw [Bool.eq_false_iff]
  intro hi
  obtain ⟨e,he,h2⟩:=aiR.1 hi
  obtain ⟨x,-,rfl⟩:=List.mem_map.1 he
  have:=aiS h2
  omega
theorem afp {p:Nat→Bool}:∀ n,(∀ s,s<n→p s=false)→ext p n=[]
 |0,_=>rfl
 |n+1,h=>by
  rw [mV,h n (by omega)]
  exact afp n fun s hs=>h s (by omega)
theorem afq {i:iL}(h:fP i=true)(h0:∀ k (h:k<i.act.length),i.act[k]=0):VN i.size i.aV (jL (tH i))=[]:=by
 obtain ⟨k1,k2,k3,k4,k5⟩:=G7 h
 obtain ⟨h1,h2,h3,h4,h5⟩:=bP.1 h
 obtain ⟨z1,z2,z3,z4⟩:=cZ.1 h1
 obtain ⟨q1,q2,q3,-⟩:=UA h i.act.length (zg _)
 have e:(tH i).bm=(gB i i.act.length).1:=by unfold tH;rw [if_pos h]
 have:=aiT k1
 rw [k2,k3] at this
 rw [this]
 refine afp _ fun s hs=>?_
 have k0:0≤(s:Int) / i.aV:=Int.ediv_nonneg (by omega) (by omega)
 have kc:((((s:Int) / i.aV).toNat:Nat):Int)=(s:Int) / i.aV:=by omega
 have hg:=oH (bP.1 k1).2.2.1 ((s:Int) / i.aV).toNat
 rw [kc] at hg
 rw [hg,e,q3]
 cases hb:bit i.bm.ws ((s:Int) / i.aV).toNat with
 |false=>rfl
 |true =>
  have hlt:=Gz h3 hb
  have hl:((s:Int) / i.aV).toNat<i.act.length:=by omega
  rw [decide_eq_true ⟨hl,by rw [List.getD_eq_getElem?_getD,ZZ hl];exact h0 _ hl⟩]
  rfl
def clE (x:TE):List TE:=[⟨0,0,x.st,x.dat⟩,⟨1,0,0,[]⟩,⟨2,0,0,[]⟩,⟨3,0,0,[]⟩]
def vO (l:List TE):List TE:=l.flatMap clE
def clX:TE:=⟨4,0,0,[]⟩
theorem V9 (l:List TE):(vO l).length=4*l.length:=by
 unfold vO
 induction l with
 |nil=>rfl
 |cons x l ih=>rw [List.flatMap_cons,List.length_append,ih,zc];show 4+_=_;omega
theorem afr (l:List TE)(x:TE):vO (l++[x])=vO l++clE x:=by simp [vO]
theorem afs (m:TM)(l k:List TE):runT m (l++k)=runT (runT m l) k:=by simp [runT]
theorem Nj {m:TM}{k w:Nat}(h:m.ws=[])(h0:k % 5≠0)(h4:k % 5≠4):Q7 m ⟨k,w,0,[]⟩=m:=by
 unfold Q7
 rw [if_neg h0,if_neg h4,h]
 rfl
theorem aiU {m:TM}(h:m.ws=[])(x:TE):(runT m (clE x)).ws=[]:=by
 have e:runT m (clE x)=Q7 (Q7 (Q7 (Q7 m ⟨0,0,x.st,x.dat⟩) ⟨1,0,0,[]⟩) ⟨2,0,0,[]⟩) ⟨3,0,0,[]⟩:=rfl
 rw [e]
 have e0:Q7 m ⟨0,0,x.st,x.dat⟩=MR m ⟨0,0,x.st,x.dat⟩:=rfl
 rw [e0]
 have hov:VX m.ws (ni m ⟨0,0,x.st,x.dat⟩:Int) (pV m ⟨0,0,x.st,x.dat⟩).length 0=false:=by rw [h];rfl
 by_cases d0:x.dat.length=0
 ·have e1:MR m ⟨0,0,x.st,x.dat⟩=m:=by unfold MR;rw [if_pos d0]
  rw [e1,Nj h (by decide) (by decide),Nj h (by decide) (by decide),Nj h (by decide) (by decide)]
  exact h
 ·obtain ⟨b1,b2,hb⟩:∃ b1 b2,MR m ⟨0,0,x.st,x.dat⟩=⟨m.a,m.b,b1,b2,[⟨(ni m ⟨0,0,x.st,x.dat⟩:Int),pV m ⟨0,0,x.st,x.dat⟩,false,false⟩],true⟩:=by
   unfold MR
   rw [if_neg d0,hov,if_neg (by decide),h]
   exact ⟨_,_,rfl⟩
  rw [hb]
  rfl
theorem Wh {m:TM}(h:m.ws=[]):∀ l:List TE,(runT m (vO l)).ws=[]
 |[]=>h
 |x::l=>by
  show (runT m (clE x++vO l)).ws=[]
  rw [afs]
  exact Wh (aiU h x) l
theorem aft {n g:Int}{N:Nat}{m:TM}{j:iL}{c:Nat}(h:Inv n g N (toM m) j c)(hw:m.ws=[]):∀ k (h:k<m.log.act.length),m.log.act[k]=0:=fun k hk=>by
 have:=h.ac k hk
 have hw':(toM m).ws=[]:=by show m.ws.map toW=[];rw [hw];rfl
 rw [hw'] at this
 exact this
theorem afu (a b:Nat){evs:List TE}(h:evs.length≤30) :
  (Ba a b (vO evs)).a=(Ba a b (vO evs)).b∧(Ba a b (vO evs++[clX])).a=(Ba a b (vO evs)).a∧(Ba a b (vO evs++[clX])).b=(Ba a b (vO evs)).b∧VN (oM a:Int) (CO b) (Ba a b (vO evs++[clX])).Hy=[]∧(Ba a b (vO evs)).a.length=oM a∧(Ba a b (vO evs)).b.length=oM a:=by
 obtain ⟨j,hj⟩:=UO a b (evs:=vO evs) (by rw [V9];omega)
 have hw:(Ba a b (vO evs)).ws=[]:=Wh rfl evs
 have he:Ba a b (vO evs++[clX])=clT (Ba a b (vO evs)) clX:=by
  unfold Ba
  rw [J8]
  rfl
 refine ⟨ae0 hj (by show (Ba a b (vO evs)).ws.map toW=[];rw [hw];rfl),by rw [he];rfl,by rw [he];rfl,?_,hj.la,hj.lb⟩
 rw [he]
 have e2:(clT (Ba a b (vO evs)) clX).Hy=jL (tH (Ba a b (vO evs)).log):=rfl
 rw [e2]
 have:=afq hj.lg (aft hj hw)
 rw [show (toM (Ba a b (vO evs))).log=(Ba a b (vO evs)).log from rfl] at this
 have h1:(Ba a b (vO evs)).log.size=_:=hj.sz
 have h2:(Ba a b (vO evs)).log.aV=_:=hj.gr
 rw [h1,h2] at this
 exact this
end Go.Proofs.YthccglceomoboaaGreatDoor.V
namespace Go.Proofs.YthccglceomoboaaGreatDoor
open Go.RowKit V
def evC (k:Nat)(st:Nat)(d:Value):List Value:=[.int .u8 (k:Int),.int .u8 0,.int .u8 (st:Int),d]
def ev4 (st:Nat)(d:Value):List Value:=evC 0 st d++evC 1 0 (.slice none 0 0)++evC 2 0 (.slice none 0 0)++evC 3 0 (.slice none 0 0)
theorem qm {ok:Nat→Prop}{w:World}{k st:Nat}{dat:List eG}{d:Value}(h:aA ok w (.list 8 (dat.map eP)) d):bJ ok w 4 [pU ⟨k,0,st,dat⟩] (evC k st d):=by
 have h1:d.oneCell'=true:=aA.cell1 h
 refine ⟨rfl,fun e he=>by rw [Zao.1 he];rfl,fun i e j x hi hj=>?_⟩
 match i,hi with
 |0,hi =>
  cases hi
  match j,hj with
  |0,hj=>cases hj;exact ⟨_,rfl,rfl,.int _ _⟩
  |1,hj=>cases hj;exact ⟨_,rfl,rfl,.int _ _⟩
  |2,hj=>cases hj;exact ⟨_,rfl,rfl,.int _ _⟩
  |3,hj=>cases hj;exact ⟨_,rfl,h1,h⟩
  |j+4,hj=>simp [pU,PV.cells] at hj
 |i+1,hi=>simp at hi
theorem J9 {ok:Nat→Prop}{w:World}{x:TE}{d:Value}(h:aA ok w (.list 8 (x.dat.map eP)) d):bJ ok w 4 ((clE x).map pU) (ev4 x.st d):=by
 have hn:aA ok w (.list 8 (([]:List eG).map eP)) (.slice none 0 0):=.nil _ _
 exact ((((qm (k:=0) h).append (qm (k:=1) (st:=0) hn)).append (qm (k:=2) (st:=0) hn)).append (qm (k:=3) (st:=0) hn))
theorem Zi (x:TE):(pU x).cells=[.int .u8 (x.kd:Int),.int .u8 (x.wh:Int),.int .u8 (x.st:Int),.list 8 (x.dat.map eP)]:=rfl
theorem anV {ok:Nat→Prop}{w:World}{evs:List TE}{xs:List Value}(h:bJ ok w 4 (evs.map pU) xs){i:Nat}(hi:i<evs.length):xs[i*4+2]?=some (.int .u8 (evs[i].st:Int))∧∃ d,xs[i*4+3]?=some d∧aA ok w (.list 8 (evs[i].dat.map eP)) d:=by
 have he:(evs.map pU)[i]?=some (pU evs[i]):=by rw [zd,ZZ hi];rfl
 obtain ⟨u,g1,g2,g3⟩:=h.rep i _ 2 (.int .u8 (evs[i].st:Int)) he rfl
 obtain ⟨u2,k1,k2,k3⟩:=h.rep i _ 3 (.list 8 (evs[i].dat.map eP)) he rfl
 exact ⟨by rw [g1,g3.bD],u2,k1,k3⟩
theorem Cj.evs {w w':World}{g q:Nat}(h:Cj w w' g q){ok ok':Nat→Prop}(hok:∀ b,ok b→ok' b){evs:List TE}{xs:List Value}(hc:bJ ok w 4 (evs.map pU) xs):bJ ok' w' 4 (evs.map pU) xs:=by
 refine ⟨hc.len,hc.wid,fun i e j x hi hj=>?_⟩
 obtain ⟨u,g1,g2,g3⟩:=hc.rep i e j x hi hj
 refine ⟨u,g1,g2,?_⟩
 rw [zd] at hi
 cases hx:evs[i]? with
 |none=>rw [hx] at hi;cases hi
 |some t =>
  rw [hx] at hi
  cases hi
  rw [Zi] at hj
  match j,hj with
  |0,hj=>cases hj;exact Em g3
  |1,hj=>cases hj;exact Em g3
  |2,hj=>cases hj;exact Em g3
  |3,hj=>cases hj;exact h.Y2 hok g3
  |j+4,hj=>simp at hj
theorem anW:zE.cells[0]?=some (.int .u8 0)∧zE.cells[1]?=some (.int .u8 0)∧zE.cells[2]?=some (.int .u8 0)∧zE.cells[3]?=some (.slice none 0 0):=⟨rfl,rfl,rfl,rfl⟩
theorem aiV {w w':World}{base E n:Nat}{v v':Value}{evs:List TE}{xs:List Value}{ok:Nat→Prop}(hn:n=evs.length)(hc:bJ ok w 4 (evs.map pU) xs)
  (h:tq w base E zE.cells v n xs) (h':tq w' base E zE.cells v' (n+1) (xs++evC 4 0 (.slice none 0 0))) (hg:w.grownBy w' v.ownBlock) (hb:∃ x c,v=.slice x n c∧v'=.slice x (n+1) c) :
  ∃ g,Cj w w' g (n*4):=by
 have hz:zE.cells.size=4:=rfl
 obtain ⟨z0,z1,z2,z3⟩:=anW
 obtain ⟨h1,h2⟩:=h
 obtain ⟨k1,k2⟩:=h'
 rw [hz] at h1 k1
 obtain ⟨x,c,rfl,rfl⟩:=hb
 rcases k2 with ⟨k3,k0⟩|⟨g',cap',cur',b1,b2,b3,b4,b5,b6,b7,b8⟩
 ·omega
 cases b1
 rcases h2 with ⟨h3,h0⟩|⟨g,cap,cur,a1,a2,a3,a4,a5,a6,a7,a8⟩
 ·cases h3
 cases a1
 rw [hz] at a6 a7 a8 b6 b7 b8
 have hx:∀ k,k<n*4→cur[k]?=xs[k]?:=fun k hk=>by rw [← a7,Zad,if_pos hk,Zba]
 have hy:∀ k,k<(n+1)*4→cur'[k]?=(xs++evC 4 0 (.slice none 0 0))[k]?:=fun k hk=>by rw [← b7,Zad,if_pos hk,Zba]
 have hsl:∀ i,i<n→∃ x m c,cur[i*4+3]?=some (.slice x m c):=fun i hi=>by
  obtain ⟨-,d,e1,e2⟩:=anV hc (i:=i) (by omega)
  obtain ⟨x,c,e3,_⟩:=e2.dU
  exact ⟨x,_,c,by rw [hx _ (by omega),e1,e3]⟩
 refine ⟨g',fun b hb' hl=>hg.block b hl (by simp [Value.ownBlock,hb']),⟨cur,cur',E,E,a3,b3,fun k hk=>?_⟩,?_,?_,fun hq=>?_⟩
 ·rcases ZaP k (n*4) with d|d
  ·rw [hy k (by omega),hx k d,List.getElem?_append_left (by omega)]
  ·rcases ZaP k ((n+1)*4) with d2|d2
   ·rw [hy k d2,a8 k d (by omega),List.getElem?_append_right (by omega),h1]
    have hk3:k=n*4+1∨k=n*4+2∨k=n*4+3:=by omega
    rcases hk3 with rfl|rfl|rfl
    ·rw [show n*4+1 - n*4=1 by omega,show (n*4+1) % 4=1 by omega];rfl
    ·rw [show n*4+2 - n*4=2 by omega,show (n*4+2) % 4=2 by omega];rfl
    ·rw [show n*4+3 - n*4=3 by omega,show (n*4+3) % 4=3 by omega];rfl
   ·rcases ZaP k (c*4) with d3|d3
    ·rw [b8 k d2 d3,a8 k d d3]
    ·rw [ZbJ (by omega),ZbJ (by omega)]
 ·rw [cell_of_row w g' _ cur E (0,0) a3,a8 _ (zg _) (by omega),show n*4 % 4=0 by omega];exact z0
 ·exact ⟨none,0,0,by rw [cell_of_row w g' _ cur E (0,0) a3,a8 _ (by omega) (by omega),show (n*4+3) % 4=3 by omega];exact z3⟩
 ·obtain ⟨x,m,c,e⟩:=hsl (n - 1) (by omega)
  exact ⟨x,m,c,by rw [cell_of_row w g' _ cur E (0,0) a3,show n*4 - 1=(n - 1)*4+3 by omega];exact e⟩
end Go.Proofs.YthccglceomoboaaGreatDoor
