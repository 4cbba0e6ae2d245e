/-
  Part 9 of the texts that the statement stands on.
-/
import Derived.Test.YthccglceomoboaaGreatDoorZ8
set_option linter.all false
open List renaming getElem?_eq_getElem → ZD, getElem?_eq_some_iff → za, length_map → zb, getElem?_map → zc, length_cons → zd, length_nil → ze, length_append → zp, getElem?_set → zr, getElem?_append_right → zE, getD_eq_getElem?_getD → zP, getElem?_append_left → Zaa, mem_of_getElem? → Zab, length_take → Zac, getElem_mem → Zad, replicate → Zag, append_assoc → Zam, map_nil → Zao, map_cons → Zap, mem_singleton → Zat, range → Zaw, map_append → ZaC, drop_zero → ZaE, take_succ_eq_append_getElem → ZaG, mem_cons → ZaJ, take_length → ZaL, getElem?_eq_none → ZaM, length_drop → ZaU, mem_map → ZaV, mem_range → ZaX, take_of_length_le → Za2, ext_getElem → Za6, length_replicate → Za7, take_zero → Zba, mem_map_of_mem → Zbn, foldl_cons → ZbG, range_succ → ZbI, foldl_append → ZbJ, findIdx_cons → Zcz, mem_flatMap → ZcK, contains_cons → ZcX, contains_iff_mem → Zdy, Pairwise → ZdG
open Bool renaming and_eq_true → ZZ, true_and → Zaf, and_self → Zai
open Nat renaming beq → Z1, le_refl → zg, le_trans → zR
open Option renaming map_some → Zae, getD_some → Zbh
open Int renaming lt_irrefl → Zar, tmod_eq_emod_of_nonneg → Zas, toNat_natCast → Zav
namespace Go.Proofs.YthccglceomoboaaGreatDoor.V
theorem ahi {a d:List dN}{s:Int}(h1:1≤d.length)(h0:0≤s)(h:s+(d.length:Int)≤(a.length:Int))(ha:a.length≤60):cal env 39 [mP [a],.list 3 [U6 ⟨0,s,d⟩]]=some [(mP [putAt a s.toNat d],false),(.int .i64 (apI [a] [⟨0,s,d⟩]),false),(.int .i64 0,false)]:=by
 have hz:xW (dI [a])=0:=by
  unfold xW dI
  simp
  omega
 have hw:rC (dI [a]) ⟨0,s,d⟩=0:=by
  unfold rC dI
  simp only [Zap,Zao,zd,ze,Int.toNat_zero,List.getD_cons_zero]
  rw [if_neg (by omega),if_neg (by omega),if_neg (by omega)]
 have hE:QY [a] [⟨0,s,d⟩]=0:=by
  unfold QY
  rw [if_neg (by rw [hz];simp)]
  unfold qc
  rw [if_neg (by rw [hw];simp)]
  rfl
 have hO:NP [a] [⟨0,s,d⟩]=[putAt a s.toNat d]:=by
  unfold NP
  rw [if_pos hE]
  rfl
 have:=alH (im:=[a]) (l:=[⟨0,s,d⟩]) (fun w hw=>by
  rw [Zat.1 hw]
  unfold vS
  simp only [ZZ,decide_eq_true_eq]
  omega) (by simp) (fun v hv=>by rw [Zat.1 hv];omega)
 rw [hO,hE] at this
 exact this
theorem apj {n g:Int}{N:Nat}{m:TM}{j:iZ}{c:Nat}{x:TE}(h:Inv n g N (toM m) j c)(hN:n=(N:Int))(h60:N≤60)(hc:c≤200)(hx:Ad x)(hdl:x.dat.length≤1000):cal env 134 [Ak m,Aj x]=some [(Ak (stT m x),false)]:=by
 have hok:m.ok=true:=h.ok
 have hla:m.a.length=N:=h.la
 have hlb:m.b.length=N:=h.lb
 have hlg:gB m.log=true:=h.lg
 obtain ⟨z1,z2,z3,z4⟩:=dA.1 h.n60
 have hwl:m.ws.length≤c:=by have:=h.wl;simpa [toM] using this
 have hwf:∀ w∈m.ws,0≤w.st∧1≤w.dat.length∧w.st+(w.dat.length:Int)≤n:=fun w hw=>by
  have hb:=kN.1 (h.wf (toW w).e (Zbn (show toW w∈m.ws.map toW from Zbn hw)))
  unfold toW at hb
  simp only at hb
  omega
 unfold stT
 by_cases k0:x.kd % 5=0
 ·rw [if_pos k0]
  refine akJ hx k0 (ao0 (by omega) hlg hx hdl (fun w hw=>by have:=hwf w hw;omega) (by omega) hok (fun d0=>?_))
  have hp:pI m x<m.a.length:=Nat.mod_lt _ (by omega)
  have hdl:(sD m x).length=min x.dat.length (m.a.length - pI m x):=by unfold sD;rw [Zac];omega
  exact Xr h (by omega) (kN.2 (by unfold U2;simp only;omega))
 ·rw [if_neg k0]
  by_cases k4:x.kd % 5=4
  ·rw [if_pos k4]
   exact akK hlg hx k4
  ·rw [if_neg k4]
   cases hw:m.ws[x.wh % m.ws.length]? with
   |none =>
    refine akL hx k0 k4 ?_
    rcases Nat.eq_zero_or_pos m.ws.length with e|e
    ·exact List.eq_nil_of_length_eq_zero e
    ·rw [ZD (Nat.mod_lt _ e)] at hw;cases hw
   |some w =>
    have hb:=hwf w (Zab hw)
    simp only
    by_cases k1:x.kd % 5=1
    ·rw [if_pos k1]
     exact ahe hx (by omega) hok k1 hw (ahi hb.2.1 hb.1 (by omega) (by omega))
    ·rw [if_neg k1]
     by_cases k2:x.kd % 5=2
     ·rw [if_pos k2]
      exact ahg hx (by omega) hok k2 hw (ahi hb.2.1 hb.1 (by omega) (by omega))
     ·rw [if_neg k2]
      have k3:x.kd % 5=3:=by omega
      by_cases hfs:w.f=true∧w.s=true
      ·rw [if_pos hfs]
       have hk:(toM m).ws[x.wh % m.ws.length]?=some (toW w):=by show (m.ws.map toW)[_]?=_;rw [zc,hw];rfl
       have e2:=(YC h (by omega) hk hfs.1 hfs.2).2
       have auh:m.log.act.length≤lim:=by have:=bQ.1 hlg;have:=l9 this.1;unfold lim;have:=dA.1 (bQ.1 hlg).1;have:=(bQ.1 hlg).2.1;omega
       have:=aor (i:=m.log) (e:=(toW w).e) auh
       rw [show EM oJ m.log (toW w).e=0 from e2] at this
       exact akR hx (by omega) hok k3 hw hfs.1 hfs.2 this
      ·rw [if_neg hfs]
       refine akQ hx (by omega) hok k3 hw ?_
       cases hf:w.f with
       |false=>exact .inl rfl
       |true =>
        cases hs:w.s with
        |false=>exact .inr rfl
        |true=>exact absurd ⟨hf,hs⟩ hfs
def runT (m:TM)(l:List TE):TM:=l.foldl stT m
theorem abD (m:TM)(x:TE)(l:List TE):runT m (x::l)=runT (stT m x) l:=rfl
theorem abE (m:TM)(l:List TE)(x:TE):runT m (l++[x])=stT (runT m l) x:=by simp [runT]
theorem UK {n g:Int}{N:Nat}(hN:n=(N:Int)):∀ (l:List TE) {m:TM} {j:iZ} {c:Nat},Inv n g N (toM m) j c→c+l.length≤4096→∃ j',Inv n g N (toM (runT m l)) j' (c+l.length)
 |[],m,j,c,h,_=>⟨j,h⟩
 |x::l,m,j,c,h,hc=>by
  simp only [zd] at hc
  obtain ⟨j',h'⟩:=aph h hN (by omega) x
  obtain ⟨j2,h2⟩:=UK hN l h' (by omega)
  exact ⟨j2,by rw [abD,zd,show c+(l.length+1)=c+1+l.length by omega];exact h2⟩
theorem ahj (m:TM):Ak m=.agg [mP [m.a],mP [m.b],.int .i64 m.log.size,.int .i64 m.log.bg,.list 1 (m.log.act.map eI),.int .i64 m.log.bm.size,.list 1 (m.log.bm.ws.map eW),.list 1 (m.Jb.map eY),.list 5 (m.ws.map Cj),.bool m.ok]:=rfl
set_option maxRecDepth 20000 in
theorem apk {n g:Int}{N:Nat}{evs:List TE}{m0:TM}{A:List BV}(hev:∀ x∈evs,Ad x∧x.dat.length≤1000)(hle:evs.length≤200)(hN:n=(N:Int))(h60:N≤60)(hI:∀ i,i≤evs.length→∃ j,Inv n g N (toM (runT m0 (evs.take i))) j i){st:St}(h:st.head [2,10,11,16,17] st.boxes.length=some ⟨sl 90 [(2,.pv (.list 4 (evs.map Aj))),(10,.pv (.int .i64 n)),(11,.pv (.int .i64 g)),(16,.aX 1 0),(17,.pv (.int .i64 (0:Nat)))],[⟨false,A⟩,⟨false,cT (runT m0 (evs.take ((0:Nat))))⟩],[],none⟩) :
  den env NY st=some (.normal,⟨sl 90 [(6,.any),(7,.any),(8,.any),(9,.any),(10,.pv (.int .i64 n)),(11,.pv (.int .i64 g)),(16,.aX 1 0)],[⟨false,A⟩,⟨false,cT (runT m0 evs)⟩],[],none⟩):=by
 unfold NY
 refine bG (env:=env) (nb:=2) (evs.length) (fun i=>⟨sl 90 [(2,.pv (.list 4 (evs.map Aj))),(10,.pv (.int .i64 n)),(11,.pv (.int .i64 g)),(16,.aX 1 0),(17,.pv (.int .i64 i))],[⟨false,A⟩,⟨false,cT (runT m0 (evs.take (i)))⟩],[],none⟩) (fun i=>some (.normal,⟨sl 90 [(6,.any),(7,.any),(8,.any),(9,.any),(10,.pv (.int .i64 n)),(11,.pv (.int .i64 g)),(16,.aX 1 0)],[⟨false,A⟩,⟨false,cT (runT m0 evs)⟩],[],none⟩)) h (fun _=>rfl) (fun _=>by simp only [aQ,dY,Nat.reduceMul,Nat.reduceBEq,Nat.reduceLT,Nat.reduceLeDiff,Nat.reduceAdd,decide_true,Zai,Zaf]) ?_ ?_
 ·intro i rb hi ih
  have hi1:=bH hi (by unfold lim;omega)
  have F1:((i:Int)<(evs.length:Int))=True:=eq_true (by omega)
  obtain ⟨j,hM⟩:=hI i (by omega)
  have hs:runT m0 (evs.take (i+1))=stT (runT m0 (evs.take i)) evs[i]:=by rw [ZaG hi,abE]
  rw [hs] at ih
  generalize runT m0 (evs.take i)=M at *
  have hx:(evs.map Aj)[i]?=some (Aj evs[i]):=by rw [zc,ZD hi];rfl
  rw [qj] at hx
  have hok:=hev _ (Zad hi)
  generalize evs[i]=x at *
  have hMo:M.ok=true:=hM.ok
  have hc1:=apj hM hN h60 (by omega) hok.1 hok.2
  generalize stT M x=Q at *
  rw [ahj,qj,ahj] at hc1
  have P4:∀ a b c d:PV,part [a,b,c,d] 0 (some 4)=some (.agg [a,b,c,d]):=fun _ _ _ _=>rfl
  have Am:∀ x0 x1 x2 x3 x4 x5 x6 x7 x8 x9:PV,part [x0,x1,x2,x3,x4,x5,x6,x7,x8,x9] 0 (some 10)=some (.agg [x0,x1,x2,x3,x4,x5,x6,x7,x8,x9]):=fun _ _ _ _ _ _ _ _ _ _=>rfl
  rw [hMo] at hc1
  simp only [NW,F1,hx,hc1,P4,Am,hMo,uT,aC hi,zb,aN,Nat.reduceMul,Nat.reduceBEq,Nat.reduceLT,Nat.reduceLeDiff,reduceCtorEq,Nat.reduceEqDiff,Nat.reduceAdd,Z1]
  rw [ih _ (by simp only [hi1,uT,aN,Nat.reduceMul,Nat.reduceBEq,Nat.reduceLT,Nat.reduceLeDiff,reduceCtorEq,Nat.reduceEqDiff,Nat.reduceAdd,Z1]<;>rfl)]
  rfl
 ·intro rb
  rw [ZaL]
  simp only [NW,Zar,uT,zb,aN,Nat.reduceMul,Nat.reduceBEq,Nat.reduceLT,Nat.reduceLeDiff,reduceCtorEq,Nat.reduceEqDiff,Nat.reduceAdd,Z1]
theorem abG (z:List Int):(nJ z).length=z.length:=by unfold nJ;simp
theorem apl {z:List Int}(hz:z.length≤1000)(hs:∀ x∈z,1≤x∧x≤4096){st:St}(h:st.head [0,5,6,25] st.boxes.length=some ⟨sl 27 [(0,.pv (.list 1 (z.map eI))),(5,.row 1 ((nJ (z.take ((0:Nat)))).map bM)),(6,.pv (.int .i64 (0:Nat))),(25,.any)],[],[],none⟩) :
  den env N9 st=some (.normal,⟨sl 27 [(2,.any),(3,.any),(5,.row 1 ((nJ z).map bM))],[],[],none⟩):=by
 unfold N9
 refine bG (env:=env) (z.length) (fun i=>⟨sl 27 [(0,.pv (.list 1 (z.map eI))),(5,.row 1 ((nJ (z.take (i))).map bM)),(6,.pv (.int .i64 i)),(25,.any)],[],[],none⟩) (fun i=>some (.normal,⟨sl 27 [(2,.any),(3,.any),(5,.row 1 ((nJ z).map bM))],[],[],none⟩)) h (fun _=>rfl) (fun _=>by simp only [aQ,dY,Nat.reduceMul,Nat.reduceBEq,Nat.reduceLT,Nat.reduceLeDiff,Nat.reduceAdd,decide_true,Zai,Zaf]) ?_ ?_
 ·intro i rb hi ih
  have hi1:=bH hi (by unfold lim;omega)
  have F1:((i:Int)<(z.length:Int))=True:=eq_true (by omega)
  have q:=hs _ (Zad hi)
  have F2:(0≤z[i])=True:=eq_true (by omega)
  have F3:(z[i]≤z[i])=True:=eq_true (Int.le_refl _)
  have F4:(z[i]≤(lim:Int))=True:=eq_true (by unfold lim;omega)
  have hx:(z.map eI)[i]?=some (.int .i64 z[i]):=by rw [zc,ZD hi];rfl
  have F5:(((nJ (z.take i)).map bM).length+1≤lim)=True:=eq_true (by rw [zb,abG,Zac];unfold lim;omega)
  have hs2:(nJ (z.take (i+1))).map bM=(nJ (z.take i)).map bM++[.list 8 (Zag z[i].toNat (.agg [.int .u8 0,.int .u8 0,.int .u8 0,.int .u8 0,.int .u8 0,.int .u8 0,.int .u8 0,.int .u8 0]))]:=by
   rw [ZaG hi]
   unfold nJ
   rw [ZaC,ZaC]
   congr 1
   simp only [Zap,Zao,bM,List.map_replicate]
   rfl
  rw [hs2] at ih
  simp only [N8,F1,F2,F3,F4,F5,hx,aC hi,zb,aN,Nat.reduceMul,Nat.reduceBEq,Nat.reduceLT,Nat.reduceLeDiff,reduceCtorEq,Nat.reduceEqDiff,Nat.reduceAdd,Z1] at *
  simp only [F5,aN,Nat.reduceMul,Nat.reduceBEq,Nat.reduceLT,Nat.reduceLeDiff,reduceCtorEq,Nat.reduceEqDiff,Nat.reduceAdd,Z1]
  rw [ih _ (by simp only [hi1,aN,Nat.reduceMul,Nat.reduceBEq,Nat.reduceLT,Nat.reduceLeDiff,reduceCtorEq,Nat.reduceEqDiff,Nat.reduceAdd,Z1]<;>rfl)]
 ·intro rb
  rw [ZaL]
  simp only [N8,Zar,zb,aN,Nat.reduceMul,Nat.reduceBEq,Nat.reduceLT,Nat.reduceLeDiff,reduceCtorEq,Nat.reduceEqDiff,Nat.reduceAdd,Z1]
theorem aq2 {z:List Int}(hz:z.length≤1000):cal env 52 [.list 1 (z.map eI)]=some [(.list 1 ((if eG z=0 then nJ z else []).map bM),true),(.int .i64 (eG z),false)]:=by
 have e1:=an0 (l:=z) (by unfold lim;omega)
 by_cases c:eG z=0
 ·have hs:∀ x∈z,1≤x∧x≤4096:=by
   intro x hx
   have h:=c
   unfold eG at h
   split at h
   ·omega
   ·split at h
    ·omega
    ·rename_i h2
     simp only [List.any_eq_true,not_exists,not_and,Bool.not_eq_true] at h2
     have:=h2 x hx
     simp at this
     omega
  rw [c] at e1
  rw [if_pos c,c]
  have Z:((0:Int) != 0)=false:=rfl
  rw [aj alp rfl];simp only [aaD,aQ,Nat.reduceBEq,Nat.reduceLeDiff,Nat.reduceAdd,zd,ze]
  simp only [e1,Z,aN,Nat.reduceMul,Nat.reduceBEq,Nat.reduceLT,Nat.reduceLeDiff,reduceCtorEq,Nat.reduceEqDiff,Nat.reduceAdd,Z1]
  rw [apl hz hs (by simp only [aQ,dY,Nat.reduceMul,Nat.reduceBEq,Nat.reduceLT,Nat.reduceLeDiff,Nat.reduceAdd,decide_true,Zai,Zaf]<;>rfl)]
  simp only [e1,Z,aN,Nat.reduceMul,Nat.reduceBEq,Nat.reduceLT,Nat.reduceLeDiff,reduceCtorEq,Nat.reduceEqDiff,Nat.reduceAdd,Z1]
 ·rw [if_neg c]
  have Z:(eG z != 0)=true:=by simp [c]
  rw [aj alp rfl];simp only [aaD,aQ,Nat.reduceBEq,Nat.reduceLeDiff,Nat.reduceAdd,zd,ze]
  simp only [e1,Z,aN,Nat.reduceMul,Nat.reduceBEq,Nat.reduceLT,Nat.reduceLeDiff,reduceCtorEq,Nat.reduceEqDiff,Nat.reduceAdd,Z1]
theorem akU (s g:Int):(jY s g).act.length≤4096∧(jY s g).bm.ws.length≤64:=by
 unfold jY
 split
 ·rename_i c
  have h1:=l9 c
  have h2:=(dA.1 c).2.1
  refine ⟨by rw [Za7];omega,?_⟩
  unfold uI
  rw [if_neg (by omega),Za7]
  unfold l7
  omega
 ·exact ⟨by decide,by decide⟩
def m0T (n g:Int)(N:Nat):TM:=⟨Zag N vg,Zag N vg,jY n g,ku (jY n g),[],true⟩
theorem apm {n g:Int}(h:lM n g=true)(N:Nat):Inv n g N (toM (m0T n g N)) (jY n g) 0:=by
 have:=akE h (Zag N vg)
 rw [Za7] at this
 exact this
def oV (a:Nat):Nat:=1+a % 16
def DL (b:Nat):Int:=1+((b % 6:Nat):Int)
def UL (a b:Nat)(evs:List TE):TM:=runT (m0T (oV a:Int) (DL b) (oV a)) evs
theorem alJ (a b:Nat):lM (oV a:Int) (DL b)=true:=by
 apply dA.2
 unfold oV DL
 omega
theorem XA (a b:Nat){evs:List TE}(h:evs.length≤200):∃ j,Inv (oV a:Int) (DL b) (oV a) (toM (UL a b evs)) j evs.length:=by
 obtain ⟨j,hj⟩:=UK rfl evs (apm (alJ a b) (oV a)) (by omega)
 rw [Nat.zero_add] at hj
 exact ⟨j,hj⟩
set_option maxRecDepth 20000 in
theorem aq3 {a b:Nat}{evs:List TE}(ha:a<256)(hb:b<256)(hev:∀ x∈evs,Ad x∧x.dat.length≤1000)(hle:evs.length≤200):cal env 45 [.int .u8 (a:Int),.int .u8 (b:Int),.list 4 (evs.map Aj)]=some [(mP [(UL a b evs).a],false),(mP [(UL a b evs).b],false),(.list 1 [.list 2 ((Xo (oV a:Int) (DL b) (UL a b evs).Jb).map aU)],true),(.bool true,false)]:=by
 have T1:(a:Int).tmod 16=((a % 16:Nat):Int):=by rw [Zas (by omega)];omega
 have T2:(b:Int).tmod 6=((b % 6:Nat):Int):=by rw [Zas (by omega)];omega
 have V1:IntKind.i64.wrap (a:Int)=(a:Int):=aP (by omega)
 have V2:IntKind.i64.wrap (b:Int)=(b:Int):=aP (by omega)
 have W1:IntKind.i64.wrap ((a % 16:Nat):Int)=((a % 16:Nat):Int):=aP (by omega)
 have W2:IntKind.i64.wrap ((b % 6:Nat):Int)=((b % 6:Nat):Int):=aP (by omega)
 have z16:((16:Int)=0)=False:=eq_false (by omega)
 have z6:((6:Int)=0)=False:=eq_false (by omega)
 have hz:=alJ a b
 have hI:∀ i,i≤evs.length→∃ j,Inv (oV a:Int) (DL b) (oV a) (toM (runT (m0T (oV a:Int) (DL b) (oV a)) (evs.take i))) j i:=fun i hi=>by
  obtain ⟨j,hj⟩:=XA a b (evs:=evs.take i) (by rw [Zac];omega)
  rw [Zac,Nat.min_eq_left hi] at hj
  exact ⟨j,hj⟩
 obtain ⟨j,hj⟩:=XA a b hle
 have hNl:1≤oV a∧oV a≤16:=by unfold oV;omega
 have W3:IntKind.i64.wrap (1+((a % 16:Nat):Int))=(oV a:Int):=by unfold oV;rw [aP (by omega)];omega
 have W4:IntKind.i64.wrap (1+((b % 6:Nat):Int))=DL b:=by unfold DL;rw [aP (by omega)]
 have hun:UL a b evs=runT (m0T (oV a:Int) (DL b) (oV a)) evs:=rfl
 have hloop:=fun st A=>apk (st:=st) (n:=(oV a:Int)) (g:=DL b) (N:=oV a) (evs:=evs) (m0:=m0T (oV a:Int) (DL b) (oV a)) (A:=A) hev hle rfl (by omega) hI
 generalize hM:UL a b evs=M at *
 rw [← hun] at hloop
 have hMo:M.ok=true:=hj.ok
 have hst:M.Jb=ku j:=hj.st
 obtain ⟨r1,r2,-⟩:=Fb hj.jl
 have hrl:=akz (i:=j) (by rw [hj.js];omega)
 rw [hj.js,hj.jg] at r2
 rw [← hst] at r1 r2 hrl
 have c3:=aqS (s:=(oV a:Int)) (g:=DL b) r1 hrl
 rw [r2] at c3
 obtain ⟨e0,e00,ok0⟩:=OD hz
 have n0:=aq2 (z:=[(oV a:Int)]) (by simp)
 have s0:eG [(oV a:Int)]=0:=by unfold eG;simp;omega
 have i0:nJ [(oV a:Int)]=[Zag (oV a) vg]:=by simp [nJ]
 rw [s0,if_pos rfl,i0] at n0
 have n1:=aly (s:=(oV a:Int)) (g:=DL b)
 rw [e00] at n1
 obtain ⟨l1,l2⟩:=akU (oV a:Int) (DL b)
 have c1:=agN (i:=jY (oV a:Int) (DL b)) (by unfold lim;omega)
 have E5:∀ i:iZ,qg i=.agg [.int .i64 i.size,.int .i64 i.bg,.list 1 (i.act.map eI),.int .i64 i.bm.size,.list 1 (i.bm.ws.map eW)]:=fun _=>rfl
 have P5:∀ a b c d e:PV,part [a,b,c,d,e] 0 (some 5)=some (.agg [a,b,c,d,e]):=fun _ _ _ _ _=>rfl
 have Am:∀ x0 x1 x2 x3 x4 x5 x6 x7 x8 x9:PV,part [x0,x1,x2,x3,x4,x5,x6,x7,x8,x9] 0 (some 10)=some (.agg [x0,x1,x2,x3,x4,x5,x6,x7,x8,x9]):=fun _ _ _ _ _ _ _ _ _ _=>rfl
 have E0:((0:Int)==0)=true:=rfl
 rw [E5] at n1 c1 c3
 have hc0:cT (m0T (oV a:Int) (DL b) (oV a))=[.pv (mP [Zag (oV a) vg]),.pv (mP [Zag (oV a) vg]),.pv (.int .i64 (jY (oV a:Int) (DL b)).size),.pv (.int .i64 (jY (oV a:Int) (DL b)).bg),.pv (.list 1 ((jY (oV a:Int) (DL b)).act.map eI)),.pv (.int .i64 (jY (oV a:Int) (DL b)).bm.size),.pv (.list 1 ((jY (oV a:Int) (DL b)).bm.ws.map eW)),.pv (.list 1 ((ku (jY (oV a:Int) (DL b))).map eY)),.pv (.list 5 []),.pv (.bool true)]:=rfl
 have eIm:∀ v:List dN,mP [v]=.list 1 [bM v]:=fun _=>rfl
 have eM1:List.map eI [(oV a:Int)]=[.int .i64 (oV a:Int)]:=rfl
 have eM2:∀ v:List dN,List.map bM [v]=[bM v]:=fun _=>rfl
 rw [eM1,eM2] at n0
 rw [aj aqA rfl];simp only [ad4,aQ,Nat.reduceBEq,Nat.reduceLeDiff,Nat.reduceAdd,zd,ze]
 simp only [T1,T2,V1,V2,W1,W2,W3,W4,z16,z6,n0,n1,c1,P5,Am,E0,zb,aN,Nat.reduceMul,Nat.reduceBEq,Nat.reduceLT,Nat.reduceLeDiff,reduceCtorEq,Nat.reduceEqDiff,Nat.reduceAdd,Z1]
 rw [hloop _ _ (by rw [Zba,show runT (m0T (oV a:Int) (DL b) (oV a)) []=m0T (oV a:Int) (DL b) (oV a) from rfl,hc0];simp only [aQ,dY,Nat.reduceMul,Nat.reduceBEq,Nat.reduceLT,Nat.reduceLeDiff,Nat.reduceAdd,decide_true,Zai,Zaf]<;>rfl)]
 simp only [c3,uT,hMo,eIm,P5,Am,E0,zb,aN,Nat.reduceMul,Nat.reduceBEq,Nat.reduceLT,Nat.reduceLeDiff,reduceCtorEq,Nat.reduceEqDiff,Nat.reduceAdd,Z1]
def gG {α β:Type}(g:Nat→α→β)(l:List α):List β:=l.mapIdx g
theorem jB {α β:Type}(g:Nat→α→β)(l:List α):(gG g l).length=l.length:=by simp [gG]
theorem DN {α β:Type}(g:Nat→α→β){l:List α}{i:Nat}(h:i<l.length):(gG g l)[i]?=some (g i l[i]):=by simp [gG,h]
theorem Ag {α β γ:Type}(g:Nat→α→β)(f:β→γ){l:List α}{i:Nat}(h:i<l.length):((gG g l).take i).map f++[f (g i l[i])]=((gG g l).take (i+1)).map f:=by
 have h2:i<(gG g l).length:=by rw [jB];exact h
 rw [List.take_succ,DN g h,ZaC];rfl
--+
theorem akV {l:List (List bf)}{g:Nat→List bf→Bool}{gf:Nat}{caps:List PV}(hp:∀ i (h:i<l.length),cal env gf (.int .i64 (i:Nat)::.list 2 (l[i].map aU)::caps)=some [(eB (g i l[i]),false)])(hl:l.length≤lim)
  {st:St} (h:st.head [0,1,5,8,9,10,21] st.boxes.length=some ⟨[.pv (.list 1 (l.map bT)),.pv (.func gf caps),.any,.any,.any,.row 1 [],.any,.any,.pv (.list 1 (l.map bT)),.pv (.int .i64 l.length),.pv (.int .i64 (0:Nat)),.any,.any,.any,.any,.any,.any,.any,.any,.any,.any,.any,.any,.any],[],[],none⟩) :
  den env Hl st=some (.normal,⟨[.any,.any,.any,.any,.any,.row 1 ((gG g l).map eB),.any,.any,.any,.any,.any,.any,.any,.any,.any,.any,.any,.any,.any,.any,.any,.any,.any,.any],[],[],none⟩):=by
 unfold Hl
 rw [bG l.length (fun i=>⟨[.pv (.list 1 (l.map bT)),.pv (.func gf caps),.any,.any,.any,.row 1 (((gG g l).take i).map eB),.any,.any,.pv (.list 1 (l.map bT)),.pv (.int .i64 l.length),.pv (.int .i64 i),.any,.any,.any,.any,.any,.any,.any,.any,.any,.any,.any,.any,.any],[],[],none⟩)
  (fun i=>some (.normal,⟨[.any,.any,.any,.any,.any,.row 1 ((gG g l).map eB),.any,.any,.any,.any,.any,.any,.any,.any,.any,.any,.any,.any,.any,.any,.any,.any,.any,.any],[],[],none⟩)) h (fun _=>rfl) (fun _=>rfl) ?_ ?_]
 ·intro i rb hi ih
  have hi1:=bH hi hl
  have F1:((i:Int)<(l.length:Int))=True:=eq_true (by omega)
  have F2:(((gG g l).take i).length+1≤lim)=True:=eq_true (by rw [Zac,jB];omega)
  have hpi:cal env gf (.int .i64 (i:Nat)::.list 2 (l[i].map aU)::caps)=some [((PV.bool (g i l[i])),false)]:=hp i hi
  simp only [Hg,F1,F2,bT,aC hi,zc,ZD hi,hpi,aY,reduceCtorEq,Nat.reduceEqDiff,Nat.reduceAdd,Nat.reduceLT,Nat.reduceLeDiff,Z1]
  rw [ih _ (by simp only [hi1];rw [← Ag g eB hi];rfl)]
 ·intro rb
  have hz:(gG g l).take l.length=gG g l:=Za2 (by rw [jB];exact zg _)
  simp only [Hg,Zar,hz,jX,reduceCtorEq,Nat.reduceEqDiff,Nat.reduceAdd,Nat.reduceLT,Nat.reduceLeDiff,Z1]
  rfl
theorem apn {l:List (List bf)}{g:Nat→List bf→Bool}{gf:Nat}{caps:List PV}(hp:∀ i (h:i<l.length),cal env gf (.int .i64 (i:Nat)::.list 2 (l[i].map aU)::caps)=some [(eB (g i l[i]),false)])(hl:l.length≤lim) :
  cal env 206 [.list 1 (l.map bT),.func gf caps]=some [(.list 1 ((gG g l).map eB),true)]:=by
 rw [aj anb rfl];simp only [RP];simp only [start,aH,aK,aF,aJ,aA,aB,aG,aI,Nat.reduceAdd,Nat.reduceSub]
 simp only [zb,aY,reduceCtorEq,Nat.reduceEqDiff,Nat.reduceAdd,Nat.reduceLT,Nat.reduceLeDiff,Z1]
 rw [akV hp hl]
 rotate_left
 ·rfl
 ·simp only [aY,reduceCtorEq,Nat.reduceEqDiff,Nat.reduceAdd,Nat.reduceLT,Nat.reduceLeDiff,Z1]
--+
theorem akW {l:List (List bf)}{g:Nat→List bf→Int}{gf:Nat}{caps:List PV}(hp:∀ i (h:i<l.length),cal env gf (.int .i64 (i:Nat)::.list 2 (l[i].map aU)::caps)=some [(eI (g i l[i]),false)])(hl:l.length≤lim)
  {st:St} (h:st.head [0,1,5,8,9,10,21] st.boxes.length=some ⟨[.pv (.list 1 (l.map bT)),.pv (.func gf caps),.any,.any,.any,.row 1 [],.any,.any,.pv (.list 1 (l.map bT)),.pv (.int .i64 l.length),.pv (.int .i64 (0:Nat)),.any,.any,.any,.any,.any,.any,.any,.any,.any,.any,.any,.any,.any],[],[],none⟩) :
  den env G6 st=some (.normal,⟨[.any,.any,.any,.any,.any,.row 1 ((gG g l).map eI),.any,.any,.any,.any,.any,.any,.any,.any,.any,.any,.any,.any,.any,.any,.any,.any,.any,.any],[],[],none⟩):=by
 unfold G6
 rw [bG l.length (fun i=>⟨[.pv (.list 1 (l.map bT)),.pv (.func gf caps),.any,.any,.any,.row 1 (((gG g l).take i).map eI),.any,.any,.pv (.list 1 (l.map bT)),.pv (.int .i64 l.length),.pv (.int .i64 i),.any,.any,.any,.any,.any,.any,.any,.any,.any,.any,.any,.any,.any],[],[],none⟩)
  (fun i=>some (.normal,⟨[.any,.any,.any,.any,.any,.row 1 ((gG g l).map eI),.any,.any,.any,.any,.any,.any,.any,.any,.any,.any,.any,.any,.any,.any,.any,.any,.any,.any],[],[],none⟩)) h (fun _=>rfl) (fun _=>rfl) ?_ ?_]
 ·intro i rb hi ih
  have hi1:=bH hi hl
  have F1:((i:Int)<(l.length:Int))=True:=eq_true (by omega)
  have F2:(((gG g l).take i).length+1≤lim)=True:=eq_true (by rw [Zac,jB];omega)
  have hpi:cal env gf (.int .i64 (i:Nat)::.list 2 (l[i].map aU)::caps)=some [((PV.int .i64 (g i l[i])),false)]:=hp i hi
  simp only [G5,F1,F2,bT,aC hi,zc,ZD hi,hpi,aY,reduceCtorEq,Nat.reduceEqDiff,Nat.reduceAdd,Nat.reduceLT,Nat.reduceLeDiff,Z1]
  rw [ih _ (by simp only [hi1];rw [← Ag g eI hi];rfl)]
 ·intro rb
  have hz:(gG g l).take l.length=gG g l:=Za2 (by rw [jB];exact zg _)
  simp only [G5,Zar,hz,jX,reduceCtorEq,Nat.reduceEqDiff,Nat.reduceAdd,Nat.reduceLT,Nat.reduceLeDiff,Z1]
  rfl
theorem apo {l:List (List bf)}{g:Nat→List bf→Int}{gf:Nat}{caps:List PV}(hp:∀ i (h:i<l.length),cal env gf (.int .i64 (i:Nat)::.list 2 (l[i].map aU)::caps)=some [(eI (g i l[i]),false)])(hl:l.length≤lim) :
  cal env 141 [.list 1 (l.map bT),.func gf caps]=some [(.list 1 ((gG g l).map eI),true)]:=by
 rw [aj amV rfl];simp only [Rn];simp only [start,aH,aK,aF,aJ,aA,aB,aG,aI,Nat.reduceAdd,Nat.reduceSub]
 simp only [zb,aY,reduceCtorEq,Nat.reduceEqDiff,Nat.reduceAdd,Nat.reduceLT,Nat.reduceLeDiff,Z1]
 rw [akW hp hl]
 rotate_left
 ·rfl
 ·simp only [aY,reduceCtorEq,Nat.reduceEqDiff,Nat.reduceAdd,Nat.reduceLT,Nat.reduceLeDiff,Z1]
--+
theorem akX {l:List (List bf)}{g:Nat→List bf→List bf}{gf:Nat}{caps:List PV}(hp:∀ i (h:i<l.length),cal env gf (.int .i64 (i:Nat)::.list 2 (l[i].map aU)::caps)=some [(bT (g i l[i]),true)])(hl:l.length≤lim)
  {st:St} (h:st.head [0,1,5,8,9,10,21] st.boxes.length=some ⟨[.pv (.list 1 (l.map bT)),.pv (.func gf caps),.any,.any,.any,.row 1 [],.any,.any,.pv (.list 1 (l.map bT)),.pv (.int .i64 l.length),.pv (.int .i64 (0:Nat)),.any,.any,.any,.any,.any,.any,.any,.any,.any,.any,.any,.any,.any],[],[],none⟩) :
  den env GU st=some (.normal,⟨[.any,.any,.any,.any,.any,.row 1 ((gG g l).map bT),.any,.any,.any,.any,.any,.any,.any,.any,.any,.any,.any,.any,.any,.any,.any,.any,.any,.any],[],[],none⟩):=by
 unfold GU
 rw [bG l.length (fun i=>⟨[.pv (.list 1 (l.map bT)),.pv (.func gf caps),.any,.any,.any,.row 1 (((gG g l).take i).map bT),.any,.any,.pv (.list 1 (l.map bT)),.pv (.int .i64 l.length),.pv (.int .i64 i),.any,.any,.any,.any,.any,.any,.any,.any,.any,.any,.any,.any,.any],[],[],none⟩)
  (fun i=>some (.normal,⟨[.any,.any,.any,.any,.any,.row 1 ((gG g l).map bT),.any,.any,.any,.any,.any,.any,.any,.any,.any,.any,.any,.any,.any,.any,.any,.any,.any,.any],[],[],none⟩)) h (fun _=>rfl) (fun _=>rfl) ?_ ?_]
 ·intro i rb hi ih
  have hi1:=bH hi hl
  have F1:((i:Int)<(l.length:Int))=True:=eq_true (by omega)
  have F2:(((gG g l).take i).length+1≤lim)=True:=eq_true (by rw [Zac,jB];omega)
  have hpi:cal env gf (.int .i64 (i:Nat)::.list 2 (l[i].map aU)::caps)=some [((PV.list 2 ((g i l[i]).map aU)),true)]:=hp i hi
  simp only [GR,F1,F2,bT,aC hi,zc,ZD hi,hpi,aY,reduceCtorEq,Nat.reduceEqDiff,Nat.reduceAdd,Nat.reduceLT,Nat.reduceLeDiff,Z1]
  rw [ih _ (by simp only [hi1];rw [← Ag g bT hi];rfl)]
 ·intro rb
  have hz:(gG g l).take l.length=gG g l:=Za2 (by rw [jB];exact zg _)
  simp only [GR,Zar,hz,jX,reduceCtorEq,Nat.reduceEqDiff,Nat.reduceAdd,Nat.reduceLT,Nat.reduceLeDiff,Z1]
  rfl
theorem apq {l:List (List bf)}{g:Nat→List bf→List bf}{gf:Nat}{caps:List PV}(hp:∀ i (h:i<l.length),cal env gf (.int .i64 (i:Nat)::.list 2 (l[i].map aU)::caps)=some [(bT (g i l[i]),true)])(hl:l.length≤lim) :
  cal env 135 [.list 1 (l.map bT),.func gf caps]=some [(.list 1 ((gG g l).map bT),true)]:=by
 rw [aj amP rfl];simp only [Rf];simp only [start,aH,aK,aF,aJ,aA,aB,aG,aI,Nat.reduceAdd,Nat.reduceSub]
 simp only [zb,aY,reduceCtorEq,Nat.reduceEqDiff,Nat.reduceAdd,Nat.reduceLT,Nat.reduceLeDiff,Z1]
 rw [akX hp hl]
 rotate_left
 ·rfl
 ·simp only [aY,reduceCtorEq,Nat.reduceEqDiff,Nat.reduceAdd,Nat.reduceLT,Nat.reduceLeDiff,Z1]
theorem akY {l:List Bool}{v:Bool}(hl:l.length≤lim){st:St}(h:st.head [0,1,7,8] st.boxes.length=some ⟨[.pv (.list 1 (l.map eB)),.pv (.bool v),.any,.any,.any,.any,.any,.pv (.int .i64 l.length),.pv (.int .i64 (0:Nat)),.any,.any,.any,.any,.any,.any,.any,.any,.any,.any],[],[],none⟩) :
  den env Ii st=if l.contains v then some (.ret,⟨[.any,.any,.any,.any,.pv (.int .i64 ((l.findIdx (fun b=>v==b):Nat):Int)),.any,.any,.any,.any,.any,.any,.any,.any,.any,.any,.any,.any,.any,.any],[],[],none⟩) else some (.normal,⟨[.any,.any,.any,.any,.any,.any,.any,.any,.any,.any,.any,.any,.any,.any,.any,.any,.any,.any,.any],[],[],none⟩):=by
 unfold Ii
 rw [ bG (env:=env) (l.length) (fun i=>⟨[.pv (.list 1 (l.map eB)),.pv (.bool v),.any,.any,.any,.any,.any,.pv (.int .i64 l.length),.pv (.int .i64 i),.any,.any,.any,.any,.any,.any,.any,.any,.any,.any],[],[],none⟩) (fun i=>if (l.drop i).contains v then some (.ret,⟨[.any,.any,.any,.any,.pv (.int .i64 ((i+(l.drop i).findIdx (fun b=>v==b):Nat):Int)),.any,.any,.any,.any,.any,.any,.any,.any,.any,.any,.any,.any,.any,.any],[],[],none⟩) else some (.normal,⟨[.any,.any,.any,.any,.any,.any,.any,.any,.any,.any,.any,.any,.any,.any,.any,.any,.any,.any,.any],[],[],none⟩)) h (fun _=>rfl) (fun _=>rfl) ?_ ?_]
 ·first|rfl|simp only [ZaE,Zba,Zao,Nat.zero_add,List.nil_append,List.foldl_nil]
 ·intro i rb hi ih
  have hi1:=bH hi hl
  have F1:((i:Int)<(l.length:Int))=True:=eq_true (by omega)
  simp only [Ih,F1,eB,aC hi,zc,ZD hi,aY,reduceCtorEq,Nat.reduceEqDiff,Nat.reduceAdd,Nat.reduceLT,Nat.reduceLeDiff,Z1]
  rw [List.drop_eq_getElem_cons hi]
  (try simp only [dV,fF,dX]);refine dD (fun hb=>?_) (fun hb=>?_)<;>try simp only [hb,aY,reduceCtorEq,Nat.reduceEqDiff,Nat.reduceAdd,Nat.reduceLT,Nat.reduceLeDiff,Z1]
  ·have e:(v==l[i])=true:=hb
   simp only [ZcX,e,Bool.true_or,if_true,Zcz,cond_true,Nat.add_zero]
   rfl
  ·have e:(v==l[i])=false:=hb
   rw [ih _ (by simp only [hi1];rfl)]
   simp only [ZcX,e,Bool.false_or,Zcz,cond_false,Nat.add_assoc,Nat.add_comm 1]
 ·intro rb
  simp only [Ih,Zar,aY,reduceCtorEq,Nat.reduceEqDiff,Nat.reduceAdd,Nat.reduceLT,Nat.reduceLeDiff,Z1]
  simp only [List.drop_length,List.contains_nil,Bool.false_eq_true,if_false]
  rfl
theorem apr {l:List Bool}{v:Bool}(hl:l.length≤lim):cal env 252 [.list 1 (l.map eB),.bool v]=some [(.int .i64 (if l.contains v then ((l.findIdx (fun b=>v==b):Nat):Int) else -1),false)]:=by
 rw [aj anE rfl];simp only [SN];simp only [start,aH,aK,aF,aJ,aA,aB,aG,aI,Nat.reduceAdd,Nat.reduceSub]
 simp only [zb,jX,reduceCtorEq,Nat.reduceEqDiff,Nat.reduceAdd,Nat.reduceLT,Nat.reduceLeDiff,Z1]
 rw [akY (v:=v) hl]
 rotate_left
 ·rfl
 ·split<;>simp only [jX,reduceCtorEq,Nat.reduceEqDiff,Nat.reduceAdd,Nat.reduceLT,Nat.reduceLeDiff,Z1]
theorem aps {l:List Bool}{v:Bool}(hl:l.length≤lim):cal env 208 [.list 1 (l.map eB),.bool v]=some [(.bool (l.contains v),false)]:=by
 have e1:=apr (v:=v) hl
 have G:decide ((if l.contains v then ((l.findIdx (fun b=>v==b):Nat):Int) else -1) ≥ 0)=l.contains v:=by
  cases l.contains v
  ·rfl
  ·simp only [if_true];exact decide_eq_true (by omega)
 rw [aj ane rfl];simp only [RS];simp only [start,aH,aK,aF,aJ,aA,aB,aG,aI,Nat.reduceAdd,Nat.reduceSub]
 simp only [e1,G,aY,reduceCtorEq,Nat.reduceEqDiff,Nat.reduceAdd,Nat.reduceLT,Nat.reduceLeDiff,Z1]
def XB (im:jc)(l:List (List bf)):List Bool:=gG (fun i x=>decide (qh x ((im.getD i []).length:Int)=0)) l
def nS (im:jc)(l:List (List bf)):Int:=if l.length≠im.length then 6 else if (XB im l).contains false then 3 else 0
theorem apt {im:jc}{x:List bf}{i:Nat}(hi:i<im.length)(ho:nU x)(hl:x.length≤10000):cal env 207 [.int .i64 (i:Nat),.list 2 (x.map aU),.cu [.list 1 (im.map bM)] 0]=some [(.bool (decide (qh x ((im.getD i []).length:Int)=0)),false)]:=by
 have e1:=agR (size:=(im[i].length:Int)) ho hl
 have e2:im.getD i []=im[i]:=by simp [hi]
 have e3:(qh x (im[i].length:Int)==0)=decide (qh x (im[i].length:Int)=0):=rfl
 rw [e2]
 rw [aj anc rfl];simp only [RQ];simp only [start,aH,aK,aF,aJ,aA,aB,aG,aI,Nat.reduceAdd,Nat.reduceSub]
 simp only [e1,e3,bM,aC hi,zc,ZD hi,aY,reduceCtorEq,Nat.reduceEqDiff,Nat.reduceAdd,Nat.reduceLT,Nat.reduceLeDiff,Z1]
theorem ahk {im:jc}{l:List (List bf)}(ho:∀ x∈l,nU x)(hr:∀ x∈l,x.length≤10000)(hl:l.length≤lim):cal env 131 [.list 1 (im.map bM),.list 1 (l.map bT)]=some [(.int .i64 (nS im l),false)]:=by
 unfold nS
 by_cases c:l.length=im.length
 ·have G1:(((l.length:Int)) != (im.length:Int))=false:=by simp;omega
  have e1:=apn (l:=l) (g:=fun i x=>decide (qh x ((im.getD i []).length:Int)=0)) (gf:=207) (caps:=[.cu [.list 1 (im.map bM)] 0]) (fun i h=>apt (by omega) (ho _ (Zad h)) (hr _ (Zad h))) hl
  have e2:=aps (l:=XB im l) (v:=false) (by unfold XB;rw [jB];exact hl)
  rw [if_neg (by simpa using c)]
  unfold XB at e2 ⊢
  rw [aj afc rfl];simp only [Lc];simp only [start,aH,aK,aF,aJ,aA,aB,aG,aI,Nat.reduceAdd,Nat.reduceSub]
  simp only [e1,e2,G1,aY,reduceCtorEq,Nat.reduceEqDiff,Nat.reduceAdd,Nat.reduceLT,Nat.reduceLeDiff,Z1]
  (try simp only [dV,fF,dX]);refine dD (fun hb=>?_) (fun hb=>?_)<;>try simp only [hb,e1,e2,G1,aY,reduceCtorEq,Nat.reduceEqDiff,Nat.reduceAdd,Nat.reduceLT,Nat.reduceLeDiff,Z1]
 ·have G1:(((l.length:Int)) != (im.length:Int))=true:=by simp;omega
  rw [if_pos c]
  rw [aj afc rfl];simp only [Lc];simp only [start,aH,aK,aF,aJ,aA,aB,aG,aI,Nat.reduceAdd,Nat.reduceSub]
  simp only [G1,aY,reduceCtorEq,Nat.reduceEqDiff,Nat.reduceAdd,Nat.reduceLT,Nat.reduceLeDiff,Z1]
theorem yD (a b:List dN):vV a b=ext (dif a b) a.length:=rfl
theorem DR {a b:jc}(hr:∀ v∈a,v.length≤4096):∀ x∈differ a b,nU x∧x.length≤4096:=fun x hx=>by
 obtain ⟨q,hq,rfl⟩:=ZaV.1 hx
 have h1:=hr _ (List.of_mem_zip hq).1
 rw [yD]
 exact ⟨Uk _ h1,zR (wu _ _) h1⟩
def tH (a b:jc)(l:List (List bf)):Int:=if fO a b≠0 then fO a b else nS a l
def kW (a b:jc)(l:List (List bf)):List (List bf):=gG (fun i x=>setOf OT x (l.getD i [])) (differ a b)
def ahl (a b:jc)(l:List (List bf)):List (List bf):=if tH a b l=0 then kW a b l else []
theorem UM {a b:jc}{l:List (List bf)}(h:fO a b=0):tH a b l=nS a l:=by
 unfold tH;rw [if_neg (by simpa using h)]
theorem Fg {a b:jc}{l:List (List bf)}(h:fO a b=0)(h2:nS a l=0):tH a b l=0:=by rw [UM h,h2]
theorem abH {a b:jc}{l:List (List bf)}(h:¬ fO a b=0):tH a b l=fO a b:=by
 unfold tH;rw [if_pos h]
theorem Jh {a b:jc}(h:fO a b=0):a.length=b.length∧dR a=0∧dR b=0∧dw a=dw b:=by
 unfold fO at h
 split at h
 ·omega
 ·split at h
  ·omega
  ·split at h
   ·rename_i c
    rename_i h1 h2
    exact ⟨(oL c).1,by omega,by omega,c⟩
   ·omega
theorem zh {a:jc}{l:List (List bf)}(h:nS a l=0):l.length=a.length:=by
 unfold nS at h
 split at h
 ·omega
 ·rename_i c;simpa using c
theorem zi {a b:jc}(h:a.length=b.length):(differ a b).length=a.length:=by simp [differ,h]
theorem apu {l:List (List bf)}{x:List bf}{i:Nat}(hi:i<l.length)(ho:nU x)(hx:x.length≤10000)(hol:∀ x∈l,nU x)(hr:∀ x∈l,x.length≤10000) :
  cal env 136 [.int .i64 (i:Nat),.list 2 (x.map aU),.cu [.list 1 (l.map bT)] 0]=some [(bT (setOf OT x (l.getD i [])),true)]:=by
 have e1:=aoP ho (hol _ (Zad hi)) hx (hr _ (Zad hi))
 have e2:l.getD i []=l[i]:=by simp [hi]
 rw [e2]
 unfold bT
 rw [aj amQ rfl];simp only [Rh];simp only [start,aH,aK,aF,aJ,aA,aB,aG,aI,Nat.reduceAdd,Nat.reduceSub]
 simp only [e1,aC hi,zc,ZD hi,aY,reduceCtorEq,Nat.reduceEqDiff,Nat.reduceAdd,Nat.reduceLT,Nat.reduceLeDiff,Z1]
theorem alK {a b:jc}{l:List (List bf)}(ha:a.length≤lim)(hb':b.length≤lim)(hra:∀ v∈a,v.length≤4096)(hol:∀ x∈l,nU x)(hr:∀ x∈l,x.length≤10000)(hl:l.length≤lim) :
  cal env 46 [.list 1 (a.map bM),.list 1 (b.map bM),.list 1 (l.map bT)]=some [(.list 1 ((ahl a b l).map bT),true),(.int .i64 (tH a b l),false)]:=by
 have e1:=alE ha hb' (fun v hv=>by have:=hra v hv;unfold lim;omega)
 have e2:=ahk (im:=a) hol hr hl
 unfold ahl
 by_cases c1:fO a b=0
 ·have G1:(fO a b != 0)=false:=by simp [c1]
  by_cases c2:nS a l=0
  ·have G2:(nS a l != 0)=false:=by simp [c2]
   have hd:=zi (Jh c1).1
   have hfl:=zh c2
   have e3:=apq (l:=differ a b) (g:=fun i x=>setOf OT x (l.getD i [])) (gf:=136) (caps:=[.cu [.list 1 (l.map bT)] 0])
    (fun i h=>apu (by omega) (DR hra _ (Zad h)).1 (zR (DR hra _ (Zad h)).2 (by decide)) hol hr) (by omega)
   unfold uS at e1
   rw [if_pos c1,c1] at e1
   rw [if_pos (Fg c1 c2),Fg c1 c2]
   rw [c2] at e2
   unfold kW
   have Z:((0:Int) != 0)=false:=rfl
   rw [aj afb rfl];simp only [WZ];simp only [start,aH,aK,aF,aJ,aA,aB,aG,aI,Nat.reduceAdd,Nat.reduceSub]
   simp only [e1,e2,e3,Z,aY,reduceCtorEq,Nat.reduceEqDiff,Nat.reduceAdd,Nat.reduceLT,Nat.reduceLeDiff,Z1]
  ·have G2:(nS a l != 0)=true:=by simp [c2]
   unfold uS at e1
   rw [if_pos c1,c1] at e1
   rw [UM c1,if_neg c2]
   have Z:((0:Int) != 0)=false:=rfl
   rw [aj afb rfl];simp only [WZ];simp only [start,aH,aK,aF,aJ,aA,aB,aG,aI,Nat.reduceAdd,Nat.reduceSub]
   simp only [e1,e2,G2,Z,aY,reduceCtorEq,Nat.reduceEqDiff,Nat.reduceAdd,Nat.reduceLT,Nat.reduceLeDiff,Z1]
   all_goals rfl
 ·have G1:(fO a b != 0)=true:=by simp [c1]
  rw [abH c1,if_neg c1]
  rw [aj afb rfl];simp only [WZ];simp only [start,aH,aK,aF,aJ,aA,aB,aG,aI,Nat.reduceAdd,Nat.reduceSub]
  simp only [e1,G1,aY,reduceCtorEq,Nat.reduceEqDiff,Nat.reduceAdd,Nat.reduceLT,Nat.reduceLeDiff,Z1]
  all_goals rfl
def XC (a b:jc)(l:List (List bf)):Bool:=decide (tH a b l=0)&&decide (differ a b=l)
theorem apv {l m:List bf}(hl:l.length≤lim):cal env 139 [bT l,bT m]=some [(.bool (decide (l=m)),false)]:=by
 have e1:=anT (m:=m) hl
 unfold bT
 rw [aj amT rfl];simp only [Rk];simp only [start,aH,aK,aF,aJ,aA,aB,aG,aI,Nat.reduceAdd,Nat.reduceSub]
 simp only [e1,aY,reduceCtorEq,Nat.reduceEqDiff,Nat.reduceAdd,Nat.reduceLT,Nat.reduceLeDiff,Z1]
theorem aq4 {a b:jc}{l:List (List bf)}(ha:a.length≤lim)(hb':b.length≤lim)(hra:∀ v∈a,v.length≤4096)(hol:∀ x∈l,nU x)(hr:∀ x∈l,x.length≤10000)(hl:l.length≤lim) :
  cal env 47 [.list 1 (a.map bM),.list 1 (b.map bM),.list 1 (l.map bT)]=some [(.bool (XC a b l),false),(.int .i64 (tH a b l),false)]:=by
 have e1:=alK ha hb' hra hol hr hl
 have e2:=alE ha hb' (fun v hv=>by have:=hra v hv;unfold lim;omega)
 unfold XC
 by_cases c:tH a b l=0
 ·have c1:fO a b=0:=by
   unfold tH at c
   split at c
   ·omega
   ·omega
  have hd:=zi (Jh c1).1
  have e3:=anU (enc:=bT) (enc2:=bT) (l:=differ a b) (m:=l) (eq:=fun x y=>decide (x=y)) (gf:=139) (caps:=[]) (fun x hx y _=>apv (zR (DR hra x hx).2 (by decide))) (fun x=>rfl) (fun x=>rfl) (by omega)
  rw [afn] at e3
  unfold uS at e2
  rw [if_pos c1,c1] at e2
  rw [c] at e1 ⊢
  have Z:((0:Int) != 0)=false:=rfl
  rw [decide_eq_true rfl,Zaf]
  rw [aj alo rfl];simp only [aaC];simp only [start,aH,aK,aF,aJ,aA,aB,aG,aI,Nat.reduceAdd,Nat.reduceSub]
  simp only [e1,e2,e3,Z,aY,reduceCtorEq,Nat.reduceEqDiff,Nat.reduceAdd,Nat.reduceLT,Nat.reduceLeDiff,Z1]
 ·have G:(tH a b l != 0)=true:=by simp [c]
  rw [decide_eq_false c,Bool.false_and]
  rw [aj alo rfl];simp only [aaC];simp only [start,aH,aK,aF,aJ,aA,aB,aG,aI,Nat.reduceAdd,Nat.reduceSub]
  simp only [e1,G,aY,reduceCtorEq,Nat.reduceEqDiff,Nat.reduceAdd,Nat.reduceLT,Nat.reduceLeDiff,Z1]
def jC (l:List (List bf)):Int:=(l.map fun x=>jS (E8 x)).sum
theorem abI (l:List (List bf))(x:List bf):jC (l++[x])=jC l+jS (E8 x):=by simp [jC]
theorem YM (x:List bf):0≤jS (E8 x)∧jS (E8 x)≤4096:=by
 rw [Xp,Fa]
 have:=List.length_filter_le (nC x) (Zaw 4096)
 rw [List.length_range] at this
 omega
theorem UN:∀ l:List (List bf),0≤jC l∧jC l≤4096*l.length
 |[]=>by simp [jC]
 |x::l=>by
  have:=UN l
  have h2:=YM x
  have e:jC (x::l)=jS (E8 x)+jC l:=by simp [jC]
  rw [e,zd];omega
theorem abJ {l:List (List bf)}{i:Nat}(h:i<l.length):jC (l.take (i+1))=jC (l.take i)+jS (E8 l[i]):=by
 rw [ZaG h,abI]
theorem apw {x:List bf}{i:Int}(ho:nU x)(hx:x.length≤10000):cal env 142 [.int .i64 i,.list 2 (x.map aU)]=some [(eI (jS (E8 x)),false)]:=by
 have e1:=aoQ ho hx
 unfold eI
 rw [aj amW rfl];simp only [Ro];simp only [start,aH,aK,aF,aJ,aA,aB,aG,aI,Nat.reduceAdd,Nat.reduceSub]
 simp only [e1,aY,reduceCtorEq,Nat.reduceEqDiff,Nat.reduceAdd,Nat.reduceLT,Nat.reduceLeDiff,Z1]
theorem apx {l:List (List bf)}(hl:l.length≤100000){st:St}(h:st.head [3,7,8,9] st.boxes.length=some ⟨[.any,.any,.any,.pv (.int .i64 (jC (l.take (0:Nat)))),.any,.any,.any,.row 1 ((gG (fun _ x=>jS (E8 x)) l).map eI),.pv (.int .i64 l.length),.pv (.int .i64 (0:Nat)),.any,.any,.any,.any,.any,.any,.any,.any],[],[],none⟩) :
  den env N7 st=some (.normal,⟨[.any,.any,.any,.pv (.int .i64 (jC l)),.any,.any,.any,.any,.any,.any,.any,.any,.any,.any,.any,.any,.any,.any],[],[],none⟩):=by
 unfold N7
 refine bG (env:=env) (l.length) (fun i=>⟨[.any,.any,.any,.pv (.int .i64 (jC (l.take i))),.any,.any,.any,.row 1 ((gG (fun _ x=>jS (E8 x)) l).map eI),.pv (.int .i64 l.length),.pv (.int .i64 i),.any,.any,.any,.any,.any,.any,.any,.any],[],[],none⟩) (fun i=>some (.normal,⟨[.any,.any,.any,.pv (.int .i64 (jC l)),.any,.any,.any,.any,.any,.any,.any,.any,.any,.any,.any,.any,.any,.any],[],[],none⟩)) h (fun _=>rfl) (fun _=>rfl) ?_ ?_
 ·intro i rb hi ih
  have hi1:=bH hi (zR hl (by decide))
  have F1:((i:Int)<(l.length:Int))=True:=eq_true (by omega)
  have hz:i<(gG (fun _ x=>jS (E8 x)) l).length:=by rw [jB];exact hi
  have hg:=DN (fun _ x=>jS (E8 x)) hi
  have h1:=UN (l.take i)
  have h2:=YM l[i]
  have h3:(l.take i).length≤100000:=by rw [Zac];omega
  have W:IntKind.i64.wrap (jC (l.take i)+jS (E8 l[i]))=jC (l.take (i+1)):=by rw [abJ hi];exact aP (by omega)
  simp only [NZ,F1,hg,W,eI,aC hz,zc,aY,reduceCtorEq,Nat.reduceEqDiff,Nat.reduceAdd,Nat.reduceLT,Nat.reduceLeDiff,Z1]
  rw [ih _ (by simp only [hi1];rfl)]
 ·intro rb
  simp only [NZ,Zar,aY,reduceCtorEq,Nat.reduceEqDiff,Nat.reduceAdd,Nat.reduceLT,Nat.reduceLeDiff,Z1]
  rfl
theorem alL {l:List (List bf)}(ho:∀ x∈l,nU x)(hr:∀ x∈l,x.length≤10000)(hl:l.length≤100000):cal env 48 [.list 1 (l.map bT)]=some [(.int .i64 (jC l),false)]:=by
 have e1:=apo (l:=l) (g:=fun _ x=>jS (E8 x)) (gf:=142) (caps:=[]) (fun i h=>apw (ho _ (Zad h)) (hr _ (Zad h))) (zR hl (by decide))
 rw [aj aqB rfl];simp only [ad5];simp only [start,aH,aK,aF,aJ,aA,aB,aG,aI,Nat.reduceAdd,Nat.reduceSub]
 simp only [e1,jB,zb,aY,reduceCtorEq,Nat.reduceEqDiff,Nat.reduceAdd,Nat.reduceLT,Nat.reduceLeDiff,Z1]
 rw [apx hl]
 rotate_left
 ·rfl
 ·simp only [aY,reduceCtorEq,Nat.reduceEqDiff,Nat.reduceAdd,Nat.reduceLT,Nat.reduceLeDiff,Z1]
def uU (im:jc)(v s:Nat):dN:=(im.getD v []).getD s vg
def hit (w:o7)(v s:Nat):Bool:=decide (w.volume=(v:Int))&&(decide (w.start≤(s:Int))&&decide ((s:Int) - w.start<w.data.length))
def nT (v s:Nat)(x:dN)(w:o7):dN:=if hit w v s then w.data.getD ((s:Int) - w.start).toNat vg else x
def DT (v s:Nat)(l:List o7)(x:dN):dN:=l.foldl (nT v s) x
theorem UO {im:jc}{w:o7}(h:rC (dI im) w=0):0≤w.volume∧w.volume<(im.length:Int)∧0<w.data.length∧0≤w.start∧w.start+w.data.length≤((im.getD w.volume.toNat []).length:Int):=by
 unfold rC at h
 have hl:(dI im).length=im.length:=by simp [dI]
 rw [hl] at h
 split at h
 ·omega
 ·rename_i h1
  split at h
  ·omega
  ·rename_i h2
   split at h
   ·omega
   ·rename_i h3
    have h4:w.volume.toNat<im.length:=by omega
    have e:(dI im).getD w.volume.toNat 0=((im.getD w.volume.toNat []).length:Int):=by
     simp only [dI,zP,zc,ZD h4,Zae,Zbh]
    rw [e] at h3
    exact ⟨by omega,by omega,by omega,by omega,by omega⟩
theorem abK {l d:List dN}{s k:Nat}(h:s+d.length≤l.length)(hk:k<l.length):(putAt l s d).getD k vg=if s≤k∧k<s+d.length then d.getD (k - s) vg else l.getD k vg:=by
 have h1:(l.take s).length=s:=by rw [Zac];omega
 simp only [putAt,zP]
 by_cases c1:k<s
 ·rw [Zam,Zaa (by omega),if_neg (by omega),List.getElem?_take_of_lt c1]
 ·by_cases c2:k<s+d.length
  ·rw [Zam,zE (by omega),h1,Zaa (by omega),if_pos (by omega)]
  ·rw [zE (by simp;omega),if_neg (by omega)]
   simp only [zp,h1,List.getElem?_drop]
   congr 2;omega
theorem ahm {im:jc}{w:o7}{v s:Nat}(h:rC (dI im) w=0)(hv:v<im.length)(hs:s<(im.getD v []).length):uU (Gx im w) v s=nT v s (uU im v s) w:=by
 obtain ⟨h1,h2,h3,h4,h5⟩:=UO h
 unfold uU Gx nT hit
 by_cases e:w.volume.toNat=v
 ·subst e
  have:(im.set w.volume.toNat (putAt (im.getD w.volume.toNat []) w.start.toNat w.data)).getD w.volume.toNat []=putAt (im.getD w.volume.toNat []) w.start.toNat w.data:=by
   simp [zP,zr,hv]
  rw [this,abK (by omega) hs]
  have ev:decide (w.volume=((w.volume.toNat:Nat):Int))=true:=by simp;omega
  rw [ev,Zaf]
  by_cases c:w.start.toNat≤s∧s<w.start.toNat+w.data.length
  ·rw [if_pos c,decide_eq_true (show w.start≤(s:Int) by omega),decide_eq_true (show (s:Int) - w.start<w.data.length by omega)]
   simp only [Zai,if_true]
   congr 1;omega
  ·rw [if_neg c]
   by_cases c1:w.start≤(s:Int)
   ·rw [decide_eq_true c1,decide_eq_false (show ¬ (s:Int) - w.start<w.data.length by omega)];rfl
   ·rw [decide_eq_false c1];rfl
 ·have:(im.set w.volume.toNat (putAt (im.getD w.volume.toNat []) w.start.toNat w.data)).getD v []=im.getD v []:=by
   simp [zP,zr,e]
  rw [this,decide_eq_false (show ¬ w.volume=(v:Int) by omega)]
  rfl
theorem Ji {a b:jc}(h:dI a=dI b)(v:Nat):(a.getD v []).length=(b.getD v []).length∧a.length=b.length:=by
 obtain ⟨h1,h2⟩:=oL (a:=a) (b:=b) h
 refine ⟨?_,h1⟩
 by_cases hv:v<a.length
 ·rw [getD_lt hv,getD_lt (show v<b.length by omega)];exact h2 v hv (by omega)
 ·simp [zP,ZaM (show a.length≤v by omega),ZaM (show b.length≤v by omega)]
theorem UQ:∀ (l:List o7) (im:jc) (i:Nat),(qc (dI im) l i).2=0→∀ {v s:Nat},v<im.length→s<(im.getD v []).length→uU (l.foldl Gx im) v s=DT v s l (uU im v s)
 |[],_,_,_,_,_,_,_=>rfl
 |w::l,im,i,h,v,s,hv,hs=>by
  unfold qc at h
  split at h
  ·rename_i h2;exact absurd h h2
  ·rename_i h2
   have h2:rC (dI im) w=0:=by omega
   have e:=Uz h2
   obtain ⟨q1,q2⟩:=Ji e v
   rw [ZbG,UQ l (Gx im w) (i+1) (by rw [e];exact h) (by omega) (by omega),ahm h2 hv hs]
   rfl
theorem O7 {l:List bf}{s:Nat}:nC l s=true ↔ ∃ e∈l,tq e s=true:=by simp [nC]
theorem Mc (v s:Nat):∀ (l:List o7) (x:dN),(∀ w∈l,¬ hit w v s=true)→DT v s l x=x
 |[],_,_=>rfl
 |w::l,x,h=>by
  show DT v s l (nT v s x w)=x
  have:nT v s x w=x:=by unfold nT;rw [if_neg (h w (by simp))]
  rw [this]
  exact Mc v s l x fun y hy=>h y (by simp [hy])
theorem O8 {a b:jc}(hs:dw a=dw b){v s:Nat}(hv:v<a.length)(h:s<(a.getD v []).length):dif (a.getD v []) (b.getD v []) s=true ↔ uU a v s≠uU b v s:=by
 obtain ⟨g1,g2⟩:=Ji (show dI a=dI b from hs) v
 have h2:s<(b.getD v []).length:=by omega
 unfold dif uU
 rw [ZD h,ZD h2,getD_lt h,getD_lt h2]
 simp
theorem YN {p:Nat→Bool}{n:Nat}:∀ k,(∀ s,n≤s→p s=false)→ext p (n+k)=ext p n
 |0,_=>rfl
 |k+1,h=>by
  rw [show n+(k+1)=n+k+1 by omega,nK,h (n+k) (by omega)]
  exact YN k h
theorem UR {p:Nat→Bool}{n m:Nat}(h:n≤m)(hp:∀ s,n≤s→p s=false):ext p m=ext p n:=by
 rw [show m=n+(m - n) by omega];exact YN _ hp
theorem apy {l:List TE}(h:smT l=true):l.length≤30∧∀ x∈l,x.dat.length≤8:=by
 unfold smT at h
 simp only [ZZ,Bool.not_eq_true',decide_eq_true_eq] at h
 refine ⟨h.2,fun x hx=>?_⟩
 have:=h.1
 unfold JV at this
 rw [ZaE,List.any_eq_false] at this
 have:=this x hx
 simp at this
 omega
theorem akZ {n g:Int}{x:bf}{s:Nat}(h:tq (uP n g x) s=true):(s:Int)<n:=by
 have:=(tC.1 h).2.2
 unfold uP at this
 simp only at this
 split at this<;>omega
theorem ak0 {i:iZ}(h:gB i=true):Xo i.size i.bg (ku i)=ext (fun s=>vW i.bm ((s:Int) / i.bg)) i.size.toNat:=by
 obtain ⟨h1,-⟩:=bQ.1 h
 obtain ⟨z1,z2,z3,z4⟩:=dA.1 h1
 obtain ⟨-,r2,-,r4,-⟩:=Fb h
 have hL:Xo i.size i.bg (ku i)=ext (nC ((uO (ku i)).2.2.2.map (uP i.size i.bg))) 4096:=by
  unfold Xo
  rw [if_pos r2,Xp]
 rw [hL] at r4
 rw [hL,UR (n:=i.size.toNat) (by omega) (fun s hs=>?_)]
 ·refine oG fun s hs=>?_
  have:=r4 s (by omega)
  rw [oQ,decide_eq_true (by omega),Zaf] at this
  exact this
 ·rw [Bool.eq_false_iff]
  intro hi
  obtain ⟨e,he,h2⟩:=O7.1 hi
  obtain ⟨x,-,rfl⟩:=ZaV.1 he
  have:=akZ h2
  omega
theorem ak1 {i:iZ}(h:gB i=true):qh (Xo i.size i.bg (ku i)) i.size=0:=by
 obtain ⟨h1,-⟩:=bQ.1 h
 obtain ⟨z1,z2,z3,z4⟩:=dA.1 h1
 rw [ak0 h]
 have:=Un (fun s=>vW i.bm ((s:Int) / i.bg)) (n:=i.size.toNat) (by omega)
 rwa [show ((i.size.toNat:Nat):Int)=i.size by omega] at this
theorem abL {β:Type}(B:β→List Box)(F:β→List PV→β)(P:Nat→β→Prop)(b0:β){g:bJ}{ps:List Nat}{assign body:ay}{st:St}{f:Nat}{caps:List PV}{xs:List (List PV)}(hg:st.bY g=some (.func f caps))(hi:iter env f caps none=some xs)
  (hB:st.boxes=B b0) (hP:P 0 b0)
  (h:∀ j b x,P j b→xs[j]?=some x→∀ sl0,P (j+1) (F b x)∧∃ sl1,vU env (st.slots.map AV.froze) ps assign body st.boxes.length x ⟨sl0,B b,st.ys,st.stop⟩=some (.normal,⟨sl1,B (F b x),st.ys,st.stop⟩)) :
  den env (.rng g ps assign body) st=some (.normal,⟨st.slots.map AV.froze,B (xs.foldl F b0),st.ys,st.stop⟩):=by
 have hsn:∀ j x,xs[j]?=some x→xs.take (j+1)=xs.take j++[x]:=by
  intro j x hx
  rw [List.take_add_one,hx];rfl
 have key:∀ j,j≤xs.length→P j ((xs.take j).foldl F b0):=by
  intro j
  induction j with
  |zero=>intro _;simpa using hP
  |succ j ih =>
   intro hj
   have hx:=ZD (l:=xs) (i:=j) (by omega)
   rw [hsn _ _ hx,ZbJ]
   exact (h j _ _ (ih (by omega)) hx []).1
 have:=yX (env:=env) (fun j=>B ((xs.take j).foldl F b0)) hg hi (by simpa using hB) (ps:=ps) (assign:=assign) (body:=body) ?_
 ·rw [this,ZaL]
 ·intro j x hx sl0
  have hj:=(za.1 hx).1
  rw [hsn _ _ hx,ZbJ]
  exact (h j _ _ (key j (by omega)) hx sl0).2
theorem XD {im:jc}{l:List (List bf)}(h:nS im l=0){i:Nat}(hi:i<l.length)(hj:i<im.length):qh l[i] (im[i].length:Int)=0:=by
 unfold nS at h
 split at h
 ·omega
 ·split at h
  ·omega
  ·rename_i c
   have h2:(XB im l)[i]?=some (decide (qh l[i] (im[i].length:Int)=0)):=by simp [XB,gG,hi,hj]
   cases hd:decide (qh l[i] (im[i].length:Int)=0) with
   |true=>simpa using hd
   |false =>
    rw [hd] at h2
    exact absurd (Zdy.2 (Zab h2)) c
def O9 (im:jc)(v:Nat)(e:bf):o7:=⟨v,e.start,((im.getD v []).drop e.start.toNat).take e.count.toNat⟩
def wrV (im:jc)(v:Nat)(x:List bf):List o7:=x.map (O9 im v)
def YO (im:jc)(l:List (List bf))(n:Nat):List o7:=(Zaw n).flatMap fun v=>wrV im v (l.getD v [])
def Fh (im:jc)(l:List (List bf)):List o7:=YO im l l.length
def wrE (im:jc)(l:List (List bf)):Int:=if dR im≠0 then dR im else nS im l
def wrO (im:jc)(l:List (List bf)):List o7:=if wrE im l=0 then Fh im l else []
theorem Jj (im:jc)(l:List (List bf))(n:Nat):YO im l (n+1)=YO im l n++wrV im n (l.getD n []):=by simp [YO,ZbI]
def Ah (v:Nat)(x:List bf):List (List PV):=x.map fun e=>[.int .i64 (v:Int),aU e]
def zq (l:List (List bf))(n:Nat):List (List PV):=(Zaw n).flatMap fun v=>Ah v (l.getD v [])
theorem DU (l:List (List bf))(n:Nat):zq l (n+1)=zq l n++Ah n (l.getD n []):=by simp [zq,ZbI]
theorem ak3 {l:List (List bf)}{v:Nat}{x:List bf}(hl:x.length≤lim){ys:List (List PV)}
  {st:St} (h:st.head [0,3,4,7,8,9,13,14,15,16] st.boxes.length=some ⟨[.oM,.any,.any,.pv (.int .i64 v),.pv (.list 2 (x.map aU)),.any,.any,.pv (.list 1 (l.map bT)),.pv (.int .i64 l.length),.pv (.int .i64 v),.any,.any,.any,.pv (.list 2 (x.map aU)),.pv (.list 2 (x.map aU)),.pv (.int .i64 x.length),.pv (.int .i64 (0:Nat)),.any,.any,.any,.any,.any,.any,.any,.any,.any,.any],[],ys,some none⟩) :
  den env Hq st=some (.normal,⟨[.oM,.any,.any,.any,.any,.any,.any,.pv (.list 1 (l.map bT)),.pv (.int .i64 l.length),.pv (.int .i64 v),.any,.any,.any,.any,.any,.any,.any,.any,.any,.any,.any,.any,.any,.any,.any,.any,.any],[],ys++Ah v x,some none⟩):=by
 unfold Hq
 refine bG (env:=env) x.length (fun i=>⟨[.oM,.any,.any,.pv (.int .i64 v),.pv (.list 2 (x.map aU)),.any,.any,.pv (.list 1 (l.map bT)),.pv (.int .i64 l.length),.pv (.int .i64 v),.any,.any,.any,.pv (.list 2 (x.map aU)),.pv (.list 2 (x.map aU)),.pv (.int .i64 x.length),.pv (.int .i64 i),.any,.any,.any,.any,.any,.any,.any,.any,.any,.any],[],ys++Ah v (x.take i),some none⟩)
  (fun _=>some (.normal,⟨[.oM,.any,.any,.any,.any,.any,.any,.pv (.list 1 (l.map bT)),.pv (.int .i64 l.length),.pv (.int .i64 v),.any,.any,.any,.any,.any,.any,.any,.any,.any,.any,.any,.any,.any,.any,.any,.any,.any],[],ys++Ah v x,some none⟩)) (by rw [h];simp [Ah]) (fun _=>rfl) (fun _=>rfl) ?_ ?_
 ·intro i rb hi ih
  have hi1:=bH hi hl
  have F1:((i:Int)<(x.length:Int))=True:=eq_true (by omega)
  have P:∀ x:bf,part [PV.int .i64 x.start,.int .i64 x.count] 0 (some 2)=some (.agg [.int .i64 x.start,.int .i64 x.count]):=fun x=>rfl
  have e2:ys++Ah v (x.take (i+1))=ys++Ah v (x.take i)++[[.int .i64 (v:Int),.agg [.int .i64 x[i].start,.int .i64 x[i].count]]]:=by
   rw [ZaG hi];simp only [Ah,ZaC,Zap,Zao,Zam,aU]
  simp only [Ho,F1,P,aU,aC hi,zc,ZD hi,Zae,zd,ze,aY,reduceCtorEq,Nat.reduceEqDiff,Nat.reduceAdd,Nat.reduceLT,Nat.reduceLeDiff,Z1]
  rw [ih _ (by simp only [hi1];rw [e2];rfl)]
 ·intro rb
  simp only [Ho,Zar,aY,reduceCtorEq,Nat.reduceEqDiff,Nat.reduceAdd,Nat.reduceLT,Nat.reduceLeDiff,Z1]
  rfl
theorem ahn {l:List (List bf)}(hl:l.length≤lim)(hr:∀ x∈l,x.length≤lim)
  {st:St} (h:st.head [0,7,8,9] st.boxes.length=some ⟨[.oM,.any,.any,.any,.any,.any,.any,.pv (.list 1 (l.map bT)),.pv (.int .i64 l.length),.pv (.int .i64 (0:Nat)),.any,.any,.any,.any,.any,.any,.any,.any,.any,.any,.any,.any,.any,.any,.any,.any,.any],[],zq l 0,some none⟩) :
  den env Ht st=some (.normal,⟨[.any,.any,.any,.any,.any,.any,.any,.any,.any,.any,.any,.any,.any,.any,.any,.any,.any,.any,.any,.any,.any,.any,.any,.any,.any,.any,.any],[],zq l l.length,some none⟩):=by
 unfold Ht
 refine bG (env:=env) l.length (fun i=>⟨[.oM,.any,.any,.any,.any,.any,.any,.pv (.list 1 (l.map bT)),.pv (.int .i64 l.length),.pv (.int .i64 i),.any,.any,.any,.any,.any,.any,.any,.any,.any,.any,.any,.any,.any,.any,.any,.any,.any],[],zq l i,some none⟩) (fun _=>some (.normal,⟨[.any,.any,.any,.any,.any,.any,.any,.any,.any,.any,.any,.any,.any,.any,.any,.any,.any,.any,.any,.any,.any,.any,.any,.any,.any,.any,.any],[],zq l l.length,some none⟩)) h (fun _=>rfl) (fun _=>rfl) ?_ ?_
 ·intro i rb hi ih
  have hi1:=bH hi hl
  have F1:((i:Int)<(l.length:Int))=True:=eq_true (by omega)
  have e2:l.getD i []=l[i]:=by simp [hi]
  rw [DU,e2] at ih
  simp only [Hr,F1,bT,aC hi,zc,ZD hi,Zae,zb,aY,reduceCtorEq,Nat.reduceEqDiff,Nat.reduceAdd,Nat.reduceLT,Nat.reduceLeDiff,Z1]
  rw [ak3 (l:=l) (v:=i) (x:=l[i]) (hr _ (Zad hi))]
  rotate_left
  ·rfl
  simp only [aY,reduceCtorEq,Nat.reduceEqDiff,Nat.reduceAdd,Nat.reduceLT,Nat.reduceLeDiff,Z1]
  rw [ih _ (by simp only [hi1];rfl)]
 ·intro rb
  simp only [Hr,Zar,aY,reduceCtorEq,Nat.reduceEqDiff,Nat.reduceAdd,Nat.reduceLT,Nat.reduceLeDiff,Z1]
  rfl
theorem ak4 {l:List (List bf)}(hl:l.length≤lim)(hr:∀ x∈l,x.length≤lim):iter env 209 [.cu [.list 1 (l.map bT)] 0] none=some (zq l l.length):=by
 rw [qL anf rfl rfl]
 simp only [RU,zU,aH,aK,aF,aJ,aA,aB,aG,aI,Nat.reduceAdd,Nat.reduceSub]
 simp only [zb,aY,reduceCtorEq,Nat.reduceEqDiff,Nat.reduceAdd,Nat.reduceLT,Nat.reduceLeDiff,Z1]
 rw [ahn hl hr]
 rotate_left
 ·rfl
 simp only [rH,aY,reduceCtorEq,Nat.reduceEqDiff,Nat.reduceAdd,Nat.reduceLT,Nat.reduceLeDiff,Z1]
theorem apz {l:List PV}:cal env 132 [.list 1 l]=some [(.func 209 [.cu [.list 1 l] 0],false)]:=by
 rw [aj amN rfl];simp only [Q9];simp only [start,aH,aK,aF,aJ,aA,aB,aG,aI,Nat.reduceAdd,Nat.reduceSub]
 simp only [aY,reduceCtorEq,Nat.reduceEqDiff,Nat.reduceAdd,Nat.reduceLT,Nat.reduceLeDiff,Z1]
def wF (im:jc)(acc:List o7):List PV→List o7
 |[.int _ v,.agg [.int _ s,.int _ c]]=>acc++[O9 im v.toNat ⟨s,c⟩]
 |_=>acc
theorem Md (im:jc)(v:Nat):∀ (x:List bf) (acc:List o7),(Ah v x).foldl (wF im) acc=acc++wrV im v x
 |[],acc=>by simp [Ah,wrV]
 |e::x,acc=>by
  have h:=Md im v x (acc++[O9 im v e])
  have e2:Ah v (e::x)=[.int .i64 (v:Int),aU e]::Ah v x:=rfl
  have e3:wF im acc [.int .i64 (v:Int),aU e]=acc++[O9 im v e]:=by simp [wF,aU]
  rw [e2,ZbG,e3,h]
  simp [wrV]
theorem Me (im:jc)(l:List (List bf)):∀ n,(zq l n).foldl (wF im) []=YO im l n
 |0=>by simp [zq,YO]
 |n+1=>by rw [DU,ZbJ,Me im l n,Md,Jj]
theorem aho (im:jc)(l:List (List bf))(n:Nat):(zq l n).length=(YO im l n).length:=by
 induction n with
 |zero=>simp [zq,YO]
 |succ n ih=>rw [DU,Jj,zp,zp,ih];simp [Ah,wrV]
theorem ahp {l:List (List bf)}{n:Nat}{x:List PV}(h:x∈zq l n):∃ v,v<n∧∃ e∈l.getD v [],x=[.int .i64 (v:Int),aU e]:=by
 simp only [zq,ZcK,ZaX] at h
 obtain ⟨v,hv,hx⟩:=h
 simp only [Ah,ZaV] at hx
 obtain ⟨e,he,rfl⟩:=hx
 exact ⟨v,hv,e,he,rfl⟩
theorem aq6 {im:jc}{l:List (List bf)}(hi:im.length≤lim)(hri:∀ v∈im,v.length≤1000000)(ho:∀ x∈l,nU x)(hr:∀ x∈l,x.length≤10000)(hl:l.length≤lim)(hL:nS im l=0→(Fh im l).length≤1000000) :
  cal env 43 [.list 1 (im.map bM),.list 1 (l.map bT)]=some [(.list 3 ((wrO im l).map U6),true),(.int .i64 (wrE im l),false)]:=by
 have e1:=alv hi
 have e2:=ahk (im:=im) ho hr hl
 have e3:=apz (l:=l.map bT)
 unfold wrO wrE
 by_cases c1:dR im=0
 ·rw [c1] at e1
  have n1:(if dR im≠0 then dR im else nS im l)=nS im l:=if_neg (by simpa using c1)
  rw [n1]
  have Z:((0:Int) != 0)=false:=rfl
  by_cases c2:nS im l=0
  ·have hL:=hL c2
   have hfl:=zh c2
   rw [c2] at e2
   rw [c2]
   have hlim:lim=1073741824:=rfl
   have hvl:(zq l l.length).length=(Fh im l).length:=aho im l l.length
   rw [aj afa rfl];simp only [WY];simp only [start,aH,aK,aF,aJ,aA,aB,aG,aI,Nat.reduceAdd,Nat.reduceSub]
   simp only [e1,e2,e3,Z,aY,reduceCtorEq,Nat.reduceEqDiff,Nat.reduceAdd,Nat.reduceLT,Nat.reduceLeDiff,Z1]
   rw [abL (fun acc=>[⟨false,[.pv (.list 1 (im.map bM))]⟩,⟨false,[.row 3 (acc.map U6)]⟩]) (wF im) (fun j acc=>acc.length≤j) [] rfl (ak4 hl (fun x hx=>zR (hr x hx) (by decide))) rfl (Nat.zero_le _) ?_]
   ·have hz:(zq l l.length).foldl (wF im) []=Fh im l:=Me im l l.length
    simp only [hz,rH,aY,reduceCtorEq,Nat.reduceEqDiff,Nat.reduceAdd,Nat.reduceLT,Nat.reduceLeDiff,Z1]
   ·intro j acc x hb hx sl0
    have hj:=(za.1 hx).1
    obtain ⟨v,hv,e,he,rfl⟩:=ahp (Zab hx)
    have hvi:v<im.length:=by omega
    have e4:l.getD v []=l[v]:=by simp [hv]
    rw [e4] at he
    obtain ⟨q1,q2,q3⟩:=OU (XD c2 hv hvi) e he
    have avc:=hri _ (Zad hvi)
    have F1:(acc.length+1≤lim)=True:=eq_true (by omega)
    have W:IntKind.i64.wrap (e.start+e.count)=e.start+e.count:=aP (by omega)
    have B1:(0≤e.start∧e.start≤((e.start+e.count).toNat:Int))=True:=eq_true (by omega)
    have B2:(0≤e.start+e.count∧e.start+e.count≤(im[v].length:Int))=True:=eq_true (by omega)
    have hcl:=anV (es:=((im[v].map fQ).drop e.start.toNat).take ((e.start+e.count).toNat - e.start.toNat)) (by simp;omega)
    have e5:wF im acc [.int .i64 (v:Int),aU e]=acc++[O9 im v e]:=by simp [wF,aU]
    have e6:(e.start+e.count).toNat - e.start.toNat=e.count.toNat:=by omega
    have e7:((im[v].map fQ).drop e.start.toNat).take e.count.toNat=((im[v].drop e.start.toNat).take e.count.toNat).map fQ:=by simp [List.map_take,List.map_drop]
    have e8:im.getD v []=im[v]:=by simp [hvi]
    rw [e6,e7] at hcl
    rw [e5]
    refine ⟨by simp;omega,?_⟩
    refine ⟨?_,?_⟩
    rotate_left
    ·simp only [X5,X6,F1,W,B1,B2,e6,e7,hcl,bM,aU,U6,O9,e8,aC hvi,zc,ZD hvi,Zae,zb,ZaC,Zap,Zao,rH,aY,reduceCtorEq,Nat.reduceEqDiff,Nat.reduceAdd,Nat.reduceLT,Nat.reduceLeDiff,Z1]
     rfl
  ·have G:(nS im l != 0)=true:=by simp [c2]
   rw [if_neg c2]
   rw [aj afa rfl];simp only [WY];simp only [start,aH,aK,aF,aJ,aA,aB,aG,aI,Nat.reduceAdd,Nat.reduceSub]
   simp only [e1,e2,G,Z,aY,reduceCtorEq,Nat.reduceEqDiff,Nat.reduceAdd,Nat.reduceLT,Nat.reduceLeDiff,Z1]
   all_goals rfl
 ·have G:(dR im != 0)=true:=by simp [c1]
  have n1:(if dR im≠0 then dR im else nS im l)=dR im:=if_pos c1
  rw [n1,if_neg c1]
  rw [aj afa rfl];simp only [WY];simp only [start,aH,aK,aF,aJ,aA,aB,aG,aI,Nat.reduceAdd,Nat.reduceSub]
  simp only [e1,G,aY,reduceCtorEq,Nat.reduceEqDiff,Nat.reduceAdd,Nat.reduceLT,Nat.reduceLeDiff,Z1]
  all_goals rfl
def aq8 (x w:o7):Prop:=x.volume<w.volume∨x.volume=w.volume∧x.start+x.data.length<w.start
def aq9 (im:jc)(l:List o7):Prop:=(∀ w∈l,BL im w=0)∧∀ i (h:i+1<l.length),aq8 l[i] l[i+1]
theorem ak5 {im:jc}{w:o7}(h:BL im w=0):0≤w.volume∧w.volume<im.length∧0≤w.start∧w.start+w.data.length≤((im.getD w.volume.toNat []).length:Int):=by
 unfold BL at h
 split at h
 ·omega
 ·split at h
  ·omega
  ·split at h
   ·omega
   ·omega
theorem ahq {im:jc}(hr:∀ v∈im,v.length≤1000000)(v:Nat):(im.getD v []).length≤1000000:=by
 by_cases h:v<im.length
 ·have e:im.getD v []=im[v]:=by simp [h]
  rw [e];exact hr _ (Zad h)
 ·have e:im.getD v []=[]:=by simp [zP,ZaM (Nat.le_of_not_lt h)]
  rw [e];simp
theorem Jk {size:Int}:∀ (l:List bf) (nx:Int),lN size nx l=0→(∀ e∈l,nx≤e.start∧1≤e.count)∧l.Pairwise (fun a b=>a.start+a.count<b.start)
 |[],_,_=>⟨fun e he=>(by cases he),ZdG.nil⟩
 |x::l,nx,h=>by
  unfold lN at h
  split at h
  ·omega
  ·split at h
   ·omega
   ·split at h
    ·omega
    ·obtain ⟨h1,h2⟩:=Jk l _ h
     refine ⟨fun e he=>?_,List.pairwise_cons.2 ⟨fun e he=>by have:=h1 e he;omega,h2⟩⟩
     rcases ZaJ.1 he with rfl|he
     ·omega
     ·have:=h1 e he;omega
theorem abM {l:List bf}{size:Int}(h:qh l size=0):l.Pairwise (fun a b=>a.start+a.count<b.start):=by
 unfold qh at h
 split at h
 ·omega
 ·exact (Jk l 0 h).2
theorem Cc {im:jc}{v:Nat}{e:bf}(h0:0≤e.start)(h1:1≤e.count)(h2:e.start+e.count≤((im.getD v []).length:Int)):(((O9 im v e).data.length:Nat):Int)=e.count:=by
 simp only [O9,Zac,ZaU];omega
theorem Fj {im:jc}{l:List (List bf)}{n:Nat}{w:o7}(h:w∈YO im l n):∃ v,v<n∧∃ e∈l.getD v [],w=O9 im v e:=by
 simp only [YO,ZcK,ZaX,wrV,ZaV] at h
 obtain ⟨v,hv,e,he,rfl⟩:=h
 exact ⟨v,hv,e,he,rfl⟩
theorem MB {im:jc}{l:List (List bf)}(h:nS im l=0){v:Nat}(hv:v<l.length){e:bf}(he:e∈l.getD v []):0≤e.start∧1≤e.count∧e.start+e.count≤((im.getD v []).length:Int):=by
 have hf:=zh h
 have e1:l.getD v []=l[v]:=by simp [hv]
 have e2:im.getD v []=im[v]:=by simp [show v<im.length by omega]
 rw [e1] at he
 rw [e2]
 exact OU (XD h hv (by omega)) e he
theorem ak6 {im:jc}{l:List (List bf)}(h:nS im l=0):aq9 im (Fh im l):=by
 have hf:=zh h
 refine ⟨fun w hw=>?_,?_⟩
 ·obtain ⟨v,hv,e,he,rfl⟩:=Fj hw
  obtain ⟨q1,q2,q3⟩:=MB h hv he
  have q4:=Cc q1 q2 q3
  have e1:(O9 im v e).volume=(v:Int):=rfl
  have e2:(O9 im v e).start=e.start:=rfl
  unfold BL
  rw [if_neg (by rw [e1];omega),if_neg (by omega),if_neg (by rw [e1,e2,q4,Zav];omega)]
 ·have hp:(Fh im l).Pairwise aq8:=by
   unfold Fh YO
   rw [List.pairwise_flatMap]
   refine ⟨fun v hv=>?_,?_⟩
   ·have hv:=ZaX.1 hv
    unfold wrV
    rw [List.pairwise_map]
    have e1:l.getD v []=l[v]:=by simp [hv]
    have hp:=abM (XD h hv (by omega))
    rw [e1]
    refine ZdG.imp_of_mem ?_ hp
    intro a b ha hb hab
    rw [← e1] at ha
    obtain ⟨q1,q2,q3⟩:=MB h hv ha
    have q4:=Cc q1 q2 q3
    refine .inr ⟨rfl,?_⟩
    rw [q4]
    exact hab
   ·refine ZdG.imp ?_ List.pairwise_lt_range
    intro a b hab x hx y hy
    obtain ⟨_,_,rfl⟩:=ZaV.1 hx
    obtain ⟨_,_,rfl⟩:=ZaV.1 hy
    exact .inl (show ((a:Nat):Int)<(b:Int) by omega)
  exact fun i hi=>List.pairwise_iff_getElem.1 hp i (i+1) (by omega) hi (by omega)
theorem YP {im:jc}{l:List (List bf)}{k:Nat}(hr:∀ x∈l,x.length≤k):∀ n,n≤l.length→(YO im l n).length≤k*n
 |0,_=>by simp [YO]
 |n+1,h=>by
  have ih:=YP (im:=im) hr n (by omega)
  have h2:=hr _ (Zad (show n<l.length by omega))
  rw [Jj,zp,show l.getD n []=l[n] by simp [show n<l.length by omega],Nat.mul_add,Nat.mul_one]
  simp only [wrV,zb]
  omega
theorem MC (sz:List Int):∀ (l:List o7) (i:Nat),(∀ w∈l,rC sz w=0)→(qc sz l i).2=0
 |[],_,_=>rfl
 |w::l,i,h=>by
  unfold qc
  rw [if_neg (by rw [h w (by simp)];simp)]
  exact MC sz l (i+1) fun x hx=>h x (by simp [hx])
theorem UU (v s:Nat)(B:dN):∀ (l:List o7) (x:dN),(∀ w∈l,hit w v s=true→w.data.getD ((s:Int) - w.start).toNat vg=B)→(x=B∨∃ w∈l,hit w v s=true)→DT v s l x=B
 |[],x,_,h=>by
  rcases h with h|⟨w,hw,_⟩
  ·exact h
  ·cases hw
 |w::l,x,hh,h=>by
  show DT v s l (nT v s x w)=B
  refine UU v s B l _ (fun y hy=>hh y (by simp [hy])) ?_
  by_cases c:hit w v s=true
  ·left;unfold nT;rw [if_pos c];exact hh w (by simp) c
  ·rcases h with h|⟨y,hy,hc⟩
   ·left;unfold nT;rw [if_neg c];exact h
   ·rcases ZaJ.1 hy with rfl|hy
    ·exact absurd hc c
    ·exact .inr ⟨y,hy,hc⟩
theorem seq_ok {im:jc}{l:List o7}(h:aq9 im l)(hl:im.length≤lim)(hr:∀ v∈im,v.length≤1000000):okW l:=fun w hw=>by
 obtain ⟨q1,q2,q3,q4⟩:=ak5 (h.1 w hw)
 have q5:=ahq hr w.volume.toNat
 have hlim:lim=1073741824:=rfl
 simp only [vS,ZZ,decide_eq_true_eq]
 omega
theorem apA {a:jc}{v:Nat}(hv:v<a.length):(dI a).getD v 0=((a.getD v []).length:Int):=by
 rw [getD_lt hv]
 simp only [dI,zP,zc,ZD hv,Zae,Zbh]
theorem apB {a b:jc}{x:List (List bf)}(hs:dw a=dw b)(hf:nS a x=0){w:o7}(hw:w∈Fh a x):rC (dI b) w=0:=by
 have hs':dI a=dI b:=hs
 obtain ⟨v,hv,e,he,rfl⟩:=Fj hw
 have hl:=zh hf
 obtain ⟨q1,q2,q3⟩:=MB hf hv he
 have q4:=Cc q1 q2 q3
 have hva:v<a.length:=by omega
 have hsz:(dI a).length=a.length:=by simp [dI]
 rw [← hs']
 unfold rC
 have e1:(O9 a v e).volume=(v:Int):=rfl
 have e2:(O9 a v e).start=e.start:=rfl
 rw [e1,e2,hsz,Zav,apA hva]
 rw [if_neg (by omega),if_neg (by omega),if_neg (by omega)]
theorem Pg {a:jc}{i v s:Nat}{e:bf}(q1:0≤e.start)(q2:1≤e.count)(q3:e.start+e.count≤((a.getD i []).length:Int)):hit (O9 a i e) v s=true ↔ i=v∧tq e s=true:=by
 have q4:=Cc q1 q2 q3
 have e1:(O9 a i e).volume=(i:Int):=rfl
 have e2:(O9 a i e).start=e.start:=rfl
 unfold hit tq
 rw [e1,e2,q4]
 simp only [ZZ,decide_eq_true_eq]
 omega
theorem ak7 {a:jc}{x:List (List bf)}(hf:nS a x=0){v s:Nat}(hv:v<a.length)(hs:s<(a.getD v []).length)(y:dN) :
  DT v s (Fh a x) y=if nC (x.getD v []) s then uU a v s else y:=by
 have hl:=zh hf
 by_cases c:nC (x.getD v []) s=true
 ·rw [if_pos c]
  obtain ⟨e,he,hi⟩:=O7.1 c
  refine UU v s _ _ _ (fun w hw hh=>?_) (.inr ⟨O9 a v e,?_,?_⟩)
  ·obtain ⟨i,hi',e',he',rfl⟩:=Fj hw
   obtain ⟨q1,q2,q3⟩:=MB hf hi' he'
   obtain ⟨rfl,h2⟩:=(Pg q1 q2 q3).1 hh
   simp only [tq,ZZ,decide_eq_true_eq] at h2
   have q4:=Cc q1 q2 q3
   have e2:(O9 a i e').start=e'.start:=rfl
   have e3:(O9 a i e').data=((a.getD i []).drop e'.start.toNat).take e'.count.toNat:=rfl
   have hk:((s:Int) - e'.start).toNat<(((a.getD i []).drop e'.start.toNat).take e'.count.toNat).length:=by rw [Zac,ZaU];omega
   unfold uU
   rw [e2,e3,getD_lt hk,getD_lt hs,List.getElem_take,List.getElem_drop]
   congr 1;omega
  ·unfold Fh YO
   exact ZcK.2 ⟨v,ZaX.2 (by omega),ZaV.2 ⟨e,he,rfl⟩⟩
  ·obtain ⟨q1,q2,q3⟩:=MB hf (show v<x.length by omega) he
   exact (Pg q1 q2 q3).2 ⟨rfl,hi⟩
 ·rw [if_neg c]
  refine Mc v s _ _ fun w hw hh=>c ?_
  obtain ⟨i,hi',e',he',rfl⟩:=Fj hw
  obtain ⟨q1,q2,q3⟩:=MB hf hi' he'
  obtain ⟨rfl,h2⟩:=(Pg q1 q2 q3).1 hh
  exact O7.2 ⟨e',he',h2⟩
theorem alM {a b:jc}{x:List (List bf)}(hs:dw a=dw b)(hf:nS a x=0)(h0:dR b=0) :
  QY b (Fh a x)=0∧dI (NP b (Fh a x))=dI a∧∀ v s,v<a.length→s<(a.getD v []).length→uU (NP b (Fh a x)) v s=if nC (x.getD v []) s then uU a v s else uU b v s:=by
 have h0':xW (dI b)=0:=h0
 have hs':dI b=dI a:=hs.symm
 have hE:=MC (dI b) (Fh a x) 0 fun w hw=>apB hs hf hw
 have he:QY b (Fh a x)=0:=by unfold QY;rw [if_neg (by rw [h0'];simp)];exact hE
 have hO:NP b (Fh a x)=(Fh a x).foldl Gx b:=by unfold NP;rw [if_pos he]
 refine ⟨he,(L9 he).trans hs',fun v s hv hsv=>?_⟩
 obtain ⟨g1,g2⟩:=Ji hs' v
 rw [hO,UQ (Fh a x) b 0 hE (show v<b.length by omega) (by omega)]
 exact ak7 hf hv hsv _
theorem apC {p q:jc}(h:dI p=dI q)(hg:∀ v s,v<p.length→s<(p.getD v []).length→uU p v s=uU q v s):p=q:=by
 obtain ⟨y1,y2⟩:=oL (a:=p) (b:=q) h
 apply Za6 y1
 intro v h1 h2
 apply Za6 (y2 v h1 h2)
 intro s h3 h4
 have:=hg v s h1 (by rw [getD_lt h1];exact h3)
 unfold uU at this
 rw [getD_lt h1,getD_lt h3,getD_lt h2,getD_lt h4] at this
 exact this
def Hits (a b:jc)(l:List (List bf)):Prop:=∀ v s,v<a.length→s<(a.getD v []).length→uU a v s≠uU b v s→nC (l.getD v []) s=true
theorem apD {a b:jc}{l:List (List bf)}(hs:dw a=dw b)(hf:nS a l=0)(h0:dR b=0):NP b (Fh a l)=a ↔ Hits a b l:=by
 obtain ⟨h1,h2,h3⟩:=alM hs hf h0
 constructor
 ·intro e v s hv hsv hd
  have:=h3 v s hv hsv
  rw [e] at this
  by_cases c:nC (l.getD v []) s=true
  ·exact c
  ·rw [if_neg c] at this;exact absurd this hd
 ·intro hh
  refine (apC h2.symm fun v s hv hsv=>?_).symm
  rw [h3 v s hv hsv]
  by_cases c:nC (l.getD v []) s=true
  ·rw [if_pos c]
  ·rw [if_neg c]
   exact Classical.byContradiction fun hd=>c (hh v s hv hsv hd)
theorem Ce (k:Bool→Bool→Bool)(x y:List bf):setOf k x y=ext (fun s=>k (nC x s) (nC y s)) 4096:=by unfold setOf;rfl
def ndQ (a b:jc)(l:List (List bf))(v s:Nat):Bool:=(decide (s<(a.getD v []).length)&&dif (a.getD v []) (b.getD v []) s)&&nC (l.getD v []) s
theorem Fp {a b:jc}{l:List (List bf)}(hl:a.length=b.length){v:Nat}(hv:v<a.length):(kW a b l).getD v []=ext (ndQ a b l v) 4096:=by
 have hd:=zi (a:=a) (b:=b) hl
 have e1:(differ a b)[v]?=some (vV a[v] (b[v]'(by omega))):=YK hv (by omega)
 have hvd:v<(differ a b).length:=by omega
 have e2:(kW a b l)[v]?=some (setOf OT (vV a[v] (b[v]'(by omega))) (l.getD v [])):=by
  unfold kW
  rw [DN _ hvd]
  rw [ZD hvd] at e1
  rw [Option.some.inj e1]
 rw [zP,e2,Zbh,Ce]
 refine oG fun s _=>?_
 rw [yD,oQ]
 unfold OT ndQ
 rw [getD_lt hv,getD_lt (show v<b.length by omega)]
theorem Ci {a b:jc}{l:List (List bf)}(hl:a.length=b.length):(kW a b l).length=a.length:=by
 unfold kW;rw [jB,zi hl]
theorem ak8 {a b:jc}{l:List (List bf)}{v s:Nat}(h:(a.getD v []).length≤s):ndQ a b l v s=false:=by
 unfold ndQ;rw [decide_eq_false (by omega)];rfl
theorem UW {a b:jc}{l:List (List bf)}{v:Nat}(h:(a.getD v []).length≤4096):ext (ndQ a b l v) 4096=ext (ndQ a b l v) (a.getD v []).length:=UR h fun s hs=>ak8 hs
theorem ahs {a:jc}{x:List (List bf)}(hl:x.length=a.length)(h:∀ v,v<a.length→qh (x.getD v []) ((a.getD v []).length:Int)=0):nS a x=0:=by
 unfold nS
 rw [if_neg (by omega),if_neg]
 intro hc
 have hm:=Zdy.1 hc
 unfold XB gG at hm
 obtain ⟨i,hi,e⟩:=List.mem_mapIdx.1 hm
 have:=h i (by omega)
 rw [getD_lt hi] at this
 rw [this] at e
 simp at e
theorem abN {a b:jc}{l:List (List bf)}(hl:a.length=b.length)(hr:∀ v∈a,v.length≤4096):nS a (kW a b l)=0:=by
 refine ahs (Ci hl) fun v hv=>?_
 have h1:(a.getD v []).length≤4096:=by rw [getD_lt hv];exact hr _ (Zad hv)
 rw [Fp hl hv,UW h1]
 unfold qh
 rw [if_neg (by omega)]
 exact Um _ _
theorem aht {a b:jc}{l:List (List bf)}(hs:dw a=dw b)(hr:∀ v∈a,v.length≤4096){v s:Nat}(hv:v<a.length)(h:s<(a.getD v []).length) :
  nC ((kW a b l).getD v []) s=true ↔ uU a v s≠uU b v s∧nC (l.getD v []) s=true:=by
 have h1:(a.getD v []).length≤4096:=by rw [getD_lt hv];exact hr _ (Zad hv)
 rw [Fp (oL hs).1 hv,oQ]
 unfold ndQ
 simp only [ZZ,decide_eq_true_eq]
 rw [O8 hs hv h]
 constructor
 ·rintro ⟨_,⟨_,p⟩,q⟩;exact ⟨p,q⟩
 ·rintro ⟨p,q⟩;exact ⟨by omega,⟨h,p⟩,q⟩
theorem XE {a b:jc}{l:List (List bf)}(hs:dw a=dw b)(hr:∀ v∈a,v.length≤4096):differ a b=kW a b l ↔ Hits a b l:=by
 have z:=(oL hs).1
 have hd:∀ v,v<a.length→(differ a b).getD v []=ext (dif (a.getD v []) (b.getD v [])) (a.getD v []).length:=fun v hv=>by
  have e1:=YK (a:=a) (b:=b) hv (by omega)
  rw [zP,e1,getD_lt hv,getD_lt (show v<b.length by omega)]
  exact yD _ _
 constructor
 ·intro e v s hv hsv hne
  have h1:nC ((differ a b).getD v []) s=true:=by
   rw [hd v hv,oQ,decide_eq_true hsv,(O8 hs hv hsv).2 hne];rfl
  rw [e] at h1
  exact ((aht hs hr hv hsv).1 h1).2
 ·intro hh
  have hl:(differ a b).length=(kW a b l).length:=by rw [Ci z,zi z]
  apply Za6 hl
  intro v h1 h2
  have hv:v<a.length:=by rw [zi z] at h1;exact h1
  have h4:(a.getD v []).length≤4096:=by rw [getD_lt hv];exact hr _ (Zad hv)
  have e1:=hd v hv
  have e2:=Fp (l:=l) z hv
  rw [getD_lt h1] at e1
  rw [getD_lt h2,UW h4] at e2
  rw [e1,e2]
  refine oG fun s hs'=>?_
  unfold ndQ
  rw [decide_eq_true hs',Zaf]
  cases hdf:dif (a.getD v []) (b.getD v []) s with
  |false=>rfl
  |true=>rw [hh v s hv hs' ((O8 hs hv hs').1 hdf)];rfl
theorem ak9 (q:Nat→Bool):E8 (ext q 4096)=ext q 4096:=by
 unfold E8
 rw [Ce]
 refine oG fun s hs=>?_
 rw [oQ,decide_eq_true hs,Zaf]
 show (q s || false)=q s
 simp
theorem ala (x:List bf):E8 x=ext (nC x) 4096:=by
 unfold E8
 rw [Ce]
 refine oG fun s hs=>?_
 show (nC x s || false)=nC x s
 simp
theorem apF {α:Type}(g:α→Int)(d:α)(l:List α):(l.map g).sum=((Zaw l.length).map fun i=>g (l.getD i d)).sum:=by
 congr 1
 apply Za6 (by simp)
 intro i h1 h2
 simp only [zb] at h1
 simp only [List.getElem_map,List.getElem_range]
 rw [getD_lt h1]
theorem MF {f g:Nat→Int}:∀ {l:List Nat},(∀ i∈l,f i≤g i)→(l.map f).sum≤(l.map g).sum
 |[],_=>Int.le_refl _
 |x::l,h=>by
  have:=MF (l:=l) fun i hi=>h i (by simp [hi])
  have hx:=h x (by simp)
  simp only [Zap,List.sum_cons]
  omega
theorem abO {f g:Nat→Int}{l:List Nat}(h:∀ i∈l,f i=g i):(l.map f).sum=(l.map g).sum:=by rw [List.map_congr_left h]
theorem YQ {l:List (List bf)}:jC l=((Zaw l.length).map fun i=>jS (E8 (l.getD i []))).sum:=by
 unfold jC;exact apF _ [] l
theorem abP {a b:jc}{l:List (List bf)}(hl:a.length=b.length):jC (kW a b l)=((Zaw a.length).map fun v=>jS (ext (ndQ a b l v) 4096)).sum:=by
 rw [YQ,Ci hl]
 refine abO fun v hv=>?_
 rw [Fp hl (ZaX.1 hv),ak9]
theorem filter_le {p q:Nat→Bool}:∀ {l:List Nat},(∀ s∈l,p s=true→q s=true)→(l.filter p).length≤(l.filter q).length
 |[],_=>zg _
 |x::l,h=>by
  have ih:=filter_le (l:=l) fun s hs=>h s (by simp [hs])
  have hx:=h x (by simp)
  simp only [List.filter_cons]
  cases hp:p x with
  |false=>cases q x<;>simp<;>omega
  |true=>rw [hx hp];simp;omega
theorem alb {a b:jc}{l:List (List bf)}(hl:a.length=b.length)(hll:l.length=a.length):jC (kW a b l)≤jC l:=by
 rw [abP hl,YQ,hll]
 refine MF fun v hv=>?_
 rw [ala,Fa,Fa]
 have:=filter_le (p:=ndQ a b l v) (q:=nC (l.getD v [])) (l:=Zaw 4096) fun s _ h=>by
  unfold ndQ at h
  simp only [ZZ] at h
  exact h.2
 omega
end Go.Proofs.YthccglceomoboaaGreatDoor.V
