/-
  Part 9 of the texts that the statement stands on.
-/
import Derived.Test.YtaaokejjmdbfaaaDoorZ8
set_option linter.all false
namespace Go.Proofs.YtaaokejjmdbfaaaDoor.V
theorem Hg {a b:Pt} (h:∀ v,jM a v=jM b v):∀ n,qL a b n=qL b a n
 |0=>rfl
 |n+1=>by
  have ih:=Hg h n
  unfold qL
  rw [ih,h n]
  congr 2
  unfold xu
  congr 1
  funext k
  unfold mk2
  rw [Bool.or_comm]
theorem abg {l:List Pt} (hf:o7 l=0) {i k:Nat} (h1:i<l.length) (h2:k<l.length):kT l i k=kT l k i:=by
 obtain ⟨g1,g2,g3,g4⟩:=uQ hf
 have hs:=g4 _ (List.getElem_mem h1) _ (List.getElem_mem h2)
 unfold kT
 rw [List.getD_eq_getElem?_getD,List.getD_eq_getElem?_getD,List.getElem?_eq_getElem h1,List.getElem?_eq_getElem h2]
 show qL l[i] l[k] l[i].img.length=qL l[k] l[i] l[k].img.length
 rw [(rC hs).1]
 exact Hg (fun v=>D8 hs v) _
theorem abh {l:List Pt} (hf:o7 l=0):∀ i k (h1:i<l.length) (h2:k<l.length),cal env 34 [eP l[i],eP l[k]]=some [(.int .i64 (kT l i k:Nat),false)]:=fun i k h1 h2=>by
 obtain ⟨g1,g2,g3,g4⟩:=uQ hf
 have m1:=List.getElem_mem h1
 have m2:=List.getElem_mem h2
 have hs:=(rC (g4 _ m1 _ m2)).1
 have q1:=oh (g1 _ m1)
 have q2:=oh (g1 _ m2)
 have l1:=mO q1.2.1
 have e:=aiL (a:=l[i]) (b:=l[k]) q1.2.2.1 (by have:=q2.2.2.1;omega) l1.1 (fun v=>Ed q1.2.1 v)
 unfold kT
 rw [List.getD_eq_getElem?_getD,List.getD_eq_getElem?_getD,List.getElem?_eq_getElem h1,List.getElem?_eq_getElem h2]
 exact e
def tJ (o:List Int) (n:Nat):List Nat:=(List.range n).map fun i=>(o.getD i 0).toNat
theorem Uc {o:List Int} {n i:Nat} (h:i<n):pI (tJ o n) i=(o.getD i 0).toNat:=by
 unfold pI tJ
 rw [List.getD_eq_getElem?_getD,List.getElem?_map,List.getElem?_range h];rfl
theorem abj {o:List Int} {n r:Nat} (hl:o.length=n) (h0:0<n) (h:∀ i,i<n→i≠r→∃ y:Nat,y<n∧o[i]?=some (y:Int)) (hr:r<n) (hrr:o[r]?=some (-1)):okO o (tJ o n) n r∧∀ x∈tJ o n,x<n:=by
 have ha:∀ i,i<n→pI (tJ o n) i<n:=fun i hi=>by
  rw [Uc hi,List.getD_eq_getElem?_getD]
  by_cases c:i=r
  ·subst c;rw [hrr];exact h0
  ·obtain ⟨y,hy,e⟩:=h i hi c
   rw [e];simpa using hy
 refine ⟨⟨hl,by simp [tJ],ha,fun i hi hne=>?_⟩,fun x hx=>?_⟩
 ·rw [Uc hi,List.getD_eq_getElem?_getD]
  obtain ⟨y,hy,e⟩:=h i hi hne
  rw [e];simp
 ·obtain ⟨i,hi,rfl⟩:=List.getElem_of_mem hx
  have hi':i<n:=by simpa [tJ] using hi
  have:=ha i hi'
  unfold pI at this
  rwa [List.getD_eq_getElem?_getD,List.getElem?_eq_getElem hi] at this
theorem Kt {n r i:Nat}:i∈oth n r ↔ i<n∧i≠r:=by
 unfold oth
 rw [List.mem_filter,List.mem_range];simp
theorem aep {l:List Pt} (hf:o7 l=0) {r:Nat} (hr:r<l.length):∃ par sum,Ep l (r:Int)=⟨par,(Ep l (r:Int)).ins,sum⟩∧Xj l (r:Int)=0∧par.length=l.length∧par[r]?=some (-1)∧okO par (tJ par l.length) l.length r∧Eo (tJ par l.length) r l.length=true∧sum=pJ (kT l) (tJ par l.length) r l.length ∧
  (∀ i,i<l.length→i≠r→∃ y:Nat,y<l.length∧par[i]?=some (y:Int))∧∀ f:List Nat,f.length=l.length→(∀ x∈f,x<l.length)→Eo f r l.length=true→sum≤pJ (kT l) f r l.length:=by
 obtain ⟨g1,g2,g3,g4⟩:=uQ hf
 obtain ⟨w1,w2⟩:=Es hf
 have he:Xj l (r:Int)=0:=by unfold Xj;rw [if_pos hf,if_neg (by omega)]
 have hq:Ep l (r:Int)=dQ (kT l) l.length (dw l.length r) (l.length - 1):=by unfold Ep;rw [if_pos he,Int.toNat_natCast]
 obtain ⟨h1,h2,h3,h4,h5,h6,h7⟩:=TW (kT l) hr w2 (fun i k a b=>abg hf a b) (l.length - 1) (by omega)
 obtain ⟨o1,_⟩:=yY (kT l) hr w2 (l.length - 1) (by omega)
 obtain ⟨hp,hc⟩:=aec g2 g3 hr h2 h3
 rw [← hq] at h1 h4 h5 h6 h7 o1
 have hin:∀ i,i<l.length→i≠r→∃ y:Nat,y<l.length∧(Ep l (r:Int)).par[i]?=some (y:Int):=fun i hi hne=>h6 i hi (by
  unfold sZ
  have:i∈pU (kT l) l.length (dw l.length r) (l.length - 1):=hp.mem_iff.2 (Kt.2 ⟨hi,hne⟩)
  rw [List.contains_eq_mem,decide_eq_true this,Bool.or_true]) hne
 obtain ⟨k1,k2⟩:=abj o1 (by omega) hin hr h7
 obtain ⟨c1,_⟩:=hc _ k1.2.1 k2
 obtain ⟨d1,d2⟩:=h4 (tJ (Ep l (r:Int)).par l.length) fun x hx=>by
  obtain ⟨x1,x2⟩:=Kt.1 (hp.mem_iff.1 hx)
  exact k1.2.2.2 x x1 x2
 refine ⟨(Ep l (r:Int)).par,(Ep l (r:Int)).sum,rfl,he,o1,h7,k1,c1 d1,?_,hin,fun f f1 f2 f3=>?_⟩
 ·rw [d2]
  exact Oi hp
 ·obtain ⟨z,z1,z2⟩:=(hc f f1 f2).2 f3
  have:=h5 f z (fun x hx=>by
   obtain ⟨x1,x2⟩:=Kt.1 (z1.mem_iff.1 hx)
   refine ⟨x1,?_⟩
   have UR:x<f.length:=by omega
   unfold pI
   rw [List.getD_eq_getElem?_getD,List.getElem?_eq_getElem UR]
   exact f2 _ (List.getElem_mem UR)) z2
  rw [Oi z1] at this
  exact this
theorem abk {par:List Int} {c n r:Nat} (hl:par.length=n) (hn:0<n) (hr:r<n) (hrr:par[r]?=some (-1)):okO (kU par c n r n) (tJ (kU par c n r n) n) n r∧∀ x∈tJ (kU par c n r n) n,x<n:=by
 refine abj (by rw [jI,hl]) hn (fun i hi hne=>⟨jm c n r i % n,Nat.mod_lt _ hn,?_⟩) hr ?_
 ·rw [List.getElem?_eq_getElem (by rw [jI,hl];exact hi),tq,if_pos ⟨hi,hne⟩]
 ·rw [List.getElem?_eq_getElem (by rw [jI,hl];exact hr),tq,if_neg (by simp)]
  rwa [List.getElem?_eq_getElem (by omega)] at hrr
theorem abl {base:kC} {ls:List (List iW)} (h:Ea base ls=true):Hf base (lN base ls ls.length):=fun k hk=>by
 obtain ⟨h1,h2,h3,h4,h5⟩:=Ec h
 have hkl:k<ls.length:=by rwa [yX] at hk
 have e:kV (lN base ls ls.length) k=uI base (ls.getD k []):=by
  unfold kV
  rw [List.getD_eq_getElem?_getD,List.getElem?_eq_getElem hk,Option.getD_some,aaZ]
  rfl
 have hs:=oD (h5 _ (zM hkl)).1
 rw [e]
 exact ⟨(rC (a:=uI base (ls.getD k [])) (b:=base) hs).1,fun v _=>D8 hs v⟩
theorem ag1 {es:List PV} (hl:es.length≤lim):cal env 35 [.list 1 es]=some [(.list 1 es,true)]:=(II ahX).trans (if_pos ⟨rfl,hl⟩)
set_option maxRecDepth 20000 in
theorem body9 {base:kC} {ls:List (List iW)} {P:List Pt} {a b r n:Nat} (e1:cal env 32 [.list 1 (base.map aY),.list 1 (ls.map Xv)]=some [(.list 4 (P.map eP),true)]) (hn:P.length=n) (h0:1≤n) (h4:n≤4) (ha:a<256) (hb:b<256) (hr:r=a % n)
  (hf:o7 P=0) (hfp:∀ p∈P,WG p) (hB:Hf base P) (hb8:base.length≤8) (hm:∀ v,(base.getD v []).length≤4096) :
  cal env 9 [.list 1 (base.map aY),.list 1 (ls.map Xv),.agg [.int .u8 (a:Int),.int .u8 (b:Int)]]=some [(.bool true,false)]:=by
 have hlim:lim=1073741824:=rfl
 have aw:=Ob
 have hrn:r<n:=by rw [hr];exact Nat.mod_lt _ (by omega)
 obtain ⟨w1,w2⟩:=Es hf
 have hW:=abh hf
 have e2:=ajc (l:=P) (r:=(r:Int)) (by omega) hfp
 obtain ⟨par,sum,q1,q2,q3,q4,q5,q6,q7,q8,q9⟩:=aep hf (r:=r) (by omega)
 rw [q2,q1] at e2
 simp only at e2
 rw [hn] at q3 q5 q6 q7 q8 q9
 have e3:=aeT (l:=P) q5 (by omega) hrn hn w2 hW
 rw [q6,if_pos rfl,← q7] at e3
 have e4:=ag1 (es:=par.map eI) (by rw [List.length_map];omega)
 obtain ⟨k1,k2⟩:=abk (c:=b) q3 (by omega) hrn q4
 have e5:=aeT (l:=P) k1 (by omega) hrn hn w2 hW
 have hle:=q9 _ k1.2.1 k2
 have hre:∀ u,u<n→nJ (tJ par n) (vX (tJ par n) r (n+1) u) u=r:=fun u hu=>by
  have:=List.all_eq_true.1 q6 u (List.mem_range.2 hu)
  unfold rch at this
  simpa using this
 have hL1:=fun (st:St) (cs:List BV) (B0 P0:PV)=>aje (st:=st) (par:=par) (c:=b) (n:=n) (r:=r) (L:=P.map eP) (B0:=B0) (P0:=P0) (sum:=sum) (cs:=cs) q3 h0 (by omega) hb
 rw [Xm,show jm b n r 0=b from rfl] at hL1
 have hL9:=fun (st:St) (cs:List BV)=>aeo (st:=st) (cs:=cs) q5 hn hrn hB hb8 hm (by omega) hre
 have hpl:(P.map eP).length=n:=by rw [List.length_map];exact hn
 have hpr:(par.map eI).length=n:=by rw [List.length_map];exact q3
 have hol:((kU par b n r n).map eI).length=n:=by rw [List.length_map,jI];exact q3
 have hrt:(par.map eI)[r]?=some (.int .i64 (-1)):=by rw [List.getElem?_map,q4];rfl
 have X1:index (.int .i64 ((r:Nat):Int)) n=some r:=ah hrn
 have T1:((a:Int).tmod (n:Int))=(r:Int):=by rw [hr];exact agQ (by omega)
 have Z1:((n:Int)==0)=false:=beq_eq_false_iff_ne.2 (by omega)
 have Z4:((n:Int)=0)=False:=eq_false (by omega)
 have Z2:((0:Int) != 0)=false:=rfl
 have Z5:((n:Int) != (n:Int))=false:=by simp
 have Z6:((-1:Int) != (-1))=false:=rfl
 have Z7:(sum != sum)=false:=by simp
 have Wa:IntKind.i64.wrap (a:Int)=(a:Int):=bF (by omega)
 have Wb:IntKind.i64.wrap (b:Int)=(b:Int):=bF (by omega)
 have I0:index (.int .i64 0) 2=some 0:=rfl
 have I1:index (.int .i64 1) 2=some 1:=rfl
 have ht:(par.map eI).take n=par.map eI:=List.take_of_length_le (by omega)
 have ht2:((kU par b n r n).map eI).take n=(kU par b n r n).map eI:=List.take_of_length_le (by omega)
 have ht3:(P.map eP).take n=P.map eP:=List.take_of_length_le (by omega)
 generalize P.map eP=PL at *
 generalize (kU par b n r n).map eI=OL at *
 generalize par.map eI=PA at *
 cases c:Eo (tJ (kU par b n r n) n) r n with
 |true =>
  rw [c,if_pos rfl] at e5
  have G:=eq_false (show ¬ pJ (kT P) (tJ (kU par b n r n) n) r n<sum by have:=hle c;omega)
  generalize pJ (kT P) (tJ (kU par b n r n) n) r n=TT at *
  rw [au afQ rfl];simp only [fn9,aG,Nat.reduceBEq,Nat.reduceLeDiff,Nat.reduceAdd,List.length_cons,List.length_nil]
  simp only [e1,e2,e3,e4,e5,aw,hpl,hpr,hol,hrt,X1,T1,Z1,Z2,Z4,Z5,Z6,Z7,Wa,Wb,I0,I1,ht,ht2,ht3,G,List.length_map,aB,Nat.reduceMul,Nat.reduceBEq,Nat.reduceLT,Nat.reduceLeDiff,reduceCtorEq,Nat.reduceEqDiff,Nat.reduceAdd,Nat.beq]
  rw [hL1 _ _ _ _ (yF rfl (Nat.le_refl 4) rfl)]
  simp only [e1,e2,e3,e4,e5,aw,hpl,hpr,hol,hrt,X1,T1,Z1,Z2,Z4,Z5,Z6,Z7,Wa,Wb,I0,I1,ht,ht2,ht3,G,List.length_map,aB,Nat.reduceMul,Nat.reduceBEq,Nat.reduceLT,Nat.reduceLeDiff,reduceCtorEq,Nat.reduceEqDiff,Nat.reduceAdd,Nat.beq]
  rw [hL9 _ _ (by simp only [aG,bD,Nat.reduceMul,Nat.reduceBEq,Nat.reduceLT,Nat.reduceLeDiff,Nat.reduceAdd,decide_true,Bool.and_self,Bool.true_and]<;>rfl)]
  simp only [e1,e2,e3,e4,e5,aw,hpl,hpr,hol,hrt,X1,T1,Z1,Z2,Z4,Z5,Z6,Z7,Wa,Wb,I0,I1,ht,ht2,ht3,G,List.length_map,aB,Nat.reduceMul,Nat.reduceBEq,Nat.reduceLT,Nat.reduceLeDiff,reduceCtorEq,Nat.reduceEqDiff,Nat.reduceAdd,Nat.beq]
 |false =>
  rw [c,if_neg (by decide)] at e5
  rw [au afQ rfl];simp only [fn9,aG,Nat.reduceBEq,Nat.reduceLeDiff,Nat.reduceAdd,List.length_cons,List.length_nil]
  simp only [e1,e2,e3,e4,e5,aw,hpl,hpr,hol,hrt,X1,T1,Z1,Z2,Z4,Z5,Z6,Z7,Wa,Wb,I0,I1,ht,ht2,ht3,List.length_map,aB,Nat.reduceMul,Nat.reduceBEq,Nat.reduceLT,Nat.reduceLeDiff,reduceCtorEq,Nat.reduceEqDiff,Nat.reduceAdd,Nat.beq]
  rw [hL1 _ _ _ _ (yF rfl (Nat.le_refl 4) rfl)]
  simp only [e1,e2,e3,e4,e5,aw,hpl,hpr,hol,hrt,X1,T1,Z1,Z2,Z4,Z5,Z6,Z7,Wa,Wb,I0,I1,ht,ht2,ht3,List.length_map,aB,Nat.reduceMul,Nat.reduceBEq,Nat.reduceLT,Nat.reduceLeDiff,reduceCtorEq,Nat.reduceEqDiff,Nat.reduceAdd,Nat.beq]
  rw [hL9 _ _ (by simp only [aG,bD,Nat.reduceMul,Nat.reduceBEq,Nat.reduceLT,Nat.reduceLeDiff,Nat.reduceAdd,decide_true,Bool.and_self,Bool.true_and]<;>rfl)]
  simp only [e1,e2,e3,e4,e5,aw,hpl,hpr,hol,hrt,X1,T1,Z1,Z2,Z4,Z5,Z6,Z7,Wa,Wb,I0,I1,ht,ht2,ht3,List.length_map,aB,Nat.reduceMul,Nat.reduceBEq,Nat.reduceLT,Nat.reduceLeDiff,reduceCtorEq,Nat.reduceEqDiff,Nat.reduceAdd,Nat.beq]
theorem akq {base:kC} {ls:List (List iW)} {a b:Nat} (hw:∀ l∈ls,okW l) (hab:a<256∧b<256):cal env 9 [.list 1 (base.map aY),.list 1 (ls.map Xv),.agg [.int .u8 (a:Int),.int .u8 (b:Int)]]=some [(.bool true,false)]:=by
 have e1:=ai0 (base:=base) (ls:=ls) hw
 obtain ⟨ha,hb⟩:=hab
 by_cases c:Ea base ls=true
 ·unfold ad6 at e1
  rw [if_pos c] at e1
  obtain ⟨g1,g2,g3,g4,g5⟩:=Ec c
  have hpl:=yX base ls ls.length
  exact body9 e1 hpl g3 g4 ha hb rfl (Xf c) (fun p hp=>by
   obtain ⟨i,hi,rfl⟩:=Oa hp
   have q:=(oh (TP (n:=i) (g5 _ (zM hi)).1 (by omega)))
   have q2:=(mO q.2.1).1
   exact ⟨Nat.zero_le _,by have:=q.2.2.1;have hlim:lim=1073741824:=rfl;omega,by have hlim:lim=1073741824:=rfl;omega⟩) (abl c) (mO g2).1 (zL g2)
 ·have aw:=Ob
  have Z0:(((0:Nat):Int)==0)=true:=rfl
  unfold ad6 at e1
  rw [if_neg c,List.map_nil] at e1
  rw [au afQ rfl];simp only [fn9,aG,Nat.reduceBEq,Nat.reduceLeDiff,Nat.reduceAdd,List.length_cons,List.length_nil]
  simp only [e1,aw,Z0,aB,Nat.reduceMul,Nat.reduceBEq,Nat.reduceLT,Nat.reduceLeDiff,reduceCtorEq,Nat.reduceEqDiff,Nat.reduceAdd,Nat.beq]
end Go.Proofs.YtaaokejjmdbfaaaDoor.V

namespace Go.Proofs.YtaaokejjmdbfaaaDoor
open Go.RowKit
section
variable {α:Type} {r:Rep α} {tag:Nat→Nat} {ok:Nat→Prop} {w:World}
theorem bW.put:∀ {l:List α} {i:Nat} {xs:List Value},bW r tag ok w i xs l→∀ {k:Nat} {x:α},l[k]?=some x→∀ (w':World) (c':List Value) (x':α),(∀ b,ok b→tag b≠i+k→w'.heap[b]?=w.heap[b]?) →
  r.rd (fun b=>ok b∧tag b=i+k) w' c' x'→bW r tag ok w' i (xs.take (k * r.sz)++(c'++xs.drop ((k+1) * r.sz))) (l.set k x')
 |[],_,_,_,k,x,hx=>by simp at hx
 |y :: l,i,xs,⟨c,rest,e,h1,h2⟩,0,x,hx=>fun w' c' x' hf hr=>by
  have hl:=r.len h1
  have e1:xs.take (0 * r.sz)++(c'++xs.drop ((0+1) * r.sz))=c'++rest:=by
   rw [Nat.zero_mul,List.take_zero,List.nil_append,Nat.zero_add,Nat.one_mul,e,← hl,List.drop_left]
  rw [e1]
  have:∀ {l:List α} {m:Nat} {xs:List Value},i<m→bW r tag ok w m xs l→bW r tag ok w' m xs l:=by
   intro l
   induction l with
   |nil=>intro m xs _ h;exact h
   |cons z l ih =>
    intro m xs hm h
    obtain ⟨d,rs,e',h3,h4⟩:=h
    exact ⟨d,rs,e',r.frame (fun b hb=>hf b hb.1 (by rw [hb.2];omega)) h3,ih (by omega) h4⟩
  exact ⟨c',rest,rfl,hr,this (Nat.lt_succ_self _) h2⟩
 |y :: l,i,xs,⟨c,rest,e,h1,h2⟩,k+1,x,hx=>fun w' c' x' hf hr=>by
  have hl:=r.len h1
  have ei:i+1+k=i+(k+1):=by omega
  have ih:=h2.put (k:=k) (x:=x) (by simpa using hx) w' c' x' (fun b hb hne=>hf b hb (by rw [← ei];exact hne)) (by rw [ei];exact hr)
  have e1:(k+1) * r.sz=r.sz+k * r.sz:=by rw [Nat.add_mul,Nat.one_mul];omega
  have e2:(k+1+1) * r.sz=r.sz+(k+1) * r.sz:=by rw [Nat.add_mul (k+1),Nat.one_mul];omega
  refine ⟨c,rest.take (k * r.sz)++(c'++rest.drop ((k+1) * r.sz)),?_,r.frame (fun b hb=>hf b hb.1 (by rw [hb.2];omega)) h1,ih⟩
  rw [e1,e2,e,← hl,List.take_length_add_append,List.drop_length_add_append,List.append_assoc,show (k+1) * c.length=c.length+k * c.length by rw [Nat.add_mul,Nat.one_mul];omega]
end
theorem set_mid {xs c:List Value} {s n j:Nat} {u:Value} (hc:c.length=n) (hs:s+n≤xs.length) (h:∀ j,j<n→xs[s+j]?=c[j]?) (hj:j<n):xs.take s++(c.set j u++xs.drop (s+n))=xs.set (s+j) u:=by
 apply List.ext_getElem?
 intro i
 have e1:(xs.take s).length=s:=by rw [List.length_take];omega
 have e2:(c.set j u).length=n:=by rw [List.length_set];exact hc
 by_cases h1:i<s
 ·rw [List.getElem?_append_left (by rw [e1];exact h1),List.getElem?_take,if_pos h1,List.getElem?_set,if_neg (by omega)]
 ·rw [List.getElem?_append_right (by rw [e1];omega),e1]
  by_cases h2:i<s+n
  ·rw [List.getElem?_append_left (by rw [e2];omega),List.getElem?_set,List.getElem?_set]
   by_cases h3:j=i - s
   ·rw [if_pos h3,if_pos (show s+j=i by omega),if_pos (by omega),if_pos (by omega)]
   ·rw [if_neg h3,if_neg (show ¬ s+j=i by omega),← h (i - s) (by omega)]
    congr 1;omega
  ·rw [List.getElem?_append_right (by rw [e2];omega),e2,List.getElem?_drop,List.getElem?_set,if_neg (by omega)]
   congr 1;omega
section
variable {α:Type} {r:Rep α} {B F:Nat} {E:TypeId} {w:World} {v:Value} {l:List α}
theorem jg.put (h:jg r B F E w v l) {k:Nat} {x:α} (hx:l[k]?=some x) :
  ∃ g cap cur c,∃ WQ:Nat→Prop,v=.slice (some ⟨g,0,none⟩) l.length cap∧B≤g∧g<w.heap.size∧w.heap[g]?=some (.cells cur E (0,0))∧(k+1) * r.sz≤cur.size∧(∀ j,j<r.sz→cur[k * r.sz+j]?=c[j]?)∧r.rd WQ w c x∧(∀ b,WQ b→B≤b∧b<w.heap.size∧b≠g) ∧
   ∀ (w':World) (j:Nat) (u:Value) (x':α),j<r.sz→w'.heap[g]?=some (.cells (cur.setIfInBounds (k * r.sz+j) u) E (0,0))→(∀ b,b<w.heap.size→b≠g→¬ WQ b→w'.heap[b]?=w.heap[b]?)→w.heap.size≤w'.heap.size →
    r.rd (fun b=>(WQ b∨w.heap.size≤b)∧b≠g) w' (c.set j u) x'→jg r B w'.heap.size E w' v (l.set k x'):=by
 obtain ⟨tag,xs,h1,h2⟩:=h
 have hk:=(List.getElem?_eq_some_iff.1 hx).1
 obtain ⟨hl,⟨_,h0⟩|⟨g,cap,cur,rfl,hb,hg,hnc,hcm,hcs,ht⟩⟩:=h1
 ·omega
 have hgl:g<w.heap.size:=(Array.getElem?_eq_some_iff.1 hg).1
 have hkn:(k+1) * r.sz≤l.length * r.sz:=Nat.mul_le_mul_right _ (by omega)
 have amq:l.length * r.sz≤cap * r.sz:=Nat.mul_le_mul_right _ hnc
 have e1:(k+1) * r.sz=k * r.sz+r.sz:=by rw [Nat.add_mul,Nat.one_mul]
 obtain ⟨c,h3,h4,_⟩:=h2.live.pick hx
 have hcl:=r.len h4
 have hcur:∀ i,i<l.length * r.sz→cur[i]?=xs[i]?:=fun i hi=>by
  rw [← ht,List.getElem?_take,if_pos hi,Array.getElem?_toList]
 refine ⟨g,cap,cur,c,_,rfl,hb,hgl,hg,by omega,fun j hj=>by rw [hcur _ (by omega),h3 j hj],h4,fun b hb=>⟨hb.1.1.1,hb.1.2,fun e=>hb.1.1.2.2 (by rw [e];rfl)⟩,fun w' j u x' hj hg' hf hsz hr=>?_⟩
 have h5:bW r (fun b=>if w.heap.size≤b then k else tag b) (fun b=>B≤b∧b<w'.heap.size∧b≠g∧(b<w.heap.size→b<F)) w 0 xs l :=
  ((h2.live.retag (tag':=fun b=>if w.heap.size≤b then k else tag b) fun b hb=>by
   show (if w.heap.size≤b then k else tag b)=tag b
   rw [if_neg (by have:=hb.2;omega)]).mono fun b hb=>⟨hb.1.1,by have:=hb.2;omega,fun e=>hb.1.2.2 (by rw [e];rfl),fun _=>hb.1.2.1⟩)
 have h6:=h5.put hx w' (c.set j u) x' (fun b hb hne=>by
  by_cases hbw:b<w.heap.size
  ·refine hf b hbw hb.2.2.1 fun ho=>hne ?_
   show (if w.heap.size≤b then k else tag b)=0+k
   rw [if_neg (by omega)];exact ho.2
  ·exact absurd (show (if w.heap.size≤b then k else tag b)=0+k by rw [if_pos (by omega),Nat.zero_add]) hne) (r.mono (fun b hb=>by
   obtain ⟨⟨h7,h8⟩,h9⟩:=hb
   rcases h7 with h7|h7
   ·refine ⟨⟨h7.1.1.1,h9,h8,fun _=>h7.1.1.2.1⟩,?_⟩
    show (if w.heap.size≤b then k else tag b)=0+k
    rw [if_neg (by have:=h7.1.2;omega)];exact h7.2
   ·refine ⟨⟨by omega,h9,h8,fun e=>by omega⟩,?_⟩
    show (if w.heap.size≤b then k else tag b)=0+k
    rw [if_pos h7,Nat.zero_add]) (r.live hr))
 rw [e1,set_mid hcl (by omega) h3 hj] at h6
 refine ⟨_,xs.set (k * r.sz+j) u,⟨by rw [List.length_set,List.length_set];exact hl,.inr ⟨g,cap,_,by rw [List.length_set],hb,hg',by rw [List.length_set];exact hnc,hcm,by rw [Array.size_setIfInBounds];exact hcs,?_⟩⟩,h6.mono fun b hb=>⟨hb.1,hb.2.1,fun e=>hb.2.2.1 (Option.some.inj e)⟩⟩
 have hA:k * r.sz+j<l.length * r.sz:=by rw [e1] at hkn;omega
 have hB:k * r.sz+j<cur.toList.length:=by rw [Array.length_toList,hcs];omega
 rw [List.length_set,← ht,Array.toList_setIfInBounds]
 apply List.ext_getElem?
 intro i
 rw [List.getElem?_take,List.getElem?_set,List.getElem?_set,List.length_take]
 by_cases hi:i<l.length * r.sz
 ·rw [if_pos hi]
  by_cases c1:k * r.sz+j=i
  ·rw [if_pos c1,if_pos c1,if_pos hB,if_pos (Nat.lt_min.2 ⟨hA,hB⟩)]
  ·rw [if_neg c1,if_neg c1,List.getElem?_take,if_pos hi]
 ·rw [if_neg hi,if_neg (by omega),List.getElem?_take,if_neg hi]
end
def abm {α:Type} (r:Rep α) (E:TypeId):Rep ((Int × Int) × List α) where
 sz:=3
 rd ok w cs x:=∃ v,cs=[.int .i64 x.1.1,.int .i64 x.1.2,v]∧(fH r E).rd ok w [v] x.2
 len h:=by obtain ⟨v,rfl,_⟩:=h;rfl
 mono hk h:=let ⟨v,e,h1⟩:=h;⟨v,e,(fH r E).mono hk h1⟩
 live h:=let ⟨v,e,h1⟩:=h;⟨v,e,(fH r E).live h1⟩
 frame hf h:=let ⟨v,e,h1⟩:=h;⟨v,e,(fH r E).frame hf h1⟩
 one h:=by
  obtain ⟨v,rfl,h1⟩:=h
  intro u hu
  simp only [List.mem_cons,List.not_mem_nil,or_false] at hu
  rcases hu with rfl|rfl|rfl
  ·rfl
  ·rfl
  ·exact (fH r E).one h1 _ (by simp)
end Go.Proofs.YtaaokejjmdbfaaaDoor

namespace Go.Proofs.YtaaokejjmdbfaaaDoor
section
variable {P:Program} {ops:Array Oper} {S:World→Prop} {Q:Act→World→Prop} {f:Nat}
def qy (P:Program) (ops:Array Oper) (S:World→Prop) (f:Nat) (Q:Act→World→Prop):Nat→Array Bool→Act→World→Prop
 |0,l,a,w=>Region.ready .any ops l=[]∧Q a w
 |fuel+1,l,a,w=>(Region.ready .any ops l=[]→Q a w)∧∀ i∈Region.ready .any ops l,wpOp P ops (bZ Q) i (fun a' w'=>((l.setIfInBounds i true).getD f false=true∨S w')∧qy P ops S f Q fuel (l.setIfInBounds i true) a' w') a w
theorem Eu:∀ (fuel:Nat) (l:Array Bool) (a:Act) (w:World),qy P ops S f Q fuel l a w→wpAny P .any ops (bZ Q) fuel l a w
 |0,_,_,_,h=>⟨h.1,rfl,h.2⟩
 |fuel+1,_,_,_,h=>⟨fun h0=>⟨rfl,h.1 h0⟩,fun i hi=>wpOp_mono (fun a' w' h'=>Eu fuel _ a' w' h'.2) (h.2 i hi)⟩
theorem Fg (hsel:Region.noSelect ops=true) {i:Nat} {oi:Oper} {v:Value} (hi:ops[i]?=some oi) (hfi:f≠i)
  (hT:∀ l:Array Bool,l.size=ops.size→Closed ops l→l.getD i false=false→∀ w,(l.getD f false=true∨S w)→S w) :
  ∀ (fuel:Nat) (l:Array Bool) (a:Act) (w:World),l.size=ops.size→Closed ops l→(l.getD f false=true∨S w) →
   (∀ j oj,ops[j]?=some oj→j≠i→l.getD j true=false→(∀ e∈oj.after,Region.binds .any e=true→e.on≠i)→oi.apart ops oj=true) →
   i∈Region.ready .any ops l→YieldsIf P ops S oi v a →
   qy P ops S f Q fuel (l.setIfInBounds i true) (a.put oi.dst v) w→qy P ops S f Q (fuel+1) l a w:=by
 have listed:∀ {l:Array Bool} {w:World},l.size=ops.size→i∈Region.ready .any ops l→(l.getD f false=true∨S w)→((l.setIfInBounds i true).getD f false=true∨S w):=fun hs hr h=>h.imp (fun h=>by rw [fB _ _ _ (dW hs hr),if_neg (Ne.symm hfi)];exact h) id
 have oP:∀ {l:Array Bool},i∈Region.ready .any ops l→l.size=ops.size→l.getD i false=false:=fun h hs=>by
  have h1:=(mem_ready.1 h).1
  have h2:=dW hs h
  simpa [h2] using h1
 intro fuel
 induction fuel with
 |zero =>
  intro l a w hs hc hS _ hr hy H
  refine ⟨fun h=>(by rw [h] at hr;cases hr),fun j hj=>?_⟩
  by_cases hji:j=i
  ·subst hji;exact hy.wpOp hi (hT l hs hc (oP hr hs) w hS) ⟨listed hs hr hS,H⟩
  ·have:=ready_mono hj hji
   rw [H.1] at this
   cases this
 |succ fuel ih =>
  intro l a w hs hc hS hfree hr hy H
  refine ⟨fun h=>(by rw [h] at hr;cases hr),fun j hj=>?_⟩
  by_cases hji:j=i
  ·subst hji;exact hy.wpOp hi (hT l hs hc (oP hr hs) w hS) ⟨listed hs hr hS,H⟩
  ·have h1:=H.2 j (ready_mono hj hji)
   obtain ⟨hjun,oj,hoj,hall⟩:=mem_ready.1 hj
   have hnot:∀ e∈oj.after,Region.binds .any e=true→e.on≠i:=fun e he hb heq=>by
    have h1:=hall e he hb
    rw [heq,oP hr hs] at h1
    cases h1
   have h2:=wpOp_putIf hoj (hfree j oj hoj hji hjun hnot) (fun cs b=>Region.noSelect_spec hsel i oi cs b hi) (fun cs b=>Region.noSelect_spec hsel j oj cs b hoj) (fun c a w h=>by cases h.1) hy h1
   have hs':(l.setIfInBounds j true).size=ops.size:=by simpa using hs
   refine wpOp_mono (fun a' w' h3=>?_) h2
   have hSS:((l.setIfInBounds j true).getD f false=true∨S w'):=h3.2.1.imp (fun h=>by
    rw [fB _ _ _ (by simpa using dW hs hj),fB _ _ _ (dW hs hr),if_neg (Ne.symm hfi)] at h
    rw [fB _ _ _ (dW hs hj)];exact h) id
   refine ⟨hSS,ih (l.setIfInBounds j true) a' w' hs' (hc.set hs hj) hSS (fun k ok hk hki hun hno=>hfree k ok hk hki ?_ hno) (ready_mono hr (Ne.symm hji)) h3.1 ?_⟩
   ·by_cases hjk:j=k
    ·subst hjk;exact hjun
    ·rw [getD_set_ne true hjk] at hun;exact hun
   ·rw [Array.setIfInBounds_comm _ _ hji]
    exact h3.2.2
theorem qN (hsel:Region.noSelect ops=true) {w:World} (hS:S w):∀ (seg:List Nat) (m:Nat) (l l':Array Bool) (a:Act),l.size=ops.size→Closed ops l →
  (∀ i∈seg,f≠i∧vT ops ops.size f i=true)→bK ops seg l=some l' →
  wpQuiet P ops S (fun a'=>∀ (_:l'.size=ops.size) (_:Closed ops l'),qy P ops S f Q m l' a' w) (pick ops seg) a→qy P ops S f Q (m+seg.length) l a w
 |[],m,l,l',a,hs,hc,_,hq,h=>by
  simp only [bK,Option.some.injEq] at hq
  subst hq
  exact h hs hc
 |i :: is,m,l,l',a,hs,hc,hT,hq,h=>by
  unfold bK at hq
  split at hq
  case isFalse=>cases hq
  rename_i hcnd
  simp only [Bool.and_eq_true] at hcnd
  obtain ⟨⟨hp,hf⟩,hr⟩:=hcnd
  have hr':i∈Region.ready .any ops l:=by simpa using hr
  cases ho:ops[i]? with
  |none=>rw [ho] at hp;simp at hp
  |some o =>
   rw [ho] at hp
   simp only [Option.map_some,Option.getD_some] at hp
   simp only [pick,List.filterMap_cons,ho] at h
   unfold wpQuiet at h
   have key:∃ v,YieldsIf P ops S o v a∧wpQuiet P ops S (fun a'=>∀ (_:l'.size=ops.size) (_:Closed ops l'),qy P ops S f Q m l' a' w) (pick ops is) (a.put o.dst v):=by
    split at h
    ·rename_i hw
     obtain ⟨v,h1,h2⟩:=h
     refine ⟨v,.inl ⟨hw,fun w1 hw1=>?_⟩,h2⟩
     have h3:=h1 w1 hw1
     unfold Oper.quietAt at h3
     cases hrun:(execOp a.eval o).run P w1 with
     |halt x w2=>rw [hrun] at h3;exact h3.elim
     |ok x w2 =>
      obtain ⟨y,rfl⟩:=tN hp hrun
      rw [hrun] at h3
      obtain ⟨e1,e2⟩:=h3
      rw [e1,e2]
    ·rename_i hw
     exact ⟨undef,.inr ⟨by simpa using hw,rfl⟩,h⟩
   obtain ⟨v,hy,hk⟩:=key
   have hTi:=hT i (by simp)
   refine Fg hsel ho hTi.1 (fun l _ hc hu w hS=>hS.resolve_left fun hf=>by rw [hc.dep _ _ _ hf hTi.2] at hu;cases hu) (m+is.length) l a w hs hc (.inr hS) (Region.free_spec ho hf) hr' hy ?_
   exact qN hsel hS is m (l.setIfInBounds i true) l' _ (by simpa using hs) (hc.set hs hr') (fun j hj=>hT j (by simp [hj])) hq hk
end
end Go.Proofs.YtaaokejjmdbfaaaDoor

namespace Go.Proofs.YtaaokejjmdbfaaaDoor
section
variable {P:Program} {ops:Array Oper} {S:World→Prop} {Q:Act→World→Prop} {f:Nat}
theorem wH {Q0:Act→World→Prop} {R K:Act→World→Prop} (hK:∀ a w,R a w→K a w) {i:Nat} {a:Act} {w:World} (h:wpList P ops (fun e a'' w''=>e=.normal∧R a'' w'') (pick ops [i]) a w):wpOp P ops (bZ Q0) i K a w:=by
 unfold wpOp
 cases ho:ops[i]? with
 |none =>
  simp only [pick,List.filterMap_cons,ho,List.filterMap_nil] at h
  exact hK _ _ h.2
 |some o =>
  simp only [pick,List.filterMap_cons,ho,List.filterMap_nil] at h
  unfold wpList at h
  simp only
  split at h
  ·rename_i hw
   rw [if_pos hw]
   rcases h with h|⟨_,a0,w0,h0⟩
   ·exact .inl (RY (fun a1 w1 h1=>hK _ _ h1.2) (fun e a1 w1 h1=>h1.1) h)
   ·cases h0.1
  ·rename_i hw
   rw [if_neg hw]
   exact hK _ _ h.2
def Ol (ops:Array Oper) (f:Nat):List (List Nat × Nat)→List Nat→Array Bool→Bool
 |[],bG,l=>bG.all (fun i=>f != i&&vT ops ops.size f i)&&match bK ops bG l with
  |some l1=>(Region.ready .any ops l1==[f])&&(Region.ready .any ops (l1.setIfInBounds f true)).isEmpty
  |none=>false
 |(seg,i) :: more,bG,l=>seg.all (fun i=>f != i&&vT ops ops.size f i)&&f != i&&match bK ops seg l with
  |some l1=>(Region.ready .any ops l1==[i])&&Ol ops f more bG (l1.setIfInBounds i true)
  |none=>false
def vP:List (List Nat × Nat)→List Nat→Nat
 |[],bG=>1+bG.length
 |(seg,_) :: more,bG=>vP more bG+1+seg.length
def Ud (ops:Array Oper) (acts:List (List Nat × Nat)) (bG:List Nat) (f:Nat):Bool :=
 Region.noSelect ops&&(vP acts bG==ops.size)&&Ol ops f acts bG (Array.replicate ops.size false)
def qO (P:Program) (ops:Array Oper) (S:World→Prop) (Q:Act→World→Prop) (f:Nat):List (List Nat × Nat)→List Nat→Act→World→Prop
 |[],bG,a,w=>wpQuiet P ops S (fun a'=>wpList P ops (fun e a'' w''=>e=.normal∧Q a'' w'') (pick ops [f]) a' w) (pick ops bG) a
 |(seg,i) :: more,bG,a,w=>wpQuiet P ops S (fun a'=>wpList P ops (fun e a'' w''=>e=.normal∧S w''∧qO P ops S Q f more bG a'' w'') (pick ops [i]) a' w) (pick ops seg) a
theorem Ew {seg:List Nat} {i:Nat} {more:List (List Nat × Nat)} {bG:List Nat} {a:Act} {w:World}
  (h:wpQuiet P ops S (fun a'=>wpList P ops (fun e a'' w''=>e=.normal∧S w''∧qO P ops S Q f more bG a'' w'') (pick ops [i]) a' w) (pick ops seg) a):qO P ops S Q f ((seg,i) :: more) bG a w:=by
 unfold qO;exact h
theorem Om {bG:List Nat} {a:Act} {w:World} (h:wpQuiet P ops S (fun a'=>wpList P ops (fun e a'' w''=>e=.normal∧Q a'' w'') (pick ops [f]) a' w) (pick ops bG) a):qO P ops S Q f [] bG a w:=by
 unfold qO;exact h
theorem Ey (hsel:Region.noSelect ops=true):∀ (acts:List (List Nat × Nat)) (bG:List Nat) (l:Array Bool) (a:Act) (w:World),l.size=ops.size→Closed ops l→Ol ops f acts bG l=true→S w →
  qO P ops S Q f acts bG a w→qy P ops S f Q (vP acts bG) l a w
 |[],bG,l,a,w,hs,hc,hB,hS,h=>by
  unfold Ol at hB
  simp only [Bool.and_eq_true] at hB
  obtain ⟨hsg,hB⟩:=hB
  split at hB
  case h_2=>cases hB
  rename_i l1 hq
  simp only [Bool.and_eq_true,beq_iff_eq] at hB
  obtain ⟨hr,he⟩:=hB
  unfold qO at h
  exact qN (P:=P) (S:=S) (Q:=Q) (f:=f) hsel hS bG 1 l l1 a hs hc (fun i hi=>by
   have:=List.all_eq_true.1 hsg i hi
   simpa using this) hq (dA (fun a' h' hs1 hc1=>⟨fun h0=>(by rw [hr] at h0;cases h0),fun j hj=>by
    have hj':=hj
    rw [hr] at hj
    obtain rfl:j=f:=by simpa using hj
    exact wH (fun a2 w2 h2=>⟨.inl (by rw [fB _ _ _ (dW hs1 hj'),if_pos rfl]),by simpa using he,h2⟩) h'⟩) _ _ h)
 |(seg,i) :: more,bG,l,a,w,hs,hc,hB,hS,h=>by
  unfold Ol at hB
  simp only [Bool.and_eq_true,bne_iff_ne] at hB
  obtain ⟨⟨hsg,hfi⟩,hB⟩:=hB
  split at hB
  case h_2=>cases hB
  rename_i l1 hq
  simp only [Bool.and_eq_true,beq_iff_eq] at hB
  obtain ⟨hr,hB⟩:=hB
  unfold qO at h
  exact qN (P:=P) (S:=S) (Q:=Q) (f:=f) hsel hS seg (vP more bG+1) l l1 a hs hc (fun i hi=>by
   have:=List.all_eq_true.1 hsg i hi
   simpa using this) hq (dA (fun a' h' hs1 hc1=>⟨fun h0=>(by rw [hr] at h0;cases h0),fun j hj=>by
    have hj':=hj
    rw [hr] at hj
    obtain rfl:j=i:=by simpa using hj
    exact wH (fun a2 w2 h2=>⟨.inr h2.1,Ey hsel more bG _ _ _ (by simpa using hs1) (hc1.set hs1 hj') hB h2.1 h2.2⟩) h'⟩) _ _ h)
theorem Ez {id:Nat} {l:List Oper} {a:Act} {w:World} {Q:Exit→Act→World→Prop} (S:World→Prop) (acts:List (List Nat × Nat)) (bG:List Nat) (f:Nat) (hm:P.follows .mixedOrders=true) (hB:Ud l.toArray acts bG f=true) (hS:S w.drew)
  (h:qO P l.toArray S (Q .normal) f acts bG a w.drew):(Code.region id l.toArray true).wp P Q a w:=by
 simp only [Ud,Bool.and_eq_true,beq_iff_eq] at hB
 obtain ⟨⟨hsel,hn⟩,hB⟩:=hB
 refine Code.wp_mono (Q:=bZ (Q .normal)) (fun e a w h=>by obtain ⟨rfl,h⟩:=h;exact h) (wp_region_any hm ?_)
 have:=Eu _ _ _ _ (Ey hsel acts bG (Array.replicate l.toArray.size false) a _ (by simp) (fun m o hm=>absurd hm (by rw [Array.getD_eq_getD_getElem?,Array.getElem?_replicate];split<;>simp)) hB hS h)
 rw [hn] at this
 exact this
end
end Go.Proofs.YtaaokejjmdbfaaaDoor

namespace Go.Proofs.YtaaokejjmdbfaaaDoor
open Go.RowKit V
def dR:Rep Run:=abm nK 78
theorem yZ {P:Program} {ops:Array Oper} {rest:List Oper} {o:Oper} {a:Act} {w:World} {Q:Exit→Act→World→Prop} {ty:TypeId} {x:Operand} {ad:Addr} {v:Value} (hgd:o.guard=none) (ho:o.op=.load ty x) (hx:a.eval x=.pointer (some ad))
  (hl:(loadVar ty ad).run P w=.ok v w) (h:wpList P ops Q rest (a.put o.dst v) w):wpList P ops Q (o :: rest) a w :=
 wpList_plain hgd fun _ hK=>by
  unfold Oper.wp execOp
  simp only [ho,hx,Instr.loadAt,Instr.sureAddr,Sem.run_bind,Sem.run_pure,Result.andThen_ok,hl]
  exact hK _ _ h
theorem atc {w:World} {b j:Nat} {arr:Array Value} {E:TypeId} {v:Value} (h:w.heap[b]?=some (.cells arr E (0,0))) (hj:arr[j]?=some v):w.cell? ⟨b,j,none⟩=some v:=by rw [cell_of_row _ _ _ _ _ (0,0) h];exact hj
theorem RS (x:dY):List.foldl (fun cs (p:Value × Nat)=>cs.setIfInBounds p.2 p.1) #[Value.int .u8 0,.int .u8 0,.int .u8 0,.int .u8 0,.int .u8 0,.int .u8 0,.int .u8 0,.int .u8 0] (aZ x).zipIdx=(aZ x).toArray:=by
 have h:=eU x
 generalize aZ x=l at *
 match l,h with
 |[a,b,c,d,e,f,g,h],_=>simp only [List.zipIdx_cons,List.zipIdx_nil,List.foldl_cons,List.foldl_nil,List.setIfInBounds_toArray,List.set_cons_zero,List.set_cons_succ,Nat.zero_add,Nat.reduceAdd]
theorem ag2 (w:World) (B:Nat) (hB:B≤w.heap.size) (x:dY):Own nK B 78 (fun _=>False) (w.alloc (.cells (aZ x).toArray 78)) (.slice (some ⟨w.heap.size,0,none⟩) 1 1) [x] :=
 ⟨aZ x,World.ownsRow_lit w (aZ x).toArray 1 hB (by decide) (by rw [List.size_toArray,eU];rfl),aZ x,[],by simp,rfl,rfl⟩
theorem ag3 (w:World) (x:dY) {ok:Nat→Prop}:Src nK ok (w.alloc (.cells (aZ x).toArray 78)) (some ⟨w.heap.size,0,none⟩) 1 1 [x] :=
 ⟨rfl,fun e=>(by cases e),aZ x,fun ad e j u h=>(by cases e;exact yO w 78 (aZ x).toArray j u h),aZ x,[],(by simp),rfl,rfl⟩
theorem Own.ajg {B:Nat} {E:TypeId} {w w':World} {v:Value} {l:List dY} {g:Nat} (h:Own nK B E (fun _=>False) w v l) (hg:w.grownBy w' (some g)) (hne:v.ownBlock≠some g):Own nK B E (fun _=>False) w' v l:=by
 obtain ⟨xs,h1,h2⟩:=h
 exact ⟨xs,h1.kept hg (by cases hv:v.ownBlock<;>simp_all),(Chunks.flat Flat.sec h2)⟩
theorem ajh (w:World) {b j:Nat} {v:Value} {arr:Array Value} {E:TypeId} (h:w.heap[b]?=some (.cells arr E)):(w.setCell ⟨b,j,none⟩ v).heap[b]?=some (.cells (arr.setIfInBounds j v) E):=by
 simp only [World.setCell,Array.getElem?_modify,if_true,h,Option.map_some];rfl
theorem aeU (w:World) (a:Addr) (v:Value):(w.setCell a v).heap.size=w.heap.size:=by simp only [World.setCell,Array.size_modify]
theorem aks (w:World) (g j:Nat) (v:Value):w.grownBy (w.setCell ⟨g,j,none⟩ v) (some g) :=
 ⟨rfl,rfl,rfl,by rw [aeU];exact Nat.le_refl _,fun k _ hne=>Below.heap_setCell w _ v k fun e=>hne (by rw [e])⟩
theorem Tryd.aji {ok:Nat→Prop} {w:World} {b off n c k g:Nat} {l:List dY} {x:dY} (h:Sl nK ok w (some ⟨b,off,none⟩) n c l) (hx:l[k]?=some x) (hb:b<w.heap.size) (hne:b≠g) :
  ∀ w',(∃ y:kK w g,w'=y.w)→(loadVar 78 ⟨b,off+k * 8,none⟩).run Tryd.prog w'=.ok (.agg (aZ x).toArray) w':=by
 rintro _ ⟨y,rfl⟩
 refine Tryd.TD fun j hj=>?_
 rw [mP (g:=g) (w:=w) (a:=⟨b,off+k * 8+j,none⟩) (v:=(aZ x)[j]'(by rw [eU];exact hj)) ?_ hne y,List.getElem?_eq_getElem]
 rw [h.sec hx j hj,List.getElem?_eq_getElem]
theorem abn {w:World} (B:Nat) (hB:B≤w.heap.size) (v i:Int) (x:dY):dR.rd (B≤·) (w.alloc (.cells (aZ x).toArray 78)) [.int .i64 v,.int .i64 i,.slice (some ⟨w.heap.size,0,none⟩) 1 1] ((v,i),[x]) :=
 ⟨_,rfl,fH.mk (ag2 w B hB x) (fun e=>by cases e)⟩
set_option maxRecDepth 100000 in
set_option maxHeartbeats 4000000 in
theorem aer {a1 a2:Option Addr} {n1 c1 n2 c2:Nat} {A B:List dY} {ok1 ok2:Nat→Prop} {w:World} (h1:Sl nK ok1 w a1 n1 c1 A) (h2:Sl nK ok2 w a2 n2 c2 B) {v:Int} {s m:Nat} (hv:kW v) (hA:s+m≤A.length) (hB:s+m≤B.length) (hA6:A.length≤1000000) :
  Calls Tryd.prog 64 #[.int .i64 v,.slice a1 n1 c1,.slice a2 n2 c2,.agg #[.int .i64 s,.int .i64 m]] w (fun e w'=>∃ u,e=.returned u∧jg dR (w.heap.size+1) w'.heap.size 87 w' u (Oy v A B s m)∧(Oy v A B s m=[]→u=.slice none 0 0)∧Below w.heap.size w w'):=by
 obtain ⟨W,hW⟩:∃ W,w.alloc (.cells #[.int .i64 s,.int .i64 m] 83)=W:=⟨_,rfl⟩
 have hB0:Below w.heap.size w W:=by rw [← hW];exact (Below.refl _ _).alloc (Nat.le_refl _) _
 have hsz:W.heap.size=w.heap.size+1:=by rw [← hW];simp
 have hbox:∀ j,W.cell? ⟨w.heap.size,j,none⟩=#[Value.int .i64 s,.int .i64 m][j]?:=fun j=>by
  rw [← hW,World.cell?_alloc_mark w _ _ (0,0) j]
 have hsm:s+m≤1000000:=by omega
 have hl1:=h1.len
 have hl2:=h2.len
 have HL1:=Lib.hid hl1;clear hl1
 have HL2:=Lib.hid hl2;clear hl2
 go_enter Tryd.func64,Tryd.ntmps64
 go_wp2_with fail
 try rw [hW]
 go_loopw [9,10] (fun u i wr=>∃ k:Nat,k≤m∧i=.int .i64 ((s+k:Nat):Int)∧jg dR W.heap.size wr.heap.size 87 wr u (Oy v A B s k)∧(Oy v A B s k=[]→u=.slice none 0 0)∧Below W.heap.size W wr) (fun _ i _=>(s+m) - (intOf i).toNat)
 case atStart=>exact ⟨0,Nat.zero_le _,rfl,jg.nil _ _ _ _ _,fun _=>rfl,Below.refl _ _⟩
 case round =>
  obtain ⟨k,hk,rfl,hown,hnil,hBw⟩:=hrel
  have hc0:=(hBw.cell (p:=⟨w.heap.size,0,none⟩) (by show w.heap.size<_;omega)).trans (hbox 0)
  have hc1:=(hBw.cell (p:=⟨w.heap.size,1,none⟩) (by show w.heap.size<_;omega)).trans (hbox 1)
  by_cases hlt:k<m
  ·have hkA:s+k<A.length:=by omega
   have hkB:s+k<B.length:=by omega
   obtain ⟨b1,o1,rfl,hb1,hr1⟩:=h1.addr (by have:=HL1.out;omega:s+k<n1)
   obtain ⟨b2,o2,rfl,hb2,hr2⟩:=h2.addr (by have:=HL2.out;omega:s+k<n2)
   obtain ⟨x,hx⟩:∃ x,A[s+k]?=some x:=⟨_,List.getElem?_eq_getElem hkA⟩
   obtain ⟨y,hy⟩:∃ y,B[s+k]?=some y:=⟨_,List.getElem?_eq_getElem hkB⟩
   have hBw2:=hB0.trans (hBw.mono hB0.size)
   have hL1:=Tryd.NZ (h1.below hBw2) hx
   have hL2:=Tryd.NZ (h2.below hBw2) hy
   have hE:=Tryd.aiR x y
   have ams:s+k<n1:=by have:=HL1.out;omega
   have hkn2:s+k<n2:=by have:=HL2.out;omega
   have HX:=Lib.hid hx
   have HY:=Lib.hid hy
   clear hx hy
   have hok:=QJ v A B s k
   have hnext:Oy v A B s (k+1)=stR v A B (Oy v A B s k) (s+k):=rfl
   have HN:=Lib.hid hnext;clear hnext
   cases hxy:x==y with
   |true =>
    rw [hxy] at hE
    have HE:=Lib.hid hxy
    clear hxy
    go_wp2_with fail
    refine fJ (fun w'=>∃ x:Later (wr),w'=x.w) [] [0,1,2,3,4,5,6,7,8] Tryd.mixed (by kernel_rfl) (lT.drew _) ?_
    refine iQ ?_
    simp only [pick,List.filterMap_cons,List.filterMap_nil,List.getElem?_toArray,List.getElem?_cons_succ,List.getElem?_cons_zero]
    change wpQuiet _ _ _ _ (_ :: _ :: _ :: _ :: _ :: _ :: _ :: _ :: _ :: []) _
    repeat (first|(go_big_quiet_want;refine iU _ (.tmp 25) rfl _ rfl _ hL1 ?_;go_big_quiet_on;simp only [Act.put,List.setIfInBounds_toArray,List.set_cons_zero,List.set_cons_succ])|(go_big_quiet_want;refine iU _ (.tmp 29) rfl _ rfl _ hL2 ?_;go_big_quiet_on;simp only [Act.put,List.setIfInBounds_toArray,List.set_cons_zero,List.set_cons_succ])|go_big_quiet_step (fail))
    refine wpQuiet_nil ?_
    go_wp2
    go_roundw
    case rel=>exact ⟨k+1,by omega,by go_num,by
     rw [HN.out,stR,if_pos (by rw [HX.out,HY.out,eq_of_beq HE.out])]
     exact hown.below ((Below.refl _ _).drew),fun e=>hnil (by rw [HN.out,stR,if_pos (by rw [HX.out,HY.out,eq_of_beq HE.out])] at e;exact e),hBw.drew⟩
    case measure=>simp [intOf];omega
   |false =>
    rw [hxy] at hE
    have HE:=Lib.hid hxy
    clear hxy
    have hst:stR v A B (Oy v A B s k) (s+k)=EY v (s+k) x (Oy v A B s k):=by
     rw [stR,if_neg (by rw [HX.out,HY.out];intro e;rw [Option.some.inj e,beq_self_eq_true] at HE;exact absurd HE.out (by decide)),List.getD_eq_getElem?_getD,HX.out];rfl
    have HS:=Lib.hid hst;clear hst
    have hL9:=hL1 wr.drew.drew (lT.of ((Below.refl _ _).drew.drew))
    generalize hO:Oy v A B s k=out at hown hok
    have HO:=Lib.hid hO;clear hO
    have h8:=eU x
    have hnews:∀ (j:Nat) (u:Value),[Value.int .i64 v,.int .i64 ((s:Int)+k),.slice (some ⟨wr.drew.drew.heap.size,0,none⟩) 1 1][j]?=some u→((wr.drew.drew.alloc (.cells (aZ x).toArray 78)).alloc (.cells #[.int .i64 v,.int .i64 ((s:Int)+k),.slice (some ⟨wr.drew.drew.heap.size,0,none⟩) 1 1] 87)).cell? ((⟨wr.heap.size+1,0,none⟩:Addr).add j)=some u:=by
     have h:=yO (wr.drew.drew.alloc (.cells (aZ x).toArray 78)) 87 #[.int .i64 v,.int .i64 ((s:Int)+k),.slice (some ⟨wr.drew.drew.heap.size,0,none⟩) 1 1]
     rw [World.size_alloc] at h
     exact h
    have wE:=hown.lt
    have hz:=hBw.size
    have hBa:Below wr.heap.size wr ((wr.drew.drew.alloc (.cells (aZ x).toArray 78)).alloc (.cells #[.int .i64 v,.int .i64 ((s:Int)+k),.slice (some ⟨wr.drew.drew.heap.size,0,none⟩) 1 1] 87)):=((Below.refl _ _).drew.drew.alloc (Nat.le_refl _) _).alloc (by rw [World.size_alloc];exact Nat.le_succ _) _
    cases hn:out.length with
    |zero =>
     have he:out=[]:=List.eq_nil_of_length_eq_zero hn
     subst he
     obtain ⟨a9,n9,c9,rfl,hs9⟩:=hown.sl
     obtain rfl:n9=0:=hs9.len.symm
     go_wp2_with fail
     refine fJ (fun w'=>∃ x:Later (wr),w'=x.w) [] [0,1,2,3,4,5,6,7,8] Tryd.mixed (by kernel_rfl) (lT.drew _) ?_
     refine iQ ?_
     simp only [pick,List.filterMap_cons,List.filterMap_nil,List.getElem?_toArray,List.getElem?_cons_succ,List.getElem?_cons_zero]
     change wpQuiet _ _ _ _ (_ :: _ :: _ :: _ :: _ :: _ :: _ :: _ :: _ :: []) _
     repeat (first|(go_big_quiet_want;refine iU _ (.tmp 25) rfl _ rfl _ hL1 ?_;go_big_quiet_on;simp only [Act.put,List.setIfInBounds_toArray,List.set_cons_zero,List.set_cons_succ])|(go_big_quiet_want;refine iU _ (.tmp 29) rfl _ rfl _ hL2 ?_;go_big_quiet_on;simp only [Act.put,List.setIfInBounds_toArray,List.set_cons_zero,List.set_cons_succ])|go_big_quiet_step (fail))
     refine wpQuiet_nil ?_
     go_wp2_with fail
     refine fJ (fun w'=>∃ x:Later (wr.drew),w'=x.w) [] [0,1,2,3,4,5,6,7,8,9,10,11,12,13,14,15,16,17,18,19] Tryd.mixed (by kernel_rfl) (lT.drew _) ?_
     refine iQ ?_
     simp only [pick,List.filterMap_cons,List.filterMap_nil,List.getElem?_toArray,List.getElem?_cons_succ,List.getElem?_cons_zero]
     change wpQuiet _ _ _ _ (_ :: _ :: _ :: _ :: _ :: _ :: _ :: _ :: _ :: _ :: _ :: _ :: _ :: _ :: _ :: _ :: _ :: _ :: _ :: _ :: []) _
     repeat (go_big_quiet_step (fail))
     refine wpQuiet_nil ?_
     go_wp2_with (first|refine yZ rfl rfl rfl hL9 ?_|(at_builtin;refine Hid.out ?_))
     refine Lib.hid ?_
     simp only [RS x]
     refine qw (r:=dR) (w:=(wr.drew.drew.alloc (.cells (aZ x).toArray 78)).alloc (.cells #[.int .i64 v,.int .i64 ((s:Int)+k),.slice (some ⟨wr.drew.drew.heap.size,0,none⟩) 1 1] 87)) Tryd.aiQ rfl _ _ rfl rfl (hown.below hBa) rfl hnews (yP (abn (w:=wr.drew.drew) wr.heap.size (Nat.le_refl _) v ((s:Int)+k) x)) ?c5 ?c1 ?c2 ?c3 ?c4 ?_
     case c5=>exact fun k hk=>(wE k hk).2
     case c1=>unfold maxLen;omega
     case c2=>omega
     case c3=>omega
     case c4=>simp;omega
     intro v' w2 hown1 hgrow _
     go_wp2
     go_roundw
     case rel=>exact ⟨k+1,by omega,by go_num,by
      rw [HN.out,HS.out,HO.out,EY,if_neg (fun h=>absurd h.1 (Nat.lt_irrefl _))]
      rw [Int.natCast_add]
      exact hown1,fun e=>absurd e (by rw [HN.out,HS.out];exact IV),hBw.trans ((hBa.mono hBw.size).trans (grown_below hgrow (Nat.le_trans hBw.size hBa.size) (fun k hk=>(wE k hk).1)))⟩
     case measure=>simp [intOf];omega
    |succ n =>
     have hx9:out[n]?=some (wB out):=by
      unfold wB
      rw [hn,Nat.add_sub_cancel,List.getD_eq_getElem?_getD,List.getElem?_eq_getElem (by omega)];rfl
     obtain ⟨g,cap,cur,cc,WQ,rfl,hBg,hg,hgc,hcs,hcc,hrd,agy,hput⟩:=hown.put hx9
     obtain ⟨hv0,hv1,hv2,hv3⟩:=hok.1 _ (Gu (by omega))
     have hown0:=hown
     obtain ⟨vd,rfl,hvd⟩:=hrd
     rcases hLR:wB out with ⟨⟨Lv,Ls⟩,Ld⟩
     have HLR:=Lib.hid hLR
     rw [hLR] at hv0 hv1 hv2 hv3 hvd hcc hput
     clear hLR
     simp only at hv0 hv1 hv2 hv3
     obtain rfl:v=Lv:=hv0.symm
     obtain ⟨ad,nd,cd,rfl,hsd⟩:=fH.sl Flat.sec hvd
     have hnd:=hsd.len
     have ce0:wr.cell? ⟨g,n * 3+1,none⟩=some (.int .i64 Ls):=atc hgc ((hcc 1 (by decide)).trans rfl)
     have ce1:wr.cell? ⟨g,n * 3+2,none⟩=some (.slice ad nd cd):=atc hgc ((hcc 2 (by decide)).trans rfl)
     rw [hn] at hown
     rw [hn]
     have k0:=vM (vM ce0 ⟨wr.drew,(Below.refl _ _).drew⟩)
     have k1:=vM (vM ce1 ⟨wr.drew,(Below.refl _ _).drew⟩)
     by_cases hend:Ls+(Ld.length:Int)=((s+k:Nat):Int)
     ·obtain ⟨_,e,hblk,aeV,_⟩:=hvd
      cases e
      obtain ⟨gi,rfl,hgi⟩:∃ gi,ad=some ⟨gi,0,none⟩∧WQ gi:=by
       obtain ⟨xs,hrow,_⟩:=aeV
       rcases hrow.2 with ⟨_,h0⟩|⟨gi,J3,cur',hvu,_⟩
       ·exact absurd (List.eq_nil_of_length_eq_zero h0) hv3
       ·cases hvu;exact ⟨gi,rfl,hblk gi rfl⟩
      obtain ⟨aku,amw,ag4⟩:=agy gi hgi
      have ajj:Below wr.heap.size wr wr.drew.drew:=(Below.refl _ _).drew.drew
      have ce2:=(ajj.cell (p:=⟨g,n * 3+2,none⟩) hg).trans ce1
      have kb:=mP (g:=gi) ce2 (Ne.symm ag4)
      have hLb:=Tryd.aji (g:=gi) (h1.below (hBw2.trans (ajj.mono hBw2.size))) HX.out (show b1<wr.heap.size by have:=hBw2.size;omega) (show b1≠gi by omega)
      go_wp2_with fail
      refine fJ (fun w'=>∃ x:Later (wr),w'=x.w) [] [0,1,2,3,4,5,6,7,8] Tryd.mixed (by kernel_rfl) (lT.drew _) ?_
      refine iQ ?_
      simp only [pick,List.filterMap_cons,List.filterMap_nil,List.getElem?_toArray,List.getElem?_cons_succ,List.getElem?_cons_zero]
      change wpQuiet _ _ _ _ (_ :: _ :: _ :: _ :: _ :: _ :: _ :: _ :: _ :: []) _
      repeat (first|(go_big_quiet_want;refine iU _ (.tmp 25) rfl _ rfl _ hL1 ?_;go_big_quiet_on;simp only [Act.put,List.setIfInBounds_toArray,List.set_cons_zero,List.set_cons_succ])|(go_big_quiet_want;refine iU _ (.tmp 29) rfl _ rfl _ hL2 ?_;go_big_quiet_on;simp only [Act.put,List.setIfInBounds_toArray,List.set_cons_zero,List.set_cons_succ])|go_big_quiet_step (fail))
      refine wpQuiet_nil ?_
      go_wp2_with fail
      refine fJ (fun w'=>∃ x:Later (wr.drew),w'=x.w) [] [0,1,2,3,4,5,6,7,8,9,10,11,12,13,14,15,16,17,18,19] Tryd.mixed (by kernel_rfl) (lT.drew _) ?_
      refine iQ ?_
      simp only [pick,List.filterMap_cons,List.filterMap_nil,List.getElem?_toArray,List.getElem?_cons_succ,List.getElem?_cons_zero]
      change wpQuiet _ _ _ _ (_ :: _ :: _ :: _ :: _ :: _ :: _ :: _ :: _ :: _ :: _ :: _ :: _ :: _ :: _ :: _ :: _ :: _ :: _ :: _ :: []) _
      repeat (go_big_quiet_step (fail))
      refine wpQuiet_nil ?_
      go_wp2_with fail
      refine Ez (fun w'=>∃ x:kK (wr.drew.drew) (gi),w'=x.w) [([0,1,2,3,4,5,6,7,8,9,10,11,12],13),([],14)] [15,16] 17 Tryd.mixed (by kernel_rfl) (kK.drew _ _) ?_
      refine Ew ?_
      simp only [pick,List.filterMap_cons,List.filterMap_nil,List.getElem?_toArray,List.getElem?_cons_succ,List.getElem?_cons_zero]
      change wpQuiet _ _ _ _ (_ :: _ :: _ :: _ :: _ :: _ :: _ :: _ :: _ :: _ :: _ :: _ :: _ :: []) _
      repeat (first|(go_big_quiet_want;refine iU _ (.tmp 65) rfl _ rfl _ hLb ?_;go_big_quiet_on;simp only [Act.put,List.setIfInBounds_toArray,List.set_cons_zero,List.set_cons_succ])|go_big_quiet_step (fail))
      refine wpQuiet_nil ?_
      change wpList _ _ _ [_] _ _
      go_wp2_with fail
      simp only [RS x]
      obtain ⟨w10,abo⟩:∃ w10,wr.drew.drew.drew.alloc (.cells (aZ x).toArray 78)=w10:=⟨_,rfl⟩
      rw [show (wr.alloc (.cells (aZ x).toArray 78)).drew.drew.drew=w10 from abo]
      have aes:Below wr.heap.size wr w10:=by rw [← abo];exact (Below.refl _ _).drew.drew.drew.alloc (Nat.le_refl _) _
      have hs10:w10.heap.size=wr.heap.size+1:=by rw [← abo];exact World.size_alloc ..
      have ajk:wr.drew.drew.grownBy w10 (some gi):=WO (by rw [← abo];exact below_grown (((Below.refl _ wr.drew.drew).drew).alloc (Nat.le_refl _) _))
      refine ⟨kK.of ajk,?_⟩
      refine Ew ?_
      simp only [pick,List.filterMap_cons,List.filterMap_nil,List.getElem?_toArray,List.getElem?_cons_succ,List.getElem?_cons_zero]
      change wpQuiet _ _ _ _ ([]) _
      repeat (go_big_quiet_step (fail))
      refine wpQuiet_nil ?_
      change wpList _ _ _ [_] _ _
      refine wI (r:=nK) (B:=0) (ok:=fun _=>False) (w:=w10) Tryd.aaF rfl _ _ rfl rfl (aeV.below aes) rfl (by rw [← abo];exact ag3 wr.drew.drew.drew x) ?c1 ?c2 ?c3 ?_
      case c1=>unfold maxLen;omega
      case c2=>omega
      case c3=>exact Nat.zero_le _
      intro v' w11 abp vS Ku
      obtain ⟨a11,n11,c11,rfl,alR⟩:=abp.sl
      go_wp2_with fail
      refine ⟨kK.of (Ar ajk vS),?_⟩
      have A11:w11.heap[g]?=some (.cells cur 87 (0,0)):=(vS.block g (by omega) (fun e=>by cases e;exact ag4 rfl)).trans ((aes.block g hg).trans hgc)
      have amy:w11.cell? ⟨g,n * 3+2,none⟩=some (.slice (some ⟨gi,0,none⟩) nd cd):=atc A11 ((hcc 2 (by decide)).trans rfl)
      have amA:w11.frozen? ⟨g,n * 3+2,none⟩=false:=by simp only [World.frozen?,A11,decide_eq_false (Nat.not_lt_zero _),Bool.and_false]
      refine Om ?_
      simp only [pick,List.filterMap_cons,List.filterMap_nil,List.getElem?_toArray,List.getElem?_cons_succ,List.getElem?_cons_zero]
      change wpQuiet _ _ _ _ (_ :: _ :: []) _
      repeat (go_big_quiet_step (fail))
      refine wpQuiet_nil ?_
      change wpList _ _ _ [_] _ _
      go_wp2_with fail
      have hQ:=aks w11 g (n * 3+2) (.slice a11 n11 c11)
      have hgb:∀ b:Nat,(Value.slice a11 n11 c11).ownBlock=some b→b≠g:=fun b he=>by
       rw [he] at Ku
       rcases Ku with h|h
       ·have e2:b=gi:=Option.some.inj h
        rw [e2];exact ag4
       ·have e2:b=w10.heap.size:=Option.some.inj h
        omega
      have akw:dR.rd (fun b=>(WQ b∨wr.heap.size≤b)∧b≠g) (w11.setCell ⟨g,n * 3+2,none⟩ (.slice a11 n11 c11)) [.int .i64 v,.int .i64 Ls,.slice a11 n11 c11] ((v,Ls),Ld++[x]):=by
       refine ⟨_,rfl,_,rfl,fun b hb=>⟨?_,hgb b hb⟩,abp.ajg hQ (fun e=>hgb g e rfl),fun e=>absurd e (by simp)⟩
       rw [hb] at Ku
       rcases Ku with h|h
       ·have e2:b=gi:=Option.some.inj h
        rw [e2];exact .inl hgi
       ·have e2:b=w10.heap.size:=Option.some.inj h
        exact .inr (by rw [e2,hs10];exact Nat.le_succ _)
      have ajl:wr.heap.size≤(w11.setCell ⟨g,n * 3+2,none⟩ (.slice a11 n11 c11)).heap.size:=by rw [aeU];have:=vS.size;omega
      have hP:=hput (w11.setCell ⟨g,n * 3+2,none⟩ (.slice a11 n11 c11)) 2 (.slice a11 n11 c11) ((v,Ls),Ld++[x]) (by decide) (ajh w11 A11) (fun b hb hne ho=>(Below.heap_setCell _ _ _ _ hne).trans ((vS.block b (by omega) (fun e=>by cases e;exact ho hgi)).trans (aes.block b hb))) ajl akw
      rw [hn] at hP
      go_roundw
      case rel=>exact ⟨k+1,by omega,by go_num,by
       rw [HN.out,HS.out,HO.out,EY,if_pos ⟨by omega,by rw [HLR.out],by rw [HLR.out];exact hend⟩,HLR.out,hn]
       exact hP,fun e=>absurd e (by rw [HN.out,HS.out];exact IV),((hBw.trans (aes.mono hBw.size)).grown vS (by omega) (fun j hj=>by cases hj;exact aku)).grown hQ (by have:=vS.size;omega) (fun j hj=>by cases hj;exact hBg)⟩
      case measure=>simp [intOf];omega
     ·go_wp2_with fail
      refine fJ (fun w'=>∃ x:Later (wr),w'=x.w) [] [0,1,2,3,4,5,6,7,8] Tryd.mixed (by kernel_rfl) (lT.drew _) ?_
      refine iQ ?_
      simp only [pick,List.filterMap_cons,List.filterMap_nil,List.getElem?_toArray,List.getElem?_cons_succ,List.getElem?_cons_zero]
      change wpQuiet _ _ _ _ (_ :: _ :: _ :: _ :: _ :: _ :: _ :: _ :: _ :: []) _
      repeat (first|(go_big_quiet_want;refine iU _ (.tmp 25) rfl _ rfl _ hL1 ?_;go_big_quiet_on;simp only [Act.put,List.setIfInBounds_toArray,List.set_cons_zero,List.set_cons_succ])|(go_big_quiet_want;refine iU _ (.tmp 29) rfl _ rfl _ hL2 ?_;go_big_quiet_on;simp only [Act.put,List.setIfInBounds_toArray,List.set_cons_zero,List.set_cons_succ])|go_big_quiet_step (fail))
      refine wpQuiet_nil ?_
      go_wp2_with fail
      refine fJ (fun w'=>∃ x:Later (wr.drew),w'=x.w) [] [0,1,2,3,4,5,6,7,8,9,10,11,12,13,14,15,16,17,18,19] Tryd.mixed (by kernel_rfl) (lT.drew _) ?_
      refine iQ ?_
      simp only [pick,List.filterMap_cons,List.filterMap_nil,List.getElem?_toArray,List.getElem?_cons_succ,List.getElem?_cons_zero]
      change wpQuiet _ _ _ _ (_ :: _ :: _ :: _ :: _ :: _ :: _ :: _ :: _ :: _ :: _ :: _ :: _ :: _ :: _ :: _ :: _ :: _ :: _ :: _ :: []) _
      repeat (go_big_quiet_step (fail))
      refine wpQuiet_nil ?_
      go_wp2_with (first|refine yZ rfl rfl rfl hL9 ?_|(at_builtin;refine Hid.out ?_))
      refine Lib.hid ?_
      simp only [RS x]
      refine qw (r:=dR) (w:=(wr.drew.drew.alloc (.cells (aZ x).toArray 78)).alloc (.cells #[.int .i64 v,.int .i64 ((s:Int)+k),.slice (some ⟨wr.drew.drew.heap.size,0,none⟩) 1 1] 87)) Tryd.aiQ rfl _ _ rfl rfl (hown.below hBa) rfl hnews (yP (abn (w:=wr.drew.drew) wr.heap.size (Nat.le_refl _) v ((s:Int)+k) x)) ?c5 ?c1 ?c2 ?c3 ?c4 ?_
      case c5=>exact fun k hk=>(wE k hk).2
      case c1=>unfold maxLen;omega
      case c2=>omega
      case c3=>omega
      case c4=>simp;omega
      intro v' w2 hown1 hgrow _
      go_wp2
      go_roundw
      case rel=>exact ⟨k+1,by omega,by go_num,by
       rw [HN.out,HS.out,HO.out,EY,if_neg (fun h=>hend (by have:=h.2.2;rw [HLR.out] at this;exact this))]
       rw [Int.natCast_add]
       exact hown1,fun e=>absurd e (by rw [HN.out,HS.out];exact IV),hBw.trans ((hBa.mono hBw.size).trans (grown_below hgrow (Nat.le_trans hBw.size hBa.size) (fun k hk=>(wE k hk).1)))⟩
      case measure=>simp [intOf];omega
  ·go_wp2
   go_ret
   obtain rfl:k=m:=by omega
   exact ⟨_,rfl,by rw [← hsz];exact hown,hnil,hB0.trans (hBw.mono hB0.size)⟩
end Go.Proofs.YtaaokejjmdbfaaaDoor

namespace Go.Proofs.YtaaokejjmdbfaaaDoor
open Go.RowKit V
theorem abq {ok:Nat→Prop} {w:World} {a b:Int} {v:Value} (h:ay ok w (.agg [.int .i64 a,.int .i64 b]) v):v=.agg #[.int .i64 a,.int .i64 b]:=by
 cases h with
 |agg _ arr h1 h2 h3 =>
  obtain ⟨l,rfl⟩:∃ l:List Value,arr=l.toArray:=⟨arr.toList,by simp⟩
  match l,h1 with
  |[u0,u1],_=>rw [(h3 0 _ u0 rfl rfl).bU,(h3 1 _ u1 rfl rfl).bU]
theorem abr {ok ok':Nat→Prop} {w:World} {l:List Run} {a:Option Addr} {n c:Nat} (hk:∀ b,ok b→b<w.heap.size→ok' b) (hz:l=[]→c=0) (hne:∀ x∈l,x.2≠[]) (h:Sl dR ok w a n c l):ay ok' w (.list 3 ((l.map toW).map vZ)) (.slice a n c):=by
 rw [List.map_map]
 refine sV (r:=dR) (enc:=vZ ∘ toW) hk (by decide) (fun x=>rfl) (fun x hx cs hl hrd j p u hp hu=>?_) hz h
 obtain ⟨v,rfl,hv⟩:=hrd
 match j with
 |0=>cases hp;cases hu;exact ⟨rfl,.int _ _⟩
 |1=>cases hp;cases hu;exact ⟨rfl,.int _ _⟩
 |2 =>
  cases hp;cases hu
  obtain ⟨a2,n2,c2,rfl,hs⟩:=fH.sl Flat.sec hv
  refine ⟨rfl,sV (r:=nK) (enc:=ng) hk (by decide) (fun x=>iY x) (fun s _ cs hl hrd j p u hp hu=>?_) (fun e=>absurd e (hne x hx)) hs⟩
  have hrd:cs=aZ s:=hrd
  subst hrd
  simp only [aZ,List.getElem?_map,Option.map_eq_some_iff] at hu
  have hp:(lq s)[j]?=some p:=hp
  simp only [lq,List.getElem?_map,Option.map_eq_some_iff] at hp
  obtain ⟨b,h1,rfl⟩:=hu
  obtain ⟨b',h2,rfl⟩:=hp
  rw [h1] at h2
  cases h2
  exact ⟨rfl,.int _ _⟩
 |j+3=>simp [vZ,toW,PV.cells] at hp
theorem ag5:∀ args rs,Zp args=some rs→callable Tryd.prog 64=true∧lZ Tryd.prog 64 args rs:=fun args rs h=>by
 obtain ⟨v,A,B,s,m,rfl,h1,h2,h3,h4,rfl⟩:=ac7 h
 refine ⟨by kernel_rfl,fun T0 w vs g1 g2 g3 g4 _=>?_⟩
 match vs,g3 with
 |[v0,v1,v2,v3],_ =>
  have e0:=(g4 0 _ v0 rfl rfl).bU
  obtain ⟨a,n,c,rfl,hs⟩:=BI (g4 1 _ v1 rfl rfl)
  obtain ⟨a',n',c',rfl,hs'⟩:=BI (g4 2 _ v2 rfl rfl)
  have e3:=abq (g4 3 _ v3 rfl rfl)
  subst e0 e3
  have hv:kW v:=by
   unfold nD at h1
   simp only [Bool.and_eq_true,decide_eq_true_eq] at h1
   exact h1
  refine (aer hs hs' hv h2 h3 h4).mono ?_
  rintro e w' ⟨u,rfl,hown,hnil,hB⟩
  obtain ⟨ha,hn,hc,rfl,hsl⟩:=hown.sl
  refine ⟨_,fun b=>if w.heap.size≤b∧b<w'.heap.size then .ro else T0 b,rfl,hB,fun b hb=>if_neg (by omega),fun b hb=>?_,#[_],rfl,rfl,fun i r u hr' hu=>?_⟩
  ·show (if _ then _ else T0 b)=_
   rw [if_neg (by omega)];exact g2 b (by have:=hB.size;omega)
  ·match i with
   |0 =>
    cases hr';cases hu
    exact abr (fun b hb hlt=>if_pos ⟨by omega,hlt⟩) (fun e=>by have:=hnil e;cases this;rfl) (fun x hx=>((QJ v A B s m).1 x hx).2.2.2) hsl
   |i+1=>simp at hr'
end Go.Proofs.YtaaokejjmdbfaaaDoor
