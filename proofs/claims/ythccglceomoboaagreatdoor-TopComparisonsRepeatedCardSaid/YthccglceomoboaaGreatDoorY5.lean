/-
  Part 5 of the texts that the statement stands on.
-/
import Derived.Test.YthccglceomoboaaGreatDoorY4
import Derived.Test.YthccglceomoboaaGreatDoorProg
import Derived.Shelf.SlSortCmp.WholeK
import Derived.Shelf.SlSortCmp.NoneTotal
import Derived.Shelf.SlicesG.Cmp
import Derived.Shelf.Small.Bits
import Derived.Ground.SlsfProg
import Derived.Ground.SlgcProg
import Derived.Ground.NamesProg
set_option linter.all false
open And renaming intro → Zs
open Bool renaming and_eq_true → ZS, and_self → zz, true_and → zE, false_and → Za5
open List renaming getElem?_eq_getElem → ZZ, getElem?_eq_some_iff → Z3, length_map → za, getElem?_map → zc, length_cons → zd, length_nil → zm, all_eq_true → zt, drop_eq_getElem_cons → zw, length_take → Zaa, eq_nil_of_length_eq_zero → Zad, getD_eq_getElem?_getD → Zaf, map_cons → Zai, length_append → Zak, mem_singleton → Zal, map_append → Zam, take_length → Zaq, getElem_mem → Zas, range → Zau, map_nil → Zaw, append_nil → ZaB, mem_append → ZaC, append_assoc → ZaD, take_of_length_le → ZaM, length_drop → ZaO, drop_length → ZaQ, drop_zero → Za4, mem_map → Za8, eq_nil_or_concat → ZbC, cons → ZbD, getElem_range → ZbP, ext_getElem → ZbY, getElem_map → ZbZ, concat_eq_append → Zb0, zip_cons_cons → Zcd, getElem_append_right → Zcg, getElem_append_left → Zcm, all_cons → ZcN
open Nat renaming beq → zb, le_refl → ze
open Option renaming map_some → Zae
open Int renaming lt_irrefl → ZaA, toNat_natCast → ZaS, toNat_of_nonneg → Za6, tdiv_eq_ediv_of_nonneg → ZbH, le_refl → Zb6
namespace Go.Proofs.YthccglceomoboaaGreatDoor
def look:List (Nat×AV)→Nat→AV
 |[],_=>.any
 |(j,v)::l,i=>dB (zb i j) v (look l i)
def sl (n:Nat)(l:List (Nat×AV)):List AV:=(Zau n).map (look l)
def mapA (f:AV→AV):List (Nat×AV)→List (Nat×AV)
 |[]=>[]
 |(j,v)::l=>(j,f v)::mapA f l
def keepA (l:List (Nat×AV)):List Nat→List (Nat×AV)
 |[]=>[]
 |k::ks=>(k,look l k)::keepA l ks
def zq:Nat→List PV→List (Nat×AV)
 |_,[]=>[]
 |k,v::l=>(k,.pv v)::zq (k+1) l
def KZ (nb:Nat):List (Nat×AV)→Bool
 |[]=>true
 |(_,v)::l=>AV.low nb v&&KZ nb l
def OW (n:Nat):List Nat→Bool
 |[]=>true
 |k::ks=>decide (k<n)&&OW n ks
theorem Zc (i:Nat)(v:AV)(l:List (Nat×AV)):look ((i,v)::l) i=v:=by
 show dB (zb i i) v _=v
 rw [Nat.beq_refl];rfl
theorem look_nil (i:Nat):look [] i=.any:=(rfl)
theorem aeU {n i:Nat}{l:List (Nat×AV)}(h':i<n):(sl n l).getD i .any=look l i:=by
 simp [sl,Zaf,h']
theorem ab5 {n i:Nat}{l:List (Nat×AV)}(h':i<n):(sl n l)[i]?=some (look l i):=by
 simp [sl,h']
theorem lW (l:List (Nat×AV))(i j:Nat)(v:AV):look ((j,v)::l) i=if i=j then v else look l i:=by
 show dB (zb i j) v _=_
 by_cases h:i=j
 ·subst h;rw [Nat.beq_refl,if_pos rfl];rfl
 ·rw [if_neg h]
  have:zb i j=false:=by
   cases e:zb i j with
   |false=>rfl
   |true=>exact absurd (Nat.eq_of_beq_eq_true e) h
  rw [this];rfl
theorem aeV (n i:Nat)(v:AV)(l:List (Nat×AV)):(sl n l).set i v=sl n ((i,v)::l):=by
 apply ZbY (by simp [sl])
 intro k h1 h2
 have hk:k<n:=by simpa [sl] using h2
 simp only [sl,List.getElem_set,ZbZ,ZbP,lW]
 by_cases h:i=k
 ·subst h;simp
 ·rw [if_neg h,if_neg (fun e=>h e.symm)]
theorem Uf {i j:Nat}{v:AV}{l:List (Nat×AV)}(h:(i==j)=false):look ((j,v)::l) i=look l i:=by
 rw [lW,if_neg (by simpa using h)]
theorem Fb (f:AV→AV)(hf:f .any=.any):∀ (l:List (Nat×AV)) (i:Nat),look (mapA f l) i=f (look l i)
 |[],i=>hf.symm
 |(j,v)::l,i=>by
  show look ((j,f v)::mapA f l) i=_
  rw [lW,lW,Fb f hf l i]
  split<;>rfl
theorem Ho {f:AV→AV}(hf:f .any=.any)(n:Nat)(l:List (Nat×AV)):(sl n l).map f=sl n (mapA f l):=by
 unfold sl
 rw [List.map_map]
 apply List.map_congr_left
 intro i _
 exact (Fb f hf l i).symm
theorem ab6 (n d:Nat)(l:List (Nat×AV)):(sl n l).map (AV.kill d)=sl n (mapA (AV.kill d) l):=Ho rfl n l
theorem Zd (n d:Nat)(l:List (Nat×AV)):(sl n l).map (AV.bV d)=sl n (mapA (AV.bV d) l):=Ho rfl n l
theorem Ze (n d y:Nat)(l:List (Nat×AV)):(sl n l).map (AV.fU d y)=sl n (mapA (AV.fU d y) l):=Ho rfl n l
theorem Zf (n:Nat)(l:List (Nat×AV)):(sl n l).map AV.froze=sl n (mapA AV.froze l):=Ho rfl n l
theorem Zg (f:AV→AV):mapA f []=[]:=(rfl)
theorem Ug (f:AV→AV)(j:Nat)(v:AV)(l:List (Nat×AV)):mapA f ((j,v)::l)=(j,f v)::mapA f l:=(rfl)
theorem Uh (l:List (Nat×AV)):keepA l []=[]:=(rfl)
theorem vP (l:List (Nat×AV))(k:Nat)(ks:List Nat):keepA l (k::ks)=(k,look l k)::keepA l ks:=(rfl)
theorem Zh (nb:Nat):KZ nb []=true:=(rfl)
theorem Fe (nb k:Nat)(v:AV)(l:List (Nat×AV)):KZ nb ((k,v)::l)=(AV.low nb v&&KZ nb l):=(rfl)
theorem Zi (n:Nat):OW n []=true:=(rfl)
theorem Fg (n k:Nat)(l:List Nat):OW n (k::l)=(decide (k<n)&&OW n l):=(rfl)
theorem Ui (k:Nat):zq k []=[]:=(rfl)
theorem Df (k:Nat)(v:PV)(l:List PV):zq k (v::l)=(k,.pv v)::zq (k+1) l:=(rfl)
theorem vS (l:List (Nat×AV)):∀ (ks:List Nat) (i:Nat),look (keepA l ks) i=if ks.contains i then look l i else .any
 |[],i=>rfl
 |k::ks,i=>by
  rw [vP,lW,vS l ks i,List.contains_cons]
  by_cases h:i=k
  ·subst h;simp
  ·have:(i==k)=false:=by simpa using h
   rw [if_neg h,this,Bool.false_or]
theorem La (nb n:Nat)(l:List (Nat×AV)):∀ ks:List Nat,OW n ks=true→(KZ nb (keepA l ks)=true ↔ ∀ k∈ks,(look l k).low nb=true)
 |[],_=>by simp [keepA,KZ]
 |k::ks,h=>by
  rw [Fg,ZS] at h
  rw [vP,Fe,ZS,La nb n l ks h.2]
  simp
theorem Qj {n nb:Nat}{l:List (Nat×AV)}{keep:List Nat}{bx:List Box}{ys:List (List PV)}{sp:Option (Option Nat)}(h:OW n keep=true)(hb:nb≤bx.length)(hl:KZ nb (keepA l keep)=true) :
  St.head ⟨sl n l,bx,ys,sp⟩ keep nb=some ⟨sl n (keepA l keep),bx.take nb,ys,sp⟩:=by
 have e:((sl n l).zipIdx.map fun (v,i)=>if keep.contains i then v else AV.any)=sl n (keepA l keep):=by
  apply ZbY (by simp [sl])
  intro i h1 h2
  simp only [sl,ZbZ,List.getElem_zipIdx,ZbP,vS,Nat.zero_add]
 unfold St.head
 simp only
 rw [e,if_pos]
 rw [ZS,decide_eq_true_eq]
 refine ⟨?_,hb⟩
 rw [zt]
 intro v hv
 unfold sl at hv
 obtain ⟨i,hi,rfl⟩:=Za8.1 hv
 rw [vS]
 split
 ·rename_i hc
  exact (La nb n l keep h).1 hl i (by simpa using hc)
 ·rfl
theorem Zk {n nb:Nat}{e:Ex}{l:List (Nat×AV)}{keep:List Nat}{bx:List Box}{ys:List (List PV)}{sp:Option (Option Nat)}(h:OW n keep=true)(hb:nb≤bx.length)(hl:KZ nb (keepA l keep)=true) :
  lu keep nb (e,⟨sl n l,bx,ys,sp⟩)=some (e,⟨sl n (keepA l keep),bx.take nb,ys,sp⟩):=by
 unfold lu
 simp only
 rw [Qj h hb hl]
 rfl
theorem Dh:∀ (l:List PV) (k i:Nat),look (zq k l) i=if k≤i then ((l[i - k]?).map AV.pv).getD .any else .any:=by
 intro l
 induction l with
 |nil=>intro k i;simp [zq,look]
 |cons v l ih =>
  intro k i
  rw [Df,lW,ih]
  by_cases h1:i=k
  ·subst h1;simp
  ·rw [if_neg h1]
   by_cases h2:k≤i
   ·rw [if_pos (by omega),if_pos h2,show i - k=(i - (k+1))+1 by omega,List.getElem?_cons_succ]
   ·rw [if_neg (by omega),if_neg h2]
theorem Uj {n:Nat}{x:jQ}{args:List PV}(hn:args.length+1≤n):Gx n x args=⟨sl n ((0,x.av)::zq 1 args),x.boxes,[],none⟩:=by
 unfold Gx
 congr 1
 apply ZbY (by simp [sl];omega)
 intro i h1 h2
 simp only [sl,ZbZ,ZbP,lW,Dh]
 cases i with
 |zero=>simp
 |succ i =>
  rw [List.getElem_cons_succ,if_neg (by omega),if_pos (by omega),show i+1 - 1=i by omega]
  by_cases hi:i<args.length
  ·rw [Zcm (by simpa using hi)]
   simp [hi]
  ·rw [Zcg (by simp;omega)]
   simp [hi]
theorem Zl {n:Nat}{args:List PV}(hn:args.length≤n):start n args=⟨sl n (zq 0 args),[],[],none⟩:=by
 have key:=Dh
 unfold start
 congr 1
 apply ZbY (by simp [sl];omega)
 intro i h1 h2
 simp only [sl,ZbZ,ZbP,key,Nat.zero_le,if_true,Nat.sub_zero]
 by_cases hi:i<args.length
 ·rw [Zcm (by simpa using hi)]
  simp [hi]
 ·rw [Zcg (by simp;omega)]
  simp [hi]
theorem aeW (nb:Nat)(v:PV):AV.low nb (.pv v)=true:=(rfl)
theorem ab7 (nb:Nat):AV.low nb .any=true:=(rfl)
theorem ab8 (nb:Nat):AV.low nb .lY=true:=(rfl)
theorem ab9 (nb sz:Nat)(es:List PV):AV.low nb (.row sz es)=true:=(rfl)
theorem Zm (nb o j:Nat):AV.low nb (.aJ o j)=decide (o<nb):=(rfl)
theorem Zn (nb t off len:Nat):AV.low nb (.ref (.slot t) off len)=true:=(rfl)
theorem Zo (nb o j off len:Nat):AV.low nb (.ref (.cell o j) off len)=decide (o<nb):=(rfl)
theorem Zp (nb t i j:Nat):AV.low nb (.mW (.slot t) i j)=true:=(rfl)
theorem Zq (nb o q i j:Nat):AV.low nb (.mW (.cell o q) i j)=decide (o<nb):=(rfl)
theorem aeX (nb f:Nat)(caps:List AV):AV.low nb (.fn f caps)=caps.all fun c=>match c with
  |.pv _=>true
  |.aJ o _=>o<nb
  |_=>false:=(rfl)
def aN:=Zs @Zc (Zs @Uf (Zs @look_nil (Zs @aeU (Zs @ab5 (Zs @aeV (Zs @ab6 (Zs (Zs @Zd @Ze) (Zs @Zf (Zs @Zg (Zs @Ug (Zs @Uh (Zs @vP (Zs @Zh (Zs @Fe (Zs @Zi (Zs @Fg (Zs @Ui (Zs @Df (Zs @Qj (Zs @Zk (Zs @Zl (Zs @Uj (Zs @aeW (Zs @ab7 (Zs @ab8 (Zs @ab9 (Zs @Zm (Zs @Zn (Zs @Zo (Zs @Zp (Zs @Zq (@aeX))))))))))))))))))))))))))))))))
def aC:=Zs @aN (Zs @bJ (Zs @Y0 @lU))
end Go.Proofs.YthccglceomoboaaGreatDoor
namespace Go.Proofs.YthccglceomoboaaGreatDoor.V
theorem acd {d:Int}{st:St}(h:st.head [0,3,5,15] st.boxes.length=some ⟨sl 18 [(0,.pv (.int .u64 d)),(3,.row 1 ((Zau ((0:Nat))).map (fun k=>oN (byteOf d k)))),(5,.pv (.int .i64 (0:Nat))),(15,.any)],[],[],none⟩) :
  den env BI st=some (.normal,⟨sl 18 [(2,.any),(3,.row 1 ((nP d).map oN))],[],[],none⟩):=by
 unfold BI
 refine aY (env:=env) (8) (fun i=>⟨sl 18 [(0,.pv (.int .u64 d)),(3,.row 1 ((Zau (i)).map (fun k=>oN (byteOf d k)))),(5,.pv (.int .i64 i)),(15,.any)],[],[],none⟩) (fun i=>some (.normal,⟨sl 18 [(2,.any),(3,.row 1 ((nP d).map oN))],[],[],none⟩)) h (fun _=>rfl) (fun _=>by simp only [aN,bJ,Nat.reduceMul,Nat.reduceBEq,Nat.reduceLT,Nat.reduceLeDiff,Nat.reduceAdd,decide_true,zz,zE]) ?_ ?_
 ·intro i rb hi ih
  have hi1:=bU (n:=8) hi (by decide)
  have F1:((i:Int)<8)=True:=eq_true (by omega)
  have F2:IntKind.i64.wrap (8*(i:Int))=8*(i:Int):=aQ (by omega)
  have F3:(8*(i:Int)<0)=False:=eq_false (by omega)
  have F4:(((Zau i).map (fun k=>oN (byteOf d k))).length+1≤lim)=True:=eq_true (by simp [lim];omega)
  have F5:((Zau i).length+1≤lim)=True:=eq_true (by simp [lim];omega)
  simp only [BH,F1,F2,F3,F4,F5,aC,Nat.reduceMul,Nat.reduceBEq,Nat.reduceLT,Nat.reduceLeDiff,reduceCtorEq,Nat.reduceEqDiff,Nat.reduceAdd,zb]
  rw [ih _ (by rw [OT (fun k=>oN (byteOf d k)) i];simp only [hi1,aC,Nat.reduceMul,Nat.reduceBEq,Nat.reduceLT,Nat.reduceLeDiff,reduceCtorEq,Nat.reduceEqDiff,Nat.reduceAdd,zb]<;>rfl)]
 ·intro rb
  have F1:(((8:Nat):Int)<8)=False:=eq_false (by omega)
  have F2:(nP d).map oN=(Zau 8).map (fun k=>oN (byteOf d k)):=by simp [nP,Function.comp_def]
  rw [F2]
  simp only [BH,F1,aC,Nat.reduceMul,Nat.reduceBEq,Nat.reduceLT,Nat.reduceLeDiff,reduceCtorEq,Nat.reduceEqDiff,Nat.reduceAdd,zb]
theorem Zr {d:Int}:cal env 109 [.int .u64 d]=some [(.list 1 ((nP d).map oN),true)]:=by
 rw [aG aes rfl];simp only [JY,aN,Nat.reduceBEq,Nat.reduceLeDiff,Nat.reduceAdd,zd,zm]
 simp only [aC,Nat.reduceMul,Nat.reduceBEq,Nat.reduceLT,Nat.reduceLeDiff,reduceCtorEq,Nat.reduceEqDiff,Nat.reduceAdd,zb]
 rw [acd (d:=d) (by simp only [aN,bJ,Nat.reduceMul,Nat.reduceBEq,Nat.reduceLT,Nat.reduceLeDiff,Nat.reduceAdd,decide_true,zz,zE]<;>rfl)]
 simp only [aC,Nat.reduceMul,Nat.reduceBEq,Nat.reduceLT,Nat.reduceLeDiff,reduceCtorEq,Nat.reduceEqDiff,Nat.reduceAdd,zb]
theorem Zt {l:List Int}{i:Nat}(h:i<(Fa l).length):(Fa l).take (i+1)=(Fa l).take i++[upK l i]:=by
 rw [take_snoc h,Za]
theorem ace {l:List Int}(hl:l.length≤4096){st:St}(h:st.head [0,1,5,6,31,38] st.boxes.length=some ⟨sl 40 [(0,.pv (.list 1 (l.map eU))),(1,.pv (.func 188 [])),(5,.row 1 (((Fa l).take ((0:Nat))).map eU)),(6,.pv (.int .i64 ((2*((0:Nat)):Nat):Int))),(31,.any),(38,.any)],[],[],none⟩) :
  den env BO st=some (.normal,⟨sl 40 [(4,.any),(5,.row 1 ((Fa l).map eU))],[],[],none⟩):=by
 unfold BO
 refine aY (env:=env) ((Fa l).length) (fun i=>⟨sl 40 [(0,.pv (.list 1 (l.map eU))),(1,.pv (.func 188 [])),(5,.row 1 (((Fa l).take (i)).map eU)),(6,.pv (.int .i64 ((2*(i):Nat):Int))),(31,.any),(38,.any)],[],[],none⟩) (fun i=>some (.normal,⟨sl 40 [(4,.any),(5,.row 1 ((Fa l).map eU))],[],[],none⟩)) h (fun _=>rfl) (fun _=>by simp only [aN,bJ,Nat.reduceMul,Nat.reduceBEq,Nat.reduceLT,Nat.reduceLeDiff,Nat.reduceAdd,decide_true,zz,zE]) ?_ ?_
 ·intro i rb hi ih
  have hu:=hi
  rw [zQ] at hu
  have F1:(((2*i:Nat):Int)<(l.length:Int))=True:=eq_true (by omega)
  have W1:IntKind.i64.wrap (((2*i:Nat):Int)+1)=((2*i+1:Nat):Int):=by rw [aQ (by omega)];omega
  have W2:IntKind.i64.wrap (((2*i:Nat):Int)+2)=((2*(i+1):Nat):Int):=by rw [aQ (by omega)];omega
  have F4:(((Fa l).take i).length+1≤lim)=True:=eq_true (by rw [Zaa];unfold lim;omega)
  have hx:(l.map eU)[2*i]?=some (.int .u64 (l.getD (2*i) 0)):=by rw [zc,Zaf,ZZ (by omega)];rfl
  rw [Zt hi] at ih
  unfold upK at ih
  by_cases c:2*i+1<l.length
  ·have F2:(((2*i+1:Nat):Int)<(l.length:Int))=True:=eq_true (by omega)
   rw [if_pos c] at ih
   have hy:(l.map eU)[2*i+1]?=some (.int .u64 (l.getD (2*i+1) 0)):=by rw [zc,Zaf,ZZ c];rfl
   have e1:=aeS (a:=l.getD (2*i) 0) (b:=l.getD (2*i+1) 0)
   simp only [xA,F1,F2,F4,W1,W2,hx,hy,e1,ay (show 2*i<l.length by omega),ay c,za,aC,Nat.reduceMul,Nat.reduceBEq,Nat.reduceLT,Nat.reduceLeDiff,reduceCtorEq,Nat.reduceEqDiff,Nat.reduceAdd,zb]
   rw [ih _ (by rw [Zam];simp only [aC,Nat.reduceMul,Nat.reduceBEq,Nat.reduceLT,Nat.reduceLeDiff,reduceCtorEq,Nat.reduceEqDiff,Nat.reduceAdd,zb]<;>rfl)]
  ·have F2:(((2*i+1:Nat):Int)<(l.length:Int))=False:=eq_false (by omega)
   rw [if_neg c] at ih
   simp only [xA,F1,F2,F4,W1,W2,hx,ay (show 2*i<l.length by omega),za,aC,Nat.reduceMul,Nat.reduceBEq,Nat.reduceLT,Nat.reduceLeDiff,reduceCtorEq,Nat.reduceEqDiff,Nat.reduceAdd,zb]
   rw [ih _ (by rw [Zam];simp only [aC,Nat.reduceMul,Nat.reduceBEq,Nat.reduceLT,Nat.reduceLeDiff,reduceCtorEq,Nat.reduceEqDiff,Nat.reduceAdd,zb]<;>rfl)]
 ·intro rb
  have F1:(((2*(Fa l).length:Nat):Int)<(l.length:Int))=False:=eq_false (by rw [zQ];omega)
  rw [Zaq]
  simp only [xA,F1,za,aC,Nat.reduceMul,Nat.reduceBEq,Nat.reduceLT,Nat.reduceLeDiff,reduceCtorEq,Nat.reduceEqDiff,Nat.reduceAdd,zb]
theorem aeY {l:List Int}(hl:l.length≤4096):cal env 187 [.list 1 (l.map eU),.func 188 []]=some [(.list 1 ((Fa l).map eU),true)]:=by
 rw [aG aez rfl];simp only [Kq,aN,Nat.reduceBEq,Nat.reduceLeDiff,Nat.reduceAdd,zd,zm]
 simp only [aC,Nat.reduceMul,Nat.reduceBEq,Nat.reduceLT,Nat.reduceLeDiff,reduceCtorEq,Nat.reduceEqDiff,Nat.reduceAdd,zb]
 rw [ace (l:=l) hl (by simp only [aN,bJ,Nat.reduceMul,Nat.reduceBEq,Nat.reduceLT,Nat.reduceLeDiff,Nat.reduceAdd,decide_true,zz,zE]<;>rfl)]
 simp only [aC,Nat.reduceMul,Nat.reduceBEq,Nat.reduceLT,Nat.reduceLeDiff,reduceCtorEq,Nat.reduceEqDiff,Nat.reduceAdd,zb]
--+
theorem acf {l m:List Int}(hlm:l.length=m.length)(hl:l.length≤lim)
  {st:St} (h:st.head [0,1,12,13] st.boxes.length=some ⟨[.pv (.list 1 (l.map (PV.int .u64))),.pv (.list 1 (m.map (PV.int .u64))),.any,.any,.any,.any,.any,.any,.any,.any,.any,.any,.pv (.int .i64 l.length),.pv (.int .i64 (0:Nat)),.any,.any,.any,.any,.any,.any,.any,.any,.any,.any,.any,.any],[],[],none⟩) :
  den env BZ st=if l=m then some (.normal,⟨[.any,.any,.any,.any,.any,.any,.any,.any,.any,.any,.any,.any,.any,.any,.any,.any,.any,.any,.any,.any,.any,.any,.any,.any,.any,.any],[],[],none⟩) else some (.ret,⟨[.any,.any,.any,.any,.pv (.bool false),.any,.any,.any,.any,.any,.any,.any,.any,.any,.any,.any,.any,.any,.any,.any,.any,.any,.any,.any,.any,.any],[],[],none⟩):=by
 unfold BZ
 rw [aY l.length (fun i=>⟨[.pv (.list 1 (l.map (PV.int .u64))),.pv (.list 1 (m.map (PV.int .u64))),.any,.any,.any,.any,.any,.any,.any,.any,.any,.any,.pv (.int .i64 l.length),.pv (.int .i64 i),.any,.any,.any,.any,.any,.any,.any,.any,.any,.any,.any,.any],[],[],none⟩)
  (fun i=>if l.drop i=m.drop i then some (.normal,⟨[.any,.any,.any,.any,.any,.any,.any,.any,.any,.any,.any,.any,.any,.any,.any,.any,.any,.any,.any,.any,.any,.any,.any,.any,.any,.any],[],[],none⟩) else some (.ret,⟨[.any,.any,.any,.any,.pv (.bool false),.any,.any,.any,.any,.any,.any,.any,.any,.any,.any,.any,.any,.any,.any,.any,.any,.any,.any,.any,.any,.any],[],[],none⟩)) h (fun _=>rfl) (fun _=>rfl) ?_ ?_]
 ·simp only [Za4]
 ·intro i rb hi ih
  have hi1:=bU hi hl
  have hj:i<m.length:=by omega
  have F1:((i:Int)<(l.length:Int))=True:=eq_true (by omega)
  simp only [BX,F1,za,ay hi,ay hj,zc,ZZ hi,ZZ hj,eI,dS,aV,tu,iQ,tC,eX,lU,reduceCtorEq,Nat.reduceEqDiff,Nat.reduceAdd,Nat.reduceLT,Nat.reduceLeDiff,zb]
  (try simp only [iq,je,iw]);refine fM (fun hb=>?_) (fun hb=>?_)<;>try simp only [hb,gy,reduceCtorEq,Nat.reduceEqDiff,Nat.reduceAdd,Nat.reduceLT,Nat.reduceLeDiff,zb]
  ·rw [ih _ (by simp only [hi1];rfl),zw hi,zw hj]
   have e:l[i]=m[i]:=by
    revert hb
    generalize l[i]=x
    generalize m[i]=y
    first|(intro hb;simpa using hb)|(cases x;cases y;intro hb;simpa using hb)
   simp only [e,ZbD.injEq,true_and]
  ·rw [zw hi,zw hj,if_neg (fun e=>?_)]
   ·rfl
   ·have e:=(ZbD.inj e).1
    rw [e] at hb
    simp at hb
 ·intro rb
  simp only [BX,ZaA,lU,reduceCtorEq,Nat.reduceEqDiff,Nat.reduceAdd,Nat.reduceLT,Nat.reduceLeDiff,zb]
  rw [ZaQ,hlm,ZaQ,if_pos rfl]
  rfl
theorem aeZ {l m:List Int}(hl:l.length≤lim) :
  cal env 191 [.list 1 (l.map (PV.int .u64)),.list 1 (m.map (PV.int .u64))]=some [(.bool (decide (l=m)),false)]:=by
 rw [aG aeD rfl];simp only [Kv];simp only [start,bC,bM,bg,bK,aW,aX,bn,aZ,Nat.reduceAdd,Nat.reduceSub]
 simp only [za,lU,reduceCtorEq,Nat.reduceEqDiff,Nat.reduceAdd,Nat.reduceLT,Nat.reduceLeDiff,zb]
 (try simp only [iq,je,iw]);refine fM (fun hb=>?_) (fun hb=>?_)<;>try simp only [hb,gy,reduceCtorEq,Nat.reduceEqDiff,Nat.reduceAdd,Nat.reduceLT,Nat.reduceLeDiff,zb]
 ·have hlm:l.length=m.length:=by simp at hb;omega
  rw [acf hlm hl]
  rotate_left
  ·rfl
  ·by_cases e:l=m
   ·simp only [e,lU,reduceCtorEq,Nat.reduceEqDiff,Nat.reduceAdd,Nat.reduceLT,Nat.reduceLeDiff,zb]
   ·simp only [e,lU,reduceCtorEq,Nat.reduceEqDiff,Nat.reduceAdd,Nat.reduceLT,Nat.reduceLeDiff,zb]
 ·have:l≠m:=fun e=>by subst e;simp at hb
  simp only [this,lU,reduceCtorEq,Nat.reduceEqDiff,Nat.reduceAdd,Nat.reduceLT,Nat.reduceLeDiff,zb]
--+
theorem acg {l m:List Int}(hlm:l.length=m.length)(hl:l.length≤lim)
  {st:St} (h:st.head [0,1,12,13] st.boxes.length=some ⟨[.pv (.list 1 (l.map (PV.int .u8))),.pv (.list 1 (m.map (PV.int .u8))),.any,.any,.any,.any,.any,.any,.any,.any,.any,.any,.pv (.int .i64 l.length),.pv (.int .i64 (0:Nat)),.any,.any,.any,.any,.any,.any,.any,.any,.any,.any,.any,.any],[],[],none⟩) :
  den env Cc st=if l=m then some (.normal,⟨[.any,.any,.any,.any,.any,.any,.any,.any,.any,.any,.any,.any,.any,.any,.any,.any,.any,.any,.any,.any,.any,.any,.any,.any,.any,.any],[],[],none⟩) else some (.ret,⟨[.any,.any,.any,.any,.pv (.bool false),.any,.any,.any,.any,.any,.any,.any,.any,.any,.any,.any,.any,.any,.any,.any,.any,.any,.any,.any,.any,.any],[],[],none⟩):=by
 unfold Cc
 rw [aY l.length (fun i=>⟨[.pv (.list 1 (l.map (PV.int .u8))),.pv (.list 1 (m.map (PV.int .u8))),.any,.any,.any,.any,.any,.any,.any,.any,.any,.any,.pv (.int .i64 l.length),.pv (.int .i64 i),.any,.any,.any,.any,.any,.any,.any,.any,.any,.any,.any,.any],[],[],none⟩)
  (fun i=>if l.drop i=m.drop i then some (.normal,⟨[.any,.any,.any,.any,.any,.any,.any,.any,.any,.any,.any,.any,.any,.any,.any,.any,.any,.any,.any,.any,.any,.any,.any,.any,.any,.any],[],[],none⟩) else some (.ret,⟨[.any,.any,.any,.any,.pv (.bool false),.any,.any,.any,.any,.any,.any,.any,.any,.any,.any,.any,.any,.any,.any,.any,.any,.any,.any,.any,.any,.any],[],[],none⟩)) h (fun _=>rfl) (fun _=>rfl) ?_ ?_]
 ·simp only [Za4]
 ·intro i rb hi ih
  have hi1:=bU hi hl
  have hj:i<m.length:=by omega
  have F1:((i:Int)<(l.length:Int))=True:=eq_true (by omega)
  simp only [Cb,F1,za,ay hi,ay hj,zc,ZZ hi,ZZ hj,eI,dS,aV,tu,iQ,tC,eX,lU,reduceCtorEq,Nat.reduceEqDiff,Nat.reduceAdd,Nat.reduceLT,Nat.reduceLeDiff,zb]
  (try simp only [iq,je,iw]);refine fM (fun hb=>?_) (fun hb=>?_)<;>try simp only [hb,gy,reduceCtorEq,Nat.reduceEqDiff,Nat.reduceAdd,Nat.reduceLT,Nat.reduceLeDiff,zb]
  ·rw [ih _ (by simp only [hi1];rfl),zw hi,zw hj]
   have e:l[i]=m[i]:=by
    revert hb
    generalize l[i]=x
    generalize m[i]=y
    first|(intro hb;simpa using hb)|(cases x;cases y;intro hb;simpa using hb)
   simp only [e,ZbD.injEq,true_and]
  ·rw [zw hi,zw hj,if_neg (fun e=>?_)]
   ·rfl
   ·have e:=(ZbD.inj e).1
    rw [e] at hb
    simp at hb
 ·intro rb
  simp only [Cb,ZaA,lU,reduceCtorEq,Nat.reduceEqDiff,Nat.reduceAdd,Nat.reduceLT,Nat.reduceLeDiff,zb]
  rw [ZaQ,hlm,ZaQ,if_pos rfl]
  rfl
theorem ae0 {l m:List Int}(hl:l.length≤lim) :
  cal env 192 [.list 1 (l.map (PV.int .u8)),.list 1 (m.map (PV.int .u8))]=some [(.bool (decide (l=m)),false)]:=by
 rw [aG aeE rfl];simp only [Kw];simp only [start,bC,bM,bg,bK,aW,aX,bn,aZ,Nat.reduceAdd,Nat.reduceSub]
 simp only [za,lU,reduceCtorEq,Nat.reduceEqDiff,Nat.reduceAdd,Nat.reduceLT,Nat.reduceLeDiff,zb]
 (try simp only [iq,je,iw]);refine fM (fun hb=>?_) (fun hb=>?_)<;>try simp only [hb,gy,reduceCtorEq,Nat.reduceEqDiff,Nat.reduceAdd,Nat.reduceLT,Nat.reduceLeDiff,zb]
 ·have hlm:l.length=m.length:=by simp at hb;omega
  rw [acg hlm hl]
  rotate_left
  ·rfl
  ·by_cases e:l=m
   ·simp only [e,lU,reduceCtorEq,Nat.reduceEqDiff,Nat.reduceAdd,Nat.reduceLT,Nat.reduceLeDiff,zb]
   ·simp only [e,lU,reduceCtorEq,Nat.reduceEqDiff,Nat.reduceAdd,Nat.reduceLT,Nat.reduceLeDiff,zb]
 ·have:l≠m:=fun e=>by subst e;simp at hb
  simp only [this,lU,reduceCtorEq,Nat.reduceEqDiff,Nat.reduceAdd,Nat.reduceLT,Nat.reduceLeDiff,zb]
--+
theorem ach {α β:Type}{enc:α→PV}{enc2:β→PV}{eq:α→β→Bool}{l:List α}{m:List β}{gf:Nat}{caps:List PV}(hp:∀ x∈l,∀ y∈m,cal env gf (enc x::enc2 y::caps)=some [(.bool (eq x y),false)])(hs:∀ x,part (enc x).cells 0 none=some (enc x))(hs2:∀ x,part (enc2 x).cells 0 none=some (enc2 x))(hlm:l.length=m.length)(hl:l.length≤lim)
  {st:St} (h:st.head [0,1,2,15,16,17] st.boxes.length=some ⟨[.pv (.list 1 (l.map enc)),.pv (.list 1 (m.map enc2)),.pv (.func gf caps),.any,.any,.any,.any,.any,.any,.any,.any,.any,.any,.any,.any,.pv (.list 1 (l.map enc)),.pv (.int .i64 l.length),.pv (.int .i64 (0:Nat)),.any,.any,.any,.any,.any,.any,.any,.any,.any,.any,.any,.any,.any,.any],[],[],none⟩) :
  den env BU st=if (l.zip m).all (fun q=>eq q.1 q.2) then some (.normal,⟨[.any,.any,.any,.any,.any,.any,.any,.any,.any,.any,.any,.any,.any,.any,.any,.any,.any,.any,.any,.any,.any,.any,.any,.any,.any,.any,.any,.any,.any,.any,.any,.any],[],[],none⟩) else some (.ret,⟨[.any,.any,.any,.any,.any,.any,.pv (.bool false),.any,.any,.any,.any,.any,.any,.any,.any,.any,.any,.any,.any,.any,.any,.any,.any,.any,.any,.any,.any,.any,.any,.any,.any,.any],[],[],none⟩):=by
 unfold BU
 rw [aY l.length (fun i=>⟨[.pv (.list 1 (l.map enc)),.pv (.list 1 (m.map enc2)),.pv (.func gf caps),.any,.any,.any,.any,.any,.any,.any,.any,.any,.any,.any,.any,.pv (.list 1 (l.map enc)),.pv (.int .i64 l.length),.pv (.int .i64 i),.any,.any,.any,.any,.any,.any,.any,.any,.any,.any,.any,.any,.any,.any],[],[],none⟩)
  (fun i=>if ((l.drop i).zip (m.drop i)).all (fun q=>eq q.1 q.2) then some (.normal,⟨[.any,.any,.any,.any,.any,.any,.any,.any,.any,.any,.any,.any,.any,.any,.any,.any,.any,.any,.any,.any,.any,.any,.any,.any,.any,.any,.any,.any,.any,.any,.any,.any],[],[],none⟩) else some (.ret,⟨[.any,.any,.any,.any,.any,.any,.pv (.bool false),.any,.any,.any,.any,.any,.any,.any,.any,.any,.any,.any,.any,.any,.any,.any,.any,.any,.any,.any,.any,.any,.any,.any,.any,.any],[],[],none⟩)) h (fun _=>rfl) (fun _=>rfl) ?_ ?_]
 ·simp only [Za4]
 ·intro i rb hi ih
  have hi1:=bU hi hl
  have hj:i<m.length:=by omega
  have F1:((i:Int)<(l.length:Int))=True:=eq_true (by omega)
  simp only [BR,F1,za,ay hi,ay hj,zc,ZZ hi,ZZ hj,hs,hs2,hp _ (Zas hi) _ (Zas hj),lU,reduceCtorEq,Nat.reduceEqDiff,Nat.reduceAdd,Nat.reduceLT,Nat.reduceLeDiff,zb]
  (try simp only [iq,je,iw]);refine fM (fun hb=>?_) (fun hb=>?_)<;>try simp only [hb,gy,reduceCtorEq,Nat.reduceEqDiff,Nat.reduceAdd,Nat.reduceLT,Nat.reduceLeDiff,zb]
  ·rw [ih _ (by simp only [hi1];rfl),zw hi,zw hj]
   simp only [Zcd,ZcN,hb,zE]
  ·rw [zw hi,zw hj]
   simp only [Zcd,ZcN,hb,Za5,Bool.false_eq_true,if_false]
   rfl
 ·intro rb
  simp only [BR,ZaA,lU,reduceCtorEq,Nat.reduceEqDiff,Nat.reduceAdd,Nat.reduceLT,Nat.reduceLeDiff,zb]
  rw [ZaQ]
  rfl
theorem ae1 {α β:Type}{enc:α→PV}{enc2:β→PV}{eq:α→β→Bool}{l:List α}{m:List β}{gf:Nat}{caps:List PV}(hp:∀ x∈l,∀ y∈m,cal env gf (enc x::enc2 y::caps)=some [(.bool (eq x y),false)])(hs:∀ x,part (enc x).cells 0 none=some (enc x))(hs2:∀ x,part (enc2 x).cells 0 none=some (enc2 x))(hl:l.length≤lim) :
  cal env 190 [.list 1 (l.map enc),.list 1 (m.map enc2),.func gf caps]=some [(.bool (eqF eq l m),false)]:=by
 rw [aG aeC rfl];simp only [Ku];simp only [start,bC,bM,bg,bK,aW,aX,bn,aZ,Nat.reduceAdd,Nat.reduceSub]
 simp only [za,lU,reduceCtorEq,Nat.reduceEqDiff,Nat.reduceAdd,Nat.reduceLT,Nat.reduceLeDiff,zb]
 (try simp only [iq,je,iw]);refine fM (fun hb=>?_) (fun hb=>?_)<;>try simp only [hb,gy,reduceCtorEq,Nat.reduceEqDiff,Nat.reduceAdd,Nat.reduceLT,Nat.reduceLeDiff,zb]
 ·have hlm:l.length=m.length:=by simp at hb;omega
  rw [ach hp hs hs2 hlm hl]
  rotate_left
  ·rfl
  ·simp only [eqF,decide_eq_true hlm,zE]
   cases (l.zip m).all (fun q=>eq q.1 q.2)<;>simp only [lU,reduceCtorEq,Nat.reduceEqDiff,Nat.reduceAdd,Nat.reduceLT,Nat.reduceLeDiff,zb]
 ·have:¬ l.length=m.length:=fun e=>by rw [e] at hb;simp at hb
  simp only [eqF,decide_eq_false this,lU,reduceCtorEq,Nat.reduceEqDiff,Nat.reduceAdd,Nat.reduceLT,Nat.reduceLeDiff,zb]
theorem ae2 {es:List PV}(hl:es.length≤lim):cal env 120 [.list 1 es]=some [(.list 1 es,true)]:=(PO aeu).trans (if_pos ⟨rfl,hl⟩)
def yN (l:List Int):List (List PV):=l.map fun n=>[PV.int .i64 n]
theorem ae3 (l m:List Int):yN (l++m)=yN l++yN m:=by simp [yN]
def rgN (s:Int)(i:Nat):List Int:=(Zau i).map fun (k:Nat)=>s+(k:Int)
theorem Zu (s:Int)(i:Nat):rgN s (i+1)=rgN s i++[s+(i:Int)]:=by simp [rgN,List.range_succ]
theorem Uk {l:List dJ}{i:Nat}(h:i<l.length):dV (l.take (i+1))=dV (l.take i)++rgN l[i].start l[i].count.toNat:=by
 rw [take_snoc h,uI];rfl
theorem acj {s:Int}{c:Nat}{Y:List Int}{A B C:PV}(hs:0≤s∧s≤10000)(hc:c≤10000){st:St}(h:st.head [0,4,6,7,8,13,14] st.boxes.length=some ⟨sl 26 [(0,.lY),(4,.aJ 0 0),(6,.pv A),(7,.pv B),(8,.pv C),(13,.pv (.int .i64 (c:Int))),(14,.pv (.int .i64 (0:Nat)))],[⟨false,[.pv (.int .i64 s),.pv (.int .i64 (c:Int))]⟩],yN (Y++rgN s ((0:Nat))),some none⟩) :
  den env Cm st=some (.normal,⟨sl 26 [(0,.lY),(6,.pv A),(7,.pv B),(8,.pv C)],[⟨false,[.pv (.int .i64 s),.pv (.int .i64 (c:Int))]⟩],yN (Y++rgN s c),some none⟩):=by
 unfold Cm
 refine aY (env:=env) (nb:=1) (c) (fun i=>⟨sl 26 [(0,.lY),(4,.aJ 0 0),(6,.pv A),(7,.pv B),(8,.pv C),(13,.pv (.int .i64 (c:Int))),(14,.pv (.int .i64 i))],[⟨false,[.pv (.int .i64 s),.pv (.int .i64 (c:Int))]⟩],yN (Y++rgN s (i)),some none⟩) (fun i=>some (.normal,⟨sl 26 [(0,.lY),(6,.pv A),(7,.pv B),(8,.pv C)],[⟨false,[.pv (.int .i64 s),.pv (.int .i64 (c:Int))]⟩],yN (Y++rgN s c),some none⟩)) h (fun _=>rfl) (fun _=>by simp only [aN,bJ,Nat.reduceMul,Nat.reduceBEq,Nat.reduceLT,Nat.reduceLeDiff,Nat.reduceAdd,decide_true,zz,zE]) ?_ ?_
 ·intro i rb hi ih
  have hi1:=bU hi (by unfold lim;omega)
  have F1:((i:Int)<(c:Int))=True:=eq_true (by omega)
  have W1:IntKind.i64.wrap (s+(i:Int))=s+(i:Int):=aQ (by omega)
  simp only [Cj,F1,W1,aC,Nat.reduceMul,Nat.reduceBEq,Nat.reduceLT,Nat.reduceLeDiff,reduceCtorEq,Nat.reduceEqDiff,Nat.reduceAdd,zb]
  rw [ih _ (by rw [Zu,← ZaD,ae3 _ [s+(i:Int)]];simp only [hi1,aC,Nat.reduceMul,Nat.reduceBEq,Nat.reduceLT,Nat.reduceLeDiff,reduceCtorEq,Nat.reduceEqDiff,Nat.reduceAdd,zb]<;>rfl)]
 ·intro rb
  simp only [Cj,ZaA,aC,Nat.reduceMul,Nat.reduceBEq,Nat.reduceLT,Nat.reduceLeDiff,reduceCtorEq,Nat.reduceEqDiff,Nat.reduceAdd,zb]
theorem Ul {l:List dJ}(hl:l.length≤10000)(ho:∀ x∈l,0≤x.start∧x.start≤10000∧0≤x.count∧x.count≤10000){st:St}(h:st.head [0,6,7,8] st.boxes.length=some ⟨sl 26 [(0,.lY),(6,.pv (.list 2 (l.map aV))),(7,.pv (.int .i64 l.length)),(8,.pv (.int .i64 (0:Nat)))],[],yN (dV (l.take ((0:Nat)))),some none⟩) :
  den env CG st=some (.normal,⟨sl 26 [],[],yN (dV l),some none⟩):=by
 unfold CG
 refine aY (env:=env) (nb:=0) (l.length) (fun i=>⟨sl 26 [(0,.lY),(6,.pv (.list 2 (l.map aV))),(7,.pv (.int .i64 l.length)),(8,.pv (.int .i64 i))],[],yN (dV (l.take (i))),some none⟩) (fun i=>some (.normal,⟨sl 26 [],[],yN (dV l),some none⟩)) h (fun _=>rfl) (fun _=>by simp only [aN,bJ,Nat.reduceMul,Nat.reduceBEq,Nat.reduceLT,Nat.reduceLeDiff,Nat.reduceAdd,decide_true,zz,zE]) ?_ ?_
 ·intro i rb hi ih
  have hi1:=bU hi (by unfold lim;omega)
  have F1:((i:Int)<(l.length:Int))=True:=eq_true (by omega)
  have hx:(l.map aV)[i]?=some (.agg [.int .i64 l[i].start,.int .i64 l[i].count]):=by rw [zc,ZZ hi];rfl
  have hxo:=ho _ (Zas hi)
  rw [Uk hi] at ih
  generalize l[i]=x at *
  have hc:((x.count.toNat:Nat):Int)=x.count:=by omega
  simp only [CB,F1,hx,ay hi,za,aC,Nat.reduceMul,Nat.reduceBEq,Nat.reduceLT,Nat.reduceLeDiff,reduceCtorEq,Nat.reduceEqDiff,Nat.reduceAdd,zb]
  rw [acj (s:=x.start) (c:=x.count.toNat) (Y:=dV (l.take i)) (A:=.list 2 (l.map aV)) (B:=.int .i64 l.length) (C:=.int .i64 i) (by omega) (by omega) (by rw [show rgN x.start 0=[] from rfl,ZaB,hc];simp only [aN,bJ,Nat.reduceMul,Nat.reduceBEq,Nat.reduceLT,Nat.reduceLeDiff,Nat.reduceAdd,decide_true,zz,zE]<;>rfl)]
  simp only [aC,Nat.reduceMul,Nat.reduceBEq,Nat.reduceLT,Nat.reduceLeDiff,reduceCtorEq,Nat.reduceEqDiff,Nat.reduceAdd,zb]
  rw [ih _ (by simp only [hi1,aC,Nat.reduceMul,Nat.reduceBEq,Nat.reduceLT,Nat.reduceLeDiff,reduceCtorEq,Nat.reduceEqDiff,Nat.reduceAdd,zb]<;>rfl)]
 ·intro rb
  rw [Zaq]
  simp only [CB,ZaA,aC,Nat.reduceMul,Nat.reduceBEq,Nat.reduceLT,Nat.reduceLeDiff,reduceCtorEq,Nat.reduceEqDiff,Nat.reduceAdd,zb]
theorem Qk {l:List dJ}(hl:l.length≤10000)(ho:∀ x∈l,0≤x.start∧x.start≤10000∧0≤x.count∧x.count≤10000):iter env 196 [.bW [.list 2 (l.map aV)] 0] none=some (yN (dV l)):=by
 rw [nV aeG rfl rfl]
 simp only [Kz,vO,bC,bM,bg,bK,aW,aX,bn,aZ,Nat.reduceAdd,Nat.reduceSub]
 simp only [aC,Nat.reduceMul,Nat.reduceBEq,Nat.reduceLT,Nat.reduceLeDiff,reduceCtorEq,Nat.reduceEqDiff,Nat.reduceAdd,zb]
 rw [Ul hl ho (by simp only [aN,bJ,Nat.reduceMul,Nat.reduceBEq,Nat.reduceLT,Nat.reduceLeDiff,Nat.reduceAdd,decide_true,zz,zE]<;>rfl)]
 first|rfl|simp only [aC,Nat.reduceMul,Nat.reduceBEq,Nat.reduceLT,Nat.reduceLeDiff,reduceCtorEq,Nat.reduceEqDiff,Nat.reduceAdd,zb]
theorem Zv {l:List PV}:cal env 108 [.list 2 l]=some [(.func 196 [.bW [.list 2 l] 0],false)]:=by
 rw [aG aer rfl];simp only [JX];simp only [start,bC,bM,bg,bK,aW,aX,bn,aZ,Nat.reduceAdd,Nat.reduceSub]
 simp only [gy,reduceCtorEq,Nat.reduceEqDiff,Nat.reduceAdd,Nat.reduceLT,Nat.reduceLeDiff,zb]
def mO (l:List Int):PV:=.list 1 (l.map eU)
structure Tre where
 sz:Int
 lf:Int
 lv:List (List Int)
def Di (t:Tre):PV:=.agg [.int .i64 t.sz,.int .i64 t.lf,.list 1 (t.lv.map mO)]
theorem xH (t:Tre):Di t=.agg [.int .i64 t.sz,.int .i64 t.lf,.list 1 (t.lv.map mO)]:=rfl
def Dj (sz lf:Int)(l:List Int):Tre:=⟨sz,lf,kT l⟩
theorem lX (sz lf:Int)(l:List Int):Di (Dj sz lf l)=.agg [.int .i64 sz,.int .i64 lf,.list 1 ((kT l).map mO)]:=rfl
def lvA (l:List Int)(i:Nat):AV:=if i=0 then .pv (.list 1 (l.map eU)) else .row 1 ((rP l i).map eU)
theorem Lc {l:List Int}{i:Nat}(h:i<(kT l).length):(kT l).take (i+1)=(kT l).take i++[rP l i]:=by
 rw [take_snoc h,lV]
theorem vT {l:List Int}(h1:1≤l.length)(h2:l.length≤4096)(i:Nat):(rP l i).length≤4096:=by
 rw [lC];have:=KW l.length i h1;omega
set_option maxRecDepth 20000 in
theorem ae4 {l:List Int}{sz lf:Int}(h1:1≤l.length)(h2:l.length≤4096){st:St}(h:st.head [2,6,7,21] st.boxes.length=some ⟨sl 23 [(2,lvA l ((0:Nat))),(6,.aJ 0 0),(7,.aJ 1 0),(21,.any)],[⟨false,[.pv (.int .i64 0),.pv (.int .i64 0),.pv (.list 0 [])]⟩,⟨false,[.pv (.int .i64 sz),.pv (.int .i64 lf),.row 1 (((kT l).take ((0:Nat))).map mO)]⟩],[],none⟩) :
  den env G7 st=some (.normal,⟨sl 23 [(6,.aJ 0 0),(7,.aJ 1 0)],[⟨false,[.pv (.int .i64 0),.pv (.int .i64 0),.pv (.list 0 [])]⟩,⟨false,[.pv (.int .i64 sz),.pv (.int .i64 lf),.row 1 ((kT l).map mO)]⟩],[],none⟩):=by
 unfold G7
 refine aY (env:=env) (nb:=2) (jo l.length) (fun i=>⟨sl 23 [(2,lvA l (i)),(6,.aJ 0 0),(7,.aJ 1 0),(21,.any)],[⟨false,[.pv (.int .i64 0),.pv (.int .i64 0),.pv (.list 0 [])]⟩,⟨false,[.pv (.int .i64 sz),.pv (.int .i64 lf),.row 1 (((kT l).take (i)).map mO)]⟩],[],none⟩) (fun i=>some (.normal,⟨sl 23 [(6,.aJ 0 0),(7,.aJ 1 0)],[⟨false,[.pv (.int .i64 0),.pv (.int .i64 0),.pv (.list 0 [])]⟩,⟨false,[.pv (.int .i64 sz),.pv (.int .i64 lf),.row 1 ((kT l).map mO)]⟩],[],none⟩)) h (fun _=>rfl) (fun _=>by unfold lvA;split<;>(simp only [aN,bJ,Nat.reduceMul,Nat.reduceBEq,Nat.reduceLT,Nat.reduceLeDiff,Nat.reduceAdd,decide_true,zz,zE])) ?_ ?_
 ·intro i rb hi ih
  obtain ⟨d1,d2,d3⟩:=lD h1 h2
  have hd:=d2 i hi
  rw [← lC] at hd
  have hle:=vT h1 h2 i
  have F1:(((rP l i).length:Int)==1)=false:=by simp;omega
  have hil:i<(kT l).length:=by rw [iG];omega
  have F2:(((kT l).take i).length+1≤lim)=True:=eq_true (by rw [Zaa,iG];unfold lim;omega)
  have e1:=aeY (l:=rP l i) hle
  have ea:mO (rP l i)=.list 1 ((rP l i).map eU):=rfl
  have en:lvA l (i+1)=.row 1 ((Fa (rP l i)).map eU):=rfl
  rw [Lc hil,Zam,Zai,Zaw,ea,en] at ih
  have F0:(1≤lim)=True:=eq_true (by decide)
  cases i with
  |zero =>
   have el:lvA l 0=.pv (.list 1 ((rP l 0).map eU)):=rfl
   simp only [xk,el,F0,F1,F2,e1,za,aC,Nat.reduceMul,Nat.reduceBEq,Nat.reduceLT,Nat.reduceLeDiff,reduceCtorEq,Nat.reduceEqDiff,Nat.reduceAdd,zb]
   rw [ih _ (by simp only [aC,Nat.reduceMul,Nat.reduceBEq,Nat.reduceLT,Nat.reduceLeDiff,reduceCtorEq,Nat.reduceEqDiff,Nat.reduceAdd,zb]<;>rfl)]
  |succ i =>
   have el:lvA l (i+1)=.row 1 ((rP l (i+1)).map eU):=rfl
   simp only [xk,el,F0,F1,F2,e1,za,aC,Nat.reduceMul,Nat.reduceBEq,Nat.reduceLT,Nat.reduceLeDiff,reduceCtorEq,Nat.reduceEqDiff,Nat.reduceAdd,zb]
   rw [ih _ (by simp only [aC,Nat.reduceMul,Nat.reduceBEq,Nat.reduceLT,Nat.reduceLeDiff,reduceCtorEq,Nat.reduceEqDiff,Nat.reduceAdd,zb]<;>rfl)]
 ·intro rb
  obtain ⟨d1,d2,d3⟩:=lD h1 h2
  have hil:jo l.length<(kT l).length:=by rw [iG];omega
  have hlen:(rP l (jo l.length)).length=1:=by rw [lC];exact d1
  have F1:(((rP l (jo l.length)).length:Int)==1)=true:=by rw [hlen];rfl
  have F2:(((kT l).take (jo l.length)).length+1≤lim)=True:=eq_true (by rw [Zaa,iG];unfold lim;omega)
  have ea:mO (rP l (jo l.length))=.list 1 ((rP l (jo l.length)).map eU):=rfl
  have et:(kT l).map mO=((kT l).take (jo l.length)).map mO++[.list 1 ((rP l (jo l.length)).map eU)]:=by
   conv=>lhs;rw [← Zaq (l:=kT l),iG,Lc hil]
   rw [Zam,Zai,Zaw,ea]
  rw [et]
  generalize jo l.length=d at *
  have F0:(1≤lim)=True:=eq_true (by decide)
  cases d with
  |zero =>
   have el:lvA l 0=.pv (.list 1 ((rP l 0).map eU)):=rfl
   simp only [xk,el,F0,F1,F2,za,aC,Nat.reduceMul,Nat.reduceBEq,Nat.reduceLT,Nat.reduceLeDiff,reduceCtorEq,Nat.reduceEqDiff,Nat.reduceAdd,zb]
  |succ i =>
   have el:lvA l (i+1)=.row 1 ((rP l (i+1)).map eU):=rfl
   simp only [xk,el,F0,F1,F2,za,aC,Nat.reduceMul,Nat.reduceBEq,Nat.reduceLT,Nat.reduceLeDiff,reduceCtorEq,Nat.reduceEqDiff,Nat.reduceAdd,zb]
set_option maxRecDepth 20000 in
theorem ac7 {l:List Int}{sz lf:Int}(h1:1≤l.length)(h2:l.length≤4096):cal env 94 [.int .i64 sz,.int .i64 lf,.list 1 (l.map eU)]=some [(Di (Dj sz lf l),false)]:=by
 have el:lvA l 0=.pv (.list 1 (l.map eU)):=rfl
 rw [lX]
 rw [aG agU rfl];simp only [Xj,aN,Nat.reduceBEq,Nat.reduceLeDiff,Nat.reduceAdd,zd,zm]
 simp only [aC,Nat.reduceMul,Nat.reduceBEq,Nat.reduceLT,Nat.reduceLeDiff,reduceCtorEq,Nat.reduceEqDiff,Nat.reduceAdd,zb]
 rw [ae4 (l:=l) (sz:=sz) (lf:=lf) h1 h2 (by rw [el];simp only [aN,bJ,Nat.reduceMul,Nat.reduceBEq,Nat.reduceLT,Nat.reduceLeDiff,Nat.reduceAdd,decide_true,zz,zE]<;>rfl)]
 simp only [aC,Nat.reduceMul,Nat.reduceBEq,Nat.reduceLT,Nat.reduceLeDiff,reduceCtorEq,Nat.reduceEqDiff,Nat.reduceAdd,zb]
theorem ac8 {sz lf:Int}(h1:1≤sz∧sz≤4096)(h2:1≤lf∧lf≤4096):cal env 91 [.int .i64 sz,.int .i64 lf]=some [(.int .i64 0,false)]:=by
 have F1:(sz<1)=False:=eq_false (by omega)
 have F2:(sz > 4096)=False:=eq_false (by omega)
 have F3:(lf<1)=False:=eq_false (by omega)
 have F4:(lf > 4096)=False:=eq_false (by omega)
 rw [aG agR rfl];simp only [Xg,aN,Nat.reduceBEq,Nat.reduceLeDiff,Nat.reduceAdd,zd,zm]
 simp only [F1,F2,F3,F4,aC,Nat.reduceMul,Nat.reduceBEq,Nat.reduceLT,Nat.reduceLeDiff,reduceCtorEq,Nat.reduceEqDiff,Nat.reduceAdd,zb]
def nLv (sz lf:Int):Int:=(sz+lf - 1) / lf
theorem ae5 {sz lf:Int}(h1:1≤sz∧sz≤4096)(h2:1≤lf∧lf≤4096):cal env 189 [.int .i64 sz,.int .i64 lf]=some [(.int .i64 (nLv sz lf),false)]:=by
 have W1:IntKind.i64.wrap (sz+lf)=sz+lf:=aQ (by omega)
 have W2:IntKind.i64.wrap (sz+lf - 1)=sz+lf - 1:=aQ (by omega)
 have Z:(lf=0)=False:=eq_false (by omega)
 have b1:0≤(sz+lf - 1) / lf:=Int.ediv_nonneg (by omega) (by omega)
 have b2:(sz+lf - 1) / lf≤sz+lf - 1:=Int.ediv_le_self _ (by omega)
 have T:(sz+lf - 1).tdiv lf=nLv sz lf:=by unfold nLv;rw [ZbH (by omega)]
 have W3:IntKind.i64.wrap (nLv sz lf)=nLv sz lf:=by unfold nLv;exact aQ (by omega)
 rw [aG aeB rfl];simp only [Kt,aN,Nat.reduceBEq,Nat.reduceLeDiff,Nat.reduceAdd,zd,zm]
 simp only [W1,W2,W3,Z,T,aC,Nat.reduceMul,Nat.reduceBEq,Nat.reduceLT,Nat.reduceLeDiff,reduceCtorEq,Nat.reduceEqDiff,Nat.reduceAdd,zb]
structure L8 (sz lf:Int)(l:List Int):Prop where
 s:1≤sz∧sz≤4096
 f:1≤lf∧lf≤4096
 n:(l.length:Int)=nLv sz lf
 u:∀ d∈l,KX d
theorem L8.len {sz lf:Int}{l:List Int}(h:L8 sz lf l):1≤l.length∧l.length≤4096:=by
 obtain ⟨⟨s1,s2⟩,⟨f1,f2⟩,n,_⟩:=h
 unfold nLv at n
 have a1:1≤(sz+lf - 1) / lf:=(Int.le_ediv_iff_mul_le (by omega)).2 (by omega)
 have a2:(sz+lf - 1) / lf<4097:=(Int.ediv_lt_iff_lt_mul (by omega)).2 (by
  have:(1:Int)*4096≤lf*4096:=Int.mul_le_mul_of_nonneg_right f1 (by decide)
  have:(4097:Int)*lf=lf*4096+lf:=by rw [Int.mul_comm];omega
  omega)
 omega
def Dk (n len:Nat):Nat:=(len+n - 1) / n
def UH (n:Nat)(l:List PV)(i:Nat):List PV:=(l.drop (i*n)).take n
def chk (n:Nat)(l:List PV):List (List PV):=(Zau (Dk n l.length)).map (UH n l)
theorem pU (n:Nat)(l:List PV):(chk n l).length=Dk n l.length:=by simp [chk]
theorem Hq {n:Nat}{l:List PV}{i:Nat}(h:i<(chk n l).length):(chk n l)[i]=UH n l i:=by simp [chk]
theorem zS {n len i:Nat}(hn:1≤n):i<Dk n len ↔ i*n<len:=by
 unfold Dk
 rw [Nat.lt_div_iff_mul_lt (by omega)]
 omega
def yC (sz:Nat)(l:List (List PV)):List (List PV):=l.map fun p=>[PV.list sz p]
theorem Ql (sz:Nat)(l:List (List PV))(p:List PV):yC sz (l++[p])=yC sz l++[[.list sz p]]:=by simp [yC]
theorem zT {n:Nat}{l:List PV}{i k:Nat}(h:k=n∨(k=l.length - i*n∧k≤n)):(l.drop (i*n)).take k=UH n l i:=by
 unfold UH
 rcases h with rfl|⟨h1,h2⟩
 ·rfl
 ·rw [ZaM (by rw [ZaO];omega),ZaM (by rw [ZaO];omega)]
--+
theorem acp {l:List PV}{n:Nat}(hl:l.length≤100000)(hn:1≤n∧n≤100000){st:St}(h:st.head [0,1,2,4] st.boxes.length=some ⟨sl 31 [(0,.lY),(1,.pv (.bW [.list 1 l] 0)),(2,.pv (.bW [.int .i64 (n:Int)] 0)),(4,.pv (.int .i64 ((((0:Nat))*n:Nat):Int)))],[],yC 1 ((chk n l).take ((0:Nat))),some none⟩) :
  den env Ci st=some (.normal,⟨sl 31 [],[],yC 1 (chk n l),some none⟩):=by
 unfold Ci
 refine aY (env:=env) (nb:=0) ((chk n l).length) (fun i=>⟨sl 31 [(0,.lY),(1,.pv (.bW [.list 1 l] 0)),(2,.pv (.bW [.int .i64 (n:Int)] 0)),(4,.pv (.int .i64 (((i)*n:Nat):Int)))],[],yC 1 ((chk n l).take (i)),some none⟩) (fun i=>some (.normal,⟨sl 31 [],[],yC 1 (chk n l),some none⟩)) h (fun _=>rfl) (fun _=>by simp only [aN,bJ,Nat.reduceMul,Nat.reduceBEq,Nat.reduceLT,Nat.reduceLeDiff,Nat.reduceAdd,decide_true,zz,zE]) ?_ ?_
 ·intro i rb hi ih
  have hi':i*n<l.length:=by rw [pU] at hi;exact (zS hn.1).1 hi
  have F1:(((i*n:Nat):Int)<(l.length:Int))=True:=eq_true (by omega)
  have F2:((0:Int)≤((i*n:Nat):Int)∧((i*n:Nat):Int)≤(l.length:Int))=True:=eq_true (by omega)
  have hsn:(i+1)*n=i*n+n:=by rw [Nat.add_mul,Nat.one_mul]
  rw [take_snoc hi,Hq,Ql] at ih
  rw [hsn] at ih
  generalize hoff:i*n=off at *
  have W2:IntKind.i64.wrap ((off:Int)+(n:Int))=((off+n:Nat):Int):=by rw [aQ (by omega)];omega
  have T1:((off:Nat):Int).toNat=off:=ZaS off
  have hlen:(l.drop off).length=l.length - off:=ZaO ..
  have hlen2:((l.drop off).take (l.length - off)).length=l.length - off:=by rw [Zaa,hlen];omega
  have Q0:((0:Int)≤(off:Int))=True:=eq_true (by omega)
  have Q3:((off:Int)≤(l.length:Int))=True:=eq_true (by omega)
  by_cases c:((l.length - off:Nat):Int)<(n:Int)
  ·have F3:=eq_true c
   have W1:IntKind.i64.wrap ((off:Int)+((l.length - off:Nat):Int))=(l.length:Int):=by rw [aQ (by omega)];omega
   have hp:(l.drop off).take (l.length - off)=UH n l i:=by rw [← hoff];exact zT (.inr ⟨rfl,by omega⟩)
   have E1:((0:Int)≤(l.length:Int)∧(l.length:Int)≤(l.length:Int))=True:=eq_true (by omega)
   have E0:((0:Int)≤(l.length:Int))=True:=eq_true (by omega)
   have E2:((l.length:Int)≤(l.length:Int))=True:=eq_true (by omega)
   have T2:((l.length:Nat):Int).toNat=l.length:=ZaS _
   simp only [xB,F1,F3,W1,W2,T1,T2,E0,E1,E2,hlen,hlen2,Q0,Q3,aC,Nat.reduceMul,Nat.reduceBEq,Nat.reduceLT,Nat.reduceLeDiff,reduceCtorEq,Nat.reduceEqDiff,Nat.reduceAdd,zb]
   rw [hp,ih _ (by simp only [aC,Nat.reduceMul,Nat.reduceBEq,Nat.reduceLT,Nat.reduceLeDiff,reduceCtorEq,Nat.reduceEqDiff,Nat.reduceAdd,zb]<;>rfl)]
  ·have F3:=eq_false c
   have hp:(l.drop off).take (off+n - off)=UH n l i:=by rw [← hoff];exact zT (.inl (by omega))
   have E1:((0:Int)≤((off+n:Nat):Int)∧((off+n:Nat):Int)≤(l.length:Int))=True:=eq_true (by omega)
   have E2:((0:Int)≤((off+n:Nat):Int)∧((off+n:Nat):Int)≤((off+n:Nat):Int))=True:=eq_true (by omega)
   have E3:((off:Int)≤((off+n:Nat):Int))=True:=eq_true (by omega)
   have T2:((off+n:Nat):Int).toNat=off+n:=ZaS _
   have E4:((0:Int)≤((off+n:Nat):Int))=True:=eq_true (by omega)
   have E5:(((off+n:Nat):Int)≤(l.length:Int))=True:=eq_true (by omega)
   have E6:(((off+n:Nat):Int)≤((off+n:Nat):Int))=True:=eq_true (Zb6 _)
   simp only [xB,F1,F3,W2,T1,T2,E3,E4,E5,E6,true_and,hlen,hlen2,Q0,Q3,aC,Nat.reduceMul,Nat.reduceBEq,Nat.reduceLT,Nat.reduceLeDiff,reduceCtorEq,Nat.reduceEqDiff,Nat.reduceAdd,zb]
   rw [hp,ih _ (by simp only [aC,Nat.reduceMul,Nat.reduceBEq,Nat.reduceLT,Nat.reduceLeDiff,reduceCtorEq,Nat.reduceEqDiff,Nat.reduceAdd,zb]<;>rfl)]
 ·intro rb
  have F1:((((chk n l).length*n:Nat):Int)<(l.length:Int))=False:=eq_false (by
   have h1:¬ ((chk n l).length<Dk n l.length):=by rw [pU];omega
   have h2:=mt (zS (len:=l.length) (i:=(chk n l).length) hn.1).2 h1
   omega)
  rw [Zaq]
  simp only [xB,F1,aC,Nat.reduceMul,Nat.reduceBEq,Nat.reduceLT,Nat.reduceLeDiff,reduceCtorEq,Nat.reduceEqDiff,Nat.reduceAdd,zb]
theorem acr {l:List PV}{n:Nat}(hl:l.length≤100000)(hn:1≤n∧n≤100000):iter env 195 [.bW [.list 1 l] 0,.bW [.int .i64 (n:Int)] 0] none=some (yC 1 (chk n l)):=by
 rw [nV aeF rfl rfl]
 simp only [Ky,vO,bC,bM,bg,bK,aW,aX,bn,aZ,Nat.reduceAdd,Nat.reduceSub]
 simp only [aC,Nat.reduceMul,Nat.reduceBEq,Nat.reduceLT,Nat.reduceLeDiff,reduceCtorEq,Nat.reduceEqDiff,Nat.reduceAdd,zb]
 rw [acp hl hn (by rw [show ((0*n:Nat):Int)=0 by simp];simp only [aN,bJ,Nat.reduceMul,Nat.reduceBEq,Nat.reduceLT,Nat.reduceLeDiff,Nat.reduceAdd,decide_true,zz,zE]<;>rfl)]
 first|rfl|simp only [aC,Nat.reduceMul,Nat.reduceBEq,Nat.reduceLT,Nat.reduceLeDiff,reduceCtorEq,Nat.reduceEqDiff,Nat.reduceAdd,zb]
theorem ae6 {l:List PV}{n:Nat}(hn:1≤n):cal env 105 [.list 1 l,.int .i64 (n:Int)]=some [(.func 195 [.bW [.list 1 l] 0,.bW [.int .i64 (n:Int)] 0],false)]:=by
 have F1:((n:Int)<1)=False:=eq_false (by omega)
 rw [aG aeo rfl];simp only [JW,aN,Nat.reduceBEq,Nat.reduceLeDiff,Nat.reduceAdd,zd,zm]
 simp only [F1,aC,Nat.reduceMul,Nat.reduceBEq,Nat.reduceLT,Nat.reduceLeDiff,reduceCtorEq,Nat.reduceEqDiff,Nat.reduceAdd,zb]
--+
theorem acs {l:List PV}{n:Nat}(hl:l.length≤100000)(hn:1≤n∧n≤100000){st:St}(h:st.head [0,1,2,4] st.boxes.length=some ⟨sl 31 [(0,.lY),(1,.pv (.bW [.list 8 l] 0)),(2,.pv (.bW [.int .i64 (n:Int)] 0)),(4,.pv (.int .i64 ((((0:Nat))*n:Nat):Int)))],[],yC 8 ((chk n l).take ((0:Nat))),some none⟩) :
  den env BJ st=some (.normal,⟨sl 31 [],[],yC 8 (chk n l),some none⟩):=by
 unfold BJ
 refine aY (env:=env) (nb:=0) ((chk n l).length) (fun i=>⟨sl 31 [(0,.lY),(1,.pv (.bW [.list 8 l] 0)),(2,.pv (.bW [.int .i64 (n:Int)] 0)),(4,.pv (.int .i64 (((i)*n:Nat):Int)))],[],yC 8 ((chk n l).take (i)),some none⟩) (fun i=>some (.normal,⟨sl 31 [],[],yC 8 (chk n l),some none⟩)) h (fun _=>rfl) (fun _=>by simp only [aN,bJ,Nat.reduceMul,Nat.reduceBEq,Nat.reduceLT,Nat.reduceLeDiff,Nat.reduceAdd,decide_true,zz,zE]) ?_ ?_
 ·intro i rb hi ih
  have hi':i*n<l.length:=by rw [pU] at hi;exact (zS hn.1).1 hi
  have F1:(((i*n:Nat):Int)<(l.length:Int))=True:=eq_true (by omega)
  have F2:((0:Int)≤((i*n:Nat):Int)∧((i*n:Nat):Int)≤(l.length:Int))=True:=eq_true (by omega)
  have hsn:(i+1)*n=i*n+n:=by rw [Nat.add_mul,Nat.one_mul]
  rw [take_snoc hi,Hq,Ql] at ih
  rw [hsn] at ih
  generalize hoff:i*n=off at *
  have W2:IntKind.i64.wrap ((off:Int)+(n:Int))=((off+n:Nat):Int):=by rw [aQ (by omega)];omega
  have T1:((off:Nat):Int).toNat=off:=ZaS off
  have hlen:(l.drop off).length=l.length - off:=ZaO ..
  have hlen2:((l.drop off).take (l.length - off)).length=l.length - off:=by rw [Zaa,hlen];omega
  have Q0:((0:Int)≤(off:Int))=True:=eq_true (by omega)
  have Q3:((off:Int)≤(l.length:Int))=True:=eq_true (by omega)
  by_cases c:((l.length - off:Nat):Int)<(n:Int)
  ·have F3:=eq_true c
   have W1:IntKind.i64.wrap ((off:Int)+((l.length - off:Nat):Int))=(l.length:Int):=by rw [aQ (by omega)];omega
   have hp:(l.drop off).take (l.length - off)=UH n l i:=by rw [← hoff];exact zT (.inr ⟨rfl,by omega⟩)
   have E1:((0:Int)≤(l.length:Int)∧(l.length:Int)≤(l.length:Int))=True:=eq_true (by omega)
   have E0:((0:Int)≤(l.length:Int))=True:=eq_true (by omega)
   have E2:((l.length:Int)≤(l.length:Int))=True:=eq_true (by omega)
   have T2:((l.length:Nat):Int).toNat=l.length:=ZaS _
   simp only [xw,F1,F3,W1,W2,T1,T2,E0,E1,E2,hlen,hlen2,Q0,Q3,aC,Nat.reduceMul,Nat.reduceBEq,Nat.reduceLT,Nat.reduceLeDiff,reduceCtorEq,Nat.reduceEqDiff,Nat.reduceAdd,zb]
   rw [hp,ih _ (by simp only [aC,Nat.reduceMul,Nat.reduceBEq,Nat.reduceLT,Nat.reduceLeDiff,reduceCtorEq,Nat.reduceEqDiff,Nat.reduceAdd,zb]<;>rfl)]
  ·have F3:=eq_false c
   have hp:(l.drop off).take (off+n - off)=UH n l i:=by rw [← hoff];exact zT (.inl (by omega))
   have E1:((0:Int)≤((off+n:Nat):Int)∧((off+n:Nat):Int)≤(l.length:Int))=True:=eq_true (by omega)
   have E2:((0:Int)≤((off+n:Nat):Int)∧((off+n:Nat):Int)≤((off+n:Nat):Int))=True:=eq_true (by omega)
   have E3:((off:Int)≤((off+n:Nat):Int))=True:=eq_true (by omega)
   have T2:((off+n:Nat):Int).toNat=off+n:=ZaS _
   have E4:((0:Int)≤((off+n:Nat):Int))=True:=eq_true (by omega)
   have E5:(((off+n:Nat):Int)≤(l.length:Int))=True:=eq_true (by omega)
   have E6:(((off+n:Nat):Int)≤((off+n:Nat):Int))=True:=eq_true (Zb6 _)
   simp only [xw,F1,F3,W2,T1,T2,E3,E4,E5,E6,true_and,hlen,hlen2,Q0,Q3,aC,Nat.reduceMul,Nat.reduceBEq,Nat.reduceLT,Nat.reduceLeDiff,reduceCtorEq,Nat.reduceEqDiff,Nat.reduceAdd,zb]
   rw [hp,ih _ (by simp only [aC,Nat.reduceMul,Nat.reduceBEq,Nat.reduceLT,Nat.reduceLeDiff,reduceCtorEq,Nat.reduceEqDiff,Nat.reduceAdd,zb]<;>rfl)]
 ·intro rb
  have F1:((((chk n l).length*n:Nat):Int)<(l.length:Int))=False:=eq_false (by
   have h1:¬ ((chk n l).length<Dk n l.length):=by rw [pU];omega
   have h2:=mt (zS (len:=l.length) (i:=(chk n l).length) hn.1).2 h1
   omega)
  rw [Zaq]
  simp only [xw,F1,aC,Nat.reduceMul,Nat.reduceBEq,Nat.reduceLT,Nat.reduceLeDiff,reduceCtorEq,Nat.reduceEqDiff,Nat.reduceAdd,zb]
theorem acu {l:List PV}{n:Nat}(hl:l.length≤100000)(hn:1≤n∧n≤100000):iter env 184 [.bW [.list 8 l] 0,.bW [.int .i64 (n:Int)] 0] none=some (yC 8 (chk n l)):=by
 rw [nV aew rfl rfl]
 simp only [J6,vO,bC,bM,bg,bK,aW,aX,bn,aZ,Nat.reduceAdd,Nat.reduceSub]
 simp only [aC,Nat.reduceMul,Nat.reduceBEq,Nat.reduceLT,Nat.reduceLeDiff,reduceCtorEq,Nat.reduceEqDiff,Nat.reduceAdd,zb]
 rw [acs hl hn (by rw [show ((0*n:Nat):Int)=0 by simp];simp only [aN,bJ,Nat.reduceMul,Nat.reduceBEq,Nat.reduceLT,Nat.reduceLeDiff,Nat.reduceAdd,decide_true,zz,zE]<;>rfl)]
 first|rfl|simp only [aC,Nat.reduceMul,Nat.reduceBEq,Nat.reduceLT,Nat.reduceLeDiff,reduceCtorEq,Nat.reduceEqDiff,Nat.reduceAdd,zb]
theorem ag2 {l:List PV}{n:Nat}(hn:1≤n):cal env 92 [.list 8 l,.int .i64 (n:Int)]=some [(.func 184 [.bW [.list 8 l] 0,.bW [.int .i64 (n:Int)] 0],false)]:=by
 have F1:((n:Int)<1)=False:=eq_false (by omega)
 rw [aG agS rfl];simp only [Xh,aN,Nat.reduceBEq,Nat.reduceLeDiff,Nat.reduceAdd,zd,zm]
 simp only [F1,aC,Nat.reduceMul,Nat.reduceBEq,Nat.reduceLT,Nat.reduceLeDiff,reduceCtorEq,Nat.reduceEqDiff,Nat.reduceAdd,zb]
theorem Qm {α:Type}[DecidableEq α]:∀ l:List α,(l.zip l).all (fun q=>decide (q.1=q.2))=true
 |[]=>rfl
 |x::l=>by rw [Zcd,ZcN,Qm l];simp
def cz (n i:Nat):Nat:=if i≤jo n then cd n i else 0
set_option maxRecDepth 20000 in
theorem ae7 {l:List Int}{sz lf:Int}(h1:1≤l.length)(h2:l.length≤4096){st:St}(h:st.head [1,4,22,23,24] st.boxes.length=some ⟨sl 68 [(1,.aJ 0 0),(4,.pv (.int .i64 (cz l.length ((0:Nat)):Int))),(22,.pv (.list 1 ((kT l).map mO))),(23,.pv (.int .i64 (kT l).length)),(24,.pv (.int .i64 (0:Nat)))],[⟨false,[.pv (.int .i64 sz),.pv (.int .i64 lf),.pv (.list 1 ((kT l).map mO))]⟩],[],none⟩) :
  den env G8 st=some (.normal,⟨sl 68 [(1,.aJ 0 0),(2,.any),(4,.pv (.int .i64 0))],[⟨false,[.pv (.int .i64 sz),.pv (.int .i64 lf),.pv (.list 1 ((kT l).map mO))]⟩],[],none⟩):=by
 unfold G8
 refine aY (env:=env) (nb:=1) ((kT l).length) (fun i=>⟨sl 68 [(1,.aJ 0 0),(4,.pv (.int .i64 (cz l.length (i):Int))),(22,.pv (.list 1 ((kT l).map mO))),(23,.pv (.int .i64 (kT l).length)),(24,.pv (.int .i64 i))],[⟨false,[.pv (.int .i64 sz),.pv (.int .i64 lf),.pv (.list 1 ((kT l).map mO))]⟩],[],none⟩) (fun i=>some (.normal,⟨sl 68 [(1,.aJ 0 0),(2,.any),(4,.pv (.int .i64 0))],[⟨false,[.pv (.int .i64 sz),.pv (.int .i64 lf),.pv (.list 1 ((kT l).map mO))]⟩],[],none⟩)) h (fun _=>rfl) (fun _=>by simp only [aN,bJ,Nat.reduceMul,Nat.reduceBEq,Nat.reduceLT,Nat.reduceLeDiff,Nat.reduceAdd,decide_true,zz,zE]) ?_ ?_
 ·intro i rb hi ih
  obtain ⟨d1,d2,d3⟩:=lD h1 h2
  have hll:=iG l
  have hi1:=bU hi (by unfold lim;omega)
  have F1:((i:Int)<((kT l).length:Int))=True:=eq_true (by omega)
  have hx:((kT l).map mO)[i]?=some (.list 1 ((rP l i).map eU)):=by rw [zc,ZZ hi,lV];rfl
  have hn:(rP l i).length=cd l.length i:=lC l i
  have hcd:=KW l.length i h1
  have hcp:=C9 h1 i
  have hzi:cz l.length i=cd l.length i:=by unfold cz;rw [if_pos (by omega)]
  rw [hzi]
  have E1:((cd l.length i:Int) != (cd l.length i:Int))=false:=by simp
  have W1:IntKind.i64.wrap ((i:Int)+1)=((i+1:Nat):Int):=hi1
  by_cases c:i=jo l.length
  ·have hc1:cd l.length i=1:=by rw [c];exact d1
   have F2:(((i+1:Nat):Int)<((kT l).length:Int))=False:=eq_false (by omega)
   have hz:cz l.length (i+1)=0:=by unfold cz;rw [if_neg (by omega)]
   have E2:((1:Int)==1)=true:=rfl
   have E3:IntKind.i64.wrap (0+1)=1:=rfl
   have E4:IntKind.i64.wrap ((1:Int).tdiv 2)=0:=rfl
   have z2:((2:Int)=0)=False:=eq_false (by decide)
   rw [hz] at ih
   rw [hc1] at hn E1 ⊢
   simp only [zO,F1,F2,hx,hn,E1,E2,E3,E4,z2,W1,Int.ofNat_one,show ((1:Nat):Int)=1 from rfl,ay hi,za,aC,Nat.reduceMul,Nat.reduceBEq,Nat.reduceLT,Nat.reduceLeDiff,reduceCtorEq,Nat.reduceEqDiff,Nat.reduceAdd,zb]
   rw [ih _ (by simp only [show ((0:Nat):Int)=0 from rfl,aC,Nat.reduceMul,Nat.reduceBEq,Nat.reduceLT,Nat.reduceLeDiff,reduceCtorEq,Nat.reduceEqDiff,Nat.reduceAdd,zb]<;>rfl)]
  ·have hc2:=d2 i (by omega)
   have E2:((cd l.length i:Int)==1)=false:=by simp;omega
   have W2:IntKind.i64.wrap ((cd l.length i:Int)+1)=(cd l.length i:Int)+1:=aQ (by omega)
   have hz:cz l.length (i+1)=(cd l.length i+1) / 2:=by unfold cz;rw [if_pos (by omega)];rfl
   have T:((cd l.length i:Int)+1).tdiv 2=(((cd l.length i+1) / 2:Nat):Int):=by rw [ZbH (by omega)];omega
   have W3:IntKind.i64.wrap ((((cd l.length i+1) / 2:Nat):Int))=(((cd l.length i+1) / 2:Nat):Int):=aQ (by omega)
   have z2:((2:Int)=0)=False:=eq_false (by decide)
   rw [hz] at ih
   simp only [zO,F1,hx,hn,E1,E2,T,W1,W2,W3,z2,ay hi,za,aC,Nat.reduceMul,Nat.reduceBEq,Nat.reduceLT,Nat.reduceLeDiff,reduceCtorEq,Nat.reduceEqDiff,Nat.reduceAdd,zb]
   rw [ih _ (by simp only [aC,Nat.reduceMul,Nat.reduceBEq,Nat.reduceLT,Nat.reduceLeDiff,reduceCtorEq,Nat.reduceEqDiff,Nat.reduceAdd,zb]<;>rfl)]
 ·intro rb
  have hz:cz l.length (kT l).length=0:=by unfold cz;rw [if_neg (by rw [iG];omega)]
  rw [hz]
  simp only [zO,ZaA,show ((0:Nat):Int)=0 from rfl,za,aC,Nat.reduceMul,Nat.reduceBEq,Nat.reduceLT,Nat.reduceLeDiff,reduceCtorEq,Nat.reduceEqDiff,Nat.reduceAdd,zb]
set_option maxRecDepth 20000 in
theorem Qn {l:List Int}{sz lf:Int}(h:L8 sz lf l):cal env 95 [Di (Dj sz lf l)]=some [(.int .i64 0,false)]:=by
 obtain ⟨h1,h2⟩:=h.len
 obtain ⟨d1,d2,d3⟩:=lD h1 h2
 have hll:=iG l
 have e1:=ac8 h.s h.f
 have e2:=ae5 h.s h.f
 have e3:=ac7 (l:=l) (sz:=sz) (lf:=lf) h1 h2
 have e4:=ae1 (enc:=mO) (enc2:=mO) (eq:=fun x y=>decide (x=y)) (l:=kT l) (m:=kT l) (gf:=191) (caps:=[]) (fun x hx y hy=>aeZ (l:=x) (m:=y) (by
  obtain ⟨i,hi,rfl⟩:=List.getElem_of_mem hx
  rw [lV]
  have:=vT h1 h2 i
  unfold lim;omega)) (fun _=>rfl) (fun _=>rfl) (by rw [hll];unfold lim;omega)
 have e5:eqF (fun x y=>decide (x=y)) (kT l) (kT l)=true:=by
  unfold eqF
  rw [decide_eq_true rfl,zE]
  exact Qm _
 rw [e5] at e4
 rw [← h.n] at e2
 rw [lX] at e3 ⊢
 have P3:∀ a b c:PV,part [a,b,c] 0 (some 3)=some (.agg [a,b,c]):=fun _ _ _=>rfl
 have hx:((kT l).map mO)[0]?=some (.list 1 (l.map eU)):=by rw [zc,ZZ (by omega),lV];rfl
 have hz:cz l.length 0=l.length:=by unfold cz;rw [if_pos (by omega)];rfl
 have hI:index (.int .i64 0) (kT l).length=some 0:=ay (n:=(kT l).length) (i:=0) (by omega)
 have Z:((0:Int) != 0)=false:=rfl
 rw [aG agV rfl];simp only [Xk,aN,Nat.reduceBEq,Nat.reduceLeDiff,Nat.reduceAdd,zd,zm]
 simp only [e1,e2,e3,e4,P3,hx,hI,Z,za,aC,Nat.reduceMul,Nat.reduceBEq,Nat.reduceLT,Nat.reduceLeDiff,reduceCtorEq,Nat.reduceEqDiff,Nat.reduceAdd,zb]
 rw [ae7 (l:=l) (sz:=sz) (lf:=lf) h1 h2 (by rw [hz];simp only [aN,bJ,Nat.reduceMul,Nat.reduceBEq,Nat.reduceLT,Nat.reduceLeDiff,Nat.reduceAdd,decide_true,zz,zE]<;>rfl)]
 simp only [e1,e2,e3,e4,P3,hx,hI,Z,za,aC,Nat.reduceMul,Nat.reduceBEq,Nat.reduceLT,Nat.reduceLeDiff,reduceCtorEq,Nat.reduceEqDiff,Nat.reduceAdd,zb]
set_option maxRecDepth 20000 in
theorem ae8 {t:Tre}(hl:t.lv.length≤100)(hv:∀ x∈t.lv,x.length≤4096){st:St}(h:st.head [1,2,3,9,11,12,13,21] st.boxes.length=some ⟨sl 26 [(1,.aJ 0 0),(2,.aJ 1 0),(3,.row 1 ((t.lv.take ((0:Nat))).map mO)),(9,.any),(11,.pv (.list 1 (t.lv.map mO))),(12,.pv (.int .i64 t.lv.length)),(13,.pv (.int .i64 (0:Nat))),(21,.any)],[⟨false,[.pv (.int .i64 t.sz),.pv (.int .i64 t.lf),.pv (.list 1 (t.lv.map mO))]⟩,⟨false,[.pv (.int .i64 0),.pv (.int .i64 0),.pv (.list 0 [])]⟩],[],none⟩) :
  den env He st=some (.normal,⟨sl 26 [(1,.aJ 0 0),(2,.aJ 1 0),(3,.row 1 (t.lv.map mO))],[⟨false,[.pv (.int .i64 t.sz),.pv (.int .i64 t.lf),.pv (.list 1 (t.lv.map mO))]⟩,⟨false,[.pv (.int .i64 0),.pv (.int .i64 0),.pv (.list 0 [])]⟩],[],none⟩):=by
 unfold He
 refine aY (env:=env) (nb:=2) (t.lv.length) (fun i=>⟨sl 26 [(1,.aJ 0 0),(2,.aJ 1 0),(3,.row 1 ((t.lv.take (i)).map mO)),(9,.any),(11,.pv (.list 1 (t.lv.map mO))),(12,.pv (.int .i64 t.lv.length)),(13,.pv (.int .i64 i)),(21,.any)],[⟨false,[.pv (.int .i64 t.sz),.pv (.int .i64 t.lf),.pv (.list 1 (t.lv.map mO))]⟩,⟨false,[.pv (.int .i64 0),.pv (.int .i64 0),.pv (.list 0 [])]⟩],[],none⟩) (fun i=>some (.normal,⟨sl 26 [(1,.aJ 0 0),(2,.aJ 1 0),(3,.row 1 (t.lv.map mO))],[⟨false,[.pv (.int .i64 t.sz),.pv (.int .i64 t.lf),.pv (.list 1 (t.lv.map mO))]⟩,⟨false,[.pv (.int .i64 0),.pv (.int .i64 0),.pv (.list 0 [])]⟩],[],none⟩)) h (fun _=>rfl) (fun _=>by simp only [aN,bJ,Nat.reduceMul,Nat.reduceBEq,Nat.reduceLT,Nat.reduceLeDiff,Nat.reduceAdd,decide_true,zz,zE]) ?_ ?_
 ·intro i rb hi ih
  have hi1:=bU hi (by unfold lim;omega)
  have F1:((i:Int)<(t.lv.length:Int))=True:=eq_true (by omega)
  have hx:(t.lv.map mO)[i]?=some (.list 1 (t.lv[i].map eU)):=by rw [zc,ZZ hi];rfl
  have hvi:=hv _ (Zas hi)
  have c1:=ae2 (es:=t.lv[i].map eU) (by rw [za];unfold lim;omega)
  have F4:((t.lv.take i).length+1≤lim)=True:=eq_true (by rw [Zaa];unfold lim;omega)
  have ea:mO t.lv[i]=.list 1 (t.lv[i].map eU):=rfl
  rw [take_snoc hi,Zam,Zai,Zaw,ea] at ih
  simp only [G9,F1,F4,hx,c1,ay hi,za,aC,Nat.reduceMul,Nat.reduceBEq,Nat.reduceLT,Nat.reduceLeDiff,reduceCtorEq,Nat.reduceEqDiff,Nat.reduceAdd,zb]
  rw [ih _ (by simp only [hi1,aC,Nat.reduceMul,Nat.reduceBEq,Nat.reduceLT,Nat.reduceLeDiff,reduceCtorEq,Nat.reduceEqDiff,Nat.reduceAdd,zb]<;>rfl)]
 ·intro rb
  rw [Zaq]
  simp only [G9,ZaA,za,aC,Nat.reduceMul,Nat.reduceBEq,Nat.reduceLT,Nat.reduceLeDiff,reduceCtorEq,Nat.reduceEqDiff,Nat.reduceAdd,zb]
set_option maxRecDepth 20000 in
theorem Ld {t:Tre}(hl:t.lv.length≤100)(hv:∀ x∈t.lv,x.length≤4096):cal env 96 [Di t]=some [(Di t,false)]:=by
 rw [xH]
 have P3:∀ a b c:PV,part [a,b,c] 0 (some 3)=some (.agg [a,b,c]):=fun _ _ _=>rfl
 have F1:(0≤(t.lv.length:Int))=True:=eq_true (by omega)
 have F2:((t.lv.length:Int)≤(lim:Int))=True:=eq_true (by unfold lim;omega)
 have F3:((0:Int)≤0)=True:=eq_true (Zb6 _)
 rw [aG agW rfl];simp only [Xl,aN,Nat.reduceBEq,Nat.reduceLeDiff,Nat.reduceAdd,zd,zm]
 simp only [P3,F1,F2,F3,za,aC,Nat.reduceMul,Nat.reduceBEq,Nat.reduceLT,Nat.reduceLeDiff,reduceCtorEq,Nat.reduceEqDiff,Nat.reduceAdd,zb]
 rw [ae8 (t:=t) hl hv (by simp only [aN,bJ,Nat.reduceMul,Nat.reduceBEq,Nat.reduceLT,Nat.reduceLeDiff,Nat.reduceAdd,decide_true,zz,zE]<;>rfl)]
 simp only [P3,F1,F2,F3,za,aC,Nat.reduceMul,Nat.reduceBEq,Nat.reduceLT,Nat.reduceLeDiff,reduceCtorEq,Nat.reduceEqDiff,Nat.reduceAdd,zb]
structure lG where
 t:Tre
 pend:List dJ
 jY:Int
 found:List dJ
 sent:Int
 fin:Bool
def wP (w:lG):List PV:=[.int .i64 w.t.sz,.int .i64 w.t.lf,.list 1 (w.t.lv.map mO),.list 2 (w.pend.map aV),.int .i64 w.jY,.list 2 (w.found.map aV),.int .i64 w.sent,.bool w.fin]
theorem iP (w:lG):wP w=[.int .i64 w.t.sz,.int .i64 w.t.lf,.list 1 (w.t.lv.map mO),.list 2 (w.pend.map aV),.int .i64 w.jY,.list 2 (w.found.map aV),.int .i64 w.sent,.bool w.fin]:=rfl
def wB (w:lG):List BV:=[.pv (.int .i64 w.t.sz),.pv (.int .i64 w.t.lf),.pv (.list 1 (w.t.lv.map mO)),.pv (.list 2 (w.pend.map aV)),.pv (.int .i64 w.jY),.pv (.list 2 (w.found.map aV)),.pv (.int .i64 w.sent),.pv (.bool w.fin)]
theorem cZ (w:lG):wB w=[.pv (.int .i64 w.t.sz),.pv (.int .i64 w.t.lf),.pv (.list 1 (w.t.lv.map mO)),.pv (.list 2 (w.pend.map aV)),.pv (.int .i64 w.jY),.pv (.list 2 (w.found.map aV)),.pv (.int .i64 w.sent),.pv (.bool w.fin)]:=rfl
def L9 (w:lG):PV:=.agg (wP w)
theorem jM (w:lG):L9 w=.agg [.int .i64 w.t.sz,.int .i64 w.t.lf,.list 1 (w.t.lv.map mO),.list 2 (w.pend.map aV),.int .i64 w.jY,.list 2 (w.found.map aV),.int .i64 w.sent,.bool w.fin]:=rfl
structure Msg where
 kind:Int
 num:Int
 vals:List Int
 body:List Int
def nX (m:Msg):PV:=.agg [.int .i64 m.kind,.int .i64 0,.int .i64 0,.int .i64 m.num,.int .i64 0,.int .i64 0,.list 1 (m.vals.map eI),.list 1 (m.body.map oN)]
theorem yL (m:Msg):nX m=.agg [.int .i64 m.kind,.int .i64 0,.int .i64 0,.int .i64 m.num,.int .i64 0,.int .i64 0,.list 1 (m.vals.map eI),.list 1 (m.body.map oN)]:=rfl
def qx (l:List dJ):List Int:=l.flatMap fun x=>[x.start,x.count]
theorem Dl {l:List dJ}{i:Nat}(h:i<l.length):qx (l.take (i+1))=qx (l.take i)++[l[i].start,l[i].count]:=by
 unfold qx;rw [take_snoc h,List.flatMap_append];simp
theorem mg (l:List dJ):(qx l).length=2*l.length:=by
 induction l with
 |nil=>rfl
 |cons x l ih=>show (_++qx l).length=_;simp only [Zak,ih,zd,zm];omega
def vals (w:lG):List Int:=w.t.sz::w.t.lf::qx w.pend
def nR (w:lG):Msg:=⟨13,w.jY,vals w,[]⟩
theorem P8:∀ x0 x1 x2 x3 x4 x5 x6 x7:PV,part [x0,x1,x2,x3,x4,x5,x6,x7] 0 (some 8)=some (.agg [x0,x1,x2,x3,x4,x5,x6,x7]):=fun _ _ _ _ _ _ _ _=>rfl
theorem P3:∀ a b c:PV,part [a,b,c] 0 (some 3)=some (.agg [a,b,c]):=fun _ _ _=>rfl
def OX:List BV:=[.pv (.int .i64 0),.pv (.int .i64 0),.pv (.int .i64 0),.pv (.int .i64 0),.pv (.int .i64 0),.pv (.int .i64 0),.pv (.list 0 []),.pv (.list 0 [])]
theorem fK:OX=[.pv (.int .i64 0),.pv (.int .i64 0),.pv (.int .i64 0),.pv (.int .i64 0),.pv (.int .i64 0),.pv (.int .i64 0),.pv (.list 0 []),.pv (.list 0 [])]:=rfl
set_option maxRecDepth 20000 in
theorem ae9 {w:lG}(hl:w.pend.length≤4096){st:St}(h:st.head [0,2,3,18,23,24,25,35] st.boxes.length=some ⟨sl 44 [(0,.pv (.bW (wP w) 0)),(2,.aJ 0 0),(3,.row 1 (.int .i64 w.t.sz::.int .i64 w.t.lf::(qx (w.pend.take ((0:Nat)))).map eI)),(18,.any),(23,.pv (.list 2 (w.pend.map aV))),(24,.pv (.int .i64 w.pend.length)),(25,.pv (.int .i64 (0:Nat))),(35,.any)],[⟨false,OX⟩],[],none⟩) :
  den env xu st=some (.normal,⟨sl 44 [(0,.pv (.bW (wP w) 0)),(2,.aJ 0 0),(3,.row 1 ((vals w).map eI))],[⟨false,OX⟩],[],none⟩):=by
 unfold xu
 refine aY (env:=env) (nb:=1) (w.pend.length) (fun i=>⟨sl 44 [(0,.pv (.bW (wP w) 0)),(2,.aJ 0 0),(3,.row 1 (.int .i64 w.t.sz::.int .i64 w.t.lf::(qx (w.pend.take (i))).map eI)),(18,.any),(23,.pv (.list 2 (w.pend.map aV))),(24,.pv (.int .i64 w.pend.length)),(25,.pv (.int .i64 i)),(35,.any)],[⟨false,OX⟩],[],none⟩) (fun i=>some (.normal,⟨sl 44 [(0,.pv (.bW (wP w) 0)),(2,.aJ 0 0),(3,.row 1 ((vals w).map eI))],[⟨false,OX⟩],[],none⟩)) h (fun _=>rfl) (fun _=>by simp only [aN,bJ,Nat.reduceMul,Nat.reduceBEq,Nat.reduceLT,Nat.reduceLeDiff,Nat.reduceAdd,decide_true,zz,zE]) ?_ ?_
 ·intro i rb hi ih
  have hi1:=bU hi (by unfold lim;omega)
  have F1:((i:Int)<(w.pend.length:Int))=True:=eq_true (by omega)
  have hx:(w.pend.map aV)[i]?=some (.agg [.int .i64 w.pend[i].start,.int .i64 w.pend[i].count]):=by rw [zc,ZZ hi];rfl
  have hv:(qx (w.pend.take i)).length=2*i:=by rw [mg,Zaa];omega
  have F4:((qx (w.pend.take i)).length+1+1+2≤lim)=True:=eq_true (by rw [hv];unfold lim;omega)
  rw [Dl hi,Zam,Zai,Zai,Zaw] at ih
  generalize w.pend[i]=x at *
  simp only [xq,F1,F4,hx,fK,cZ,ay hi,za,zd,aC,Nat.reduceMul,Nat.reduceBEq,Nat.reduceLT,Nat.reduceLeDiff,reduceCtorEq,Nat.reduceEqDiff,Nat.reduceAdd,zb]
  rw [ih _ (by simp only [hi1,fK,cZ,eI,aC,Nat.reduceMul,Nat.reduceBEq,Nat.reduceLT,Nat.reduceLeDiff,reduceCtorEq,Nat.reduceEqDiff,Nat.reduceAdd,zb]<;>rfl)]
  <;> first|done|rfl|simp only [fK,cZ]
 ·intro rb
  rw [Zaq]
  simp only [xq,ZaA,fK,cZ,za,aC,Nat.reduceMul,Nat.reduceBEq,Nat.reduceLT,Nat.reduceLeDiff,reduceCtorEq,Nat.reduceEqDiff,Nat.reduceAdd,zb]
  <;> first|done|rfl
set_option maxRecDepth 20000 in
theorem ac9 {w:lG}(hl:w.pend.length≤4096):cal env 97 [.bW (wP w) 0]=some [(nX (nR w),false)]:=by
 have E:nX (nR w)=.agg [.int .i64 13,.int .i64 0,.int .i64 0,.int .i64 w.jY,.int .i64 0,.int .i64 0,.list 1 ((vals w).map eI),.list 1 []]:=rfl
 have E2:vals w=w.t.sz::w.t.lf::qx w.pend:=rfl
 have hl':(w.pend.map aV).length=w.pend.length:=za ..
 rw [E]
 rw [aG ac5 rfl]
 simp only [TM,iP,aN,Nat.reduceBEq,Nat.reduceLeDiff,Nat.reduceAdd,zd,zm]
 simp only [P8,P3,hl',aC,Nat.reduceMul,Nat.reduceBEq,Nat.reduceLT,Nat.reduceLeDiff,reduceCtorEq,Nat.reduceEqDiff,Nat.reduceAdd,zb]
 rw [ae9 (w:=w) hl (by rw [fK];simp only [aN,bJ,Nat.reduceMul,Nat.reduceBEq,Nat.reduceLT,Nat.reduceLeDiff,Nat.reduceAdd,decide_true,zz,zE]<;>rfl)]
 simp only [P8,P3,fK,cZ,iP,za,aC,Nat.reduceMul,Nat.reduceBEq,Nat.reduceLT,Nat.reduceLeDiff,reduceCtorEq,Nat.reduceEqDiff,Nat.reduceAdd,zb]
set_option maxRecDepth 20000 in
theorem acv {w:lG}(hl:w.pend.length≤4096){st:St}(h:st.head [0,2,3,18,23,24,25,35] st.boxes.length=some ⟨sl 44 [(0,.aJ 0 0),(2,.aJ 1 0),(3,.row 1 (.int .i64 w.t.sz::.int .i64 w.t.lf::(qx (w.pend.take ((0:Nat)))).map eI)),(18,.any),(23,.pv (.list 2 (w.pend.map aV))),(24,.pv (.int .i64 w.pend.length)),(25,.pv (.int .i64 (0:Nat))),(35,.any)],[⟨false,wB w⟩,⟨false,OX⟩],[],none⟩) :
  den env xu st=some (.normal,⟨sl 44 [(0,.aJ 0 0),(2,.aJ 1 0),(3,.row 1 ((vals w).map eI))],[⟨false,wB w⟩,⟨false,OX⟩],[],none⟩):=by
 unfold xu
 refine aY (env:=env) (nb:=2) (w.pend.length) (fun i=>⟨sl 44 [(0,.aJ 0 0),(2,.aJ 1 0),(3,.row 1 (.int .i64 w.t.sz::.int .i64 w.t.lf::(qx (w.pend.take (i))).map eI)),(18,.any),(23,.pv (.list 2 (w.pend.map aV))),(24,.pv (.int .i64 w.pend.length)),(25,.pv (.int .i64 i)),(35,.any)],[⟨false,wB w⟩,⟨false,OX⟩],[],none⟩) (fun i=>some (.normal,⟨sl 44 [(0,.aJ 0 0),(2,.aJ 1 0),(3,.row 1 ((vals w).map eI))],[⟨false,wB w⟩,⟨false,OX⟩],[],none⟩)) h (fun _=>rfl) (fun _=>by simp only [aN,bJ,Nat.reduceMul,Nat.reduceBEq,Nat.reduceLT,Nat.reduceLeDiff,Nat.reduceAdd,decide_true,zz,zE]) ?_ ?_
 ·intro i rb hi ih
  have hi1:=bU hi (by unfold lim;omega)
  have F1:((i:Int)<(w.pend.length:Int))=True:=eq_true (by omega)
  have hx:(w.pend.map aV)[i]?=some (.agg [.int .i64 w.pend[i].start,.int .i64 w.pend[i].count]):=by rw [zc,ZZ hi];rfl
  have hv:(qx (w.pend.take i)).length=2*i:=by rw [mg,Zaa];omega
  have F4:((qx (w.pend.take i)).length+1+1+2≤lim)=True:=eq_true (by rw [hv];unfold lim;omega)
  rw [Dl hi,Zam,Zai,Zai,Zaw] at ih
  generalize w.pend[i]=x at *
  simp only [xq,F1,F4,hx,fK,cZ,ay hi,za,zd,aC,Nat.reduceMul,Nat.reduceBEq,Nat.reduceLT,Nat.reduceLeDiff,reduceCtorEq,Nat.reduceEqDiff,Nat.reduceAdd,zb]
  rw [ih _ (by simp only [hi1,fK,cZ,eI,aC,Nat.reduceMul,Nat.reduceBEq,Nat.reduceLT,Nat.reduceLeDiff,reduceCtorEq,Nat.reduceEqDiff,Nat.reduceAdd,zb]<;>rfl)]
  <;> first|done|rfl|simp only [fK,cZ]
 ·intro rb
  rw [Zaq]
  simp only [xq,ZaA,fK,cZ,za,aC,Nat.reduceMul,Nat.reduceBEq,Nat.reduceLT,Nat.reduceLeDiff,reduceCtorEq,Nat.reduceEqDiff,Nat.reduceAdd,zb]
  <;> first|done|rfl
set_option maxRecDepth 20000 in
theorem Hr {w:lG}(hl:w.pend.length≤4096):AY env 97 (.box (wP w)) []=some ([(nX (nR w),false)],some (wP w)):=by
 have E:nX (nR w)=.agg [.int .i64 13,.int .i64 0,.int .i64 0,.int .i64 w.jY,.int .i64 0,.int .i64 0,.list 1 ((vals w).map eI),.list 1 []]:=rfl
 have E2:vals w=w.t.sz::w.t.lf::qx w.pend:=rfl
 have hl':(w.pend.map aV).length=w.pend.length:=za ..
 rw [E]
 rw [kQ ac5 rfl]
 simp only [TM,iP,aN,Nat.reduceBEq,Nat.reduceLeDiff,Nat.reduceAdd,zd,zm]
 simp only [P8,P3,hl',aC,Nat.reduceMul,Nat.reduceBEq,Nat.reduceLT,Nat.reduceLeDiff,reduceCtorEq,Nat.reduceEqDiff,Nat.reduceAdd,zb]
 rw [acv (w:=w) hl (by rw [fK,cZ];simp only [aN,bJ,Nat.reduceMul,Nat.reduceBEq,Nat.reduceLT,Nat.reduceLeDiff,Nat.reduceAdd,decide_true,zz,zE]<;>rfl)]
 simp only [P8,P3,fK,cZ,iP,za,aC,Nat.reduceMul,Nat.reduceBEq,Nat.reduceLT,Nat.reduceLeDiff,reduceCtorEq,Nat.reduceEqDiff,Nat.reduceAdd,zb]
def Zw (n:Nat)(l:List jF)(i:Nat):List jF:=(l.drop (i*n)).take n
def D8 (n:Nat)(l:List jF):List Int:=(Zau (Dk n l.length)).map fun i=>hash (oK (Zw n l i))
theorem nS (n:Nat)(l:List jF):(D8 n l).length=Dk n l.length:=by simp [D8]
theorem afa {n:Nat}{l:List jF}{i:Nat}(h:i<(D8 n l).length):(D8 n l)[i]=hash (oK (Zw n l i)):=by simp [D8]
theorem afb (n:Nat)(l:List jF):∀ d∈D8 n l,KX d:=fun d hd=>by
 unfold D8 at hd
 obtain ⟨i,-,rfl⟩:=Za8.1 hd
 exact Qi _
theorem OY {n:Nat}{l:List jF}(h1:1≤l.length∧l.length≤4096)(h2:1≤n∧n≤4096):L8 (l.length:Int) (n:Int) (D8 n l):=by
 refine ⟨by omega,by omega,?_,afb n l⟩
 rw [nS]
 unfold Dk nLv
 rw [show (l.length:Int)+(n:Int) - 1=((l.length+n - 1:Nat):Int) by omega]
 rfl
set_option maxRecDepth 20000 in
theorem ada {l:List jF}{n:Nat}(h1:1≤l.length∧l.length≤4096)(h2:1≤n∧n≤4096):cal env 26 [.list 8 (l.map dS),.int .i64 (n:Int)]=some [(Di (Dj (l.length:Int) (n:Int) (D8 n l)),false),(.int .i64 0,false)]:=by
 have hT:=OY h1 h2
 have e1:=ac8 hT.s hT.f
 have e2:=ag2 (l:=l.map dS) (n:=n) h2.1
 have e3:=ac7 (l:=D8 n l) (sz:=(l.length:Int)) (lf:=(n:Int)) hT.len.1 hT.len.2
 have hit:=acu (l:=l.map dS) (n:=n) (by rw [za];omega) (by omega)
 have Z:((0:Int) != 0)=false:=rfl
 have sc:∀ (m n:Int) (z:Nat) (l:List PV),(PV.agg [.int .i64 m,.int .i64 n,.list z l]).scalar=false:=fun _ _ _ _=>rfl
 rw [lX] at e3 ⊢
 rw [aG agL rfl];simp only [Xa];simp only [start,bC,bM,bg,bK,aW,aX,bn,aZ,Nat.reduceAdd,Nat.reduceSub]
 simp only [e1,e2,e3,P3,Z,za,gy,reduceCtorEq,Nat.reduceEqDiff,Nat.reduceAdd,Nat.reduceLT,Nat.reduceLeDiff,zb]
 rw [uz (env:=env) (fun j=>[⟨false,[.pv (.int .i64 0),.pv (.int .i64 0),.pv (.list 0 [])]⟩,⟨false,[.row 1 (((D8 n l).take j).map eU)]⟩]) (xs:=yC 8 (chk n (l.map dS))) rfl hit rfl ?_]
 ·have hl:(yC 8 (chk n (l.map dS))).length=(D8 n l).length:=by unfold yC;rw [za,pU,nS,za]
  simp only [hl,Zaq,e3,P3,sc,za,yI,gy,reduceCtorEq,Nat.reduceEqDiff,Nat.reduceAdd,Nat.reduceLT,Nat.reduceLeDiff,zb]
 ·intro j x hx sl0
  have hj:=(Z3.1 hx).1
  have hl:(yC 8 (chk n (l.map dS))).length=(D8 n l).length:=by unfold yC;rw [za,pU,nS,za]
  rw [hl] at hj
  have hjc:j<(chk n (l.map dS)).length:=by rw [pU,za,← nS];exact hj
  obtain rfl:x=[.list 8 ((Zw n l j).map dS)]:=by
   unfold yC at hx
   rw [zc,ZZ hjc,Hq] at hx
   have e:UH n (l.map dS) j=(Zw n l j).map dS:=by unfold UH Zw;rw [List.map_take,List.map_drop]
   rw [e] at hx
   simpa using hx.symm
  have hpl:(Zw n l j).length≤4096:=by unfold Zw;rw [Zaa];omega
  have c1:=agZ (l:=Zw n l j) (by unfold lim;omega)
  have F4:((D8 n l).take j).length+1≤lim:=by rw [Zaa,nS,← nS];have:=hT.len.2;unfold lim;omega
  have F5:=eq_true F4
  have ht:(D8 n l).take (j+1)=(D8 n l).take j++[hash (oK (Zw n l j))]:=by rw [take_snoc hj,afa]
  rw [ht]
  refine ⟨?_,?_⟩
  rotate_left
  ·simp only [PW,PX,c1,F5,za,Zam,Zai,Zaw,show eU (hash (oK (Zw n l j)))=PV.int .u64 (hash (oK (Zw n l j))) from rfl,yI,gy,reduceCtorEq,Nat.reduceEqDiff,Nat.reduceAdd,Nat.reduceLT,Nat.reduceLeDiff,zb]
   rfl
theorem afc {w:lG}{k:Nat}(hk:k<w.t.lv.length)(h:w.jY=(k:Int)):cal env 193 [.bW (wP w) 0]=some [(.list 1 (w.t.lv[k].map eU),false)]:=by
 have hx:(w.t.lv.map mO)[k]?=some (.list 1 (w.t.lv[k].map eU)):=by rw [zc,ZZ hk];rfl
 rw [aG YX rfl];simp only [EY,aN,Nat.reduceBEq,Nat.reduceLeDiff,Nat.reduceAdd,zd,zm]
 simp only [iP,h,hx,ay hk,za,aC,Nat.reduceMul,Nat.reduceBEq,Nat.reduceLT,Nat.reduceLeDiff,reduceCtorEq,Nat.reduceEqDiff,Nat.reduceAdd,zb]
def uO (g:Int→Int)(ns:List Int):List Int:=ns.flatMap fun n=>nP (g n)
theorem tH (d:Int):(nP d).length=8:=by simp [nP]
theorem pV (g:Int→Int)(ns:List Int):(uO g ns).length=8*ns.length:=by
 induction ns with
 |nil=>rfl
 |cons n ns ih=>show (nP (g n)++uO g ns).length=_;rw [Zak,ih,tH,zd];omega
theorem Le (g:Int→Int)(n:Int)(ns:List Int):(uO g (n::ns)).map oN=(nP (g n)).map oN++(uO g ns).map oN:=by
 rw [← Zam];rfl
theorem Qo (g:Int→Int)(n:Int)(ns:List Int):((uO g (n::ns)).map oN).take 8=(nP (g n)).map oN:=by
 rw [Le,List.take_left' (by rw [za,tH])]
theorem Qp (g:Int→Int)(n:Int)(ns:List Int):((uO g (n::ns)).map oN).drop 8=(uO g ns).map oN:=by
 rw [Le,List.drop_left' (by rw [za,tH])]
theorem Qq (g:Int→Int)(n:Int)(ns:List Int):((uO g ns).map oN).take ((uO g (n::ns)).length - 8)=(uO g ns).map oN:=by
 apply ZaM
 rw [za,pV,pV,zd]
 omega
def oth (g f:Int→Int)(ns:List Int):List Int:=ns.filter fun n=>decide (g n≠f n)
theorem Zx (g f:Int→Int)(ns:List Int)(n:Int):oth g f (ns++[n])=if g n=f n then oth g f ns else oth g f ns++[n]:=by
 unfold oth
 rw [List.filter_append]
 by_cases c:g n=f n
 ·rw [if_pos c];simp [c]
 ·rw [if_neg c];simp [c]
theorem acw (g f:Int→Int)(ns:List Int):(oth g f ns).length≤ns.length:=List.length_filter_le _ _
theorem ajx {w:lG}{L:List Int}(h:1≤L.length):zZ (.list 1 (L.map eU)) (wB w)=true:=by
 cases L with
 |nil=>simp at h
 |cons d L =>
  unfold zZ
  rw [Zai,cZ]
  simp only [eU]
  rw [ZS]
  refine ⟨?_,by rfl⟩
  rw [zt]
  intro x hx
  obtain ⟨y,-,rfl⟩:=Za8.1 hx
  rfl
def stB (w:lG)(g f:Int→Int)(ns:List Int)(j:Nat):List Box:=[⟨false,wB { w with sent:=w.sent+(j:Int) }⟩,⟨false,[.pv (.list 1 ((uO g (ns.drop j)).map oN))]⟩,⟨false,[.row 1 ((oth g f (ns.take j)).map eI)]⟩]
set_option maxRecDepth 20000 in
theorem afd {w:lG}{k:Nat}{g:Int→Int}{L:List Int}(hk:k<w.t.lv.length)(iV:w.jY=(k:Int))(hL:w.t.lv[k]=L)(hu:∀ d∈L,KX d)(hg:∀ n,KX (g n))(hlL:L.length≤4096)
  (hp:w.pend.length≤10000) (hpo:∀ x∈w.pend,0≤x.start∧x.start≤10000∧0≤x.count∧x.count≤10000) (hn:∀ n∈dV w.pend,0≤n∧n<(L.length:Int)) (hnl:(dV w.pend).length≤4096) (hs:0≤w.sent∧w.sent≤100000) :
  AY env 101 (.box (wP w)) [.list 1 ((uO g (dV w.pend)).map oN)]=some ([(.list 1 ((oth g (fun n=>L.getD n.toNat 0) (dV w.pend)).map eI),true)],some (wP { w with sent:=w.sent+((dV w.pend).length:Int) })):=by
 have hit:=Qk hp hpo
 have c0:=Zv (l:=w.pend.map aV)
 have hlB:(uO g (dV w.pend)).length≤lim:=by rw [pV];unfold lim;omega
 obtain ⟨f,hf⟩:∃ f:Int→Int,f=fun n=>L.getD n.toNat 0:=⟨_,rfl⟩
 rw [← hf]
 rw [kQ aek rfl]
 simp only [JQ,iP,Gx,PL,PN,bC,bM,bg,bK,aW,aX,bn,aZ,Nat.reduceAdd,Nat.reduceSub]
 have fpp:∀ o j,(AV.pp o j).froze=.pp o j:=fun _ _=>rfl
 simp only [c0,iP,fpp,gy,reduceCtorEq,Nat.reduceEqDiff,Nat.reduceAdd,Nat.reduceLT,Nat.reduceLeDiff,zb]
 rw [uz (env:=env) (stB w g f (dV w.pend)) (xs:=yN (dV w.pend)) rfl hit ?_ ?_]
 ·have e1:(yN (dV w.pend)).length=(dV w.pend).length:=by simp [yN]
  simp only [e1,fpp,stB,Zaq,cZ,yI,gy,reduceCtorEq,Nat.reduceEqDiff,Nat.reduceAdd,Nat.reduceLT,Nat.reduceLeDiff,zb]
 ·simp only [stB,cZ,Int.ofNat_zero,Int.add_zero,Za4,List.take_zero]
  rfl
 ·intro j x hx sl0
  simp only [yN,zc,Option.map_eq_some_iff] at hx
  obtain ⟨n,hb,rfl⟩:=hx
  obtain ⟨hj,hnj⟩:=Z3.1 hb
  have hnm:n∈dV w.pend:=by rw [← hnj];exact Zas hj
  obtain ⟨n0,n1⟩:=hn n hnm
  have hd:(dV w.pend).drop j=n::(dV w.pend).drop (j+1):=by rw [zw hj,hnj]
  have ht:(dV w.pend).take (j+1)=(dV w.pend).take j++[n]:=by rw [take_snoc hj,hnj]
  have c1:=afc (w:={ w with sent:=w.sent+(j:Int) }) hk iV
  rw [hL,iP] at c1
  have c1':=show gQ (den env) env 193 _=_ from c1
  have hsep:=ajx (w:={ w with sent:=w.sent+(j:Int) }) (L:=L) (by omega)
  rw [cZ] at hsep
  have pk:∀ v,(BV.pv v).peek=v:=fun _=>rfl
  have T8:(8 - 0:Nat)=8:=rfl
  have T9:Int.toNat 8=8:=rfl
  have hi:n.toNat<L.length:=by omega
  have hfn:f n=L[n.toNat]:=by rw [hf];show L.getD _ _=_;rw [Zaf,ZZ hi];rfl
  have hx:(L.map eU)[n.toNat]?=some (.int .u64 (f n)):=by rw [zc,ZZ hi,hfn];rfl
  have c2:=Zr (d:=f n)
  have c3:cal env 192 [.list 1 ((nP (g n)).map oN),.list 1 ((nP (f n)).map oN)]=some [(.bool (decide (nP (g n)=nP (f n))),false)]:=ae0 (by rw [tH];decide)
  have hI:index (.int .i64 n) L.length=some n.toNat:=yF n0 n1
  have hbl:(uO g (n::(dV w.pend).drop (j+1))).length=8+8*((dV w.pend).length - (j+1)):=by rw [pV,zd,ZaO];omega
  have b1:((0:Int)≤8∧(8:Int)≤((8+8*((dV w.pend).length - (j+1)):Nat):Int))=True:=eq_true (by omega)
  have b2:((0:Int)≤8∧(8:Int)≤((uO g (n::(dV w.pend).drop (j+1))).length:Int))=True:=eq_true (by rw [hbl];omega)
  have W1:IntKind.i64.wrap (w.sent+(j:Int)+1)=w.sent+((j+1:Nat):Int):=by rw [aQ (by omega)];omega
  have hol:(oth g f ((dV w.pend).take j)).length+1≤lim:=by have:=acw g f ((dV w.pend).take j);rw [Zaa] at this;unfold lim;omega
  have F4:=eq_true hol
  simp only [stB,hd,ht,Zx]
  by_cases c:g n=f n
  ·rw [decide_eq_true (by rw [c])] at c3
   rw [if_pos c]
   refine ⟨?_,?_⟩
   rotate_left
   simp only [Bl,Bo,fpp,c1',hsep,pk,T8,T9,c2,c3,hx,hI,b1,b2,W1,F4,cZ,Qo,Qp,Qq,za,yI,gy,reduceCtorEq,Nat.reduceEqDiff,Nat.reduceAdd,Nat.reduceLT,Nat.reduceLeDiff,zb]
   rfl
  ·have hne:nP (g n)≠nP (f n):=fun e=>c (Zb (hg n) (by rw [hfn];exact hu _ (Zas hi)) e)
   rw [decide_eq_false hne] at c3
   rw [if_neg c]
   refine ⟨?_,?_⟩
   rotate_left
   simp only [Bl,Bo,fpp,c1',hsep,pk,T8,T9,c2,c3,hx,hI,b1,b2,W1,F4,cZ,Qo,Qp,Qq,za,Zam,Zai,Zaw,show eI n=PV.int .i64 n from rfl,yI,gy,reduceCtorEq,Nat.reduceEqDiff,Nat.reduceAdd,Nat.reduceLT,Nat.reduceLeDiff,zb]
   rfl
set_option maxRecDepth 20000 in
theorem Zy {w:lG}:AY env 103 (.box (wP w)) []=some ([],some (wP { w with jY:=0,pend:=[],fin:=true })):=by
 rw [kQ aem rfl]
 simp only [JU,iP,aN,Nat.reduceBEq,Nat.reduceLeDiff,Nat.reduceAdd,zd,zm]
 simp only [iP,aC,Nat.reduceMul,Nat.reduceBEq,Nat.reduceLT,Nat.reduceLeDiff,reduceCtorEq,Nat.reduceEqDiff,Nat.reduceAdd,zb]
def Zz (l:List dJ):Prop:=∀ x∈l,0≤x.start∧x.start≤100000∧0≤x.count∧x.count≤100000
set_option maxRecDepth 20000 in
theorem ZA {l:List dJ}{n:Nat}(hl:l.length≤10000)(ho:Zz l):AY env 194 (.row 2 (l.map aV)) [.int .i64 (n:Int)]=some ([(.list 2 ((jD l n).map aV),true)],none):=by
 rcases ZbC l with rfl|⟨pre,x,rfl⟩
 ·have F1:(((0:Nat):Int) > 0)=False:=eq_false (by omega)
  have F0:(1≤lim)=True:=eq_true (by decide)
  have ea:(jD [] n).map aV=[.agg [.int .i64 (n:Int),.int .i64 1]]:=rfl
  rw [ea,Zaw]
  rw [kQ OJ rfl]
  simp only [Ce,aN,Nat.reduceBEq,Nat.reduceLeDiff,Nat.reduceAdd,zd,zm]
  simp only [F1,F0,zm,za,aC,Nat.reduceMul,Nat.reduceBEq,Nat.reduceLT,Nat.reduceLeDiff,reduceCtorEq,Nat.reduceEqDiff,Nat.reduceAdd,zb]
 ·rw [Zb0] at *
  rw [gB]
  have hx:=ho x (by simp)
  have hlen:(pre++[x]).length=pre.length+1:=by simp
  have F1:(((pre.length+1:Nat):Int) > 0)=True:=eq_true (by omega)
  have W1:IntKind.i64.wrap (((pre.length+1:Nat):Int) - 1)=(pre.length:Int):=by rw [aQ (by omega)];omega
  have hI:index (.int .i64 (pre.length:Int)) (pre.length+1)=some pre.length:=ay (by omega)
  have hg:((pre++[x]).map aV)[pre.length]?=some (.agg [.int .i64 x.start,.int .i64 x.count]):=by rw [zc,List.getElem?_append_right (ze _)];simp [aV]
  have W2:IntKind.i64.wrap (x.start+x.count)=x.start+x.count:=aQ (by omega)
  have hll:pre.length+1+1≤lim:=by rw [hlen] at hl;unfold lim;omega
  have F4:=eq_true hll
  by_cases c:x.start+x.count=(n:Int)
  ·rw [if_pos c]
   have E1:(x.start+x.count==(n:Int))=true:=by simp [c]
   have W3:IntKind.i64.wrap (x.count+1)=x.count+1:=aQ (by omega)
   have hs:((pre++[x]).map aV).set pre.length (.agg [.int .i64 x.start,.int .i64 (x.count+1)])=(pre++[(⟨x.start,x.count+1⟩:dJ)]).map aV:=by
    rw [Zam,List.set_append_right _ _ (by simp)]
    simp [aV]
   rw [kQ OJ rfl]
   simp only [Ce,aN,Nat.reduceBEq,Nat.reduceLeDiff,Nat.reduceAdd,zd,zm]
   simp only [F1,W1,W2,W3,hI,hg,E1,hs,hlen,za,aC,Nat.reduceMul,Nat.reduceBEq,Nat.reduceLT,Nat.reduceLeDiff,reduceCtorEq,Nat.reduceEqDiff,Nat.reduceAdd,zb]
  ·rw [if_neg c]
   have E1:(x.start+x.count==(n:Int))=false:=by simp [c]
   have hs:(pre++[x]++[(⟨(n:Int),1⟩:dJ)]).map aV=(pre++[x]).map aV++[.agg [.int .i64 (n:Int),.int .i64 1]]:=by rw [Zam];rfl
   have ht:((pre++[x]).map aV).take (pre.length+1)=(pre++[x]).map aV:=ZaM (by rw [za,hlen];exact ze _)
   rw [hs,kQ OJ rfl]
   simp only [Ce,aN,Nat.reduceBEq,Nat.reduceLeDiff,Nat.reduceAdd,zd,zm]
   simp only [F1,F4,W1,W2,hI,hg,E1,ht,hlen,za,aC,Nat.reduceMul,Nat.reduceBEq,Nat.reduceLT,Nat.reduceLeDiff,reduceCtorEq,Nat.reduceEqDiff,Nat.reduceAdd,zb]
def Fh (m:Nat)(P:List dJ)(k:Nat):List dJ:=if k<m then jD P k else P
def Qr (m:Nat)(P:List dJ)(n:Nat):List dJ:=Fh m (Fh m P (2*n)) (2*n+1)
def pnI (m:Nat)(P:List dJ)(n i:Nat):List dJ:=if i=0 then P else if i=1 then Fh m P (2*n) else Qr m P n
def wD (w:lG)(P:List dJ):List BV:=[.pv (.int .i64 w.t.sz),.pv (.int .i64 w.t.lf),.pv (.list 1 (w.t.lv.map mO)),.row 2 (P.map aV),.pv (.int .i64 w.jY),.pv (.list 2 (w.found.map aV)),.pv (.int .i64 w.sent),.pv (.bool w.fin)]
theorem jm (w:lG)(P:List dJ):wD w P=[.pv (.int .i64 w.t.sz),.pv (.int .i64 w.t.lf),.pv (.list 1 (w.t.lv.map mO)),.row 2 (P.map aV),.pv (.int .i64 w.jY),.pv (.list 2 (w.found.map aV)),.pv (.int .i64 w.sent),.pv (.bool w.fin)]:=rfl
theorem ag3 {w:lG}{P:List dJ}{L:List Int}(h:1≤L.length):zZ (.list 1 (L.map eU)) (wD w P)=true:=by
 cases L with
 |nil=>simp at h
 |cons d L =>
  unfold zZ
  rw [Zai,jm]
  simp only [eU]
  rw [ZS]
  refine ⟨?_,by rfl⟩
  rw [zt]
  intro x hx
  obtain ⟨y,-,rfl⟩:=Za8.1 hx
  rfl
theorem ZB {l:List dJ}{n:Nat}{B:Int}(h:∀ x∈l,0≤x.start∧x.start≤B∧0≤x.count∧x.count≤B)(hn:(n:Int)<B)(h1:1≤B)(hB:∀ x∈l,x.start+x.count≤B):(∀ x∈jD l n,0≤x.start∧x.start≤B∧0≤x.count∧x.count≤B)∧∀ x∈jD l n,x.start+x.count≤B:=by
 rcases ZbC l with rfl|⟨pre,y,rfl⟩
 ·have e:jD [] n=[⟨(n:Int),1⟩]:=rfl
  rw [e]
  refine ⟨fun x hx=>?_,fun x hx=>?_⟩<;>rw [Zal.1 hx]<;>simp only<;>omega
 ·rw [Zb0] at *
  rw [gB]
  have hy:=h y (by simp)
  have hy2:=hB y (by simp)
  split
  ·rename_i c
   refine ⟨fun x hx=>?_,fun x hx=>?_⟩<;>rcases ZaC.1 hx with hx|hx
   ·exact h x (by simp [hx])
   ·rw [Zal.1 hx];simp only;omega
   ·exact hB x (by simp [hx])
   ·rw [Zal.1 hx];simp only;omega
  ·refine ⟨fun x hx=>?_,fun x hx=>?_⟩<;>rcases ZaC.1 hx with hx|hx
   ·exact h x hx
   ·rw [Zal.1 hx];simp only;omega
   ·exact hB x hx
   ·rw [Zal.1 hx];simp only;omega
def D9 (P:List dJ):Prop:=(∀ x∈P,0≤x.start∧x.start≤5000∧0≤x.count∧x.count≤5000)∧∀ x∈P,x.start+x.count≤5000
theorem D9.ad {P:List dJ}(h:D9 P){m k:Nat}(hm:m≤4096):D9 (Fh m P k):=by
 unfold Fh
 split
 ·exact ZB h.1 (by omega) (by omega) h.2
 ·exact h
theorem D9.Zz {P:List dJ}(h:D9 P):Zz P:=fun x hx=>by have:=h.1 x hx;omega
theorem ZC (l:List dJ)(n:Nat):(jD l n).length≤l.length+1:=by
 unfold jD
 split
 ·split
  ·rw [Zak,List.length_dropLast];simp only [zd,zm];omega
  ·rw [Zak];simp
 ·simp
theorem Ht (m:Nat)(P:List dJ)(k:Nat):(Fh m P k).length≤P.length+1:=by
 unfold Fh
 split
 ·exact ZC P k
 ·omega
theorem acy {a b p e g h:PV}{lv:List (List Int)}{k:Nat}(hk:k<lv.length):cal env 193 [.bW [a,b,.list 1 (lv.map mO),p,.int .i64 (k:Int),e,g,h] 0]=some [(.list 1 (lv[k].map eU),false)]:=by
 have hx:(lv.map mO)[k]?=some (.list 1 (lv[k].map eU)):=by rw [zc,ZZ hk];rfl
 rw [aG YX rfl];simp only [EY,aN,Nat.reduceBEq,Nat.reduceLeDiff,Nat.reduceAdd,zd,zm]
 simp only [hx,ay hk,za,aC,Nat.reduceMul,Nat.reduceBEq,Nat.reduceLT,Nat.reduceLeDiff,reduceCtorEq,Nat.reduceEqDiff,Nat.reduceAdd,zb]
set_option maxRecDepth 20000 in
theorem acz {w:lG}{ns:List Nat}{P:List dJ}{L:List Int}{k n j:Nat}(hk:k<w.t.lv.length)(iV:w.jY=(k:Int))(hL:w.t.lv[k]=L)(h1:1≤L.length)(h2:L.length≤4096)(hP:D9 P)(hPl:P.length≤9000)(hn:n≤4096){st:St}(h:st.head [0,1,21,22,23,32,33,34] st.boxes.length=some ⟨sl 56 [(0,.aJ 0 0),(1,.pv (.list 1 (ns.map fun (i:Nat)=>eI (i:Int)))),(21,.pv (.list 1 (ns.map fun (i:Nat)=>eI (i:Int)))),(22,.pv (.int .i64 ns.length)),(23,.pv (.int .i64 j)),(32,.row 1 [.int .i64 ((2*n:Nat):Int),.int .i64 ((2*n+1:Nat):Int)]),(33,.pv (.int .i64 2)),(34,.pv (.int .i64 (0:Nat)))],[⟨false,wD w (pnI L.length P n ((0:Nat)))⟩],[],none⟩) :
  den env Bz st=some (.normal,⟨sl 56 [(0,.aJ 0 0),(1,.pv (.list 1 (ns.map fun (i:Nat)=>eI (i:Int)))),(21,.pv (.list 1 (ns.map fun (i:Nat)=>eI (i:Int)))),(22,.pv (.int .i64 ns.length)),(23,.pv (.int .i64 j))],[⟨false,wD w (Qr L.length P n)⟩],[],none⟩):=by
 unfold Bz
 refine aY (env:=env) (nb:=1) (2) (fun i=>⟨sl 56 [(0,.aJ 0 0),(1,.pv (.list 1 (ns.map fun (i:Nat)=>eI (i:Int)))),(21,.pv (.list 1 (ns.map fun (i:Nat)=>eI (i:Int)))),(22,.pv (.int .i64 ns.length)),(23,.pv (.int .i64 j)),(32,.row 1 [.int .i64 ((2*n:Nat):Int),.int .i64 ((2*n+1:Nat):Int)]),(33,.pv (.int .i64 2)),(34,.pv (.int .i64 i))],[⟨false,wD w (pnI L.length P n (i))⟩],[],none⟩) (fun i=>some (.normal,⟨sl 56 [(0,.aJ 0 0),(1,.pv (.list 1 (ns.map fun (i:Nat)=>eI (i:Int)))),(21,.pv (.list 1 (ns.map fun (i:Nat)=>eI (i:Int)))),(22,.pv (.int .i64 ns.length)),(23,.pv (.int .i64 j))],[⟨false,wD w (Qr L.length P n)⟩],[],none⟩)) h (fun _=>rfl) (fun _=>by simp only [aN,bJ,Nat.reduceMul,Nat.reduceBEq,Nat.reduceLT,Nat.reduceLeDiff,Nat.reduceAdd,decide_true,zz,zE]) ?_ ?_
 ·intro i rb hi ih
  have hi1:=bU (n:=2) hi (by decide)
  have F1:((i:Int)<2)=True:=eq_true (by omega)
  have c1:=fun p=>show gQ (den env) env 193 _=_ from acy (a:=.int .i64 w.t.sz) (b:=.int .i64 w.t.lf) (p:=p) (e:=.list 2 (w.found.map aV)) (g:=.int .i64 w.sent) (h:=.bool w.fin) (lv:=w.t.lv) hk
  rw [hL] at c1
  have pk:∀ v,(BV.pv v).peek=v:=fun _=>rfl
  have pk2:∀ s v,(BV.row s v).peek=.void:=fun _ _=>rfl
  have F0:(1≤lim)=True:=eq_true (by decide)
  rcases (by omega:i=0∨i=1) with rfl|rfl
  ·have hsep:=ag3 (w:=w) (P:=P) h1
   have c2:=ZA (l:=P) (n:=2*n) (by omega) hP.Zz
   have e1:pnI L.length P n 0=P:=rfl
   have e2:pnI L.length P n (0+1)=Fh L.length P (2*n):=rfl
   rw [e2] at ih
   rw [e1]
   unfold Fh at ih
   rw [jm,iV] at hsep
   have hI:index (.int .i64 ((0:Nat):Int)) 2=some 0:=rfl
   by_cases c:2*n<L.length
   ·have F2:(((2*n:Nat):Int)<(L.length:Int))=True:=eq_true (by omega)
    rw [if_pos c] at ih
    simp only [qI,F1,F2,hI,iV,c1,c2,pk,pk2,hsep,jm,za,aC,Nat.reduceMul,Nat.reduceBEq,Nat.reduceLT,Nat.reduceLeDiff,reduceCtorEq,Nat.reduceEqDiff,Nat.reduceAdd,zb]
    rw [ih _ (by simp only [hi1,iV,jm,aC,Nat.reduceMul,Nat.reduceBEq,Nat.reduceLT,Nat.reduceLeDiff,reduceCtorEq,Nat.reduceEqDiff,Nat.reduceAdd,zb]<;>rfl)]
    simp only [jm,iV]
   ·have F2:(((2*n:Nat):Int)<(L.length:Int))=False:=eq_false (by omega)
    rw [if_neg c] at ih
    simp only [qI,F1,F2,hI,iV,c1,pk,pk2,hsep,jm,za,aC,Nat.reduceMul,Nat.reduceBEq,Nat.reduceLT,Nat.reduceLeDiff,reduceCtorEq,Nat.reduceEqDiff,Nat.reduceAdd,zb]
    rw [ih _ (by simp only [hi1,iV,jm,aC,Nat.reduceMul,Nat.reduceBEq,Nat.reduceLT,Nat.reduceLeDiff,reduceCtorEq,Nat.reduceEqDiff,Nat.reduceAdd,zb]<;>rfl)]
    simp only [jm,iV]
  ·have hsep:=ag3 (w:=w) (P:=Fh L.length P (2*n)) h1
   have hlen:=Ht L.length P (2*n)
   have c2:=ZA (l:=Fh L.length P (2*n)) (n:=2*n+1) (by omega) (hP.ad h2).Zz
   have e1:pnI L.length P n 1=Fh L.length P (2*n):=rfl
   have e2:pnI L.length P n (1+1)=Fh L.length (Fh L.length P (2*n)) (2*n+1):=rfl
   rw [e2] at ih
   rw [e1]
   generalize Fh L.length P (2*n)=Q at *
   unfold Fh at ih
   rw [jm,iV] at hsep
   have hI:index (.int .i64 ((1:Nat):Int)) 2=some 1:=rfl
   by_cases c:2*n+1<L.length
   ·have F2:(((2*n+1:Nat):Int)<(L.length:Int))=True:=eq_true (by omega)
    rw [if_pos c] at ih
    simp only [qI,F1,F2,hI,iV,c1,c2,pk,pk2,hsep,jm,za,aC,Nat.reduceMul,Nat.reduceBEq,Nat.reduceLT,Nat.reduceLeDiff,reduceCtorEq,Nat.reduceEqDiff,Nat.reduceAdd,zb]
    rw [ih _ (by simp only [hi1,iV,jm,aC,Nat.reduceMul,Nat.reduceBEq,Nat.reduceLT,Nat.reduceLeDiff,reduceCtorEq,Nat.reduceEqDiff,Nat.reduceAdd,zb]<;>rfl)]
    simp only [jm,iV]
   ·have F2:(((2*n+1:Nat):Int)<(L.length:Int))=False:=eq_false (by omega)
    rw [if_neg c] at ih
    simp only [qI,F1,F2,hI,iV,c1,pk,pk2,hsep,jm,za,aC,Nat.reduceMul,Nat.reduceBEq,Nat.reduceLT,Nat.reduceLeDiff,reduceCtorEq,Nat.reduceEqDiff,Nat.reduceAdd,zb]
    rw [ih _ (by simp only [hi1,iV,jm,aC,Nat.reduceMul,Nat.reduceBEq,Nat.reduceLT,Nat.reduceLeDiff,reduceCtorEq,Nat.reduceEqDiff,Nat.reduceAdd,zb]<;>rfl)]
    simp only [jm,iV]
 ·intro rb
  have F1:(((2:Nat):Int)<2)=False:=eq_false (by omega)
  have e2:pnI L.length P n 2=Qr L.length P n:=rfl
  rw [e2]
  simp only [qI,F1,jm,aC,Nat.reduceMul,Nat.reduceBEq,Nat.reduceLT,Nat.reduceLeDiff,reduceCtorEq,Nat.reduceEqDiff,Nat.reduceAdd,zb]
def pN (m:Nat)(ns:List Nat):List dJ:=ns.foldl (Qr m) []
theorem uJ (m:Nat)(ns:List Nat)(n:Nat):pN m (ns++[n])=Qr m (pN m ns) n:=by simp [pN]
theorem acA (m:Nat)(P:List dJ)(n:Nat):(Qr m P n).length≤P.length+2:=by
 have h1:=Ht m P (2*n)
 have h2:=Ht m (Fh m P (2*n)) (2*n+1)
 unfold Qr;omega
theorem afe (m:Nat):∀ (k:Nat) (ns:List Nat),ns.length=k→(pN m ns).length≤2*k:=by
 intro k
 induction k with
 |zero=>intro ns h;rw [Zad h];exact ze _
 |succ k ih =>
  intro ns h
  rcases iU ns with rfl|⟨p,x,rfl⟩
  ·simp at h
  ·rw [uJ]
   have:=acA m (pN m p) x
   have:=ih p (by simpa using h)
   omega
theorem D9.Qr {P:List dJ}(h:D9 P){m n:Nat}(hm:m≤4096):D9 (Qr m P n):=(h.ad hm).ad hm
theorem ag4 {m:Nat}(hm:m≤4096):∀ (k:Nat) (ns:List Nat),ns.length=k→D9 (pN m ns):=by
 intro k
 induction k with
 |zero=>intro ns h;rw [Zad h];exact ⟨fun x hx=>(by cases hx),fun x hx=>(by cases hx)⟩
 |succ k ih =>
  intro ns h
  rcases iU ns with rfl|⟨p,x,rfl⟩
  ·simp at h
  ·rw [uJ]
   exact (ih p (by simpa using h)).Qr hm
set_option maxRecDepth 20000 in
theorem Um {w:lG}{ns:List Nat}{L:List Int}{k:Nat}(hk:k<w.t.lv.length)(iV:w.jY=(k:Int))(hL:w.t.lv[k]=L)(h1:1≤L.length)(h2:L.length≤4096)(hnl:ns.length≤4096)(hns:∀ n∈ns,n≤4096){st:St}(h:st.head [0,1,21,22,23] st.boxes.length=some ⟨sl 56 [(0,.aJ 0 0),(1,.pv (.list 1 (ns.map fun (i:Nat)=>eI (i:Int)))),(21,.pv (.list 1 (ns.map fun (i:Nat)=>eI (i:Int)))),(22,.pv (.int .i64 ns.length)),(23,.pv (.int .i64 (0:Nat)))],[⟨false,wD w (pN L.length (ns.take ((0:Nat))))⟩],[],none⟩) :
  den env BD st=some (.normal,⟨sl 56 [],[⟨false,wD w (pN L.length ns)⟩],[],none⟩):=by
 unfold BD
 refine aY (env:=env) (nb:=1) (ns.length) (fun i=>⟨sl 56 [(0,.aJ 0 0),(1,.pv (.list 1 (ns.map fun (i:Nat)=>eI (i:Int)))),(21,.pv (.list 1 (ns.map fun (i:Nat)=>eI (i:Int)))),(22,.pv (.int .i64 ns.length)),(23,.pv (.int .i64 i))],[⟨false,wD w (pN L.length (ns.take (i)))⟩],[],none⟩) (fun i=>some (.normal,⟨sl 56 [],[⟨false,wD w (pN L.length ns)⟩],[],none⟩)) h (fun _=>rfl) (fun _=>by simp only [aN,bJ,Nat.reduceMul,Nat.reduceBEq,Nat.reduceLT,Nat.reduceLeDiff,Nat.reduceAdd,decide_true,zz,zE]) ?_ ?_
 ·intro i rb hi ih
  have hi1:=bU hi (by unfold lim;omega)
  have F1:((i:Int)<(ns.length:Int))=True:=eq_true (by omega)
  have hx:(ns.map fun (i:Nat)=>eI (i:Int))[i]?=some (.int .i64 (ns[i]:Int)):=by rw [zc,ZZ hi];rfl
  have hn:=hns _ (Zas hi)
  have W1:IntKind.i64.wrap (2*(ns[i]:Int))=((2*ns[i]:Nat):Int):=by rw [aQ (by omega)];omega
  have W2:IntKind.i64.wrap (((2*ns[i]:Nat):Int)+1)=((2*ns[i]+1:Nat):Int):=by rw [aQ (by omega)];omega
  have hPl:=afe L.length i (ns.take i) (by rw [Zaa];omega)
  have hPo:=ag4 h2 i (ns.take i) (by rw [Zaa];omega)
  rw [take_snoc hi,uJ] at ih
  generalize ns[i]=n at *
  generalize pN L.length (ns.take i)=P at *
  have e0:pnI L.length P n 0=P:=rfl
  simp only [BA,F1,W1,W2,hx,jm,ay hi,za,aC,Nat.reduceMul,Nat.reduceBEq,Nat.reduceLT,Nat.reduceLeDiff,reduceCtorEq,Nat.reduceEqDiff,Nat.reduceAdd,zb]
  rw [acz (w:=w) (ns:=ns) (P:=P) (L:=L) (k:=k) (n:=n) (j:=i) hk iV hL h1 h2 hPo (by omega) hn (by rw [e0,jm];simp only [aN,bJ,Nat.reduceMul,Nat.reduceBEq,Nat.reduceLT,Nat.reduceLeDiff,Nat.reduceAdd,decide_true,zz,zE]<;>rfl)]
  simp only [jm,aC,Nat.reduceMul,Nat.reduceBEq,Nat.reduceLT,Nat.reduceLeDiff,reduceCtorEq,Nat.reduceEqDiff,Nat.reduceAdd,zb]
  rw [ih _ (by simp only [hi1,jm,aC,Nat.reduceMul,Nat.reduceBEq,Nat.reduceLT,Nat.reduceLeDiff,reduceCtorEq,Nat.reduceEqDiff,Nat.reduceAdd,zb]<;>rfl)]
  <;> first|done|rfl|simp only [jm]
 ·intro rb
  rw [Zaq]
  simp only [BA,ZaA,jm,aC,Nat.reduceMul,Nat.reduceBEq,Nat.reduceLT,Nat.reduceLeDiff,reduceCtorEq,Nat.reduceEqDiff,Nat.reduceAdd,zb]
  <;> first|done|rfl
set_option maxRecDepth 20000 in
theorem aff {w:lG}{ns:List Nat}{L:List Int}{k:Nat}(hk:k<w.t.lv.length)(iV:w.jY=((k+1:Nat):Int))(hL:w.t.lv[k]=L)(h1:1≤L.length)(h2:L.length≤4096)(hnl:ns.length≤4096)(hns:∀ n∈ns,n≤4096)(hv:w.t.lv.length≤100):AY env 104 (.box (wP w)) [.list 1 (ns.map fun (i:Nat)=>eI (i:Int))]=some ([],some (wP { w with jY:=(k:Int),pend:=pN L.length ns })):=by
 have W1:IntKind.i64.wrap (((k+1:Nat):Int) - 1)=(k:Int):=by rw [aQ (by omega)];omega
 have hx:pN L.length (List.take 0 ns)=[]:=rfl
 rw [kQ aen rfl]
 simp only [JV,iP,iV,aN,Nat.reduceBEq,Nat.reduceLeDiff,Nat.reduceAdd,zd,zm]
 simp only [W1,iP,za,aC,Nat.reduceMul,Nat.reduceBEq,Nat.reduceLT,Nat.reduceLeDiff,reduceCtorEq,Nat.reduceEqDiff,Nat.reduceAdd,zb]
 rw [Um (w:={ w with jY:=(k:Int),pend:=[] }) (ns:=ns) (L:=L) (k:=k) hk rfl hL h1 h2 hnl hns (by rw [hx,jm];simp only [aN,bJ,Nat.reduceMul,Nat.reduceBEq,Nat.reduceLT,Nat.reduceLeDiff,Nat.reduceAdd,decide_true,zz,zE]<;>rfl)]
 simp only [iP,jm,aC,Nat.reduceMul,Nat.reduceBEq,Nat.reduceLT,Nat.reduceLeDiff,reduceCtorEq,Nat.reduceEqDiff,Nat.reduceAdd,zb]
theorem vU {α:Type}{l:List α}{i:Nat}(h:i<l.length):l.take (i+1)=l.take i++[l[i]]:=by rw [List.take_succ_eq_append_getElem h]
def okE (x:dJ):Prop:=(-9223372036854775808≤x.start∧x.start≤9223372036854775807)∧(-9223372036854775808≤x.count∧x.count≤9223372036854775807)
def xI (l:List dJ):Prop:=∀ x∈l,okE x
def rQ (e:dJ):Int:=max e.start 0
def UJ (e:dJ):Int:=if e.start<0∨e.count<4096 - e.start then min (e.start+e.count) 4096 else 4096
def wX (e:dJ):Int×Int×Bool:=if e.count≤0 then (0,0,false) else (rQ e,UJ e,decide (rQ e<UJ e))
def UK (e:dJ)(s:Nat):Bool:=decide (0<e.count)&&(decide (e.start≤(s:Int))&&decide ((s:Int)<e.start+e.count))
def uS (l:List dJ)(s:Nat):Bool:=l.any fun e=>UK e s
theorem Hu {e:dJ}(h:(wX e).2.2=true):∃ n m:Nat,wX e=((n:Int),(m:Int),true)∧n<m∧m≤4096∧∀ s:Nat,s<4096→(UK e s=true ↔ n≤s∧s<m):=by
 unfold wX at h ⊢
 by_cases c:e.count≤0
 ·rw [if_pos c] at h;cases h
 ·rw [if_neg c] at h ⊢
  have h2:rQ e<UJ e:=by simpa using h
  have h3:0≤rQ e:=by unfold rQ;omega
  have h4:UJ e≤4096:=by unfold UJ;split<;>omega
  refine ⟨(rQ e).toNat,(UJ e).toNat,?_,by omega,by omega,fun s hs=>?_⟩
  ·rw [Za6 h3,Za6 (by omega),decide_eq_true h2]
  ·unfold UK
   simp only [ZS,decide_eq_true_eq]
   have e1:(rQ e).toNat≤s ↔ rQ e≤(s:Int):=by omega
   have e2:s<(UJ e).toNat ↔ (s:Int)<UJ e:=by omega
   rw [e1,e2]
   unfold rQ UJ
   split<;>omega
theorem ZE {e:dJ}(h:(wX e).2.2=false){s:Nat}(hs:s<4096):UK e s=false:=by
 unfold wX at h
 by_cases c:e.count≤0
 ·unfold UK
  rw [decide_eq_false (by omega),Za5]
 ·rw [if_neg c] at h
  have h2:¬ rQ e<UJ e:=by simpa using h
  unfold UK
  cases hq:(decide (0<e.count)&&(decide (e.start≤(s:Int))&&decide ((s:Int)<e.start+e.count))) with
  |false=>rfl
  |true =>
   exfalso
   simp only [ZS,decide_eq_true_eq] at hq
   apply h2
   unfold rQ UJ
   split<;>omega
theorem afg {e:dJ}(ho:okE e):cal env 273 [aV e]=some [(.int .i64 (wX e).1,false),(.int .i64 (wX e).2.1,false),(.bool (wX e).2.2,false)]:=by
 obtain ⟨⟨o1,o2⟩,o3,o4⟩:=ho
 unfold wX
 simp only [aV]
 by_cases c:e.count≤0
 ·rw [if_pos c]
  rw [aG Hl rfl];simp only [zo,aN,Nat.reduceBEq,Nat.reduceLeDiff,Nat.reduceAdd,zd,zm]
  simp only [c,aC,Nat.reduceMul,Nat.reduceBEq,Nat.reduceLT,Nat.reduceLeDiff,reduceCtorEq,Nat.reduceEqDiff,Nat.reduceAdd,zb]
 ·rw [if_neg c]
  unfold rQ UJ
  have hmin:min (e.start+e.count) 4096=if 4096<e.start+e.count then 4096 else e.start+e.count:=by split<;>omega
  by_cases c1:e.start<0
  ·have hmax:max e.start 0=0:=by omega
   rw [hmin,hmax]
   have W1:IntKind.i64.wrap (e.start+e.count)=e.start+e.count:=aQ (by omega)
   rw [if_pos (.inl c1)]
   rw [aG Hl rfl];simp only [zo,aN,Nat.reduceBEq,Nat.reduceLeDiff,Nat.reduceAdd,zd,zm]
   simp only [c,c1,W1,aC,Nat.reduceMul,Nat.reduceBEq,Nat.reduceLT,Nat.reduceLeDiff,reduceCtorEq,Nat.reduceEqDiff,Nat.reduceAdd,zb]
  ·have hmax:max e.start 0=e.start:=by omega
   rw [hmin,hmax]
   have W2:IntKind.i64.wrap (4096 - e.start)=4096 - e.start:=aQ (by omega)
   by_cases c2:e.count<4096 - e.start
   ·have W1:IntKind.i64.wrap (e.start+e.count)=e.start+e.count:=aQ (by omega)
    rw [if_pos (.inr c2)]
    rw [aG Hl rfl];simp only [zo,aN,Nat.reduceBEq,Nat.reduceLeDiff,Nat.reduceAdd,zd,zm]
    simp only [c,c1,c2,W1,W2,aC,Nat.reduceMul,Nat.reduceBEq,Nat.reduceLT,Nat.reduceLeDiff,reduceCtorEq,Nat.reduceEqDiff,Nat.reduceAdd,zb]
   ·rw [if_neg (by omega)]
    rw [aG Hl rfl];simp only [zo,aN,Nat.reduceBEq,Nat.reduceLeDiff,Nat.reduceAdd,zd,zm]
    simp only [c,c1,c2,W2,aC,Nat.reduceMul,Nat.reduceBEq,Nat.reduceLT,Nat.reduceLeDiff,reduceCtorEq,Nat.reduceEqDiff,Nat.reduceAdd,zb]
def dW (i:Nat)(l:List dJ):List End:=l.flatMap fun e=>if (wX e).2.2 then [⟨(wX e).1.toNat,i,1⟩,⟨(wX e).2.1.toNat,i,-1⟩] else []
theorem Dn (i:Nat)(l:List dJ)(e:dJ):dW i (l++[e])=dW i l++(if (wX e).2.2 then [⟨(wX e).1.toNat,i,1⟩,⟨(wX e).2.1.toNat,i,-1⟩] else []):=by simp [dW]
theorem yM (i:Nat):∀ l:List dJ,(dW i l).length≤2*l.length
 |[]=>ze _
 |e::l=>by
  have:=yM i l
  have h:dW i (e::l)=(if (wX e).2.2 then [⟨(wX e).1.toNat,i,1⟩,⟨(wX e).2.1.toNat,i,-1⟩] else [])++dW i l:=by simp [dW]
  rw [h,Zak,zd]
  split<;>simp<;>omega
def bZ:Nat→List (List dJ)→List End
 |_,[]=>[]
 |i,l::ls=>dW i l++bZ (i+1) ls
theorem xJ:∀ (ls:List (List dJ)) (i:Nat) (l:List dJ),bZ i (ls++[l])=bZ i ls++dW (i+ls.length) l
 |[],i,l=>by simp [bZ]
 |m::ls,i,l=>by
  simp only [List.cons_append,bZ,xJ ls (i+1) l,zd,ZaD]
  rw [show i+1+ls.length=i+(ls.length+1) by omega]
theorem pW {n:Nat}:∀ (ls:List (List dJ)) (i:Nat),(∀ l∈ls,l.length≤n)→(bZ i ls).length≤2*n*ls.length
 |[],i,_=>Nat.zero_le _
 |l::ls,i,h=>by
  have h1:=pW ls (i+1) fun x hx=>h x (by simp [hx])
  have h2:=yM i l
  have h3:=h l (by simp)
  simp only [bZ,Zak,zd]
  rw [Nat.mul_add]
  omega
set_option maxRecDepth 20000 in
theorem acB {D:PV}{l:List dJ}{pre:List End}{v n:Nat}{q17:AV}(hq:q17=.pv (.list 2 (l.map aV)))(ho:xI l)(hl:l.length≤100000)(hpre:pre.length≤10000000){st:St}(h:st.head [0,3,4,5,11,12,13,17,18,19,20,39] st.boxes.length=some ⟨sl 45 [(0,.pv D),(3,.row 3 ((pre++dW v (l.take ((0:Nat)))).map iy)),(4,.pv (.int .i64 v)),(5,.pv (.list 2 (l.map aV))),(11,.pv D),(12,.pv (.int .i64 n)),(13,.pv (.int .i64 v)),(17,.pv (.list 2 (l.map aV))),(18,.pv (.list 2 (l.map aV))),(19,.pv (.int .i64 l.length)),(20,.pv (.int .i64 (0:Nat))),(39,.any)],[],[],none⟩) :
  den env CO st=some (.normal,⟨sl 45 [(0,.pv D),(2,.any),(3,.row 3 ((pre++dW v l).map iy)),(11,.pv D),(12,.pv (.int .i64 n)),(13,.pv (.int .i64 v)),(39,.any)],[],[],none⟩):=by
 unfold CO
 refine aY (env:=env) (l.length) (fun i=>⟨sl 45 [(0,.pv D),(3,.row 3 ((pre++dW v (l.take (i))).map iy)),(4,.pv (.int .i64 v)),(5,.pv (.list 2 (l.map aV))),(11,.pv D),(12,.pv (.int .i64 n)),(13,.pv (.int .i64 v)),(17,.pv (.list 2 (l.map aV))),(18,.pv (.list 2 (l.map aV))),(19,.pv (.int .i64 l.length)),(20,.pv (.int .i64 i)),(39,.any)],[],[],none⟩) (fun i=>some (.normal,⟨sl 45 [(0,.pv D),(2,.any),(3,.row 3 ((pre++dW v l).map iy)),(11,.pv D),(12,.pv (.int .i64 n)),(13,.pv (.int .i64 v)),(39,.any)],[],[],none⟩)) h (fun _=>rfl) (fun _=>by simp only [aN,bJ,Nat.reduceMul,Nat.reduceBEq,Nat.reduceLT,Nat.reduceLeDiff,Nat.reduceAdd,decide_true,zz,zE]) ?_ ?_
 ·intro i rb hi ih
  have hlim:lim=1073741824:=rfl
  have hi1:=bU hi (by omega)
  have F1:((i:Int)<(l.length:Int))=True:=eq_true (by omega)
  have hx:l[i]?=some l[i]:=ZZ hi
  have ht:=vU hi
  have hox:=ho _ (Zas hi)
  generalize l[i]=x at *
  have e1:=afg hox
  have hrl:=yM v (l.take i)
  rw [Zaa] at hrl
  have P2:part [PV.int .i64 x.start,.int .i64 x.count] 0 (some 2)=some (.agg [.int .i64 x.start,.int .i64 x.count]):=rfl
  simp only [aV] at e1
  cases hw:(wX x).2.2 with
  |false =>
   rw [hw] at e1
   have hs:dW v (l.take (i+1))=dW v (l.take i):=by rw [ht,Dn,hw];simp
   simp only [xC,F1,hx,e1,aV,P2,ay hi,zc,Zae,za,zd,zm,aC,Nat.reduceMul,Nat.reduceBEq,Nat.reduceLT,Nat.reduceLeDiff,reduceCtorEq,Nat.reduceEqDiff,Nat.reduceAdd,zb]
   rw [ih _ (by simp only [hi1,hs,aC,Nat.reduceMul,Nat.reduceBEq,Nat.reduceLT,Nat.reduceLeDiff,reduceCtorEq,Nat.reduceEqDiff,Nat.reduceAdd,zb]<;>rfl)]
  |true =>
   obtain ⟨a,b,hab,-,-,-⟩:=Hu hw
   have hs:dW v (l.take (i+1))=dW v (l.take i)++[⟨a,v,1⟩,⟨b,v,-1⟩]:=by rw [ht,Dn,hab];simp
   rw [hab] at e1
   have F2:((pre++dW v (l.take i)).length+1+1≤lim)=True:=eq_true (by rw [Zak];omega)
   have F3:((pre++dW v (l.take i)).length+2≤lim)=True:=eq_true (by rw [Zak];omega)
   simp only [xC,F1,F2,F3,hx,e1,aV,P2,ay hi,zc,Zae,za,zd,zm,aC,Nat.reduceMul,Nat.reduceBEq,Nat.reduceLT,Nat.reduceLeDiff,reduceCtorEq,Nat.reduceEqDiff,Nat.reduceAdd,zb]
   rw [ih _ (by simp only [hi1,hs,← ZaD,Zam,Zai,Zaw,iy,aC,Nat.reduceMul,Nat.reduceBEq,Nat.reduceLT,Nat.reduceLeDiff,reduceCtorEq,Nat.reduceEqDiff,Nat.reduceAdd,zb]<;>rfl)]
 ·intro rb
  simp only [xC,ZaA,za,Zaq,aC,Nat.reduceMul,Nat.reduceBEq,Nat.reduceLT,Nat.reduceLeDiff,reduceCtorEq,Nat.reduceEqDiff,Nat.reduceAdd,zb]
set_option maxRecDepth 20000 in
theorem Un {ls:List (List dJ)}(ho:∀ l∈ls,xI l)(hr:∀ l∈ls,l.length≤100000)(hl:ls.length≤10){st:St}(h:st.head [0,3,11,12,13,39] st.boxes.length=some ⟨sl 45 [(0,.pv (.list 1 (ls.map wz))),(3,.row 3 ((bZ 0 (ls.take ((0:Nat)))).map iy)),(11,.pv (.list 1 (ls.map wz))),(12,.pv (.int .i64 ls.length)),(13,.pv (.int .i64 (0:Nat))),(39,.any)],[],[],none⟩) :
  den env CQ st=some (.normal,⟨sl 45 [(2,.any),(3,.row 3 ((bZ 0 ls).map iy))],[],[],none⟩):=by
 unfold CQ
 refine aY (env:=env) (ls.length) (fun i=>⟨sl 45 [(0,.pv (.list 1 (ls.map wz))),(3,.row 3 ((bZ 0 (ls.take (i))).map iy)),(11,.pv (.list 1 (ls.map wz))),(12,.pv (.int .i64 ls.length)),(13,.pv (.int .i64 i)),(39,.any)],[],[],none⟩) (fun i=>some (.normal,⟨sl 45 [(2,.any),(3,.row 3 ((bZ 0 ls).map iy))],[],[],none⟩)) h (fun _=>rfl) (fun _=>by simp only [aN,bJ,Nat.reduceMul,Nat.reduceBEq,Nat.reduceLT,Nat.reduceLeDiff,Nat.reduceAdd,decide_true,zz,zE]) ?_ ?_
 ·intro i rb hi ih
  have hlim:lim=1073741824:=rfl
  have hi1:=bU hi (by omega)
  have F1:((i:Int)<(ls.length:Int))=True:=eq_true (by omega)
  have hx:ls[i]?=some ls[i]:=ZZ hi
  have ht:=vU hi
  have hox:=ho _ (Zas hi)
  have hrx:=hr _ (Zas hi)
  have hli:(ls.take i).length=i:=by rw [Zaa];omega
  have hp:=pW (n:=100000) (ls.take i) 0 fun l hl=>hr l (List.mem_of_mem_take hl)
  rw [hli] at hp
  generalize ls[i]=l at *
  have hs:bZ 0 (ls.take (i+1))=bZ 0 (ls.take i)++dW i l:=by rw [ht,xJ,hli,Nat.zero_add]
  have hr0:dW i ([]:List dJ)=[]:=rfl
  simp only [CP,F1,hx,wz,ay hi,zc,Zae,za,aC,Nat.reduceMul,Nat.reduceBEq,Nat.reduceLT,Nat.reduceLeDiff,reduceCtorEq,Nat.reduceEqDiff,Nat.reduceAdd,zb]
  rw [acB (l:=l) (pre:=bZ 0 (ls.take i)) (v:=i) (q17:=.pv (.list 2 (l.map aV))) rfl hox hrx (by omega)]
  rotate_left
  ·simp only [pJ,hr0,ZaB,wz,aC,Nat.reduceMul,Nat.reduceBEq,Nat.reduceLT,Nat.reduceLeDiff,reduceCtorEq,Nat.reduceEqDiff,Nat.reduceAdd,zb]<;>rfl
  simp only [aC,Nat.reduceMul,Nat.reduceBEq,Nat.reduceLT,Nat.reduceLeDiff,reduceCtorEq,Nat.reduceEqDiff,Nat.reduceAdd,zb]
  rw [ih _ (by simp only [hi1,hs,wz,aC,Nat.reduceMul,Nat.reduceBEq,Nat.reduceLT,Nat.reduceLeDiff,reduceCtorEq,Nat.reduceEqDiff,Nat.reduceAdd,zb]<;>rfl)]
 ·intro rb
  simp only [CP,ZaA,za,Zaq,aC,Nat.reduceMul,Nat.reduceBEq,Nat.reduceLT,Nat.reduceLeDiff,reduceCtorEq,Nat.reduceEqDiff,Nat.reduceAdd,zb]
def kJ (ls:List (List dJ)):List End:=pK (bZ 0 ls)
theorem afh {ls:List (List dJ)}(ho:∀ l∈ls,xI l)(hr:∀ l∈ls,l.length≤10000)(hl:ls.length≤2)(hsl:(kJ ls).length=(bZ 0 ls).length):cal env 257 [.list 1 (ls.map wz)]=some [(.list 3 ((kJ ls).map iy),true)]:=by
 have hp:=pW (n:=10000) ls 0 hr
 have hp2:(bZ 0 ls).length≤1000000:=by
  have:2*10000*ls.length≤2*10000*2:=Nat.mul_le_mul_left _ hl
  omega
 have h1:=D6 (g:=275) (l:=bZ 0 ls) hp2
 have h2:((pK (bZ 0 ls)).map iy).length=((bZ 0 ls).map iy).length:=by
  rw [za,za];exact hsl
 unfold kJ
 have hcond:(0=0∧(bZ 0 ls).length=((bZ 0 ls).map iy).length∧((pK (bZ 0 ls)).map iy).length=((bZ 0 ls).map iy).length)=True:=eq_true ⟨rfl,by simp,h2⟩
 rw [aG aeN rfl];simp only [KJ,aN,Nat.reduceBEq,Nat.reduceLeDiff,Nat.reduceAdd,zd,zm]
 simp only [za,YZ,h1,hsl,aC,Nat.reduceMul,Nat.reduceBEq,Nat.reduceLT,Nat.reduceLeDiff,reduceCtorEq,Nat.reduceEqDiff,Nat.reduceAdd,zb]
 rw [Un ho (fun l h=>by have:=hr l h;omega) (by omega) (by simp only [pJ,bZ,Zaw,aC,Nat.reduceMul,Nat.reduceBEq,Nat.reduceLT,Nat.reduceLeDiff,reduceCtorEq,Nat.reduceEqDiff,Nat.reduceAdd,zb]<;>rfl)]
 simp only [h2,za,YZ,h1,hsl,aC,Nat.reduceMul,Nat.reduceBEq,Nat.reduceLT,Nat.reduceLeDiff,reduceCtorEq,Nat.reduceEqDiff,Nat.reduceAdd,zb]
 rw [← hsl]
 unfold kJ
 rw [wZ]
end Go.Proofs.YthccglceomoboaaGreatDoor.V
namespace Go.Proofs
open Go.Shelf
def Tryz.sortEnd_ren:Go.Shelf.Ren:=⟨fun|6=>274|15=>279|14=>280|28=>291|29=>292|20=>293|21=>294|22=>295|23=>296|24=>297|25=>298|26=>299|27=>300|46=>306|47=>302|48=>303|49=>307|50=>308|57=>310|n=>n,fun|22=>361|24=>365|25=>376|3=>3|39=>271|0=>0|53=>391|55=>193|4=>4|46=>384|45=>383|50=>388|5=>5|9=>9|66=>397|70=>401|76=>405|77=>152|n=>n,fun|n=>n⟩
theorem Tryz.sortEnd:Go.Proofs.SlLaysF0.n6 Tryz.prog Tryz.sortEnd_ren:={
 mixed:=by kernel_rfl
 f6:=⟨Tryz.f274.name,by decide,Tryz.func274.trans (congrArg some (by kernel_rfl))⟩
 f14:=⟨Tryz.f280.name,by decide,Tryz.func280.trans (congrArg some (by kernel_rfl))⟩
 f15:=Tryz.func279.trans (congrArg some (by kernel_rfl))
 f20:=⟨Tryz.f293.name,by decide,Tryz.func293.trans (congrArg some (by kernel_rfl))⟩
 f21:=⟨Tryz.f294.name,by decide,Tryz.func294.trans (congrArg some (by kernel_rfl))⟩
 f22:=⟨Tryz.f295.name,by decide,Tryz.func295.trans (congrArg some (by kernel_rfl))⟩
 f23:=⟨Tryz.f296.name,by decide,Tryz.func296.trans (congrArg some (by kernel_rfl))⟩
 f24:=⟨Tryz.f297.name,by decide,Tryz.func297.trans (congrArg some (by kernel_rfl))⟩
 f25:=⟨Tryz.f298.name,by decide,Tryz.func298.trans (congrArg some (by kernel_rfl))⟩
 f26:=⟨Tryz.f299.name,by decide,Tryz.func299.trans (congrArg some (by kernel_rfl))⟩
 f27:=⟨Tryz.f300.name,by decide,Tryz.func300.trans (congrArg some (by kernel_rfl))⟩
 f28:=Tryz.func291.trans (congrArg some (by kernel_rfl))
 f29:=Tryz.func292.trans (congrArg some (by kernel_rfl))
 f46:=⟨Tryz.f306.name,by decide,Tryz.func306.trans (congrArg some (by kernel_rfl))⟩
 f47:=Tryz.func302.trans (congrArg some (by kernel_rfl))
 f48:=Tryz.func303.trans (congrArg some (by kernel_rfl))
 f49:=⟨Tryz.f307.name,by decide,Tryz.func307.trans (congrArg some (by kernel_rfl))⟩
 f50:=⟨Tryz.f308.name,by decide,Tryz.func308.trans (congrArg some (by kernel_rfl))⟩
 f57:=⟨Tryz.f310.name,by decide,Tryz.func310.trans (congrArg some (by kernel_rfl))⟩
 t0:=Tryz.underlying0
 a0:=Tryz.isAgg0
 z0:=Tryz.sizeOf0
 v0:=Tryz.zeroValue0
 t3:=Tryz.underlying3
 a3:=Tryz.isAgg3
 z3:=Tryz.sizeOf3
 v3:=Tryz.zeroValue3
 t4:=Tryz.underlying4
 a4:=Tryz.isAgg4
 z4:=Tryz.sizeOf4
 v4:=Tryz.zeroValue4
 t5:=Tryz.underlying5
 a5:=Tryz.isAgg5
 z5:=Tryz.sizeOf5
 v5:=Tryz.zeroValue5
 t9:=Tryz.underlying9
 a9:=Tryz.isAgg9
 z9:=Tryz.sizeOf9
 v9:=Tryz.zeroValue9
 t22:=Tryz.underlying361
 a22:=Tryz.isAgg361
 z22:=Tryz.sizeOf361
 v22:=Tryz.zeroValue361
 t25:=Tryz.underlying376
 a25:=Tryz.isAgg376
 z25:=Tryz.sizeOf376
 v25:=Tryz.zeroValue376
 t39:=Tryz.underlying271
 a39:=Tryz.isAgg271
 z39:=Tryz.sizeOf271
 v39:=Tryz.zeroValue271
 t45:=Tryz.underlying383
 a45:=Tryz.isAgg383
 z45:=Tryz.sizeOf383
 v45:=Tryz.zeroValue383
 t46:=Tryz.underlying384
 a46:=Tryz.isAgg384
 z46:=Tryz.sizeOf384
 v46:=Tryz.zeroValue384
 t50:=Tryz.underlying388
 a50:=Tryz.isAgg388
 z50:=Tryz.sizeOf388
 v50:=Tryz.zeroValue388
 t53:=Tryz.underlying391
 a53:=Tryz.isAgg391
 z53:=Tryz.sizeOf391
 v53:=Tryz.zeroValue391
 t55:=Tryz.underlying193
 a55:=Tryz.isAgg193
 z55:=Tryz.sizeOf193
 v55:=Tryz.zeroValue193
 t66:=Tryz.underlying397
 a66:=Tryz.isAgg397
 z66:=Tryz.sizeOf397
 v66:=Tryz.zeroValue397
 t70:=Tryz.underlying401
 a70:=Tryz.isAgg401
 z70:=Tryz.sizeOf401
 v70:=Tryz.zeroValue401
 t76:=Tryz.underlying405
 a76:=Tryz.isAgg405
 z76:=Tryz.sizeOf405
 v76:=Tryz.zeroValue405
 t77:=Tryz.underlying152
 a77:=Tryz.isAgg152
 z77:=Tryz.sizeOf152
 v77:=Tryz.zeroValue152 }
def Tryz.cmpInt_ren:Go.Shelf.Ren:=⟨fun|5=>276|7=>281|n=>n,fun|22=>3|3=>3|4=>4|n=>n,fun|n=>n⟩
theorem Tryz.cmpInt:Go.Proofs.SlLaysC2.n5 Tryz.prog Tryz.cmpInt_ren:={
 mixed:=by kernel_rfl
 f5:=⟨Tryz.f276.name,by decide,Tryz.func276.trans (congrArg some (by kernel_rfl))⟩
 f7:=⟨Tryz.f281.name,by decide,Tryz.func281.trans (congrArg some (by kernel_rfl))⟩
 t3:=Tryz.underlying3
 a3:=Tryz.isAgg3
 z3:=Tryz.sizeOf3
 v3:=Tryz.zeroValue3
 t4:=Tryz.underlying4
 a4:=Tryz.isAgg4
 z4:=Tryz.sizeOf4
 v4:=Tryz.zeroValue4
 t22:=Tryz.underlying3
 a22:=Tryz.isAgg3
 z22:=Tryz.sizeOf3
 v22:=Tryz.zeroValue3 }
end Go.Proofs
