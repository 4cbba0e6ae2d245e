/-
  Part 5 of the texts that the statement stands on.
-/
import Derived.Test.YtioijcfcehhmdaaGreatDoorZ4
import Derived.Test.YtioijcfcehhmdaaGreatDoorProg
import Derived.Shelf.SlSortCmp.WholeK
import Derived.Shelf.SlSortCmp.NoneTotal
import Derived.Shelf.SlicesG.Cmp
import Derived.Shelf.Small.Bits
import Derived.Ground.SlsfProg
import Derived.Ground.SlgcProg
import Derived.Ground.NamesProg
set_option linter.all false
namespace Go.Proofs.YtioijcfcehhmdaaGreatDoor.V
def Y6 (b:Bm):List PV:=[.int .i64 b.size,.list 1 (b.ws.map eW)]
def tz (w:Wd):Nat:=Lib.ctz 64 w.toNat
theorem aiQ {w:Wd}:cal env 150 [.int .u64 (w.toNat:Int)]=some [(.int .i64 (tz w:Nat),false)]:=by
 rw [DN aiA]
 have:=w.isLt
 have e:tzX [.int .u64 (w.toNat:Int)]=if (0:Int)≤(w.toNat:Int)∧(w.toNat:Int)<18446744073709551616 then some [(.int .i64 (Lib.ctz 64 (w.toNat:Int).toNat:Nat),false)] else none:=rfl
 rw [e,if_pos (by omega),Int.toNat_natCast]
 rfl
theorem afX {b:Bm} {a:Int} {k:Nat} {w0:Wd} {ys0:List (List PV)} (hk:k≤100000)
  {st:St} (h:st.head [0,1,2,4,5,10,11,12] st.boxes.length=some ⟨[.rY,.pv (.eF (Y6 b) 0),.pv (.eF [.int .i64 a] 0),.any,.pv (.int .i64 (k:Nat)),.pv (eW w0),.any,.any,.any,.any,.pv (.list 1 (b.ws.map eW)),.pv (.int .i64 b.ws.length),.pv (.int .i64 (k:Nat)),.any,.any,.any,.any,.any,.any,.any,.any,.any,.any,.any,.any,.any,.any,.any,.any,.any,.any,.any,.any,.any,.any,.any,.any,.any,.any],[],ys0,some none⟩) :
  den env FH st=some (.normal,⟨[.rY,.pv (.eF (Y6 b) 0),.pv (.eF [.int .i64 a] 0),.any,.any,.any,.any,.any,.any,.any,.pv (.list 1 (b.ws.map eW)),.pv (.int .i64 b.ws.length),.pv (.int .i64 (k:Nat)),.any,.any,.any,.any,.any,.any,.any,.any,.any,.any,.any,.any,.any,.any,.any,.any,.any,.any,.any,.any,.any,.any,.any,.any,.any,.any],[],ys0++yI ((bitsOf w0).map (64 * k+·)),some none⟩):=by
 unfold FH
 refine Bg (env:=env) (fun p:Wd × List (List PV)=>⟨[.rY,.pv (.eF (Y6 b) 0),.pv (.eF [.int .i64 a] 0),.any,.pv (.int .i64 (k:Nat)),.pv (eW p.1),.any,.any,.any,.any,.pv (.list 1 (b.ws.map eW)),.pv (.int .i64 b.ws.length),.pv (.int .i64 (k:Nat)),.any,.any,.any,.any,.any,.any,.any,.any,.any,.any,.any,.any,.any,.any,.any,.any,.any,.any,.any,.any,.any,.any,.any,.any,.any,.any],[],p.2,some none⟩)
  (fun p=>some (.normal,⟨[.rY,.pv (.eF (Y6 b) 0),.pv (.eF [.int .i64 a] 0),.any,.any,.any,.any,.any,.any,.any,.pv (.list 1 (b.ws.map eW)),.pv (.int .i64 b.ws.length),.pv (.int .i64 (k:Nat)),.any,.any,.any,.any,.any,.any,.any,.any,.any,.any,.any,.any,.any,.any,.any,.any,.any,.any,.any,.any,.any,.any,.any,.any,.any,.any],[],p.2++yI ((bitsOf p.1).map (64 * k+·)),some none⟩)) (fun _=>True) (fun p=>(bitsOf p.1).length) (w0,ys0) h trivial (fun _=>rfl) (fun _=>rfl) ?_
 rintro ⟨w,ys⟩ rb _ ih
 simp only [eW] at ih ⊢
 have B:=ag9 w 0
 have B0:((0:Wd).toNat:Int)=0:=rfl
 rw [B0] at B
 have B':((w.toNat:Int) != 0)=!decide (w=0):=by unfold bne;rw [B]
 by_cases c:w=0
 ·rw [decide_eq_true c] at B'
  subst c
  simp only [FD,B',Yp,List.map_nil,bI,reduceCtorEq,Nat.reduceEqDiff,Nat.reduceAdd,Nat.reduceLT,Nat.reduceLeDiff,Nat.beq]
  simp only [yI,List.map_nil,List.append_nil]
  rfl
 ·rw [decide_eq_false c] at B'
  have e1:=aiQ (w:=w)
  have ht:=(Vz c).1
  have W0:IntKind.i64.wrap ((k:Int) * 64)=64 * (k:Int):=by rw [bZ (by omega)];omega
  have W1:IntKind.i64.wrap (64 * (k:Int)+((tz w:Nat):Int))=((64 * k+tz w:Nat):Int):=by unfold tz;rw [bZ (by omega)];omega
  have W2:=alh w 1
  have W3:=ag7 w (w - 1)
  have B1:((1:Wd).toNat:Int)=1:=rfl
  rw [B1] at W2
  have hc:=Yq c
  simp only [FD,B',e1,W0,W1,W2,W3,bI,reduceCtorEq,Nat.reduceEqDiff,Nat.reduceAdd,Nat.reduceLT,Nat.reduceLeDiff,Nat.beq]
  rw [ih (w &&& (w - 1),ys++[[.int .i64 ((64 * k+tz w:Nat):Int)]]) (by simp only;rw [hc,List.length_cons];omega) trivial _ rfl]
  rw [hc]
  simp only [yI,List.map_cons,List.append_assoc,List.cons_append,List.nil_append]
  rfl
theorem ab7 {b:Bm} {a:Int} (hb:b.ws.length≤64) (hs:0≤b.size∧b.size≤4096) (ha:-1000000≤a∧a≤1000000)
  {st:St} (h:st.head [0,1,2,10,11,12] st.boxes.length=some ⟨[.rY,.pv (.eF (Y6 b) 0),.pv (.eF [.int .i64 a] 0),.any,.any,.any,.any,.any,.any,.any,.pv (.list 1 (b.ws.map eW)),.pv (.int .i64 b.ws.length),.pv (.int .i64 (0:Nat)),.any,.any,.any,.any,.any,.any,.any,.any,.any,.any,.any,.any,.any,.any,.any,.any,.any,.any,.any,.any,.any,.any,.any,.any,.any,.any],[],[],some none⟩) :
  den env FK st=some (.normal,⟨[.any,.any,.any,.any,.any,.any,.any,.any,.any,.any,.any,.any,.any,.any,.any,.any,.any,.any,.any,.any,.any,.any,.any,.any,.any,.any,.any,.any,.any,.any,.any,.any,.any,.any,.any,.any,.any,.any,.any],[],yI (vY b.ws a b.size),some none⟩):=by
 unfold FK
 refine dG (env:=env) b.ws.length (fun k=>⟨[.rY,.pv (.eF (Y6 b) 0),.pv (.eF [.int .i64 a] 0),.any,.any,.any,.any,.any,.any,.any,.pv (.list 1 (b.ws.map eW)),.pv (.int .i64 b.ws.length),.pv (.int .i64 k),.any,.any,.any,.any,.any,.any,.any,.any,.any,.any,.any,.any,.any,.any,.any,.any,.any,.any,.any,.any,.any,.any,.any,.any,.any,.any],[],yI ((List.range (64 * k)).filter fun (i:Nat)=>bit b.ws i&&decide (a≤(i:Int)∧(i:Int)<b.size)),some none⟩)
  (fun _=>some (.normal,⟨[.any,.any,.any,.any,.any,.any,.any,.any,.any,.any,.any,.any,.any,.any,.any,.any,.any,.any,.any,.any,.any,.any,.any,.any,.any,.any,.any,.any,.any,.any,.any,.any,.any,.any,.any,.any,.any,.any,.any],[],yI (vY b.ws a b.size),some none⟩)) h (fun _=>rfl) (fun _=>rfl) ?_ ?_
 ·intro k rb hi ih
  have hi1:=cZ hi (by unfold lim;omega)
  have F1:((k:Int)<(b.ws.length:Int))=True:=eq_true (by omega)
  have e1:=ab6 (k:=k) (a:=a) (b:=b.size) (by omega) ha (by omega)
  have W3:=ag7 b.ws[k] (vX k a b.size)
  rw [UD hi] at ih
  unfold eW at e1
  simp only [FI,F1,e1,W3,Y6,eW,ay hi,List.getElem?_map,List.getElem?_eq_getElem hi,bI,reduceCtorEq,Nat.reduceEqDiff,Nat.reduceAdd,Nat.reduceLT,Nat.reduceLeDiff,Nat.beq]
  rw [afX (b:=b) (a:=a) (k:=k) (w0:=b.ws[k] &&& vX k a b.size) (ys0:=yI ((List.range (64 * k)).filter fun (i:Nat)=>bit b.ws i&&decide (a≤(i:Int)∧(i:Int)<b.size))) (by omega)]
  rotate_left
  ·rfl
  simp only [bI,reduceCtorEq,Nat.reduceEqDiff,Nat.reduceAdd,Nat.reduceLT,Nat.reduceLeDiff,Nat.beq]
  rw [ih _ (by simp only [hi1];simp only [yI,List.map_append];rfl)]
 ·intro rb
  simp only [FI,Int.lt_irrefl,bI,reduceCtorEq,Nat.reduceEqDiff,Nat.reduceAdd,Nat.reduceLT,Nat.reduceLeDiff,Nat.beq]
  rfl
theorem afY {b:Bm} {a:Int} (ha:-1000000≤a∧a≤1000000):iter env 149 [.eF (Y6 b) 0,.eF [.int .i64 a] 0] none=some (yI (if okB b then vY b.ws a b.size else [])):=by
 have P:part (Y6 b) 0 (some 2)=some (jQ b):=rfl
 have e1:=Qs (b:=b)
 rw [Ju aiz rfl rfl]
 simp only [Qe,Uy,aJ,aT,aH,aS,aA,aB,aI,aO,Nat.reduceAdd,Nat.reduceSub]
 cases c:okB b with
 |false =>
  rw [vZ c] at e1
  have Z:((3:Int) != 0)=true:=rfl
  simp only [P,e1,Z,Qn,bI,reduceCtorEq,Nat.reduceEqDiff,Nat.reduceAdd,Nat.reduceLT,Nat.reduceLeDiff,Nat.beq]
  rfl
 |true =>
  rw [Bz c] at e1
  have Z:((0:Int) != 0)=false:=rfl
  obtain ⟨h1,h2,h3,_⟩:=mV c
  have P2:part (Y6 b) 1 none=some (.list 1 (b.ws.map eW)):=rfl
  simp only [P,P2,e1,Z,List.length_map,Qn,bI,reduceCtorEq,Nat.reduceEqDiff,Nat.reduceAdd,Nat.reduceLT,Nat.reduceLeDiff,Nat.beq]
  rw [ab7 (a:=a) h3 ⟨h1,h2⟩ ha]
  rotate_left
  ·rfl
  ·rfl
theorem aiR {b:Bm} {a:Int}:cal env 126 [jQ b,.int .i64 a]=some [(.func 149 [.eF (Y6 b) 0,.eF [.int .i64 a] 0],false)]:=by
 unfold jQ Y6
 rw [ah ail rfl];simp only [PU];simp only [start,aJ,aT,aH,aS,aA,aB,aI,aO,Nat.reduceAdd,Nat.reduceSub]
 simp only [bI,reduceCtorEq,Nat.reduceEqDiff,Nat.reduceAdd,Nat.reduceLT,Nat.reduceLeDiff,Nat.beq]
end Go.Proofs.YtioijcfcehhmdaaGreatDoor.V

namespace Go.Proofs.YtioijcfcehhmdaaGreatDoor
def look:List (Nat × AV)→Nat→AV
 |[],_=>.any
 |(j,v) :: l,i=>dX (Nat.beq i j) v (look l i)
def sl (n:Nat) (l:List (Nat × AV)):List AV:=(List.range n).map (look l)
def mapA (f:AV→AV):List (Nat × AV)→List (Nat × AV)
 |[]=>[]
 |(j,v) :: l=>(j,f v) :: mapA f l
def keepA (l:List (Nat × AV)):List Nat→List (Nat × AV)
 |[]=>[]
 |k :: ks=>(k,look l k) :: keepA l ks
def CY:Nat→List PV→List (Nat × AV)
 |_,[]=>[]
 |k,v :: l=>(k,.pv v) :: CY (k+1) l
def Qu (nb:Nat):List (Nat × AV)→Bool
 |[]=>true
 |(_,v) :: l=>AV.low nb v&&Qu nb l
def UE (n:Nat):List Nat→Bool
 |[]=>true
 |k :: ks=>decide (k<n)&&UE n ks
theorem ab8 (i:Nat) (v:AV) (l:List (Nat × AV)):look ((i,v) :: l) i=v:=by
 show dX (Nat.beq i i) v _=v
 rw [Nat.beq_refl];rfl
theorem look_nil (i:Nat):look [] i=.any:=(rfl)
theorem aiS {n i:Nat} {l:List (Nat × AV)} (h':i<n):(sl n l).getD i .any=look l i:=by
 simp [sl,List.getD_eq_getElem?_getD,h']
theorem afZ {n i:Nat} {l:List (Nat × AV)} (h':i<n):(sl n l)[i]?=some (look l i):=by
 simp [sl,h']
theorem nR (l:List (Nat × AV)) (i j:Nat) (v:AV):look ((j,v) :: l) i=if i=j then v else look l i:=by
 show dX (Nat.beq i j) v _=_
 by_cases h:i=j
 ·subst h;rw [Nat.beq_refl,if_pos rfl];rfl
 ·rw [if_neg h]
  have:Nat.beq i j=false:=by
   cases e:Nat.beq i j with
   |false=>rfl
   |true=>exact absurd (Nat.eq_of_beq_eq_true e) h
  rw [this];rfl
theorem aiT (n i:Nat) (v:AV) (l:List (Nat × AV)):(sl n l).set i v=sl n ((i,v) :: l):=by
 apply List.ext_getElem (by simp [sl])
 intro k h1 h2
 have hk:k<n:=by simpa [sl] using h2
 simp only [sl,List.getElem_set,List.getElem_map,List.getElem_range,nR]
 by_cases h:i=k
 ·subst h;simp
 ·rw [if_neg h,if_neg (fun e=>h e.symm)]
theorem Yr {i j:Nat} {v:AV} {l:List (Nat × AV)} (h:(i==j)=false):look ((j,v) :: l) i=look l i:=by
 rw [nR,if_neg (by simpa using h)]
theorem JB (f:AV→AV) (hf:f .any=.any):∀ (l:List (Nat × AV)) (i:Nat),look (mapA f l) i=f (look l i)
 |[],i=>hf.symm
 |(j,v) :: l,i=>by
  show look ((j,f v) :: mapA f l) i=_
  rw [nR,nR,JB f hf l i]
  split<;>rfl
theorem L9 {f:AV→AV} (hf:f .any=.any) (n:Nat) (l:List (Nat × AV)):(sl n l).map f=sl n (mapA f l):=by
 unfold sl
 rw [List.map_map]
 apply List.map_congr_left
 intro i _
 exact (JB f hf l i).symm
theorem af0 (n d:Nat) (l:List (Nat × AV)):(sl n l).map (AV.kill d)=sl n (mapA (AV.kill d) l):=L9 rfl n l
theorem ab9 (n d:Nat) (l:List (Nat × AV)):(sl n l).map (AV.dJ d)=sl n (mapA (AV.dJ d) l):=L9 rfl n l
theorem acd (n d y:Nat) (l:List (Nat × AV)):(sl n l).map (AV.iP d y)=sl n (mapA (AV.iP d y) l):=L9 rfl n l
theorem ace (n:Nat) (l:List (Nat × AV)):(sl n l).map AV.froze=sl n (mapA AV.froze l):=L9 rfl n l
theorem acf (f:AV→AV):mapA f []=[]:=(rfl)
theorem Yt (f:AV→AV) (j:Nat) (v:AV) (l:List (Nat × AV)):mapA f ((j,v) :: l)=(j,f v) :: mapA f l:=(rfl)
theorem Yu (l:List (Nat × AV)):keepA l []=[]:=(rfl)
theorem yO (l:List (Nat × AV)) (k:Nat) (ks:List Nat):keepA l (k :: ks)=(k,look l k) :: keepA l ks:=(rfl)
theorem acg (nb:Nat):Qu nb []=true:=(rfl)
theorem JC (nb k:Nat) (v:AV) (l:List (Nat × AV)):Qu nb ((k,v) :: l)=(AV.low nb v&&Qu nb l):=(rfl)
theorem ach (n:Nat):UE n []=true:=(rfl)
theorem JD (n k:Nat) (l:List Nat):UE n (k :: l)=(decide (k<n)&&UE n l):=(rfl)
theorem Yv (k:Nat):CY k []=[]:=(rfl)
theorem FZ (k:Nat) (v:PV) (l:List PV):CY k (v :: l)=(k,.pv v) :: CY (k+1) l:=(rfl)
theorem yP (l:List (Nat × AV)):∀ (ks:List Nat) (i:Nat),look (keepA l ks) i=if ks.contains i then look l i else .any
 |[],i=>rfl
 |k :: ks,i=>by
  rw [yO,nR,yP l ks i,List.contains_cons]
  by_cases h:i=k
  ·subst h;simp
  ·have:(i==k)=false:=by simpa using h
   rw [if_neg h,this,Bool.false_or]
theorem Qv (nb n:Nat) (l:List (Nat × AV)):∀ ks:List Nat,UE n ks=true→(Qu nb (keepA l ks)=true ↔ ∀ k∈ks,(look l k).low nb=true)
 |[],_=>by simp [keepA,Qu]
 |k :: ks,h=>by
  rw [JD,Bool.and_eq_true] at h
  rw [yO,JC,Bool.and_eq_true,Qv nb n l ks h.2]
  simp
theorem VB {n nb:Nat} {l:List (Nat × AV)} {keep:List Nat} {bx:List Box} {ys:List (List PV)} {sp:Option (Option Nat)} (h:UE n keep=true) (hb:nb≤bx.length) (hl:Qu nb (keepA l keep)=true) :
  St.head ⟨sl n l,bx,ys,sp⟩ keep nb=some ⟨sl n (keepA l keep),bx.take nb,ys,sp⟩:=by
 have e:((sl n l).zipIdx.map fun (v,i)=>if keep.contains i then v else AV.any)=sl n (keepA l keep):=by
  apply List.ext_getElem (by simp [sl])
  intro i h1 h2
  simp only [sl,List.getElem_map,List.getElem_zipIdx,List.getElem_range,yP,Nat.zero_add]
 unfold St.head
 simp only
 rw [e,if_pos]
 rw [Bool.and_eq_true,decide_eq_true_eq]
 refine ⟨?_,hb⟩
 rw [List.all_eq_true]
 intro v hv
 unfold sl at hv
 obtain ⟨i,hi,rfl⟩:=List.mem_map.1 hv
 rw [yP]
 split
 ·rename_i hc
  exact (Qv nb n l keep h).1 hl i (by simpa using hc)
 ·rfl
theorem aci {n nb:Nat} {e:Ex} {l:List (Nat × AV)} {keep:List Nat} {bx:List Box} {ys:List (List PV)} {sp:Option (Option Nat)} (h:UE n keep=true) (hb:nb≤bx.length) (hl:Qu nb (keepA l keep)=true) :
  mO keep nb (e,⟨sl n l,bx,ys,sp⟩)=some (e,⟨sl n (keepA l keep),bx.take nb,ys,sp⟩):=by
 unfold mO
 simp only
 rw [VB h hb hl]
 rfl
theorem F9:∀ (l:List PV) (k i:Nat),look (CY k l) i=if k≤i then ((l[i - k]?).map AV.pv).getD .any else .any:=by
 intro l
 induction l with
 |nil=>intro k i;simp [CY,look]
 |cons v l ih =>
  intro k i
  rw [FZ,nR,ih]
  by_cases h1:i=k
  ·subst h1;simp
  ·rw [if_neg h1]
   by_cases h2:k≤i
   ·rw [if_pos (by omega),if_pos h2,show i - k=(i - (k+1))+1 by omega,List.getElem?_cons_succ]
   ·rw [if_neg (by omega),if_neg h2]
theorem Yw {n:Nat} {x:kX} {args:List PV} (hn:args.length+1≤n):aam n x args=⟨sl n ((0,x.av) :: CY 1 args),x.boxes,[],none⟩:=by
 unfold aam
 congr 1
 apply List.ext_getElem (by simp [sl];omega)
 intro i h1 h2
 simp only [sl,List.getElem_map,List.getElem_range,nR,F9]
 cases i with
 |zero=>simp
 |succ i =>
  rw [List.getElem_cons_succ,if_neg (by omega),if_pos (by omega),show i+1 - 1=i by omega]
  by_cases hi:i<args.length
  ·rw [List.getElem_append_left (by simpa using hi)]
   simp [hi]
  ·rw [List.getElem_append_right (by simp;omega)]
   simp [hi]
theorem acj {n:Nat} {args:List PV} (hn:args.length≤n):start n args=⟨sl n (CY 0 args),[],[],none⟩:=by
 have key:=F9
 unfold start
 congr 1
 apply List.ext_getElem (by simp [sl];omega)
 intro i h1 h2
 simp only [sl,List.getElem_map,List.getElem_range,key,Nat.zero_le,if_true,Nat.sub_zero]
 by_cases hi:i<args.length
 ·rw [List.getElem_append_left (by simpa using hi)]
  simp [hi]
 ·rw [List.getElem_append_right (by simp;omega)]
  simp [hi]
theorem aiU (nb:Nat) (v:PV):AV.low nb (.pv v)=true:=(rfl)
theorem af2 (nb:Nat):AV.low nb .any=true:=(rfl)
theorem af4 (nb:Nat):AV.low nb .rY=true:=(rfl)
theorem af5 (nb sz:Nat) (es:List PV):AV.low nb (.row sz es)=true:=(rfl)
theorem acn (nb o j:Nat):AV.low nb (.aV o j)=decide (o<nb):=(rfl)
theorem aco (nb t off len:Nat):AV.low nb (.ref (.slot t) off len)=true:=(rfl)
theorem acp (nb o j off len:Nat):AV.low nb (.ref (.cell o j) off len)=decide (o<nb):=(rfl)
theorem acr (nb t i j:Nat):AV.low nb (.oL (.slot t) i j)=true:=(rfl)
theorem acs (nb o q i j:Nat):AV.low nb (.oL (.cell o q) i j)=decide (o<nb):=(rfl)
theorem aiV (nb f:Nat) (caps:List AV):AV.low nb (.fn f caps)=caps.all fun c=>match c with
  |.pv _=>true
  |.aV o _=>o<nb
  |_=>false:=(rfl)
def aK:=And.intro @ab8 (And.intro @Yr (And.intro @look_nil (And.intro @aiS (And.intro @afZ (And.intro @aiT (And.intro @af0 (And.intro (And.intro @ab9 @acd) (And.intro @ace (And.intro @acf (And.intro @Yt (And.intro @Yu (And.intro @yO (And.intro @acg (And.intro @JC (And.intro @ach (And.intro @JD (And.intro @Yv (And.intro @FZ (And.intro @VB (And.intro @aci (And.intro @acj (And.intro @Yw (And.intro @aiU (And.intro @af2 (And.intro @af4 (And.intro @af5 (And.intro @acn (And.intro @aco (And.intro @acp (And.intro @acr (And.intro @acs (@aiV))))))))))))))))))))))))))))))))
def aN:=And.intro @aK (And.intro @dB (And.intro @abL @rU))
end Go.Proofs.YtioijcfcehhmdaaGreatDoor

namespace Go.Proofs.YtioijcfcehhmdaaGreatDoor.V
def sK (l:List PV) (z:PV) (i:Nat):List PV:=l.take i++List.replicate (l.length - i) z
theorem Yx {l:List PV} {z:PV} {i:Nat} (h:i≤l.length):(sK l z i).length=l.length:=by simp [sK];omega
theorem Yy {l:List PV} {z:PV} {i:Nat} (h:i<l.length):(sK l z i)[i]?=some z:=by
 unfold sK
 have e:(l.take i).length=i:=by simp;omega
 rw [List.getElem?_append_right (by omega),e,Nat.sub_self,List.getElem?_replicate,if_pos (by omega)]
theorem Yz {l:List PV} {z x:PV} {i:Nat} (h:i<l.length) (hx:l[i]?=some x):(sK l z i).set i x=sK l z (i+1):=by
 unfold sK
 have e:(l.take i).length=i:=by simp;omega
 rw [List.set_append_right _ _ (by omega),e,Nat.sub_self,show l.length - i=(l.length - (i+1))+1 by omega,List.replicate_succ,List.set_cons_zero,List.take_add_one,hx,Option.toList,List.append_assoc]
 rfl
theorem UF (l:List PV) (z:PV):sK l z 0=List.replicate l.length z:=by simp [sK]
theorem YA (l:List PV) (z:PV):sK l z l.length=l:=by simp [sK]
theorem Gf:jQ ⟨0,[]⟩=.agg [.int .i64 0,.list 1 []]:=rfl
def oG (a b:Bm):Int:=if okB a=false then 3 else if okB b=false then 3 else if a.size≠b.size then 22 else 0
def wo (f:Wd→Wd→Wd) (a b:Bm):Bm:=if oG a b=0 then ⟨a.size,mQ f a.ws b.ws⟩ else ⟨0,[]⟩
theorem both_ok {a b:Bm} (h:oG a b=0):okB a=true∧okB b=true∧a.size=b.size∧a.ws.length=b.ws.length:=by
 unfold oG at h
 split at h
 ·omega
 ·split at h
  ·omega
  ·split at h
   ·omega
   ·rename_i c1 c2 c3
    have c1:okB a=true:=by cases h:okB a<;>simp_all
    have c2:okB b=true:=by cases h:okB b<;>simp_all
    have e:a.size=b.size:=Classical.not_not.1 c3
    have h1:=(kF.1 c1).1.2.2
    have h2:=(kF.1 c2).1.2.2
    exact ⟨c1,c2,e,by rw [e] at h1;omega⟩
theorem Gg {f:Wd→Wd→Wd} {a b:List Wd} (h:a.length=b.length):(mQ f a b).length=a.length:=by simp [mQ,h]
theorem acu {f:Wd→Wd→Wd} {a b:List Wd} {i:Nat} (h1:i<a.length) (h2:i<b.length):(mQ f a b)[i]?=some (f a[i] b[i]):=by
 have h:i<(mQ f a b).length:=by simp [mQ];omega
 rw [List.getElem?_eq_getElem h]
 simp [mQ]
set_option maxRecDepth 20000 in
theorem af6 {a b:Bm} {f:Wd→Wd→Wd} {gf:Nat} (hf:∀ x y,cal env gf [eW x,eW y]=some [(eW (f x y),false)]) (hl:a.ws.length=b.ws.length) (hm:a.ws.length≤64) {st:St} (h:st.head [2,3,4,6,10,33,35,36] st.boxes.length=some ⟨sl 59 [(2,.pv (.func gf [])),(3,.aV 0 0),(4,.aV 1 0),(6,.aV 2 0),(10,.row 1 (sK ((mQ f a.ws b.ws).map eW) (.int .u64 0) ((0:Nat)))),(33,.any),(35,.pv (.int .i64 a.ws.length)),(36,.pv (.int .i64 (0:Nat)))],[⟨false,[.pv (.int .i64 a.size),.pv (.list 1 (a.ws.map eW))]⟩,⟨false,[.pv (.int .i64 b.size),.pv (.list 1 (b.ws.map eW))]⟩,⟨false,[.pv (.int .i64 0),.row 1 []]⟩],[],none⟩) :
  den env FQ st=some (.normal,⟨sl 59 [(3,.aV 0 0),(6,.aV 2 0),(7,.any),(10,.row 1 ((mQ f a.ws b.ws).map eW))],[⟨false,[.pv (.int .i64 a.size),.pv (.list 1 (a.ws.map eW))]⟩,⟨false,[.pv (.int .i64 b.size),.pv (.list 1 (b.ws.map eW))]⟩,⟨false,[.pv (.int .i64 0),.row 1 []]⟩],[],none⟩):=by
 unfold FQ
 refine dG (env:=env) (nb:=3) (a.ws.length) (fun i=>⟨sl 59 [(2,.pv (.func gf [])),(3,.aV 0 0),(4,.aV 1 0),(6,.aV 2 0),(10,.row 1 (sK ((mQ f a.ws b.ws).map eW) (.int .u64 0) (i))),(33,.any),(35,.pv (.int .i64 a.ws.length)),(36,.pv (.int .i64 i))],[⟨false,[.pv (.int .i64 a.size),.pv (.list 1 (a.ws.map eW))]⟩,⟨false,[.pv (.int .i64 b.size),.pv (.list 1 (b.ws.map eW))]⟩,⟨false,[.pv (.int .i64 0),.row 1 []]⟩],[],none⟩) (fun i=>some (.normal,⟨sl 59 [(3,.aV 0 0),(6,.aV 2 0),(7,.any),(10,.row 1 ((mQ f a.ws b.ws).map eW))],[⟨false,[.pv (.int .i64 a.size),.pv (.list 1 (a.ws.map eW))]⟩,⟨false,[.pv (.int .i64 b.size),.pv (.list 1 (b.ws.map eW))]⟩,⟨false,[.pv (.int .i64 0),.row 1 []]⟩],[],none⟩)) h (fun _=>rfl) (fun _=>by simp only [aK,dB,Nat.reduceMul,Nat.reduceBEq,Nat.reduceLT,Nat.reduceLeDiff,Nat.reduceAdd,decide_true,Bool.and_self,Bool.true_and]) ?_ ?_
 ·intro i rb hi ih
  have hi1:=cZ hi (by unfold lim;omega)
  have hj:i<b.ws.length:=by omega
  have F1:((i:Int)<(a.ws.length:Int))=True:=eq_true (by omega)
  have zl:((mQ f a.ws b.ws).map eW).length=a.ws.length:=by rw [List.length_map,Gg hl]
  have f1:=Yx (l:=(mQ f a.ws b.ws).map eW) (z:=.int .u64 0) (i:=i) (by omega)
  have f2:=Yy (l:=(mQ f a.ws b.ws).map eW) (z:=.int .u64 0) (i:=i) (by omega)
  have f3:=Yz (l:=(mQ f a.ws b.ws).map eW) (z:=.int .u64 0) (i:=i) (x:=eW (f a.ws[i] b.ws[i])) (by omega) (by rw [List.getElem?_map,acu hi hj];rfl)
  have e1:=hf a.ws[i] b.ws[i]
  rw [zl] at f1
  unfold eW at e1 f1 f2 f3 ih ⊢
  simp only [FP,F1,e1,f1,f2,f3,ay hi,ay hj,List.getElem?_map,List.getElem?_eq_getElem hi,List.getElem?_eq_getElem hj,Option.map_some,List.length_map,aN,Nat.reduceMul,Nat.reduceBEq,Nat.reduceLT,Nat.reduceLeDiff,reduceCtorEq,Nat.reduceEqDiff,Nat.reduceAdd,Nat.beq]
  rw [ih _ (by simp only [hi1,aN,Nat.reduceMul,Nat.reduceBEq,Nat.reduceLT,Nat.reduceLeDiff,reduceCtorEq,Nat.reduceEqDiff,Nat.reduceAdd,Nat.beq]<;>rfl)]
 ·intro rb
  have zl:((mQ f a.ws b.ws).map eW).length=a.ws.length:=by rw [List.length_map,Gg hl]
  have f4:=YA ((mQ f a.ws b.ws).map eW) (.int .u64 0)
  rw [zl] at f4
  rw [f4]
  simp only [FP,Int.lt_irrefl,aN,Nat.reduceMul,Nat.reduceBEq,Nat.reduceLT,Nat.reduceLeDiff,reduceCtorEq,Nat.reduceEqDiff,Nat.reduceAdd,Nat.beq]
theorem aiW {a b:Bm} {f:Wd→Wd→Wd} {gf:Nat} (hf:∀ x y,cal env gf [eW x,eW y]=some [(eW (f x y),false)]) :
  cal env 152 [jQ a,jQ b,.func gf []]=some [(jQ (wo f a b),false),(.int .i64 (oG a b),false)]:=by
 have P:∀ b:Bm,part [PV.int .i64 b.size,.list 1 (b.ws.map eW)] 0 (some 2)=some (jQ b):=fun _=>rfl
 have e1:=Qs (b:=a)
 have e2:=Qs (b:=b)
 have Z0:((0:Int) != 0)=false:=rfl
 have Z3:((3:Int) != 0)=true:=rfl
 have hz:=Gf
 unfold wo
 cases c1:okB a with
 |false =>
  have hE:oG a b=3:=by unfold oG;rw [if_pos c1]
  rw [hE,if_neg (by decide),hz]
  rw [vZ c1] at e1
  have eA:jQ a=.agg [.int .i64 a.size,.list 1 (a.ws.map eW)]:=rfl
  have eB:jQ b=.agg [.int .i64 b.size,.list 1 (b.ws.map eW)]:=rfl
  rw [eA] at e1 ⊢;rw [eB]
  rw [ah LZ rfl];simp only [CX,aK,Nat.reduceBEq,Nat.reduceLeDiff,Nat.reduceAdd,List.length_cons,List.length_nil]
  simp only [e1,Z3,Bo,Bl,EU,aN,Nat.reduceMul,Nat.reduceBEq,Nat.reduceLT,Nat.reduceLeDiff,reduceCtorEq,Nat.reduceEqDiff,Nat.reduceAdd,Nat.beq]
 |true =>
  rw [Bz c1] at e1
  cases c2:okB b with
  |false =>
   have hE:oG a b=3:=by unfold oG;rw [if_neg (by rw [c1];decide),if_pos c2]
   rw [hE,if_neg (by decide),hz]
   rw [vZ c2] at e2
   have eA:jQ a=.agg [.int .i64 a.size,.list 1 (a.ws.map eW)]:=rfl
   have eB:jQ b=.agg [.int .i64 b.size,.list 1 (b.ws.map eW)]:=rfl
   rw [eA] at e1 ⊢;rw [eB] at e2 ⊢
   rw [ah LZ rfl];simp only [CX,aK,Nat.reduceBEq,Nat.reduceLeDiff,Nat.reduceAdd,List.length_cons,List.length_nil]
   simp only [e1,e2,Z3,Z0,aN,Nat.reduceMul,Nat.reduceBEq,Nat.reduceLT,Nat.reduceLeDiff,reduceCtorEq,Nat.reduceEqDiff,Nat.reduceAdd,Nat.beq]
  |true =>
   rw [Bz c2] at e2
   by_cases c3:a.size=b.size
   ·have hE:oG a b=0:=by unfold oG;rw [if_neg (by rw [c1];decide),if_neg (by rw [c2];decide),if_neg (by simpa using c3)]
    obtain ⟨_,_,_,hl⟩:=both_ok hE
    have hm:=(mV c1).2.2.1
    have G:(a.size != b.size)=false:=by simp [c3]
    have F3:((0:Int)≤(a.ws.length:Int))=True:=eq_true (by omega)
    have F4:((a.ws.length:Int)≤(lim:Int))=True:=eq_true (by unfold lim;omega)
    rw [hE,if_pos rfl]
    have eA:jQ a=.agg [.int .i64 a.size,.list 1 (a.ws.map eW)]:=rfl
    have eB:jQ b=.agg [.int .i64 b.size,.list 1 (b.ws.map eW)]:=rfl
    rw [eA] at e1 ⊢;rw [eB] at e2 ⊢
    rw [ah LZ rfl];simp only [CX,aK,Nat.reduceBEq,Nat.reduceLeDiff,Nat.reduceAdd,List.length_cons,List.length_nil]
    simp only [e1,e2,Z0,G,F3,F4,Int.toNat_natCast,List.length_map,List.length_replicate,aN,Nat.reduceMul,Nat.reduceBEq,Nat.reduceLT,Nat.reduceLeDiff,reduceCtorEq,Nat.reduceEqDiff,Nat.reduceAdd,Nat.beq]
    rw [af6 hf hl hm]
    rotate_left
    ·have zl:((mQ f a.ws b.ws).map eW).length=a.ws.length:=by rw [List.length_map,Gg hl]
     rw [UF,zl]
     simp only [aK,dB,Nat.reduceMul,Nat.reduceBEq,Nat.reduceLT,Nat.reduceLeDiff,Nat.reduceAdd,decide_true,Bool.and_self,Bool.true_and]<;>rfl
    ·simp only [e1,e2,Z0,G,F3,F4,Int.toNat_natCast,List.length_map,List.length_replicate,aN,Nat.reduceMul,Nat.reduceBEq,Nat.reduceLT,Nat.reduceLeDiff,reduceCtorEq,Nat.reduceEqDiff,Nat.reduceAdd,Nat.beq]
     rfl
   ·have hE:oG a b=22:=by unfold oG;rw [if_neg (by rw [c1];decide),if_neg (by rw [c2];decide),if_pos (by simpa using c3)]
    have G:(a.size != b.size)=true:=by simp [c3]
    rw [hE,if_neg (by decide),hz]
    have eA:jQ a=.agg [.int .i64 a.size,.list 1 (a.ws.map eW)]:=rfl
    have eB:jQ b=.agg [.int .i64 b.size,.list 1 (b.ws.map eW)]:=rfl
    rw [eA] at e1 ⊢;rw [eB] at e2 ⊢
    rw [ah LZ rfl];simp only [CX,aK,Nat.reduceBEq,Nat.reduceLeDiff,Nat.reduceAdd,List.length_cons,List.length_nil]
    simp only [e1,e2,Z0,G,aN,Nat.reduceMul,Nat.reduceBEq,Nat.reduceLT,Nat.reduceLeDiff,reduceCtorEq,Nat.reduceEqDiff,Nat.reduceAdd,Nat.beq]
theorem aiX (x y:Wd):cal env 153 [eW x,eW y]=some [(eW (x ||| y),false)]:=by
 have W:=alf x y
 unfold eW
 rw [ah aiC rfl];simp only [Qh];simp only [start,aJ,aT,aH,aS,aA,aB,aI,aO,Nat.reduceAdd,Nat.reduceSub]
 simp only [W,bI,reduceCtorEq,Nat.reduceEqDiff,Nat.reduceAdd,Nat.reduceLT,Nat.reduceLeDiff,Nat.beq]
def BA (x y:Wd):Wd:=x ||| y
theorem aiY {a b:Bm}:cal env 136 [jQ a,jQ b]=some [(jQ (wo BA a b),false),(.int .i64 (oG a b),false)]:=by
 have e1:=aiW (a:=a) (b:=b) (f:=BA) (gf:=153) aiX
 have eA:∀ a:Bm,jQ a=.agg [.int .i64 a.size,.list 1 (a.ws.map eW)]:=fun _=>rfl
 rw [eA,eA,eA] at e1 ⊢
 rw [ah aiu rfl];simp only [P8];simp only [start,aJ,aT,aH,aS,aA,aB,aI,aO,Nat.reduceAdd,Nat.reduceSub]
 simp only [e1,bI,reduceCtorEq,Nat.reduceEqDiff,Nat.reduceAdd,Nat.reduceLT,Nat.reduceLeDiff,Nat.beq]
end Go.Proofs.YtioijcfcehhmdaaGreatDoor.V

namespace Go.Proofs.YtioijcfcehhmdaaGreatDoor.V
theorem sorted_at {l:List Nat} (hs:l.Pairwise (·<·)) {j i:Nat} (h:l[j]?=some i):j≤i∧∀ k∈l.take j,k<i:=by
 obtain ⟨hj,rfl⟩:=List.getElem?_eq_some_iff.1 h
 have hp:=List.pairwise_iff_getElem.1 hs
 refine ⟨?_,fun k hk=>?_⟩
 ·clear h
  induction j with
  |zero=>exact Nat.zero_le _
  |succ j ih =>
   have h1:=ih (by omega)
   have h2:=hp j (j+1) (by omega) hj (by omega)
   omega
 ·obtain ⟨m,hm,rfl⟩:=List.mem_iff_getElem.1 hk
  rw [List.getElem_take]
  simp only [List.length_take] at hm
  exact hp m j (by omega) hj (by omega)
def Gh (b:Bm):List Nat:=if okB b then vY b.ws 0 b.size else []
theorem af7 {b:Bm} {j i:Nat} (h:(Gh b)[j]?=some i):i<4096∧j≤i∧∀ k∈(Gh b).take j,k<i:=by
 unfold Gh at h ⊢
 split at h
 ·rename_i c
  rw [if_pos c]
  have hs:(vY b.ws 0 b.size).Pairwise (·<·):=List.pairwise_lt_range.filter _
  have hm:=List.mem_of_getElem? h
  simp only [vY,List.mem_filter,List.mem_range,Bool.and_eq_true,decide_eq_true_eq] at hm
  have:=mV c
  exact ⟨by omega,sorted_at hs h⟩
 ·simp at h
def bmX (b:Bm):List eH:=if okB b then L8 b else []
theorem aiZ (b:Bm):exts (Gh b)=bmX b:=by
 unfold Gh bmX L8 ext
 split
 ·rename_i c;rw [ab4 c 0 (by omega)]
 ·rfl
theorem aha {b:Bm}:cal env 94 [jQ b]=some [(.list 2 ((bmX b).map dW),true)]:=by
 have e1:=aiR (b:=b) (a:=0)
 have eA:∀ a:Bm,jQ a=.agg [.int .i64 a.size,.list 1 (a.ws.map eW)]:=fun _=>rfl
 rw [eA] at e1 ⊢
 rw [ah ak7 rfl];simp only [abn];simp only [start,aJ,aT,aH,aS,aA,aB,aI,aO,Nat.reduceAdd,Nat.reduceSub]
 simp only [e1,bI,reduceCtorEq,Nat.reduceEqDiff,Nat.reduceAdd,Nat.reduceLT,Nat.reduceLeDiff,Nat.beq]
 rw [Vw (env:=env) (fun j=>[⟨false,[.pv (.int .i64 b.size),.pv (.list 1 (b.ws.map eW))]⟩,⟨false,[.row 2 ((exts ((Gh b).take j)).map dW)]⟩]) (xs:=yI (Gh b)) rfl (by have:=afY (b:=b) (a:=0) (by omega);exact this) rfl ?_]
 ·simp only [yI,List.length_map,List.take_length,Qn,bI,reduceCtorEq,Nat.reduceEqDiff,Nat.reduceAdd,Nat.reduceLT,Nat.reduceLeDiff,Nat.beq]
  rw [aiZ]
 ·intro j x hx sl0
  simp only [yI,List.getElem?_map,Option.map_eq_some_iff] at hx
  obtain ⟨i,hi,rfl⟩:=hx
  obtain ⟨k1,k2,k3⟩:=af7 hi
  have hlim:lim=1073741824:=rfl
  have hj:=(List.getElem?_eq_some_iff.1 hi).1
  have ht:(Gh b).take (j+1)=(Gh b).take j++[i]:=by rw [List.take_add_one,hi];rfl
  have hlen:((Gh b).take j).length=j:=by simp;omega
  rw [ht]
  rcases lq ((Gh b).take j) with h0|⟨p,q,h0⟩
  ·have F2:(((0:Nat):Int) > 0)=False:=eq_false (by omega)
   have F3:(0+1≤lim)=True:=eq_true (by omega)
   have e0:exts ([]:List Nat)=[]:=rfl
   have e2:exts [i]=[⟨i,1⟩]:=rfl
   refine ⟨?_,?_⟩
   rotate_left
   ·simp only [h0,List.nil_append,DX,DY,F2,F3,e0,e2,dW,List.map_nil,List.map_cons,Qn,bI,reduceCtorEq,Nat.reduceEqDiff,Nat.reduceAdd,Nat.reduceLT,Nat.reduceLeDiff,Nat.beq]
    rfl
  ·obtain ⟨pre,⟨s,c⟩,e0,h1,h2,h3,h4⟩:=Jz _ p rfl q
   have hqi:q<i:=k3 q (by rw [h0];simp)
   simp only at h1 h2 h3
   have hpl:p.length+1=j:=by rw [h0] at hlen;simpa using hlen
   have F2:(((pre.length+1:Nat):Int) > 0)=True:=eq_true (by omega)
   have F3:=Yn (n:=pre.length) (by omega)
   have F4:IntKind.i64.wrap (s+c)=s+c:=bZ (by omega)
   have F5:IntKind.i64.wrap (c+1)=c+1:=bZ (by omega)
   have F6:(pre.length+1+1≤lim)=True:=eq_true (by omega)
   have F7:index (.int .i64 (pre.length:Int)) (pre.length+1)=some pre.length:=ay (by omega)
   by_cases hc:s+c=(i:Int)
   ·have F8:(s+c==(i:Int))=true:=by simpa using hc
    have e2:exts (p++[q]++[i])=pre++[⟨s,c+1⟩]:=by rw [xq,e0,jE,if_pos hc]
    refine ⟨?_,?_⟩
    rotate_left
    ·simp only [h0,DX,DY,e0,e2,F2,F3,F4,F5,F6,F7,F8,dW,List.map_append,List.map_cons,List.map_nil,Qn,bI,reduceCtorEq,Nat.reduceEqDiff,Nat.reduceAdd,Nat.reduceLT,Nat.reduceLeDiff,Nat.beq]
     rfl
   ·have F8:(s+c==(i:Int))=false:=by simpa using hc
    have e2:exts (p++[q]++[i])=pre++[⟨s,c⟩]++[⟨i,1⟩]:=by rw [xq,e0,jE,if_neg hc]
    refine ⟨?_,?_⟩
    rotate_left
    ·simp only [h0,DX,DY,e0,e2,F2,F3,F4,F5,F6,F7,F8,dW,List.map_append,List.map_cons,List.map_nil,Qn,bI,reduceCtorEq,Nat.reduceEqDiff,Nat.reduceAdd,Nat.reduceLT,Nat.reduceLeDiff,Nat.beq]
     rfl
end Go.Proofs.YtioijcfcehhmdaaGreatDoor.V

namespace Go.Proofs.YtioijcfcehhmdaaGreatDoor.V
end Go.Proofs.YtioijcfcehhmdaaGreatDoor.V

namespace Go.Proofs.YtioijcfcehhmdaaGreatDoor.V
end Go.Proofs.YtioijcfcehhmdaaGreatDoor.V

namespace Go.Proofs.YtioijcfcehhmdaaGreatDoor.V
structure Pt where
 site:Int
 lin:List xI
 dirty:List Bm
 img:iR
def CZ (p:Pt):PV:=.agg [.int .i64 p.site,.list 3 (p.lin.map lg),.list 2 (p.dirty.map jQ),.list 1 (p.img.map bF)]
def wu (p:Pt):List BV:=[.pv (.int .i64 p.site),.pv (.list 3 (p.lin.map lg)),.pv (.list 2 (p.dirty.map jQ)),.pv (.list 1 (p.img.map bF))]
theorem aY (p:Pt):wu p=[.pv (.int .i64 p.site),.pv (.list 3 (p.lin.map lg)),.pv (.list 2 (p.dirty.map jQ)),.pv (.list 1 (p.img.map bF))]:=rfl
theorem fC (p:Pt):CZ p=.agg [.int .i64 p.site,.list 3 (p.lin.map lg),.list 2 (p.dirty.map jQ),.list 1 (p.img.map bF)]:=rfl
def BD (p:Pt):Prop:=p.lin.length≤lim∧p.dirty.length≤lim∧p.img.length≤lim
def wz:List Bm→iR→Int
 |b :: bs,v :: vs=>if Ii b≠0 then Ii b else if b.size≠(v.length:Int) then 22 else wz bs vs
 |_,_=>0
def iJ (p:Pt):Int :=
 if p.site<0∨1073741824<p.site then 2
 else if qx p.lin=false then 3
 else if iZ p.img≠0 then iZ p.img
 else if p.dirty.length≠p.img.length then 6
 else wz p.dirty p.img
def resD (n:Nat) (e:Int) (bx:List Box):Option (Ex × St):=if e=0 then some (.normal,⟨sl n [(2,.any)],bx,[],none⟩) else some (.ret,⟨sl n [(2,.pv (.int .i64 e))],bx,[],none⟩)
theorem YB {bs:List Bm} {vs:iR} {i:Nat} (h1:i<bs.length) (h2:i<vs.length):wz (bs.drop i) (vs.drop i)=if Ii bs[i]≠0 then Ii bs[i] else if bs[i].size≠(vs[i].length:Int) then 22 else wz (bs.drop (i+1)) (vs.drop (i+1)):=by
 rw [List.drop_eq_getElem_cons h1,List.drop_eq_getElem_cons h2,wz]
theorem ai0 {p:Pt} (hl:p.dirty.length≤lim) (hq:p.dirty.length=p.img.length) {st:St} (h:st.head [1,31,32,33] st.boxes.length=some ⟨sl 53 [(1,.aV 0 0),(31,.pv (.list 2 (p.dirty.map jQ))),(32,.pv (.int .i64 p.dirty.length)),(33,.pv (.int .i64 (0:Nat)))],[⟨false,wu p⟩],[],none⟩) :
  den env Ls st=resD 53 (wz (p.dirty.drop ((0:Nat))) (p.img.drop ((0:Nat)))) [⟨false,wu p⟩]:=by
 unfold Ls
 refine dG (env:=env) (nb:=1) (p.dirty.length) (fun i=>⟨sl 53 [(1,.aV 0 0),(31,.pv (.list 2 (p.dirty.map jQ))),(32,.pv (.int .i64 p.dirty.length)),(33,.pv (.int .i64 i))],[⟨false,wu p⟩],[],none⟩) (fun i=>resD 53 (wz (p.dirty.drop (i)) (p.img.drop (i))) [⟨false,wu p⟩]) h (fun _=>rfl) (fun _=>by simp only [aK,dB,Nat.reduceMul,Nat.reduceBEq,Nat.reduceLT,Nat.reduceLeDiff,Nat.reduceAdd,decide_true,Bool.and_self,Bool.true_and]) ?_ ?_
 ·intro i rb hi ih
  have hi1:=cZ hi hl
  have hj:i<p.img.length:=by omega
  have F1:((i:Int)<(p.dirty.length:Int))=True:=eq_true (by omega)
  have P2:∀ a b:PV,part [a,b] 0 (some 2)=some (.agg [a,b]):=fun _ _=>rfl
  have eA:∀ b:Bm,jQ b=.agg [.int .i64 b.size,.list 1 (b.ws.map eW)]:=fun _=>rfl
  have eV:∀ v:List fP,bF v=.list 8 (v.map ni):=fun _=>rfl
  have hx:(p.dirty.map jQ)[i]?=some (jQ p.dirty[i]):=by rw [List.getElem?_map,List.getElem?_eq_getElem hi];rfl
  have hy:(p.img.map bF)[i]?=some (bF p.img[i]):=by rw [List.getElem?_map,List.getElem?_eq_getElem hj];rfl
  have e1:=Qs (b:=p.dirty[i])
  have hD:=YB hi hj
  rw [eA] at hx e1
  rw [eV] at hy
  by_cases c1:Ii p.dirty[i]=0
  ·have G1:((0:Int) != 0)=false:=rfl
   rw [c1] at e1
   rw [if_neg (show ¬ Ii p.dirty[i]≠0 from fun h=>h c1)] at hD
   by_cases c2:p.dirty[i].size=(p.img[i].length:Int)
   ·have G2:(p.dirty[i].size != (p.img[i].length:Int))=false:=by simpa using c2
    rw [if_neg (show ¬ p.dirty[i].size≠(p.img[i].length:Int) from fun h=>h c2)] at hD
    rw [hD]
    simp only [zT,F1,hx,hy,e1,P2,G1,G2,aY,ay hi,ay hj,List.length_map,aN,Nat.reduceMul,Nat.reduceBEq,Nat.reduceLT,Nat.reduceLeDiff,reduceCtorEq,Nat.reduceEqDiff,Nat.reduceAdd,Nat.beq]
    rw [ih _ (by simp only [hi1,aY,aN,Nat.reduceMul,Nat.reduceBEq,Nat.reduceLT,Nat.reduceLeDiff,reduceCtorEq,Nat.reduceEqDiff,Nat.reduceAdd,Nat.beq]<;>rfl)]
    all_goals rfl
   ·have G2:(p.dirty[i].size != (p.img[i].length:Int))=true:=by simpa using c2
    rw [if_pos c2] at hD
    rw [hD]
    unfold resD
    rw [if_neg (by decide)]
    simp only [zT,F1,hx,hy,e1,P2,G1,G2,aY,ay hi,ay hj,List.length_map,aN,Nat.reduceMul,Nat.reduceBEq,Nat.reduceLT,Nat.reduceLeDiff,reduceCtorEq,Nat.reduceEqDiff,Nat.reduceAdd,Nat.beq]
  ·have G1:(Ii p.dirty[i] != 0)=true:=by simpa using c1
   rw [if_pos c1] at hD
   rw [hD]
   unfold resD
   rw [if_neg c1]
   simp only [zT,F1,hx,hy,e1,P2,G1,aY,ay hi,ay hj,List.length_map,aN,Nat.reduceMul,Nat.reduceBEq,Nat.reduceLT,Nat.reduceLeDiff,reduceCtorEq,Nat.reduceEqDiff,Nat.reduceAdd,Nat.beq]
 ·intro rb
  rw [List.drop_length,hq,List.drop_length]
  unfold wz resD
  rw [if_pos rfl]
  simp only [zT,Int.lt_irrefl,aY,hq,List.length_map,aN,Nat.reduceMul,Nat.reduceBEq,Nat.reduceLT,Nat.reduceLeDiff,reduceCtorEq,Nat.reduceEqDiff,Nat.reduceAdd,Nat.beq]
theorem acv {p:Pt} (h:BD p):cal env 50 [CZ p]=some [(.int .i64 (iJ p),false)]:=by
 obtain ⟨h1,h2,h3⟩:=h
 have e0:=ag2 (n:=p.site) (low:=0)
 have e1:=abS (l:=p.lin) h1
 have e2:=ag4 (im:=p.img) h3
 have Z:((0:Int) != 0)=false:=rfl
 unfold iJ
 rw [fC]
 by_cases c1:p.site<0∨1073741824<p.site
 ·have G1:(decide (p.site ≥ 0)&&decide (p.site≤1073741824))=false:=by simp;omega
  rw [G1] at e0
  rw [if_pos c1]
  rw [ah Qi rfl];simp only [Lu,aK,Nat.reduceBEq,Nat.reduceLeDiff,Nat.reduceAdd,List.length_cons,List.length_nil]
  simp only [e0,aN,Nat.reduceMul,Nat.reduceBEq,Nat.reduceLT,Nat.reduceLeDiff,reduceCtorEq,Nat.reduceEqDiff,Nat.reduceAdd,Nat.beq]
 ·have G1:(decide (p.site ≥ 0)&&decide (p.site≤1073741824))=true:=by simp;omega
  rw [G1] at e0
  rw [if_neg c1]
  cases c3:qx p.lin with
  |false =>
   rw [c3] at e1
   rw [if_pos rfl]
   rw [ah Qi rfl];simp only [Lu,aK,Nat.reduceBEq,Nat.reduceLeDiff,Nat.reduceAdd,List.length_cons,List.length_nil]
   simp only [e0,e1,aN,Nat.reduceMul,Nat.reduceBEq,Nat.reduceLT,Nat.reduceLeDiff,reduceCtorEq,Nat.reduceEqDiff,Nat.reduceAdd,Nat.beq]
  |true =>
   rw [c3] at e1
   rw [if_neg (by decide)]
   by_cases c4:iZ p.img=0
   ·rw [c4] at e2
    rw [if_neg (by rw [c4];decide)]
    by_cases c5:p.dirty.length=p.img.length
    ·have G5:((p.dirty.length:Int) != (p.img.length:Int))=false:=by simp [c5]
     rw [if_neg (by simpa using c5)]
     rw [ah Qi rfl];simp only [Lu,aK,Nat.reduceBEq,Nat.reduceLeDiff,Nat.reduceAdd,List.length_cons,List.length_nil]
     simp only [e0,e1,e2,Z,G5,List.length_map,aN,Nat.reduceMul,Nat.reduceBEq,Nat.reduceLT,Nat.reduceLeDiff,reduceCtorEq,Nat.reduceEqDiff,Nat.reduceAdd,Nat.beq]
     rw [ai0 (p:=p) h2 c5]
     rotate_left
     ·rw [aY]
      simp only [aK,dB,Nat.reduceMul,Nat.reduceBEq,Nat.reduceLT,Nat.reduceLeDiff,Nat.reduceAdd,decide_true,Bool.and_self,Bool.true_and]<;>rfl
     ·rw [List.drop_zero,List.drop_zero]
      unfold resD
      split
      ·rename_i c6
       rw [c6]
       simp only [e0,e1,e2,Z,G5,List.length_map,aN,Nat.reduceMul,Nat.reduceBEq,Nat.reduceLT,Nat.reduceLeDiff,reduceCtorEq,Nat.reduceEqDiff,Nat.reduceAdd,Nat.beq]
      ·simp only [e0,e1,e2,Z,G5,List.length_map,aN,Nat.reduceMul,Nat.reduceBEq,Nat.reduceLT,Nat.reduceLeDiff,reduceCtorEq,Nat.reduceEqDiff,Nat.reduceAdd,Nat.beq]
    ·have G5:((p.dirty.length:Int) != (p.img.length:Int))=true:=by simp;omega
     rw [if_pos c5]
     rw [ah Qi rfl];simp only [Lu,aK,Nat.reduceBEq,Nat.reduceLeDiff,Nat.reduceAdd,List.length_cons,List.length_nil]
     simp only [e0,e1,e2,Z,G5,List.length_map,aN,Nat.reduceMul,Nat.reduceBEq,Nat.reduceLT,Nat.reduceLeDiff,reduceCtorEq,Nat.reduceEqDiff,Nat.reduceAdd,Nat.beq]
   ·have G4:(iZ p.img != 0)=true:=by simpa using c4
    rw [if_pos c4]
    rw [ah Qi rfl];simp only [Lu,aK,Nat.reduceBEq,Nat.reduceLeDiff,Nat.reduceAdd,List.length_cons,List.length_nil]
    simp only [e0,e1,e2,G4,List.length_map,aN,Nat.reduceMul,Nat.reduceBEq,Nat.reduceLT,Nat.reduceLeDiff,reduceCtorEq,Nat.reduceEqDiff,Nat.reduceAdd,Nat.beq]
end Go.Proofs.YtioijcfcehhmdaaGreatDoor.V

namespace Go.Proofs.YtioijcfcehhmdaaGreatDoor.V
theorem acw:∀ a b:iR,eqF (fun x y:List fP=>decide (x.length=y.length)) a b=decide (au a=au b)
 |[],[]=>rfl
 |[],y :: b=>by simp [eqF,au]
 |x :: a,[]=>by simp [eqF,au]
 |x :: a,y :: b=>by
  have ih:=acw a b
  unfold eqF at ih ⊢
  have e0:decide (au (x :: a)=au (y :: b))=(decide (x.length=y.length)&&decide (au a=au b)):=by
   rw [← Bool.decide_and]
   exact decide_eq_decide.2 (by simp only [au,List.map_cons,List.cons.injEq];exact and_congr Int.ofNat_inj Iff.rfl)
  rw [e0,← ih]
  simp only [List.length_cons,List.zip_cons_cons,List.all_cons]
  have e2:decide (a.length+1=b.length+1)=decide (a.length=b.length):=decide_eq_decide.2 (by omega)
  rw [e2]
  cases decide (x.length=y.length)<;>cases decide (a.length=b.length)<;>simp
theorem ai1 {x y:List fP}:cal env 135 [bF x,bF y]=some [(.bool (decide (x.length=y.length)),false)]:=by
 have eV:∀ v:List fP,bF v=.list 8 (v.map ni):=fun _=>rfl
 rw [eV,eV]
 by_cases c:x.length=y.length
 ·have G:((x.length:Int)==(y.length:Int))=true:=by simp [c]
  rw [decide_eq_true c]
  rw [ah abI rfl];simp only [Jr,aK,Nat.reduceBEq,Nat.reduceLeDiff,Nat.reduceAdd,List.length_cons,List.length_nil]
  simp only [G,List.length_map,aN,Nat.reduceMul,Nat.reduceBEq,Nat.reduceLT,Nat.reduceLeDiff,reduceCtorEq,Nat.reduceEqDiff,Nat.reduceAdd,Nat.beq]
 ·have G:((x.length:Int)==(y.length:Int))=false:=by simp;omega
  rw [decide_eq_false c]
  rw [ah abI rfl];simp only [Jr,aK,Nat.reduceBEq,Nat.reduceLeDiff,Nat.reduceAdd,List.length_cons,List.length_nil]
  simp only [G,List.length_map,aN,Nat.reduceMul,Nat.reduceBEq,Nat.reduceLT,Nat.reduceLeDiff,reduceCtorEq,Nat.reduceEqDiff,Nat.reduceAdd,Nat.beq]
theorem ai2 {a b:iR} (hl:a.length≤lim):cal env 111 [.list 1 (a.map bF),.list 1 (b.map bF)]=some [(.bool (decide (au a=au b)),false)]:=by
 have e1:=ag3 (enc:=bF) (enc2:=bF) (eq:=fun x y:List fP=>decide (x.length=y.length)) (l:=a) (m:=b) (gf:=135) (caps:=[]) (fun x _ y _=>ai1) (fun _=>rfl) (fun _=>rfl) hl
 rw [acw] at e1
 rw [ah ah9 rfl];simp only [Py,aK,Nat.reduceBEq,Nat.reduceLeDiff,Nat.reduceAdd,List.length_cons,List.length_nil]
 simp only [e1,aN,Nat.reduceMul,Nat.reduceBEq,Nat.reduceLT,Nat.reduceLeDiff,reduceCtorEq,Nat.reduceEqDiff,Nat.reduceAdd,Nat.beq]
def qy:List Pt→Int
 |[]=>0
 |p :: l=>if iJ p=0 then qy l else iJ p
theorem JE {l:List Pt} {i:Nat} (h:i<l.length):qy (l.drop i)=if iJ l[i]=0 then qy (l.drop (i+1)) else iJ l[i]:=by
 rw [List.drop_eq_getElem_cons h,qy]
end Go.Proofs.YtioijcfcehhmdaaGreatDoor.V

namespace Go.Proofs.YtioijcfcehhmdaaGreatDoor.V
end Go.Proofs.YtioijcfcehhmdaaGreatDoor.V

namespace Go.Proofs.YtioijcfcehhmdaaGreatDoor.V
def af9 (b:Bm) (s:Int):Bool:=okB b&&(decide (0≤s)&&(decide (s<b.size)&&bit b.ws s.toNat))
end Go.Proofs.YtioijcfcehhmdaaGreatDoor.V

namespace Go.Proofs.YtioijcfcehhmdaaGreatDoor.V
def dir (a:Pt) (v:Nat):Bm:=a.dirty.getD v ⟨0,[]⟩
def mk2 (a b:Pt) (v k:Nat):Bool:=af9 (dir a v) (k:Int) || af9 (dir b v) (k:Int)
theorem acy {a:Pt} {v:Nat} (h:v<a.dirty.length):(a.dirty.map jQ)[v]?=some (jQ (dir a v)):=by
 rw [List.getElem?_map,List.getElem?_eq_getElem h]
 unfold dir
 rw [List.getD_eq_getElem?_getD,List.getElem?_eq_getElem h]
 rfl
def Gi (a:Pt) (i:Nat):Nat:=(a.img.getD i []).length
def Y7 (a b:Pt) (n:Nat):List (List eH):=(List.range n).map fun i=>ext (mk2 a b i) (Gi a i)
theorem acz (a b:Pt) (n:Nat):Y7 a b (n+1)=Y7 a b n++[ext (mk2 a b n) (Gi a n)]:=by
 unfold Y7;rw [List.range_succ,List.map_append];rfl
theorem Mc (a b:Pt) (n:Nat):(Y7 a b n).length=n:=by simp [Y7]
def Qw (l:List eH):PV:=.list 2 (l.map dW)
end Go.Proofs.YtioijcfcehhmdaaGreatDoor.V

namespace Go.Proofs.YtioijcfcehhmdaaGreatDoor.V
end Go.Proofs.YtioijcfcehhmdaaGreatDoor.V

namespace Go.Proofs.YtioijcfcehhmdaaGreatDoor.V
theorem ai3 {a b:Bm} (ha:okB a=true) (hb:okB b=true) (hs:a.size=b.size):oG a b=0∧okB (wo BA a b)=true∧(wo BA a b).size=a.size∧∀ s:Nat,(s:Int)<a.size→bit (wo BA a b).ws s=(bit a.ws s || bit b.ws s):=by
 have hE:oG a b=0:=by unfold oG;rw [if_neg (by rw [ha];decide),if_neg (by rw [hb];decide),if_neg (by simpa using hs)]
 obtain ⟨_,_,_,hl⟩:=both_ok hE
 have hO:wo BA a b=⟨a.size,mQ BA a.ws b.ws⟩:=by unfold wo;rw [if_pos hE]
 have hz:(mQ BA a.ws b.ws).length=a.ws.length:=by simp [mQ,hl]
 have hbit:∀ {i:Nat},i<64 * a.ws.length→bit (mQ BA a.ws b.ws) i=(bit a.ws i || bit b.ws i):=fun hi=>afW (g:=fun x y=>x || y) (fun x y j _=>BitVec.getLsbD_or) hl hi
 have h1:=mV ha
 rw [hO]
 refine ⟨hE,kF.2 ⟨⟨h1.1,h1.2.1,?_⟩,fun i hi=>?_⟩,rfl,fun s hlt=>hbit (by omega)⟩
 ·show ((mQ BA a.ws b.ws).length:Int)=_
  rw [hz];exact (kF.1 ha).1.2.2
 ·have hi:a.size≤(i:Int):=hi
  by_cases c:i<64 * a.ws.length
  ·show bit (mQ BA a.ws b.ws) i=false
   rw [hbit c,(kF.1 ha).2 i hi,(kF.1 hb).2 i (by omega)]
   rfl
  ·exact DZ (by show 64 * (mQ BA a.ws b.ws).length≤i;rw [hz];omega)
theorem extC {p q:Nat→Bool} {m:Nat} (h:∀ t,t<m→p t=q t):ext p m=ext q m:=by
 unfold ext
 congr 1
 apply List.filter_congr
 intro t ht
 exact h t (List.mem_range.1 ht)
theorem Gj:∀ {bs:List Bm} {vs:iR},wz bs vs=0→∀ i (h1:i<bs.length) (h2:i<vs.length),okB bs[i]=true∧bs[i].size=(vs[i].length:Int)
 |[],_,_,i,h1,_=>absurd h1 (Nat.not_lt_zero _)
 |_ :: _,[],_,i,_,h2=>absurd h2 (Nat.not_lt_zero _)
 |b :: bs,v :: vs,h,i,h1,h2=>by
  unfold wz at h
  split at h
  ·rename_i c;exact absurd h c
  ·rename_i c
   split at h
   ·cases h
   ·rename_i c2
    match i with
    |0 =>
     refine ⟨?_,by simpa using c2⟩
     cases hb:okB b with
     |true=>exact hb
     |false=>unfold Ii at c;rw [hb] at c;exact absurd (by decide) c
    |i+1=>exact Gj h i (by simpa using h1) (by simpa using h2)
theorem pz {p:Pt} (h:iJ p=0):qx p.lin=true∧iZ p.img=0∧p.dirty.length=p.img.length∧wz p.dirty p.img=0:=by
 unfold iJ at h
 split at h
 ·cases h
 ·split at h
  ·cases h
  ·rename_i c
   split at h
   ·rename_i c2;exact absurd h c2
   ·rename_i c2
    split at h
    ·cases h
    ·rename_i c3
     exact ⟨by simpa using c,by simpa using c2,by simpa using c3,h⟩
theorem YC {a b:Pt} (h:au a.img=au b.img) (i:Nat):Gi a i=Gi b i:=by
 have e:∀ p:Pt,((au p.img).getD i 0)=(Gi p i:Int):=fun p=>by
  unfold au Gi
  rw [List.getD_eq_getElem?_getD,List.getD_eq_getElem?_getD,List.getElem?_map]
  cases p.img[i]?<;>rfl
 have:=e a
 rw [h,e b] at this
 omega
theorem Qx {a b:Pt} (h:au a.img=au b.img):a.img.length=b.img.length:=by
 have:=congrArg List.length h
 simpa [au] using this
theorem acA {p:Pt} (h:iJ p=0) {v:Nat} (hv:v<p.img.length):okB (dir p v)=true∧(dir p v).size=(Gi p v:Int):=by
 obtain ⟨_,_,h3,h4⟩:=pz h
 have:=Gj h4 v (by omega) hv
 unfold dir Gi
 rw [List.getD_eq_getElem?_getD,List.getElem?_eq_getElem (by omega),List.getD_eq_getElem?_getD,List.getElem?_eq_getElem hv]
 exact this
theorem VD {b:Bm} (h:okB b=true) {k:Nat} (hk:(k:Int)<b.size):af9 b (k:Int)=bit b.ws k:=by
 unfold af9
 rw [h,Bool.true_and,decide_eq_true (by omega),Bool.true_and,decide_eq_true hk,Bool.true_and,Int.toNat_natCast]
theorem ai4 {a b:Pt} (ha:iJ a=0) (hb:iJ b=0) (hs:au a.img=au b.img) {v:Nat} (hv:v<a.img.length):oG (dir a v) (dir b v)=0∧bmX (wo BA (dir a v) (dir b v))=ext (mk2 a b v) (Gi a v):=by
 have hv2:v<b.img.length:=by rw [← Qx hs];exact hv
 obtain ⟨a1,a2⟩:=acA ha hv
 obtain ⟨b1,b2⟩:=acA hb hv2
 have hL:=YC hs v
 obtain ⟨g1,g2,g3,g4⟩:=ai3 a1 b1 (by rw [a2,b2,hL])
 refine ⟨g1,?_⟩
 unfold bmX L8
 rw [if_pos g2,g3,a2,Int.toNat_natCast]
 apply extC
 intro t ht
 rw [g4 t (by omega)]
 unfold mk2
 rw [VD a1 (by omega),VD b1 (by omega)]
end Go.Proofs.YtioijcfcehhmdaaGreatDoor.V

namespace Go.Proofs.YtioijcfcehhmdaaGreatDoor.V
def wB (a b:Pt) (n i:Nat):List PV:=(Y7 a b i).map Qw++List.replicate (n - i) (PV.list 0 [])
theorem acB {a b:Pt} {n i:Nat} (h:i≤n):(wB a b n i).length=n:=by
 unfold wB
 rw [List.length_append,List.length_map,Mc,List.length_replicate]
 omega
theorem acC {a b:Pt} {n i:Nat} (h:i<n):(wB a b n i)[i]?=some (PV.list 0 []):=by
 unfold wB
 have hl:((Y7 a b i).map Qw).length=i:=by rw [List.length_map,Mc]
 rw [List.getElem?_append_right (by omega),hl,Nat.sub_self,List.getElem?_replicate,if_pos (by omega)]
theorem acD {a b:Pt} {n i:Nat} (h:i<n):(wB a b n i).set i (PV.list 2 ((ext (mk2 a b i) (Gi a i)).map dW))=wB a b n (i+1):=by
 unfold wB
 have hl:((Y7 a b i).map Qw).length=i:=by rw [List.length_map,Mc]
 rw [List.set_append_right _ _ (by omega),hl,Nat.sub_self,show n - i=(n - (i+1))+1 by omega,List.replicate_succ,List.set_cons_zero,acz,List.map_append,List.append_assoc]
 rfl
theorem YD (a b:Pt) (n:Nat):wB a b n 0=List.replicate n (PV.list 0 []):=by
 unfold wB Y7
 simp
theorem acE (a b:Pt) (n:Nat):wB a b n n=(Y7 a b n).map Qw:=by
 unfold wB
 rw [Nat.sub_self]
 simp
set_option maxRecDepth 20000 in
theorem aga {a b:Pt} (ha:iJ a=0) (hb:iJ b=0) (hs:au a.img=au b.img) (hl:a.img.length≤lim) {st:St} (h:st.head [2,3,5,12,14,15] st.boxes.length=some ⟨sl 39 [(2,.aV 0 0),(3,.aV 1 0),(5,.row 1 (wB a b a.img.length ((0:Nat)))),(12,.any),(14,.pv (.int .i64 a.img.length)),(15,.pv (.int .i64 (0:Nat)))],[⟨false,wu a⟩,⟨false,wu b⟩],[],none⟩) :
  den env E8 st=some (.normal,⟨sl 39 [(4,.any),(5,.row 1 (wB a b a.img.length a.img.length))],[⟨false,wu a⟩,⟨false,wu b⟩],[],none⟩):=by
 unfold E8
 refine dG (env:=env) (nb:=2) (a.img.length) (fun i=>⟨sl 39 [(2,.aV 0 0),(3,.aV 1 0),(5,.row 1 (wB a b a.img.length (i))),(12,.any),(14,.pv (.int .i64 a.img.length)),(15,.pv (.int .i64 i))],[⟨false,wu a⟩,⟨false,wu b⟩],[],none⟩) (fun i=>some (.normal,⟨sl 39 [(4,.any),(5,.row 1 (wB a b a.img.length a.img.length))],[⟨false,wu a⟩,⟨false,wu b⟩],[],none⟩)) h (fun _=>rfl) (fun _=>by simp only [aK,dB,Nat.reduceMul,Nat.reduceBEq,Nat.reduceLT,Nat.reduceLeDiff,Nat.reduceAdd,decide_true,Bool.and_self,Bool.true_and]) ?_ ?_
 ·intro i rb hi ih
  have hi1:=cZ hi hl
  have F1:((i:Int)<(a.img.length:Int))=True:=eq_true (by omega)
  have h1:i<a.dirty.length:=by have:=(pz ha).2.2.1;omega
  have h2:i<b.dirty.length:=by have:=(pz hb).2.2.1;have:=Qx hs;omega
  have P2:∀ a b:PV,part [a,b] 0 (some 2)=some (.agg [a,b]):=fun _ _=>rfl
  have eA:∀ b:Bm,jQ b=.agg [.int .i64 b.size,.list 1 (b.ws.map eW)]:=fun _=>rfl
  obtain ⟨m1,m2⟩:=ai4 ha hb hs hi
  have hx:=acy h1
  have hy:=acy h2
  have e1:=aiY (a:=dir a i) (b:=dir b i)
  have e2:=aha (b:=wo BA (dir a i) (dir b i))
  rw [m1] at e1
  rw [m2] at e2
  generalize wo BA (dir a i) (dir b i)=o at *
  rw [eA,eA,eA] at e1
  rw [eA] at e2 hx hy
  have z1:=acB (a:=a) (b:=b) (n:=a.img.length) (i:=i) (by omega)
  have z2:=acC (a:=a) (b:=b) hi
  have z3:=acD (a:=a) (b:=b) hi
  have I1:index (.int .i64 (i:Int)) (wB a b a.img.length i).length=some i:=by rw [z1];exact ay hi
  rw [← z3] at ih
  generalize wB a b a.img.length i=z at *
  generalize (ext (mk2 a b i) (Gi a i)).map dW=x at *
  simp only [E5,F1,P2,hx,hy,e1,e2,z2,I1,aY,ay h1,ay h2,List.length_map,aN,Nat.reduceMul,Nat.reduceBEq,Nat.reduceLT,Nat.reduceLeDiff,reduceCtorEq,Nat.reduceEqDiff,Nat.reduceAdd,Nat.beq]
  rw [ih _ (by simp only [hi1,aY,aN,Nat.reduceMul,Nat.reduceBEq,Nat.reduceLT,Nat.reduceLeDiff,reduceCtorEq,Nat.reduceEqDiff,Nat.reduceAdd,Nat.beq]<;>rfl)]
  all_goals rfl
 ·intro rb
  simp only [E5,Int.lt_irrefl,aY,List.length_map,aN,Nat.reduceMul,Nat.reduceBEq,Nat.reduceLT,Nat.reduceLeDiff,reduceCtorEq,Nat.reduceEqDiff,Nat.reduceAdd,Nat.beq]
theorem ai5 {a b:Pt} (ha:iJ a=0) (hb:iJ b=0) (hs:au a.img=au b.img) (hl:a.img.length≤lim):cal env 112 [CZ a,CZ b]=some [(.list 1 ((Y7 a b a.img.length).map Qw),true)]:=by
 have hd:=(pz ha).2.2.1
 have hlim:lim=1073741824:=rfl
 have K1:(0≤(a.dirty.length:Int))=True:=eq_true (by omega)
 have K2:((a.dirty.length:Int)≤(lim:Int))=True:=eq_true (by omega)
 have K3:((a.dirty.length:Int)≤(a.dirty.length:Int))=True:=eq_true (Int.le_refl _)
 have K4:((a.dirty.length:Int)).toNat=a.dirty.length:=by omega
 rw [fC,fC]
 rw [ah aia rfl];simp only [Pz,aK,Nat.reduceBEq,Nat.reduceLeDiff,Nat.reduceAdd,List.length_cons,List.length_nil]
 simp only [K1,K2,K3,K4,List.length_map,List.length_replicate,aN,Nat.reduceMul,Nat.reduceBEq,Nat.reduceLT,Nat.reduceLeDiff,reduceCtorEq,Nat.reduceEqDiff,Nat.reduceAdd,Nat.beq]
 rw [aga (a:=a) (b:=b) ha hb hs hl]
 rotate_left
 ·rw [YD,aY,aY,← hd]
  simp only [aK,dB,Nat.reduceMul,Nat.reduceBEq,Nat.reduceLT,Nat.reduceLeDiff,Nat.reduceAdd,decide_true,Bool.and_self,Bool.true_and]<;>rfl
 ·rw [acE]
  simp only [List.take_length,aN,Nat.reduceMul,Nat.reduceBEq,Nat.reduceLT,Nat.reduceLeDiff,reduceCtorEq,Nat.reduceEqDiff,Nat.reduceAdd,Nat.beq]
def btE (a b:Pt):Int:=if iJ a=0 then if iJ b=0 then if au a.img=au b.img then 0 else 22 else iJ b else iJ a
def btO (a b:Pt):List (List eH):=if btE a b=0 then Y7 a b a.img.length else []
def resT (n:Nat) (a b:Pt) (e:Int):Option (Ex × St):=if e=0 then some (.normal,⟨sl n [(2,.aV 0 0),(3,.aV 1 0),(4,.any),(5,.any)],[⟨false,wu a⟩,⟨false,wu b⟩],[],none⟩) else some (.ret,⟨sl n [(2,.aV 0 0),(3,.aV 1 0),(4,.row 1 []),(5,.pv (.int .i64 e))],[⟨false,wu a⟩,⟨false,wu b⟩],[],none⟩)
theorem ai6 {a b:Pt} (hf:∀ p∈[a,b],BD p) {st:St} (h:st.head [2,3,11,12,13] st.boxes.length=some ⟨sl 32 [(2,.aV 0 0),(3,.aV 1 0),(11,.row 4 ([a,b].map CZ)),(12,.pv (.int .i64 [a,b].length)),(13,.pv (.int .i64 (0:Nat)))],[⟨false,wu a⟩,⟨false,wu b⟩],[],none⟩) :
  den env LK st=resT 32 a b (qy ([a,b].drop ((0:Nat)))):=by
 unfold LK
 refine dG (env:=env) (nb:=2) ([a,b].length) (fun i=>⟨sl 32 [(2,.aV 0 0),(3,.aV 1 0),(11,.row 4 ([a,b].map CZ)),(12,.pv (.int .i64 [a,b].length)),(13,.pv (.int .i64 i))],[⟨false,wu a⟩,⟨false,wu b⟩],[],none⟩) (fun i=>resT 32 a b (qy ([a,b].drop (i)))) h (fun _=>rfl) (fun _=>by simp only [aK,dB,Nat.reduceMul,Nat.reduceBEq,Nat.reduceLT,Nat.reduceLeDiff,Nat.reduceAdd,decide_true,Bool.and_self,Bool.true_and]) ?_ ?_
 ·intro i rb hi ih
  have hi1:=cZ hi (by unfold lim;simp)
  have F1:((i:Int)<([a,b].length:Int))=True:=eq_true (by omega)
  generalize [a,b]=l at *
  have e1:=acv (p:=l[i]) (hf _ (List.getElem_mem hi))
  have hx:(l.map CZ)[i]?=some (CZ l[i]):=by rw [List.getElem?_map,List.getElem?_eq_getElem hi];rfl
  have P4:∀ a b c d:PV,part [a,b,c,d] 0 (some 4)=some (.agg [a,b,c,d]):=fun _ _ _ _=>rfl
  rw [JE hi]
  rw [fC] at e1 hx
  by_cases c:iJ l[i]=0
  ·have G:((0:Int) != 0)=false:=rfl
   rw [if_pos c]
   rw [c] at e1
   simp only [DW,F1,hx,e1,G,P4,aY,ay hi,List.length_map,aN,Nat.reduceMul,Nat.reduceBEq,Nat.reduceLT,Nat.reduceLeDiff,reduceCtorEq,Nat.reduceEqDiff,Nat.reduceAdd,Nat.beq]
   rw [ih _ (by simp only [hi1,aY,aN,Nat.reduceMul,Nat.reduceBEq,Nat.reduceLT,Nat.reduceLeDiff,reduceCtorEq,Nat.reduceEqDiff,Nat.reduceAdd,Nat.beq]<;>rfl)]
   all_goals rfl
  ·have G:(iJ l[i] != 0)=true:=by simpa using c
   rw [if_neg c]
   unfold resT
   rw [if_neg c]
   simp only [DW,F1,hx,e1,G,P4,aY,ay hi,List.length_map,aN,Nat.reduceMul,Nat.reduceBEq,Nat.reduceLT,Nat.reduceLeDiff,reduceCtorEq,Nat.reduceEqDiff,Nat.reduceAdd,Nat.beq]
 ·intro rb
  rw [List.drop_length]
  unfold qy resT
  rw [if_pos rfl]
  simp only [DW,Int.lt_irrefl,aY,List.length_map,aN,Nat.reduceMul,Nat.reduceBEq,Nat.reduceLT,Nat.reduceLeDiff,reduceCtorEq,Nat.reduceEqDiff,Nat.reduceAdd,Nat.beq]
theorem alj {a b:Pt} (ha:BD a) (hb:BD b):cal env 69 [CZ a,CZ b]=some [(.list 1 ((btO a b).map Qw),true),(.int .i64 (btE a b),false)]:=by
 have e3:=ai2 (a:=a.img) (b:=b.img) ha.2.2
 have P4:∀ a b c d:PV,part [a,b,c,d] 0 (some 4)=some (.agg [a,b,c,d]):=fun _ _ _ _=>rfl
 have hF:qy [a,b]=if iJ a=0 then iJ b else iJ a:=by
  unfold qy qy qy
  by_cases c:iJ b=0
  ·simp [c]
  ·simp [c]
 have hf:∀ p∈[a,b],BD p:=by simp;exact ⟨ha,hb⟩
 rw [fC,fC]
 rw [ah akX rfl];simp only [abb,aK,Nat.reduceBEq,Nat.reduceLeDiff,Nat.reduceAdd,List.length_cons,List.length_nil]
 simp only [P4,List.length_map,aN,Nat.reduceMul,Nat.reduceBEq,Nat.reduceLT,Nat.reduceLeDiff,reduceCtorEq,Nat.reduceEqDiff,Nat.reduceAdd,Nat.beq]
 rw [ai6 (a:=a) (b:=b) hf]
 rotate_left
 ·rw [aY,aY]
  simp only [aK,dB,Nat.reduceMul,Nat.reduceBEq,Nat.reduceLT,Nat.reduceLeDiff,Nat.reduceAdd,decide_true,Bool.and_self,Bool.true_and]<;>rfl
 ·rw [List.drop_zero,hF]
  unfold resT btO btE
  by_cases c1:iJ a=0
  ·rw [if_pos c1,if_pos c1]
   by_cases c2:iJ b=0
   ·rw [if_pos c2,if_pos c2]
    by_cases c3:au a.img=au b.img
    ·rw [decide_eq_true c3] at e3
     have e4:=ai5 (a:=a) (b:=b) c1 c2 c3 ha.2.2
     rw [fC,fC] at e4
     rw [if_pos c3,if_pos rfl]
     simp only [e3,e4,P4,aY,List.length_map,aN,Nat.reduceMul,Nat.reduceBEq,Nat.reduceLT,Nat.reduceLeDiff,reduceCtorEq,Nat.reduceEqDiff,Nat.reduceAdd,Nat.beq]
    ·rw [decide_eq_false c3] at e3
     rw [if_neg c3,if_neg (by decide)]
     simp only [e3,P4,aY,List.length_map,List.map_nil,aN,Nat.reduceMul,Nat.reduceBEq,Nat.reduceLT,Nat.reduceLeDiff,reduceCtorEq,Nat.reduceEqDiff,Nat.reduceAdd,Nat.beq]
   ·simp only [if_neg c2]
    simp only [aY,List.length_map,List.map_nil,aN,Nat.reduceMul,Nat.reduceBEq,Nat.reduceLT,Nat.reduceLeDiff,reduceCtorEq,Nat.reduceEqDiff,Nat.reduceAdd,Nat.beq]
  ·simp only [if_neg c1]
   simp only [aY,List.length_map,List.map_nil,aN,Nat.reduceMul,Nat.reduceBEq,Nat.reduceLT,Nat.reduceLeDiff,reduceCtorEq,Nat.reduceEqDiff,Nat.reduceAdd,Nat.beq]
end Go.Proofs.YtioijcfcehhmdaaGreatDoor.V

namespace Go.Proofs.YtioijcfcehhmdaaGreatDoor.V
structure Au where
 kind:Int
 pF:Int
 to:Int
 step:Int
 ep:Int
 oH:Int
 done:Bool
 failed:Bool
def Ij (p:Au):PV:=.agg [.int .i64 p.kind,.int .i64 p.pF,.int .i64 p.to,.int .i64 p.step,.int .i64 p.ep,.int .i64 p.oH,.bool p.done,.bool p.failed]
theorem dw (p:Au):Ij p=.agg [.int .i64 p.kind,.int .i64 p.pF,.int .i64 p.to,.int .i64 p.step,.int .i64 p.ep,.int .i64 p.oH,.bool p.done,.bool p.failed]:=rfl
def je (n:Int):Bool:=decide (0≤n)&&decide (n<4)
--+
theorem JF {n:Int}:cal env 70 [.int .i64 n]=some [(.bool (je n),false)]:=by
 unfold je
 by_cases h:0≤n
 ·have F1:(n ≥ 0)=True:=eq_true h
  have F2:(0≤n)=True:=eq_true h
  rw [ah agY rfl];simp only [Ya,aK,Nat.reduceBEq,Nat.reduceLeDiff,Nat.reduceAdd,List.length_cons,List.length_nil]
  simp only [F1,F2,aN,Nat.reduceMul,Nat.reduceBEq,Nat.reduceLT,Nat.reduceLeDiff,reduceCtorEq,Nat.reduceEqDiff,Nat.reduceAdd,Nat.beq]
 ·have F1:(n ≥ 0)=False:=eq_false h
  have F2:(0≤n)=False:=eq_false h
  rw [ah agY rfl];simp only [Ya,aK,Nat.reduceBEq,Nat.reduceLeDiff,Nat.reduceAdd,List.length_cons,List.length_nil]
  simp only [F1,F2,aN,Nat.reduceMul,Nat.reduceBEq,Nat.reduceLT,Nat.reduceLeDiff,reduceCtorEq,Nat.reduceEqDiff,Nat.reduceAdd,Nat.beq]
--+
theorem yQ (n:Int):thrown env 51 [.bool true,.int .i64 n]=some none:=EO abD
theorem BF (n:Int):thrown env 51 [.bool false,.int .i64 n]=some (some (148,n)):=EO abD
theorem Gl (n:Int):cal env 51 [.bool true,.int .i64 n]=some []:=aeJ abD rfl
theorem acF:thrown env 49 [.int .i64 0]=some none:=by
 have d1:=yQ
 have d2:=Gl
 have F1:((0:Int)==0)=true:=rfl
 rw [dM abC rfl rfl];simp only [Ur,aK,Nat.reduceBEq,Nat.reduceLeDiff,Nat.reduceAdd,List.length_cons,List.length_nil]
 simp only [d1,d2,F1,aN,Nat.reduceMul,Nat.reduceBEq,Nat.reduceLT,Nat.reduceLeDiff,reduceCtorEq,Nat.reduceEqDiff,Nat.reduceAdd,Nat.beq]
theorem VE {e:Int} (h:e≠0):thrown env 49 [.int .i64 e]=some (some (148,e)):=by
 have d1:=BF
 have F1:(e==0)=false:=by simp [h]
 rw [dM abC rfl rfl];simp only [Ur,aK,Nat.reduceBEq,Nat.reduceLeDiff,Nat.reduceAdd,List.length_cons,List.length_nil]
 simp only [d1,F1,aN,Nat.reduceMul,Nat.reduceBEq,Nat.reduceLT,Nat.reduceLeDiff,reduceCtorEq,Nat.reduceEqDiff,Nat.reduceAdd,Nat.beq]
theorem acG:cal env 49 [.int .i64 0]=some []:=by
 have d1:=yQ
 have d2:=Gl
 have F1:((0:Int)==0)=true:=rfl
 rw [ah abC rfl];simp only [Ur,aK,Nat.reduceBEq,Nat.reduceLeDiff,Nat.reduceAdd,List.length_cons,List.length_nil]
 simp only [d1,d2,F1,aN,Nat.reduceMul,Nat.reduceBEq,Nat.reduceLT,Nat.reduceLeDiff,reduceCtorEq,Nat.reduceEqDiff,Nat.reduceAdd,Nat.beq]
def jS (p:Au):Int:=if p.kind=3 then (if je p.pF=true then (if je p.to=true then (if p.pF≠p.to then (if 0≤p.step then (if p.step≤4096 then (if 1≤p.ep then (if p.ep≤1073741824 then (if 0≤p.oH then (if p.oH≤1073741824 then (if p.failed=false then (if p.done=true then (if 1≤p.step then 0 else 12) else 0) else 12) else 2) else 2) else 2) else 2) else 2) else 2) else 2) else 2) else 2) else 1
set_option maxHeartbeats 2000000 in
theorem alk {p:Au}:thrown env 48 [Ij p]=some (if jS p=0 then none else some (148,jS p)):=by
 have d1:=yQ
 have d2:=Gl
 have d3:=BF
 have s1:=JF (n:=p.pF)
 have s2:=JF (n:=p.to)
 rw [dw]
 by_cases c0:p.kind=3
 rotate_left
 ·have uz:(p.kind==3)=false:=by first|(simp;omega)|(simp [c0])
  have uD:(p.kind=3)=False:=eq_false (by omega)
  have uF:(p.kind != 3)=true:=by first|(simp;omega)|(simp [c0])
  have hE:jS p=1:=by unfold jS;rw [if_neg c0]
  rw [hE,if_neg (by decide)]
  rw [dM oU rfl rfl];simp only [sJ,aK,Nat.reduceBEq,Nat.reduceLeDiff,Nat.reduceAdd,List.length_cons,List.length_nil]
  simp only [uz,uD,uF,d1,d2,d3,s1,s2,aN,Nat.reduceMul,Nat.reduceBEq,Nat.reduceLT,Nat.reduceLeDiff,reduceCtorEq,Nat.reduceEqDiff,Nat.reduceAdd,Nat.beq]
 have uz:(p.kind==3)=true:=by first|(simp;omega)|(simp [c0])
 have uD:(p.kind=3)=True:=eq_true (by omega)
 have uF:(p.kind != 3)=false:=by first|(simp;omega)|(simp [c0])
 by_cases c1:je p.pF=true
 rotate_left
 ·have uV:je p.pF=false:=by simpa using c1
  have hE:jS p=2:=by unfold jS;rw [if_pos c0,if_neg c1]
  rw [hE,if_neg (by decide)]
  rw [dM oU rfl rfl];simp only [sJ,aK,Nat.reduceBEq,Nat.reduceLeDiff,Nat.reduceAdd,List.length_cons,List.length_nil]
  simp only [uz,uD,uF,uV,d1,d2,d3,s1,s2,aN,Nat.reduceMul,Nat.reduceBEq,Nat.reduceLT,Nat.reduceLeDiff,reduceCtorEq,Nat.reduceEqDiff,Nat.reduceAdd,Nat.beq]
 have uV:je p.pF=true:=c1
 by_cases c2:je p.to=true
 rotate_left
 ·have wC:je p.to=false:=by simpa using c2
  have hE:jS p=2:=by unfold jS;rw [if_pos c0,if_pos c1,if_neg c2]
  rw [hE,if_neg (by decide)]
  rw [dM oU rfl rfl];simp only [sJ,aK,Nat.reduceBEq,Nat.reduceLeDiff,Nat.reduceAdd,List.length_cons,List.length_nil]
  simp only [uz,uD,uF,uV,wC,d1,d2,d3,s1,s2,aN,Nat.reduceMul,Nat.reduceBEq,Nat.reduceLT,Nat.reduceLeDiff,reduceCtorEq,Nat.reduceEqDiff,Nat.reduceAdd,Nat.beq]
 have wC:je p.to=true:=c2
 by_cases c3:p.pF≠p.to
 rotate_left
 ·have xJ:(p.pF != p.to)=false:=by first|(simp;omega)|(simp [c3])
  have xK:(p.pF=p.to)=True:=eq_true (by omega)
  have xM:(p.pF==p.to)=true:=by first|(simp;omega)|(simp [c3])
  have hE:jS p=2:=by unfold jS;rw [if_pos c0,if_pos c1,if_pos c2,if_neg c3]
  rw [hE,if_neg (by decide)]
  rw [dM oU rfl rfl];simp only [sJ,aK,Nat.reduceBEq,Nat.reduceLeDiff,Nat.reduceAdd,List.length_cons,List.length_nil]
  simp only [uz,uD,uF,uV,wC,xJ,xK,xM,d1,d2,d3,s1,s2,aN,Nat.reduceMul,Nat.reduceBEq,Nat.reduceLT,Nat.reduceLeDiff,reduceCtorEq,Nat.reduceEqDiff,Nat.reduceAdd,Nat.beq]
 have xJ:(p.pF != p.to)=true:=by first|(simp;omega)|(simp [c3])
 have xK:(p.pF=p.to)=False:=eq_false (by omega)
 have xM:(p.pF==p.to)=false:=by first|(simp;omega)|(simp [c3])
 by_cases c4:0≤p.step
 rotate_left
 ·have yR:(p.step ≥ 0)=False:=eq_false (by omega)
  have yS:(0≤p.step)=False:=eq_false (by omega)
  have yT:(p.step<0)=True:=eq_true (by omega)
  have hE:jS p=2:=by unfold jS;rw [if_pos c0,if_pos c1,if_pos c2,if_pos c3,if_neg c4]
  rw [hE,if_neg (by decide)]
  rw [dM oU rfl rfl];simp only [sJ,aK,Nat.reduceBEq,Nat.reduceLeDiff,Nat.reduceAdd,List.length_cons,List.length_nil]
  simp only [uz,uD,uF,uV,wC,xJ,xK,xM,yR,yS,yT,d1,d2,d3,s1,s2,aN,Nat.reduceMul,Nat.reduceBEq,Nat.reduceLT,Nat.reduceLeDiff,reduceCtorEq,Nat.reduceEqDiff,Nat.reduceAdd,Nat.beq]
 have yR:(p.step ≥ 0)=True:=eq_true (by omega)
 have yS:(0≤p.step)=True:=eq_true (by omega)
 have yT:(p.step<0)=False:=eq_false (by omega)
 by_cases c5:p.step≤4096
 rotate_left
 ·have zZ:(p.step≤4096)=False:=eq_false (by omega)
  have Aa:(p.step > 4096)=True:=eq_true (by omega)
  have hE:jS p=2:=by unfold jS;rw [if_pos c0,if_pos c1,if_pos c2,if_pos c3,if_pos c4,if_neg c5]
  rw [hE,if_neg (by decide)]
  rw [dM oU rfl rfl];simp only [sJ,aK,Nat.reduceBEq,Nat.reduceLeDiff,Nat.reduceAdd,List.length_cons,List.length_nil]
  simp only [uz,uD,uF,uV,wC,xJ,xK,xM,yR,yS,yT,zZ,Aa,d1,d2,d3,s1,s2,aN,Nat.reduceMul,Nat.reduceBEq,Nat.reduceLT,Nat.reduceLeDiff,reduceCtorEq,Nat.reduceEqDiff,Nat.reduceAdd,Nat.beq]
 have zZ:(p.step≤4096)=True:=eq_true (by omega)
 have Aa:(p.step > 4096)=False:=eq_false (by omega)
 by_cases c6:1≤p.ep
 rotate_left
 ·have BG:(p.ep ≥ 1)=False:=eq_false (by omega)
  have BH:(1≤p.ep)=False:=eq_false (by omega)
  have BI:(p.ep<1)=True:=eq_true (by omega)
  have hE:jS p=2:=by unfold jS;rw [if_pos c0,if_pos c1,if_pos c2,if_pos c3,if_pos c4,if_pos c5,if_neg c6]
  rw [hE,if_neg (by decide)]
  rw [dM oU rfl rfl];simp only [sJ,aK,Nat.reduceBEq,Nat.reduceLeDiff,Nat.reduceAdd,List.length_cons,List.length_nil]
  simp only [uz,uD,uF,uV,wC,xJ,xK,xM,yR,yS,yT,zZ,Aa,BG,BH,BI,d1,d2,d3,s1,s2,aN,Nat.reduceMul,Nat.reduceBEq,Nat.reduceLT,Nat.reduceLeDiff,reduceCtorEq,Nat.reduceEqDiff,Nat.reduceAdd,Nat.beq]
 have BG:(p.ep ≥ 1)=True:=eq_true (by omega)
 have BH:(1≤p.ep)=True:=eq_true (by omega)
 have BI:(p.ep<1)=False:=eq_false (by omega)
 by_cases c7:p.ep≤1073741824
 rotate_left
 ·have Dx:(p.ep≤1073741824)=False:=eq_false (by omega)
  have Dy:(p.ep > 1073741824)=True:=eq_true (by omega)
  have hE:jS p=2:=by unfold jS;rw [if_pos c0,if_pos c1,if_pos c2,if_pos c3,if_pos c4,if_pos c5,if_pos c6,if_neg c7]
  rw [hE,if_neg (by decide)]
  rw [dM oU rfl rfl];simp only [sJ,aK,Nat.reduceBEq,Nat.reduceLeDiff,Nat.reduceAdd,List.length_cons,List.length_nil]
  simp only [uz,uD,uF,uV,wC,xJ,xK,xM,yR,yS,yT,zZ,Aa,BG,BH,BI,Dx,Dy,d1,d2,d3,s1,s2,aN,Nat.reduceMul,Nat.reduceBEq,Nat.reduceLT,Nat.reduceLeDiff,reduceCtorEq,Nat.reduceEqDiff,Nat.reduceAdd,Nat.beq]
 have Dx:(p.ep≤1073741824)=True:=eq_true (by omega)
 have Dy:(p.ep > 1073741824)=False:=eq_false (by omega)
 by_cases c8:0≤p.oH
 rotate_left
 ·have Gm:(p.oH ≥ 0)=False:=eq_false (by omega)
  have Gn:(0≤p.oH)=False:=eq_false (by omega)
  have Gp:(p.oH<0)=True:=eq_true (by omega)
  have hE:jS p=2:=by unfold jS;rw [if_pos c0,if_pos c1,if_pos c2,if_pos c3,if_pos c4,if_pos c5,if_pos c6,if_pos c7,if_neg c8]
  rw [hE,if_neg (by decide)]
  rw [dM oU rfl rfl];simp only [sJ,aK,Nat.reduceBEq,Nat.reduceLeDiff,Nat.reduceAdd,List.length_cons,List.length_nil]
  simp only [uz,uD,uF,uV,wC,xJ,xK,xM,yR,yS,yT,zZ,Aa,BG,BH,BI,Dx,Dy,Gm,Gn,Gp,d1,d2,d3,s1,s2,aN,Nat.reduceMul,Nat.reduceBEq,Nat.reduceLT,Nat.reduceLeDiff,reduceCtorEq,Nat.reduceEqDiff,Nat.reduceAdd,Nat.beq]
 have Gm:(p.oH ≥ 0)=True:=eq_true (by omega)
 have Gn:(0≤p.oH)=True:=eq_true (by omega)
 have Gp:(p.oH<0)=False:=eq_false (by omega)
 by_cases c9:p.oH≤1073741824
 rotate_left
 ·have Ik:(p.oH≤1073741824)=False:=eq_false (by omega)
  have Il:(p.oH > 1073741824)=True:=eq_true (by omega)
  have hE:jS p=2:=by unfold jS;rw [if_pos c0,if_pos c1,if_pos c2,if_pos c3,if_pos c4,if_pos c5,if_pos c6,if_pos c7,if_pos c8,if_neg c9]
  rw [hE,if_neg (by decide)]
  rw [dM oU rfl rfl];simp only [sJ,aK,Nat.reduceBEq,Nat.reduceLeDiff,Nat.reduceAdd,List.length_cons,List.length_nil]
  simp only [uz,uD,uF,uV,wC,xJ,xK,xM,yR,yS,yT,zZ,Aa,BG,BH,BI,Dx,Dy,Gm,Gn,Gp,Ik,Il,d1,d2,d3,s1,s2,aN,Nat.reduceMul,Nat.reduceBEq,Nat.reduceLT,Nat.reduceLeDiff,reduceCtorEq,Nat.reduceEqDiff,Nat.reduceAdd,Nat.beq]
 have Ik:(p.oH≤1073741824)=True:=eq_true (by omega)
 have Il:(p.oH > 1073741824)=False:=eq_false (by omega)
 by_cases c10:p.failed=false
 rotate_left
 ·have Ac:p.failed=true:=by simpa using c10
  have hE:jS p=12:=by unfold jS;rw [if_pos c0,if_pos c1,if_pos c2,if_pos c3,if_pos c4,if_pos c5,if_pos c6,if_pos c7,if_pos c8,if_pos c9,if_neg c10]
  rw [hE,if_neg (by decide)]
  rw [dM oU rfl rfl];simp only [sJ,aK,Nat.reduceBEq,Nat.reduceLeDiff,Nat.reduceAdd,List.length_cons,List.length_nil]
  simp only [uz,uD,uF,uV,wC,xJ,xK,xM,yR,yS,yT,zZ,Aa,BG,BH,BI,Dx,Dy,Gm,Gn,Gp,Ik,Il,Ac,d1,d2,d3,s1,s2,aN,Nat.reduceMul,Nat.reduceBEq,Nat.reduceLT,Nat.reduceLeDiff,reduceCtorEq,Nat.reduceEqDiff,Nat.reduceAdd,Nat.beq]
 have Ac:p.failed=false:=c10
 by_cases c11:p.done=true
 rotate_left
 ·have C9:p.done=false:=by simpa using c11
  have hE:jS p=0:=by unfold jS;rw [if_pos c0,if_pos c1,if_pos c2,if_pos c3,if_pos c4,if_pos c5,if_pos c6,if_pos c7,if_pos c8,if_pos c9,if_pos c10,if_neg c11]
  rw [hE,if_pos rfl]
  rw [dM oU rfl rfl];simp only [sJ,aK,Nat.reduceBEq,Nat.reduceLeDiff,Nat.reduceAdd,List.length_cons,List.length_nil]
  simp only [uz,uD,uF,uV,wC,xJ,xK,xM,yR,yS,yT,zZ,Aa,BG,BH,BI,Dx,Dy,Gm,Gn,Gp,Ik,Il,Ac,C9,d1,d2,d3,s1,s2,aN,Nat.reduceMul,Nat.reduceBEq,Nat.reduceLT,Nat.reduceLeDiff,reduceCtorEq,Nat.reduceEqDiff,Nat.reduceAdd,Nat.beq]
 have C9:p.done=true:=c11
 by_cases c12:1≤p.step
 rotate_left
 ·have JG:(p.step ≥ 1)=False:=eq_false (by omega)
  have JH:(1≤p.step)=False:=eq_false (by omega)
  have JI:(p.step<1)=True:=eq_true (by omega)
  have hE:jS p=12:=by unfold jS;rw [if_pos c0,if_pos c1,if_pos c2,if_pos c3,if_pos c4,if_pos c5,if_pos c6,if_pos c7,if_pos c8,if_pos c9,if_pos c10,if_pos c11,if_neg c12]
  rw [hE,if_neg (by decide)]
  rw [dM oU rfl rfl];simp only [sJ,aK,Nat.reduceBEq,Nat.reduceLeDiff,Nat.reduceAdd,List.length_cons,List.length_nil]
  simp only [uz,uD,uF,uV,wC,xJ,xK,xM,yR,yS,yT,zZ,Aa,BG,BH,BI,Dx,Dy,Gm,Gn,Gp,Ik,Il,Ac,C9,JG,JH,JI,d1,d2,d3,s1,s2,aN,Nat.reduceMul,Nat.reduceBEq,Nat.reduceLT,Nat.reduceLeDiff,reduceCtorEq,Nat.reduceEqDiff,Nat.reduceAdd,Nat.beq]
 have JG:(p.step ≥ 1)=True:=eq_true (by omega)
 have JH:(1≤p.step)=True:=eq_true (by omega)
 have JI:(p.step<1)=False:=eq_false (by omega)
 have hE:jS p=0:=by unfold jS;rw [if_pos c0,if_pos c1,if_pos c2,if_pos c3,if_pos c4,if_pos c5,if_pos c6,if_pos c7,if_pos c8,if_pos c9,if_pos c10,if_pos c11,if_pos c12]
 rw [hE,if_pos rfl]
 rw [dM oU rfl rfl];simp only [sJ,aK,Nat.reduceBEq,Nat.reduceLeDiff,Nat.reduceAdd,List.length_cons,List.length_nil]
 simp only [uz,uD,uF,uV,wC,xJ,xK,xM,yR,yS,yT,zZ,Aa,BG,BH,BI,Dx,Dy,Gm,Gn,Gp,Ik,Il,Ac,C9,JG,JH,JI,d1,d2,d3,s1,s2,aN,Nat.reduceMul,Nat.reduceBEq,Nat.reduceLT,Nat.reduceLeDiff,reduceCtorEq,Nat.reduceEqDiff,Nat.reduceAdd,Nat.beq]
theorem ahb {p:Au} (h:jS p=0):cal env 48 [Ij p]=some []:=by
 have d1:=yQ
 have d2:=Gl
 have d3:=BF
 have s1:=JF (n:=p.pF)
 have s2:=JF (n:=p.to)
 rw [dw]
 by_cases c0:p.kind=3
 rotate_left
 ·have uz:(p.kind==3)=false:=by first|(simp;omega)|(simp [c0])
  have uD:(p.kind=3)=False:=eq_false (by omega)
  have uF:(p.kind != 3)=true:=by first|(simp;omega)|(simp [c0])
  have hE:jS p=1:=by unfold jS;rw [if_neg c0]
  rw [hE] at h;exact absurd h (by decide)
 have uz:(p.kind==3)=true:=by first|(simp;omega)|(simp [c0])
 have uD:(p.kind=3)=True:=eq_true (by omega)
 have uF:(p.kind != 3)=false:=by first|(simp;omega)|(simp [c0])
 by_cases c1:je p.pF=true
 rotate_left
 ·have uV:je p.pF=false:=by simpa using c1
  have hE:jS p=2:=by unfold jS;rw [if_pos c0,if_neg c1]
  rw [hE] at h;exact absurd h (by decide)
 have uV:je p.pF=true:=c1
 by_cases c2:je p.to=true
 rotate_left
 ·have wC:je p.to=false:=by simpa using c2
  have hE:jS p=2:=by unfold jS;rw [if_pos c0,if_pos c1,if_neg c2]
  rw [hE] at h;exact absurd h (by decide)
 have wC:je p.to=true:=c2
 by_cases c3:p.pF≠p.to
 rotate_left
 ·have xJ:(p.pF != p.to)=false:=by first|(simp;omega)|(simp [c3])
  have xK:(p.pF=p.to)=True:=eq_true (by omega)
  have xM:(p.pF==p.to)=true:=by first|(simp;omega)|(simp [c3])
  have hE:jS p=2:=by unfold jS;rw [if_pos c0,if_pos c1,if_pos c2,if_neg c3]
  rw [hE] at h;exact absurd h (by decide)
 have xJ:(p.pF != p.to)=true:=by first|(simp;omega)|(simp [c3])
 have xK:(p.pF=p.to)=False:=eq_false (by omega)
 have xM:(p.pF==p.to)=false:=by first|(simp;omega)|(simp [c3])
 by_cases c4:0≤p.step
 rotate_left
 ·have yR:(p.step ≥ 0)=False:=eq_false (by omega)
  have yS:(0≤p.step)=False:=eq_false (by omega)
  have yT:(p.step<0)=True:=eq_true (by omega)
  have hE:jS p=2:=by unfold jS;rw [if_pos c0,if_pos c1,if_pos c2,if_pos c3,if_neg c4]
  rw [hE] at h;exact absurd h (by decide)
 have yR:(p.step ≥ 0)=True:=eq_true (by omega)
 have yS:(0≤p.step)=True:=eq_true (by omega)
 have yT:(p.step<0)=False:=eq_false (by omega)
 by_cases c5:p.step≤4096
 rotate_left
 ·have zZ:(p.step≤4096)=False:=eq_false (by omega)
  have Aa:(p.step > 4096)=True:=eq_true (by omega)
  have hE:jS p=2:=by unfold jS;rw [if_pos c0,if_pos c1,if_pos c2,if_pos c3,if_pos c4,if_neg c5]
  rw [hE] at h;exact absurd h (by decide)
 have zZ:(p.step≤4096)=True:=eq_true (by omega)
 have Aa:(p.step > 4096)=False:=eq_false (by omega)
 by_cases c6:1≤p.ep
 rotate_left
 ·have BG:(p.ep ≥ 1)=False:=eq_false (by omega)
  have BH:(1≤p.ep)=False:=eq_false (by omega)
  have BI:(p.ep<1)=True:=eq_true (by omega)
  have hE:jS p=2:=by unfold jS;rw [if_pos c0,if_pos c1,if_pos c2,if_pos c3,if_pos c4,if_pos c5,if_neg c6]
  rw [hE] at h;exact absurd h (by decide)
 have BG:(p.ep ≥ 1)=True:=eq_true (by omega)
 have BH:(1≤p.ep)=True:=eq_true (by omega)
 have BI:(p.ep<1)=False:=eq_false (by omega)
 by_cases c7:p.ep≤1073741824
 rotate_left
 ·have Dx:(p.ep≤1073741824)=False:=eq_false (by omega)
  have Dy:(p.ep > 1073741824)=True:=eq_true (by omega)
  have hE:jS p=2:=by unfold jS;rw [if_pos c0,if_pos c1,if_pos c2,if_pos c3,if_pos c4,if_pos c5,if_pos c6,if_neg c7]
  rw [hE] at h;exact absurd h (by decide)
 have Dx:(p.ep≤1073741824)=True:=eq_true (by omega)
 have Dy:(p.ep > 1073741824)=False:=eq_false (by omega)
 by_cases c8:0≤p.oH
 rotate_left
 ·have Gm:(p.oH ≥ 0)=False:=eq_false (by omega)
  have Gn:(0≤p.oH)=False:=eq_false (by omega)
  have Gp:(p.oH<0)=True:=eq_true (by omega)
  have hE:jS p=2:=by unfold jS;rw [if_pos c0,if_pos c1,if_pos c2,if_pos c3,if_pos c4,if_pos c5,if_pos c6,if_pos c7,if_neg c8]
  rw [hE] at h;exact absurd h (by decide)
 have Gm:(p.oH ≥ 0)=True:=eq_true (by omega)
 have Gn:(0≤p.oH)=True:=eq_true (by omega)
 have Gp:(p.oH<0)=False:=eq_false (by omega)
 by_cases c9:p.oH≤1073741824
 rotate_left
 ·have Ik:(p.oH≤1073741824)=False:=eq_false (by omega)
  have Il:(p.oH > 1073741824)=True:=eq_true (by omega)
  have hE:jS p=2:=by unfold jS;rw [if_pos c0,if_pos c1,if_pos c2,if_pos c3,if_pos c4,if_pos c5,if_pos c6,if_pos c7,if_pos c8,if_neg c9]
  rw [hE] at h;exact absurd h (by decide)
 have Ik:(p.oH≤1073741824)=True:=eq_true (by omega)
 have Il:(p.oH > 1073741824)=False:=eq_false (by omega)
 by_cases c10:p.failed=false
 rotate_left
 ·have Ac:p.failed=true:=by simpa using c10
  have hE:jS p=12:=by unfold jS;rw [if_pos c0,if_pos c1,if_pos c2,if_pos c3,if_pos c4,if_pos c5,if_pos c6,if_pos c7,if_pos c8,if_pos c9,if_neg c10]
  rw [hE] at h;exact absurd h (by decide)
 have Ac:p.failed=false:=c10
 by_cases c11:p.done=true
 rotate_left
 ·have C9:p.done=false:=by simpa using c11
  have hE:jS p=0:=by unfold jS;rw [if_pos c0,if_pos c1,if_pos c2,if_pos c3,if_pos c4,if_pos c5,if_pos c6,if_pos c7,if_pos c8,if_pos c9,if_pos c10,if_neg c11]
  rw [ah oU rfl];simp only [sJ,aK,Nat.reduceBEq,Nat.reduceLeDiff,Nat.reduceAdd,List.length_cons,List.length_nil]
  simp only [uz,uD,uF,uV,wC,xJ,xK,xM,yR,yS,yT,zZ,Aa,BG,BH,BI,Dx,Dy,Gm,Gn,Gp,Ik,Il,Ac,C9,d1,d2,d3,s1,s2,aN,Nat.reduceMul,Nat.reduceBEq,Nat.reduceLT,Nat.reduceLeDiff,reduceCtorEq,Nat.reduceEqDiff,Nat.reduceAdd,Nat.beq]
 have C9:p.done=true:=c11
 by_cases c12:1≤p.step
 rotate_left
 ·have JG:(p.step ≥ 1)=False:=eq_false (by omega)
  have JH:(1≤p.step)=False:=eq_false (by omega)
  have JI:(p.step<1)=True:=eq_true (by omega)
  have hE:jS p=12:=by unfold jS;rw [if_pos c0,if_pos c1,if_pos c2,if_pos c3,if_pos c4,if_pos c5,if_pos c6,if_pos c7,if_pos c8,if_pos c9,if_pos c10,if_pos c11,if_neg c12]
  rw [hE] at h;exact absurd h (by decide)
 have JG:(p.step ≥ 1)=True:=eq_true (by omega)
 have JH:(1≤p.step)=True:=eq_true (by omega)
 have JI:(p.step<1)=False:=eq_false (by omega)
 have hE:jS p=0:=by unfold jS;rw [if_pos c0,if_pos c1,if_pos c2,if_pos c3,if_pos c4,if_pos c5,if_pos c6,if_pos c7,if_pos c8,if_pos c9,if_pos c10,if_pos c11,if_pos c12]
 rw [ah oU rfl];simp only [sJ,aK,Nat.reduceBEq,Nat.reduceLeDiff,Nat.reduceAdd,List.length_cons,List.length_nil]
 simp only [uz,uD,uF,uV,wC,xJ,xK,xM,yR,yS,yT,zZ,Aa,BG,BH,BI,Dx,Dy,Gm,Gn,Gp,Ik,Il,Ac,C9,JG,JH,JI,d1,d2,d3,s1,s2,aN,Nat.reduceMul,Nat.reduceBEq,Nat.reduceLT,Nat.reduceLeDiff,reduceCtorEq,Nat.reduceEqDiff,Nat.reduceAdd,Nat.beq]
end Go.Proofs.YtioijcfcehhmdaaGreatDoor.V

namespace Go.Proofs.YtioijcfcehhmdaaGreatDoor.V
end Go.Proofs.YtioijcfcehhmdaaGreatDoor.V

namespace Go.Proofs.YtioijcfcehhmdaaGreatDoor.V
--+
theorem acH {l:List xI} (hl:l.length≤lim):cal env 52 [.list 3 (l.map lg)]=some [(.int .i64 (jD l).epoch,false),(.int .i64 (jD l).to,false)]:=by
 by_cases h0:l.length=0
 ·obtain rfl:=List.eq_nil_of_length_eq_zero h0
  have F1:(((0:Nat):Int)==0)=true:=rfl
  rw [ah agX rfl];simp only [X9,aK,Nat.reduceBEq,Nat.reduceLeDiff,Nat.reduceAdd,List.length_cons,List.length_nil]
  simp only [F1,List.length_nil,List.map_nil,aN,Nat.reduceMul,Nat.reduceBEq,Nat.reduceLT,Nat.reduceLeDiff,reduceCtorEq,Nat.reduceEqDiff,Nat.reduceAdd,Nat.beq]
  rfl
 ·obtain ⟨k,hk⟩:∃ k,l.length=k+1:=⟨l.length - 1,by omega⟩
  have hkl:k<l.length:=by omega
  have hx:l[k]?=some l[k]:=List.getElem?_eq_getElem hkl
  have he:jD l=l[k]:=by rw [jD,hk,vV hkl]
  have hl':=hl
  unfold lim at hl'
  have F1:((l.length:Int)==0)=false:=by simpa using h0
  have F2:IntKind.i64.wrap ((l.length:Int) - 1)=(k:Int):=by rw [bZ (by omega)];omega
  have P0:∀ a b c:PV,part [a,b,c] 0 (some 3)=some (.agg [a,b,c]):=fun _ _ _=>rfl
  rw [he]
  generalize l[k]=x at *
  obtain ⟨xe,xf,xt⟩:=x
  rw [ah agX rfl];simp only [X9,aK,Nat.reduceBEq,Nat.reduceLeDiff,Nat.reduceAdd,List.length_cons,List.length_nil]
  simp only [F1,F2,hx,lg,ay hkl,List.getElem?_map,Option.map_some,P0,List.length_map,aN,Nat.reduceMul,Nat.reduceBEq,Nat.reduceLT,Nat.reduceLeDiff,reduceCtorEq,Nat.reduceEqDiff,Nat.reduceAdd,Nat.beq]
--+
end Go.Proofs.YtioijcfcehhmdaaGreatDoor.V

namespace Go.Proofs.YtioijcfcehhmdaaGreatDoor.V
def Io (p:Au):List BV:=[.pv (.int .i64 p.kind),.pv (.int .i64 p.pF),.pv (.int .i64 p.to),.pv (.int .i64 p.step),.pv (.int .i64 p.ep),.pv (.int .i64 p.oH),.pv (.bool p.done),.pv (.bool p.failed)]
theorem bH (p:Au):Io p=[.pv (.int .i64 p.kind),.pv (.int .i64 p.pF),.pv (.int .i64 p.to),.pv (.int .i64 p.step),.pv (.int .i64 p.ep),.pv (.int .i64 p.oH),.pv (.bool p.done),.pv (.bool p.failed)]:=rfl
def fH:Au:=⟨0,0,0,0,0,0,false,false⟩
def qA (p:Au) (a b:Pt):Int :=
 if jS p=0 then (if qy [a,b]=0 then (if a.site=p.to then (if b.site=p.pF then (if p.done=false then (if 0<p.step then (if a.img=b.img then 0 else 22) else 12) else 12) else 1) else 1) else qy [a,b]) else jS p
def rV (p:Au) (a b:Pt):Au:=if qA p a b=0 then { p with done:=true } else fH
theorem acI {p:Au} (h:jS p=0):0≤p.step:=by
 unfold jS at h
 by_cases c:0≤p.step
 ·exact c
 ·rw [if_neg c] at h
  exfalso
  split at h
  ·split at h
   ·split at h
    ·split at h
     ·exact absurd h (by decide)
     ·exact absurd h (by decide)
    ·exact absurd h (by decide)
   ·exact absurd h (by decide)
  ·exact absurd h (by decide)
def Md (p:Au) (a b:Pt):List Box:=[⟨false,Io p⟩,⟨false,wu a⟩,⟨false,wu b⟩,⟨false,Io fH⟩,⟨false,[.pv (.int .i64 0)]⟩,⟨false,Io p⟩]
def Gq (x:Ex) (p:Au) (a b:Pt):Option (Ex × St):=some (x,⟨sl 64 [(4,.aV 1 0),(5,.aV 2 0),(6,.aV 3 0),(7,.aV 4 0),(8,.aV 5 0)],Md p a b,[],none⟩)
def Qy (e:Int):Ex:=if e=0 then .normal else .ng 148 e
theorem ai7 {p:Au} {a b:Pt} {l:List Pt} (hlab:l=[a,b]) (hl:l.length≤lim) (hf:∀ x∈l,BD x) {st:St} (h:st.head [4,5,6,7,8,18,19,20] st.boxes.length=some ⟨sl 64 [(4,.aV 1 0),(5,.aV 2 0),(6,.aV 3 0),(7,.aV 4 0),(8,.aV 5 0),(18,.row 4 (l.map CZ)),(19,.pv (.int .i64 l.length)),(20,.pv (.int .i64 (0:Nat)))],[⟨false,Io p⟩,⟨false,wu a⟩,⟨false,wu b⟩,⟨false,Io fH⟩,⟨false,[.pv (.int .i64 0)]⟩,⟨false,Io p⟩],[],none⟩) :
  den env La st=Gq (Qy (qy (l.drop ((0:Nat))))) p a b:=by
 unfold La
 refine dG (env:=env) (nb:=6) (l.length) (fun i=>⟨sl 64 [(4,.aV 1 0),(5,.aV 2 0),(6,.aV 3 0),(7,.aV 4 0),(8,.aV 5 0),(18,.row 4 (l.map CZ)),(19,.pv (.int .i64 l.length)),(20,.pv (.int .i64 i))],[⟨false,Io p⟩,⟨false,wu a⟩,⟨false,wu b⟩,⟨false,Io fH⟩,⟨false,[.pv (.int .i64 0)]⟩,⟨false,Io p⟩],[],none⟩) (fun i=>Gq (Qy (qy (l.drop (i)))) p a b) h (fun _=>rfl) (fun _=>by simp only [aK,dB,Nat.reduceMul,Nat.reduceBEq,Nat.reduceLT,Nat.reduceLeDiff,Nat.reduceAdd,decide_true,Bool.and_self,Bool.true_and]) ?_ ?_
 ·intro i rb hi ih
  have hi1:=cZ hi hl
  have F1:((i:Int)<(l.length:Int))=True:=eq_true (by omega)
  have hx:(l.map CZ)[i]?=some (CZ l[i]):=by rw [List.getElem?_map,List.getElem?_eq_getElem hi];rfl
  have P4:∀ a b c d:PV,part [a,b,c,d] 0 (some 4)=some (.agg [a,b,c,d]):=fun _ _ _ _=>rfl
  have e1:=acv (p:=l[i]) (hf _ (List.getElem_mem hi))
  rw [JE hi]
  rw [fC] at hx e1
  try unfold Md
  by_cases c:iJ l[i]=0
  ·rw [if_pos c]
   rw [c] at e1
   have k1:=acF
   have k2:=acG
   simp only [DT,F1,hx,P4,e1,k1,k2,aY,bH,ay hi,List.length_map,aN,Nat.reduceMul,Nat.reduceBEq,Nat.reduceLT,Nat.reduceLeDiff,reduceCtorEq,Nat.reduceEqDiff,Nat.reduceAdd,Nat.beq]
   rw [ih _ (by simp only [hi1,Md,aY,bH,aN,Nat.reduceMul,Nat.reduceBEq,Nat.reduceLT,Nat.reduceLeDiff,reduceCtorEq,Nat.reduceEqDiff,Nat.reduceAdd,Nat.beq]<;>rfl)]
  ·rw [if_neg c]
   have k1:=VE c
   unfold Gq Qy
   rw [if_neg c]
   simp only [DT,F1,hx,P4,e1,k1,aY,bH,Md,ay hi,List.length_map,aN,Nat.reduceMul,Nat.reduceBEq,Nat.reduceLT,Nat.reduceLeDiff,reduceCtorEq,Nat.reduceEqDiff,Nat.reduceAdd,Nat.beq]
 ·intro rb
  rw [List.drop_length]
  unfold Gq Qy qy
  rw [if_pos rfl]
  simp only [DT,Int.lt_irrefl,aY,bH,Md,aN,Nat.reduceMul,Nat.reduceBEq,Nat.reduceLT,Nat.reduceLeDiff,reduceCtorEq,Nat.reduceEqDiff,Nat.reduceAdd,Nat.beq]
theorem alm {p:Au} {a b:Pt} (ha:BD a) (hb:BD b) (hv:∀ v∈a.img,v.length≤lim):cal env 15 [Ij p,CZ a,CZ b]=some [(Ij (rV p a b),false),(.int .i64 (qA p a b),false)]:=by
 have d1:=alk (p:=p)
 rw [dw] at d1
 have hloop:=fun st h=>ai7 (st:=st) (p:=p) (a:=a) (b:=b) (l:=[a,b]) rfl (by show 2≤lim;unfold lim;omega) (fun x hx=>by
  rcases List.mem_cons.1 hx with rfl|hx
  ·exact ha
  ·rw [List.mem_singleton.1 hx];exact hb) h
 simp only [List.drop_zero] at hloop
 have e1:=alc (a:=a.img) (b:=b.img) ha.2.2 hv
 have q1:=yQ
 have q2:=Gl
 have q3:=BF
 rw [dw,fC,fC,KR akK rfl]
 by_cases c0:jS p=0
 rotate_left
 ·rw [if_neg c0] at d1
  have Z:(jS p=0)=False:=eq_false c0
  have hE:qA p a b=jS p:=by unfold qA;rw [if_neg c0]
  have hO:rV p a b=fH:=by unfold rV;rw [hE,if_neg c0]
  rw [hE,hO,dw]
  simp only [Du,aK,Nat.reduceBEq,Nat.reduceLeDiff,Nat.reduceAdd,List.length_cons,List.length_nil]
  simp only [d1,Z,q1,q2,q3,fH,aY,bH,aQ,nC.begun,fG,varOf,dS,dP,fF,jd,St.setVar,St.bK,St.eG,PV.gu,List.all_cons,List.all_nil,List.head?_cons,List.tail_cons,and_true,true_and,List.nodup_cons,List.mem_cons,List.not_mem_nil,or_false,not_false_eq_true,List.nodup_nil,Option.some.injEq,Nat.reduceEqDiff,Int.reduceEq,if_true,if_false,aN,Nat.reduceMul,Nat.reduceBEq,Nat.reduceLT,Nat.reduceLeDiff,reduceCtorEq,Nat.reduceAdd,Nat.beq]
 rw [if_pos c0] at d1
 have d2:=ahb (p:=p) c0
 rw [dw] at d2
 by_cases c1:qy [a,b]=0
 rotate_left
 ·have T:Qy (qy [a,b])=.ng 148 (qy [a,b]):=by unfold Qy;rw [if_neg c1]
  have Z:(qy [a,b]=0)=False:=eq_false c1
  have hE:qA p a b=qy [a,b]:=by unfold qA;rw [if_pos c0,if_neg c1]
  have hO:rV p a b=fH:=by unfold rV;rw [hE,if_neg c1]
  rw [hE,hO,dw]
  simp only [Du,aK,Nat.reduceBEq,Nat.reduceLeDiff,Nat.reduceAdd,List.length_cons,List.length_nil]
  simp only [d1,d2,aY,bH,aQ,nC.begun,aN,Nat.reduceMul,Nat.reduceBEq,Nat.reduceLT,Nat.reduceLeDiff,reduceCtorEq,Nat.reduceEqDiff,Nat.reduceAdd,Nat.beq]
  rw [hloop _ (by simp only [Md,fH,aY,bH,List.length_cons,List.length_nil,List.map_cons,List.map_nil,fC];simp only [aK,dB,Nat.reduceMul,Nat.reduceBEq,Nat.reduceLT,Nat.reduceLeDiff,Nat.reduceAdd,decide_true,Bool.and_self,Bool.true_and]<;>rfl)]
  simp only [Gq,Md,d1,d2,T,Z,q1,q2,q3,fH,aY,bH,aQ,nC.begun,fG,varOf,dS,dP,fF,jd,St.setVar,St.bK,St.eG,PV.gu,List.all_cons,List.all_nil,List.head?_cons,List.tail_cons,and_true,true_and,List.nodup_cons,List.mem_cons,List.not_mem_nil,or_false,not_false_eq_true,List.nodup_nil,Option.some.injEq,Nat.reduceEqDiff,Int.reduceEq,if_true,if_false,aN,Nat.reduceMul,Nat.reduceBEq,Nat.reduceLT,Nat.reduceLeDiff,reduceCtorEq,Nat.reduceAdd,Nat.beq]
 have T:Qy (qy [a,b])=.normal:=by unfold Qy;rw [if_pos c1]
 by_cases c2:a.site=p.to
 rotate_left
 ·have F2:(a.site==p.to)=false:=by simp [c2]
  have hE:qA p a b=1:=by unfold qA;rw [if_pos c0,if_pos c1,if_neg c2]
  have hO:rV p a b=fH:=by unfold rV;rw [hE,if_neg (by decide)]
  rw [hE,hO,dw]
  simp only [Du,aK,Nat.reduceBEq,Nat.reduceLeDiff,Nat.reduceAdd,List.length_cons,List.length_nil]
  simp only [d1,d2,aY,bH,aQ,nC.begun,aN,Nat.reduceMul,Nat.reduceBEq,Nat.reduceLT,Nat.reduceLeDiff,reduceCtorEq,Nat.reduceEqDiff,Nat.reduceAdd,Nat.beq]
  rw [hloop _ (by simp only [Md,fH,aY,bH,List.length_cons,List.length_nil,List.map_cons,List.map_nil,fC];simp only [aK,dB,Nat.reduceMul,Nat.reduceBEq,Nat.reduceLT,Nat.reduceLeDiff,Nat.reduceAdd,decide_true,Bool.and_self,Bool.true_and]<;>rfl)]
  simp only [Gq,Md,d1,d2,T,F2,q1,q2,q3,fH,aY,bH,aQ,nC.begun,fG,varOf,dS,dP,fF,jd,St.setVar,St.bK,St.eG,PV.gu,List.all_cons,List.all_nil,List.head?_cons,List.tail_cons,and_true,true_and,List.nodup_cons,List.mem_cons,List.not_mem_nil,or_false,not_false_eq_true,List.nodup_nil,Option.some.injEq,Nat.reduceEqDiff,Int.reduceEq,if_true,if_false,aN,Nat.reduceMul,Nat.reduceBEq,Nat.reduceLT,Nat.reduceLeDiff,reduceCtorEq,Nat.reduceAdd,Nat.beq]
 have F2:(a.site==p.to)=true:=by simp [c2]
 by_cases c3:b.site=p.pF
 rotate_left
 ·have F3:(b.site==p.pF)=false:=by simp [c3]
  have hE:qA p a b=1:=by unfold qA;rw [if_pos c0,if_pos c1,if_pos c2,if_neg c3]
  have hO:rV p a b=fH:=by unfold rV;rw [hE,if_neg (by decide)]
  rw [hE,hO,dw]
  simp only [Du,aK,Nat.reduceBEq,Nat.reduceLeDiff,Nat.reduceAdd,List.length_cons,List.length_nil]
  simp only [d1,d2,aY,bH,aQ,nC.begun,aN,Nat.reduceMul,Nat.reduceBEq,Nat.reduceLT,Nat.reduceLeDiff,reduceCtorEq,Nat.reduceEqDiff,Nat.reduceAdd,Nat.beq]
  rw [hloop _ (by simp only [Md,fH,aY,bH,List.length_cons,List.length_nil,List.map_cons,List.map_nil,fC];simp only [aK,dB,Nat.reduceMul,Nat.reduceBEq,Nat.reduceLT,Nat.reduceLeDiff,Nat.reduceAdd,decide_true,Bool.and_self,Bool.true_and]<;>rfl)]
  simp only [Gq,Md,d1,d2,T,F2,F3,q1,q2,q3,fH,aY,bH,aQ,nC.begun,fG,varOf,dS,dP,fF,jd,St.setVar,St.bK,St.eG,PV.gu,List.all_cons,List.all_nil,List.head?_cons,List.tail_cons,and_true,true_and,List.nodup_cons,List.mem_cons,List.not_mem_nil,or_false,not_false_eq_true,List.nodup_nil,Option.some.injEq,Nat.reduceEqDiff,Int.reduceEq,if_true,if_false,aN,Nat.reduceMul,Nat.reduceBEq,Nat.reduceLT,Nat.reduceLeDiff,reduceCtorEq,Nat.reduceAdd,Nat.beq]
 have F3:(b.site==p.pF)=true:=by simp [c3]
 by_cases c4:p.done=false
 rotate_left
 ·have F4:p.done=true:=by simpa using c4
  have hE:qA p a b=12:=by unfold qA;rw [if_pos c0,if_pos c1,if_pos c2,if_pos c3,if_neg c4]
  have hO:rV p a b=fH:=by unfold rV;rw [hE,if_neg (by decide)]
  rw [hE,hO,dw]
  simp only [Du,aK,Nat.reduceBEq,Nat.reduceLeDiff,Nat.reduceAdd,List.length_cons,List.length_nil]
  simp only [d1,d2,aY,bH,aQ,nC.begun,aN,Nat.reduceMul,Nat.reduceBEq,Nat.reduceLT,Nat.reduceLeDiff,reduceCtorEq,Nat.reduceEqDiff,Nat.reduceAdd,Nat.beq]
  rw [hloop _ (by simp only [Md,fH,aY,bH,List.length_cons,List.length_nil,List.map_cons,List.map_nil,fC];simp only [aK,dB,Nat.reduceMul,Nat.reduceBEq,Nat.reduceLT,Nat.reduceLeDiff,Nat.reduceAdd,decide_true,Bool.and_self,Bool.true_and]<;>rfl)]
  simp only [Gq,Md,d1,d2,T,F2,F3,F4,q1,q2,q3,fH,aY,bH,aQ,nC.begun,fG,varOf,dS,dP,fF,jd,St.setVar,St.bK,St.eG,PV.gu,List.all_cons,List.all_nil,List.head?_cons,List.tail_cons,and_true,true_and,List.nodup_cons,List.mem_cons,List.not_mem_nil,or_false,not_false_eq_true,List.nodup_nil,Option.some.injEq,Nat.reduceEqDiff,Int.reduceEq,if_true,if_false,aN,Nat.reduceMul,Nat.reduceBEq,Nat.reduceLT,Nat.reduceLeDiff,reduceCtorEq,Nat.reduceAdd,Nat.beq]
 have F4:p.done=false:=by simpa using c4
 by_cases c5:0<p.step
 rotate_left
 ·have F5:(p.step > 0)=False:=eq_false c5
  have hE:qA p a b=12:=by unfold qA;rw [if_pos c0,if_pos c1,if_pos c2,if_pos c3,if_pos c4,if_neg c5]
  have hO:rV p a b=fH:=by unfold rV;rw [hE,if_neg (by decide)]
  rw [hE,hO,dw]
  simp only [Du,aK,Nat.reduceBEq,Nat.reduceLeDiff,Nat.reduceAdd,List.length_cons,List.length_nil]
  simp only [d1,d2,aY,bH,aQ,nC.begun,aN,Nat.reduceMul,Nat.reduceBEq,Nat.reduceLT,Nat.reduceLeDiff,reduceCtorEq,Nat.reduceEqDiff,Nat.reduceAdd,Nat.beq]
  rw [hloop _ (by simp only [Md,fH,aY,bH,List.length_cons,List.length_nil,List.map_cons,List.map_nil,fC];simp only [aK,dB,Nat.reduceMul,Nat.reduceBEq,Nat.reduceLT,Nat.reduceLeDiff,Nat.reduceAdd,decide_true,Bool.and_self,Bool.true_and]<;>rfl)]
  simp only [Gq,Md,d1,d2,T,F2,F3,F4,F5,q1,q2,q3,fH,aY,bH,aQ,nC.begun,fG,varOf,dS,dP,fF,jd,St.setVar,St.bK,St.eG,PV.gu,List.all_cons,List.all_nil,List.head?_cons,List.tail_cons,and_true,true_and,List.nodup_cons,List.mem_cons,List.not_mem_nil,or_false,not_false_eq_true,List.nodup_nil,Option.some.injEq,Nat.reduceEqDiff,Int.reduceEq,if_true,if_false,aN,Nat.reduceMul,Nat.reduceBEq,Nat.reduceLT,Nat.reduceLeDiff,reduceCtorEq,Nat.reduceAdd,Nat.beq]
 have F5:(p.step > 0)=True:=eq_true c5
 by_cases c6:a.img=b.img
 rotate_left
 ·rw [decide_eq_false c6] at e1
  have hE:qA p a b=22:=by unfold qA;rw [if_pos c0,if_pos c1,if_pos c2,if_pos c3,if_pos c4,if_pos c5,if_neg c6]
  have hO:rV p a b=fH:=by unfold rV;rw [hE,if_neg (by decide)]
  rw [hE,hO,dw]
  simp only [Du,aK,Nat.reduceBEq,Nat.reduceLeDiff,Nat.reduceAdd,List.length_cons,List.length_nil]
  simp only [d1,d2,aY,bH,aQ,nC.begun,aN,Nat.reduceMul,Nat.reduceBEq,Nat.reduceLT,Nat.reduceLeDiff,reduceCtorEq,Nat.reduceEqDiff,Nat.reduceAdd,Nat.beq]
  rw [hloop _ (by simp only [Md,fH,aY,bH,List.length_cons,List.length_nil,List.map_cons,List.map_nil,fC];simp only [aK,dB,Nat.reduceMul,Nat.reduceBEq,Nat.reduceLT,Nat.reduceLeDiff,Nat.reduceAdd,decide_true,Bool.and_self,Bool.true_and]<;>rfl)]
  simp only [Gq,Md,d1,d2,T,F2,F3,F4,F5,e1,q1,q2,q3,fH,aY,bH,aQ,nC.begun,fG,varOf,dS,dP,fF,jd,St.setVar,St.bK,St.eG,PV.gu,List.all_cons,List.all_nil,List.head?_cons,List.tail_cons,and_true,true_and,List.nodup_cons,List.mem_cons,List.not_mem_nil,or_false,not_false_eq_true,List.nodup_nil,Option.some.injEq,Nat.reduceEqDiff,Int.reduceEq,if_true,if_false,aN,Nat.reduceMul,Nat.reduceBEq,Nat.reduceLT,Nat.reduceLeDiff,reduceCtorEq,Nat.reduceAdd,Nat.beq]
 rw [decide_eq_true c6] at e1
 have hE:qA p a b=0:=by unfold qA;rw [if_pos c0,if_pos c1,if_pos c2,if_pos c3,if_pos c4,if_pos c5,if_pos c6]
 have hO:rV p a b={ p with done:=true }:=by unfold rV;rw [hE,if_pos rfl]
 rw [hE,hO,dw]
 simp only [Du,aK,Nat.reduceBEq,Nat.reduceLeDiff,Nat.reduceAdd,List.length_cons,List.length_nil]
 simp only [d1,d2,aY,bH,aQ,nC.begun,aN,Nat.reduceMul,Nat.reduceBEq,Nat.reduceLT,Nat.reduceLeDiff,reduceCtorEq,Nat.reduceEqDiff,Nat.reduceAdd,Nat.beq]
 rw [hloop _ (by simp only [Md,fH,aY,bH,List.length_cons,List.length_nil,List.map_cons,List.map_nil,fC];simp only [aK,dB,Nat.reduceMul,Nat.reduceBEq,Nat.reduceLT,Nat.reduceLeDiff,Nat.reduceAdd,decide_true,Bool.and_self,Bool.true_and]<;>rfl)]
 simp only [Gq,Md,d1,d2,T,F2,F3,F4,F5,e1,q1,q2,q3,fH,aY,bH,aQ,nC.begun,fG,varOf,dS,dP,fF,jd,St.setVar,St.bK,St.eG,PV.gu,List.all_cons,List.all_nil,List.head?_cons,List.tail_cons,and_true,true_and,List.nodup_cons,List.mem_cons,List.not_mem_nil,or_false,not_false_eq_true,List.nodup_nil,Option.some.injEq,Nat.reduceEqDiff,Int.reduceEq,if_true,if_false,aN,Nat.reduceMul,Nat.reduceBEq,Nat.reduceLT,Nat.reduceLeDiff,reduceCtorEq,Nat.reduceAdd,Nat.beq]
end Go.Proofs.YtioijcfcehhmdaaGreatDoor.V

namespace Go.Proofs.YtioijcfcehhmdaaGreatDoor.V
theorem Gs {α:Type} {l:List α} {i:Nat} (h:i<l.length):l.take (i+1)=l.take i++[l[i]]:=by rw [List.take_succ_eq_append_getElem h]
def okE (x:eH):Prop:=(-9223372036854775808≤x.start∧x.start≤9223372036854775807)∧(-9223372036854775808≤x.count∧x.count≤9223372036854775807)
def Me (l:List eH):Prop:=∀ x∈l,okE x
def uQ (e:eH):Int:=max e.start 0
def Y8 (e:eH):Int:=if e.start<0∨e.count<4096 - e.start then min (e.start+e.count) 4096 else 4096
def wX (e:eH):Int × Int × Bool:=if e.count≤0 then (0,0,false) else (uQ e,Y8 e,decide (uQ e<Y8 e))
def UG (e:eH) (s:Nat):Bool:=decide (0<e.count)&&(decide (e.start≤(s:Int))&&decide ((s:Int)<e.start+e.count))
theorem MB {e:eH} (h:(wX e).2.2=true):∃ n m:Nat,wX e=((n:Int),(m:Int),true)∧n<m∧m≤4096∧∀ s:Nat,s<4096→(UG e s=true ↔ n≤s∧s<m):=by
 unfold wX at h ⊢
 by_cases c:e.count≤0
 ·rw [if_pos c] at h;cases h
 ·rw [if_neg c] at h ⊢
  have h2:uQ e<Y8 e:=by simpa using h
  have h3:0≤uQ e:=by unfold uQ;omega
  have h4:Y8 e≤4096:=by unfold Y8;split<;>omega
  refine ⟨(uQ e).toNat,(Y8 e).toNat,?_,by omega,by omega,fun s hs=>?_⟩
  ·rw [Int.toNat_of_nonneg h3,Int.toNat_of_nonneg (by omega),decide_eq_true h2]
  ·unfold UG
   simp only [Bool.and_eq_true,decide_eq_true_eq]
   have e1:(uQ e).toNat≤s ↔ uQ e≤(s:Int):=by omega
   have e2:s<(Y8 e).toNat ↔ (s:Int)<Y8 e:=by omega
   rw [e1,e2]
   unfold uQ Y8
   split<;>omega
theorem acJ {e:eH} (h:(wX e).2.2=false) {s:Nat} (hs:s<4096):UG e s=false:=by
 unfold wX at h
 by_cases c:e.count≤0
 ·unfold UG
  rw [decide_eq_false (by omega),Bool.false_and]
 ·rw [if_neg c] at h
  have h2:¬ uQ e<Y8 e:=by simpa using h
  unfold UG
  cases hq:(decide (0<e.count)&&(decide (e.start≤(s:Int))&&decide ((s:Int)<e.start+e.count))) with
  |false=>rfl
  |true =>
   exfalso
   simp only [Bool.and_eq_true,decide_eq_true_eq] at hq
   apply h2
   unfold uQ Y8
   split<;>omega
theorem ai8 {e:eH} (ho:okE e):cal env 141 [dW e]=some [(.int .i64 (wX e).1,false),(.int .i64 (wX e).2.1,false),(.bool (wX e).2.2,false)]:=by
 obtain ⟨⟨o1,o2⟩,o3,o4⟩:=ho
 unfold wX
 simp only [dW]
 by_cases c:e.count≤0
 ·rw [if_pos c]
  rw [ah LX rfl];simp only [CV,aK,Nat.reduceBEq,Nat.reduceLeDiff,Nat.reduceAdd,List.length_cons,List.length_nil]
  simp only [c,aN,Nat.reduceMul,Nat.reduceBEq,Nat.reduceLT,Nat.reduceLeDiff,reduceCtorEq,Nat.reduceEqDiff,Nat.reduceAdd,Nat.beq]
 ·rw [if_neg c]
  unfold uQ Y8
  have hmin:min (e.start+e.count) 4096=if 4096<e.start+e.count then 4096 else e.start+e.count:=by split<;>omega
  by_cases c1:e.start<0
  ·have hmax:max e.start 0=0:=by omega
   rw [hmin,hmax]
   have W1:IntKind.i64.wrap (e.start+e.count)=e.start+e.count:=bZ (by omega)
   rw [if_pos (.inl c1)]
   rw [ah LX rfl];simp only [CV,aK,Nat.reduceBEq,Nat.reduceLeDiff,Nat.reduceAdd,List.length_cons,List.length_nil]
   simp only [c,c1,W1,aN,Nat.reduceMul,Nat.reduceBEq,Nat.reduceLT,Nat.reduceLeDiff,reduceCtorEq,Nat.reduceEqDiff,Nat.reduceAdd,Nat.beq]
  ·have hmax:max e.start 0=e.start:=by omega
   rw [hmin,hmax]
   have W2:IntKind.i64.wrap (4096 - e.start)=4096 - e.start:=bZ (by omega)
   by_cases c2:e.count<4096 - e.start
   ·have W1:IntKind.i64.wrap (e.start+e.count)=e.start+e.count:=bZ (by omega)
    rw [if_pos (.inr c2)]
    rw [ah LX rfl];simp only [CV,aK,Nat.reduceBEq,Nat.reduceLeDiff,Nat.reduceAdd,List.length_cons,List.length_nil]
    simp only [c,c1,c2,W1,W2,aN,Nat.reduceMul,Nat.reduceBEq,Nat.reduceLT,Nat.reduceLeDiff,reduceCtorEq,Nat.reduceEqDiff,Nat.reduceAdd,Nat.beq]
   ·rw [if_neg (by omega)]
    rw [ah LX rfl];simp only [CV,aK,Nat.reduceBEq,Nat.reduceLeDiff,Nat.reduceAdd,List.length_cons,List.length_nil]
    simp only [c,c1,c2,W2,aN,Nat.reduceMul,Nat.reduceBEq,Nat.reduceLT,Nat.reduceLeDiff,reduceCtorEq,Nat.reduceEqDiff,Nat.reduceAdd,Nat.beq]
def fV (i:Nat) (l:List eH):List End:=l.flatMap fun e=>if (wX e).2.2 then [⟨(wX e).1.toNat,i,1⟩,⟨(wX e).2.1.toNat,i,-1⟩] else []
theorem Gt (i:Nat) (l:List eH) (e:eH):fV i (l++[e])=fV i l++(if (wX e).2.2 then [⟨(wX e).1.toNat,i,1⟩,⟨(wX e).2.1.toNat,i,-1⟩] else []):=by simp [fV]
theorem BJ (i:Nat):∀ l:List eH,(fV i l).length≤2 * l.length
 |[]=>Nat.le_refl _
 |e :: l=>by
  have:=BJ i l
  have h:fV i (e :: l)=(if (wX e).2.2 then [⟨(wX e).1.toNat,i,1⟩,⟨(wX e).2.1.toNat,i,-1⟩] else [])++fV i l:=by simp [fV]
  rw [h,List.length_append,List.length_cons]
  split<;>simp<;>omega
def dH:Nat→List (List eH)→List End
 |_,[]=>[]
 |i,l :: ls=>fV i l++dH (i+1) ls
theorem Ad:∀ (ls:List (List eH)) (i:Nat) (l:List eH),dH i (ls++[l])=dH i ls++fV (i+ls.length) l
 |[],i,l=>by simp [dH]
 |m :: ls,i,l=>by
  simp only [List.cons_append,dH,Ad ls (i+1) l,List.length_cons,List.append_assoc]
  rw [show i+1+ls.length=i+(ls.length+1) by omega]
theorem rC {n:Nat}:∀ (ls:List (List eH)) (i:Nat),(∀ l∈ls,l.length≤n)→(dH i ls).length≤2 * n * ls.length
 |[],i,_=>Nat.zero_le _
 |l :: ls,i,h=>by
  have h1:=rC ls (i+1) fun x hx=>h x (by simp [hx])
  have h2:=BJ i l
  have h3:=h l (by simp)
  simp only [dH,List.length_append,List.length_cons]
  rw [Nat.mul_add]
  omega
set_option maxRecDepth 20000 in
theorem agb {D:PV} {l:List eH} {pre:List End} {v n:Nat} {q17:AV} (hq:q17=.pv (.list 2 (l.map dW))) (ho:Me l) (hl:l.length≤100000) (hpre:pre.length≤10000000) {st:St} (h:st.head [0,3,4,5,11,12,13,17,18,19,20,39] st.boxes.length=some ⟨sl 45 [(0,.pv D),(3,.row 3 ((pre++fV v (l.take ((0:Nat)))).map jf)),(4,.pv (.int .i64 v)),(5,.pv (.list 2 (l.map dW))),(11,.pv D),(12,.pv (.int .i64 n)),(13,.pv (.int .i64 v)),(17,.pv (.list 2 (l.map dW))),(18,.pv (.list 2 (l.map dW))),(19,.pv (.int .i64 l.length)),(20,.pv (.int .i64 (0:Nat))),(39,.any)],[],[],none⟩) :
  den env Fb st=some (.normal,⟨sl 45 [(0,.pv D),(2,.any),(3,.row 3 ((pre++fV v l).map jf)),(11,.pv D),(12,.pv (.int .i64 n)),(13,.pv (.int .i64 v)),(39,.any)],[],[],none⟩):=by
 unfold Fb
 refine dG (env:=env) (l.length) (fun i=>⟨sl 45 [(0,.pv D),(3,.row 3 ((pre++fV v (l.take (i))).map jf)),(4,.pv (.int .i64 v)),(5,.pv (.list 2 (l.map dW))),(11,.pv D),(12,.pv (.int .i64 n)),(13,.pv (.int .i64 v)),(17,.pv (.list 2 (l.map dW))),(18,.pv (.list 2 (l.map dW))),(19,.pv (.int .i64 l.length)),(20,.pv (.int .i64 i)),(39,.any)],[],[],none⟩) (fun i=>some (.normal,⟨sl 45 [(0,.pv D),(2,.any),(3,.row 3 ((pre++fV v l).map jf)),(11,.pv D),(12,.pv (.int .i64 n)),(13,.pv (.int .i64 v)),(39,.any)],[],[],none⟩)) h (fun _=>rfl) (fun _=>by simp only [aK,dB,Nat.reduceMul,Nat.reduceBEq,Nat.reduceLT,Nat.reduceLeDiff,Nat.reduceAdd,decide_true,Bool.and_self,Bool.true_and]) ?_ ?_
 ·intro i rb hi ih
  have hlim:lim=1073741824:=rfl
  have hi1:=cZ hi (by omega)
  have F1:((i:Int)<(l.length:Int))=True:=eq_true (by omega)
  have hx:l[i]?=some l[i]:=List.getElem?_eq_getElem hi
  have ht:=Gs hi
  have hox:=ho _ (List.getElem_mem hi)
  generalize l[i]=x at *
  have e1:=ai8 hox
  have hrl:=BJ v (l.take i)
  rw [List.length_take] at hrl
  have P2:part [PV.int .i64 x.start,.int .i64 x.count] 0 (some 2)=some (.agg [.int .i64 x.start,.int .i64 x.count]):=rfl
  simp only [dW] at e1
  cases hw:(wX x).2.2 with
  |false =>
   rw [hw] at e1
   have hs:fV v (l.take (i+1))=fV v (l.take i):=by rw [ht,Gt,hw];simp
   simp only [zW,F1,hx,e1,dW,P2,ay hi,List.getElem?_map,Option.map_some,List.length_map,List.length_cons,List.length_nil,aN,Nat.reduceMul,Nat.reduceBEq,Nat.reduceLT,Nat.reduceLeDiff,reduceCtorEq,Nat.reduceEqDiff,Nat.reduceAdd,Nat.beq]
   rw [ih _ (by simp only [hi1,hs,aN,Nat.reduceMul,Nat.reduceBEq,Nat.reduceLT,Nat.reduceLeDiff,reduceCtorEq,Nat.reduceEqDiff,Nat.reduceAdd,Nat.beq]<;>rfl)]
  |true =>
   obtain ⟨a,b,hab,-,-,-⟩:=MB hw
   have hs:fV v (l.take (i+1))=fV v (l.take i)++[⟨a,v,1⟩,⟨b,v,-1⟩]:=by rw [ht,Gt,hab];simp
   rw [hab] at e1
   have F2:((pre++fV v (l.take i)).length+1+1≤lim)=True:=eq_true (by rw [List.length_append];omega)
   have F3:((pre++fV v (l.take i)).length+2≤lim)=True:=eq_true (by rw [List.length_append];omega)
   simp only [zW,F1,F2,F3,hx,e1,dW,P2,ay hi,List.getElem?_map,Option.map_some,List.length_map,List.length_cons,List.length_nil,aN,Nat.reduceMul,Nat.reduceBEq,Nat.reduceLT,Nat.reduceLeDiff,reduceCtorEq,Nat.reduceEqDiff,Nat.reduceAdd,Nat.beq]
   rw [ih _ (by simp only [hi1,hs,← List.append_assoc,List.map_append,List.map_cons,List.map_nil,jf,aN,Nat.reduceMul,Nat.reduceBEq,Nat.reduceLT,Nat.reduceLeDiff,reduceCtorEq,Nat.reduceEqDiff,Nat.reduceAdd,Nat.beq]<;>rfl)]
 ·intro rb
  simp only [zW,Int.lt_irrefl,List.length_map,List.take_length,aN,Nat.reduceMul,Nat.reduceBEq,Nat.reduceLT,Nat.reduceLeDiff,reduceCtorEq,Nat.reduceEqDiff,Nat.reduceAdd,Nat.beq]
set_option maxRecDepth 20000 in
theorem YE {ls:List (List eH)} (ho:∀ l∈ls,Me l) (hr:∀ l∈ls,l.length≤100000) (hl:ls.length≤10) {st:St} (h:st.head [0,3,11,12,13,39] st.boxes.length=some ⟨sl 45 [(0,.pv (.list 1 (ls.map zO))),(3,.row 3 ((dH 0 (ls.take ((0:Nat)))).map jf)),(11,.pv (.list 1 (ls.map zO))),(12,.pv (.int .i64 ls.length)),(13,.pv (.int .i64 (0:Nat))),(39,.any)],[],[],none⟩) :
  den env Fg st=some (.normal,⟨sl 45 [(2,.any),(3,.row 3 ((dH 0 ls).map jf))],[],[],none⟩):=by
 unfold Fg
 refine dG (env:=env) (ls.length) (fun i=>⟨sl 45 [(0,.pv (.list 1 (ls.map zO))),(3,.row 3 ((dH 0 (ls.take (i))).map jf)),(11,.pv (.list 1 (ls.map zO))),(12,.pv (.int .i64 ls.length)),(13,.pv (.int .i64 i)),(39,.any)],[],[],none⟩) (fun i=>some (.normal,⟨sl 45 [(2,.any),(3,.row 3 ((dH 0 ls).map jf))],[],[],none⟩)) h (fun _=>rfl) (fun _=>by simp only [aK,dB,Nat.reduceMul,Nat.reduceBEq,Nat.reduceLT,Nat.reduceLeDiff,Nat.reduceAdd,decide_true,Bool.and_self,Bool.true_and]) ?_ ?_
 ·intro i rb hi ih
  have hlim:lim=1073741824:=rfl
  have hi1:=cZ hi (by omega)
  have F1:((i:Int)<(ls.length:Int))=True:=eq_true (by omega)
  have hx:ls[i]?=some ls[i]:=List.getElem?_eq_getElem hi
  have ht:=Gs hi
  have hox:=ho _ (List.getElem_mem hi)
  have hrx:=hr _ (List.getElem_mem hi)
  have hli:(ls.take i).length=i:=by rw [List.length_take];omega
  have hp:=rC (n:=100000) (ls.take i) 0 fun l hl=>hr l (List.mem_of_mem_take hl)
  rw [hli] at hp
  generalize ls[i]=l at *
  have hs:dH 0 (ls.take (i+1))=dH 0 (ls.take i)++fV i l:=by rw [ht,Ad,hli,Nat.zero_add]
  have hr0:fV i ([]:List eH)=[]:=rfl
  simp only [Fe,F1,hx,zO,ay hi,List.getElem?_map,Option.map_some,List.length_map,aN,Nat.reduceMul,Nat.reduceBEq,Nat.reduceLT,Nat.reduceLeDiff,reduceCtorEq,Nat.reduceEqDiff,Nat.reduceAdd,Nat.beq]
  rw [agb (l:=l) (pre:=dH 0 (ls.take i)) (v:=i) (q17:=.pv (.list 2 (l.map dW))) rfl hox hrx (by omega)]
  rotate_left
  ·simp only [qY,hr0,List.append_nil,zO,aN,Nat.reduceMul,Nat.reduceBEq,Nat.reduceLT,Nat.reduceLeDiff,reduceCtorEq,Nat.reduceEqDiff,Nat.reduceAdd,Nat.beq]<;>rfl
  simp only [aN,Nat.reduceMul,Nat.reduceBEq,Nat.reduceLT,Nat.reduceLeDiff,reduceCtorEq,Nat.reduceEqDiff,Nat.reduceAdd,Nat.beq]
  rw [ih _ (by simp only [hi1,hs,zO,aN,Nat.reduceMul,Nat.reduceBEq,Nat.reduceLT,Nat.reduceLeDiff,reduceCtorEq,Nat.reduceEqDiff,Nat.reduceAdd,Nat.beq]<;>rfl)]
 ·intro rb
  simp only [Fe,Int.lt_irrefl,List.length_map,List.take_length,aN,Nat.reduceMul,Nat.reduceBEq,Nat.reduceLT,Nat.reduceLeDiff,reduceCtorEq,Nat.reduceEqDiff,Nat.reduceAdd,Nat.beq]
def lu (ls:List (List eH)):List End:=qZ (dH 0 ls)
theorem ai9 {ls:List (List eH)} (ho:∀ l∈ls,Me l) (hr:∀ l∈ls,l.length≤10000) (hl:ls.length≤2) (hsl:(lu ls).length=(dH 0 ls).length):cal env 120 [.list 1 (ls.map zO)]=some [(.list 3 ((lu ls).map jf),true)]:=by
 have hp:=rC (n:=10000) ls 0 hr
 have hp2:(dH 0 ls).length≤1000000:=by
  have:2 * 10000 * ls.length≤2 * 10000 * 2:=Nat.mul_le_mul_left _ hl
  omega
 have h1:=Ig (g:=143) (l:=dH 0 ls) hp2
 have h2:((qZ (dH 0 ls)).map jf).length=((dH 0 ls).map jf).length:=by
  rw [List.length_map,List.length_map];exact hsl
 unfold lu
 have hcond:(0=0∧(dH 0 ls).length=((dH 0 ls).map jf).length∧((qZ (dH 0 ls)).map jf).length=((dH 0 ls).map jf).length)=True:=eq_true ⟨rfl,by simp,h2⟩
 rw [ah aif rfl];simp only [PL,aK,Nat.reduceBEq,Nat.reduceLeDiff,Nat.reduceAdd,List.length_cons,List.length_nil]
 simp only [List.length_map,abJ,h1,hsl,aN,Nat.reduceMul,Nat.reduceBEq,Nat.reduceLT,Nat.reduceLeDiff,reduceCtorEq,Nat.reduceEqDiff,Nat.reduceAdd,Nat.beq]
 rw [YE ho (fun l h=>by have:=hr l h;omega) (by omega) (by simp only [qY,dH,List.map_nil,aN,Nat.reduceMul,Nat.reduceBEq,Nat.reduceLT,Nat.reduceLeDiff,reduceCtorEq,Nat.reduceEqDiff,Nat.reduceAdd,Nat.beq]<;>rfl)]
 simp only [h2,List.length_map,abJ,h1,hsl,aN,Nat.reduceMul,Nat.reduceBEq,Nat.reduceLT,Nat.reduceLeDiff,reduceCtorEq,Nat.reduceEqDiff,Nat.reduceAdd,Nat.beq]
 rw [← hsl]
 unfold lu
 rw [zQ]
end Go.Proofs.YtioijcfcehhmdaaGreatDoor.V

namespace Go.Proofs
open Go.Shelf
def Tryz.sortEnd_ren:Go.Shelf.Ren:=⟨fun|6=>142|15=>156|14=>155|28=>166|29=>167|20=>158|21=>159|22=>160|23=>161|24=>162|25=>163|26=>164|27=>165|46=>168|47=>169|48=>170|49=>171|50=>172|57=>173|n=>n,fun|22=>170|24=>173|25=>196|3=>3|39=>180|0=>0|53=>214|55=>144|4=>4|46=>207|45=>206|50=>211|5=>5|9=>9|66=>215|70=>219|76=>221|77=>50|n=>n,fun|n=>n⟩
theorem Tryz.sortEnd:Go.Proofs.SlLaysF0.n6 Tryz.prog Tryz.sortEnd_ren:={
 mixed:=by kernel_rfl
 f6:=⟨Tryz.f142.name,by decide,Tryz.func142.trans (congrArg some (by kernel_rfl))⟩
 f14:=⟨Tryz.f155.name,by decide,Tryz.func155.trans (congrArg some (by kernel_rfl))⟩
 f15:=Tryz.func156.trans (congrArg some (by kernel_rfl))
 f20:=⟨Tryz.f158.name,by decide,Tryz.func158.trans (congrArg some (by kernel_rfl))⟩
 f21:=⟨Tryz.f159.name,by decide,Tryz.func159.trans (congrArg some (by kernel_rfl))⟩
 f22:=⟨Tryz.f160.name,by decide,Tryz.func160.trans (congrArg some (by kernel_rfl))⟩
 f23:=⟨Tryz.f161.name,by decide,Tryz.func161.trans (congrArg some (by kernel_rfl))⟩
 f24:=⟨Tryz.f162.name,by decide,Tryz.func162.trans (congrArg some (by kernel_rfl))⟩
 f25:=⟨Tryz.f163.name,by decide,Tryz.func163.trans (congrArg some (by kernel_rfl))⟩
 f26:=⟨Tryz.f164.name,by decide,Tryz.func164.trans (congrArg some (by kernel_rfl))⟩
 f27:=⟨Tryz.f165.name,by decide,Tryz.func165.trans (congrArg some (by kernel_rfl))⟩
 f28:=Tryz.func166.trans (congrArg some (by kernel_rfl))
 f29:=Tryz.func167.trans (congrArg some (by kernel_rfl))
 f46:=⟨Tryz.f168.name,by decide,Tryz.func168.trans (congrArg some (by kernel_rfl))⟩
 f47:=Tryz.func169.trans (congrArg some (by kernel_rfl))
 f48:=Tryz.func170.trans (congrArg some (by kernel_rfl))
 f49:=⟨Tryz.f171.name,by decide,Tryz.func171.trans (congrArg some (by kernel_rfl))⟩
 f50:=⟨Tryz.f172.name,by decide,Tryz.func172.trans (congrArg some (by kernel_rfl))⟩
 f57:=⟨Tryz.f173.name,by decide,Tryz.func173.trans (congrArg some (by kernel_rfl))⟩
 t0:=Tryz.underlying0
 a0:=Tryz.isAgg0
 z0:=Tryz.sizeOf0
 v0:=Tryz.zeroValue0
 t3:=Tryz.underlying3
 a3:=Tryz.isAgg3
 z3:=Tryz.sizeOf3
 v3:=Tryz.zeroValue3
 t4:=Tryz.underlying4
 a4:=Tryz.isAgg4
 z4:=Tryz.sizeOf4
 v4:=Tryz.zeroValue4
 t5:=Tryz.underlying5
 a5:=Tryz.isAgg5
 z5:=Tryz.sizeOf5
 v5:=Tryz.zeroValue5
 t9:=Tryz.underlying9
 a9:=Tryz.isAgg9
 z9:=Tryz.sizeOf9
 v9:=Tryz.zeroValue9
 t22:=Tryz.underlying170
 a22:=Tryz.isAgg170
 z22:=Tryz.sizeOf170
 v22:=Tryz.zeroValue170
 t25:=Tryz.underlying196
 a25:=Tryz.isAgg196
 z25:=Tryz.sizeOf196
 v25:=Tryz.zeroValue196
 t39:=Tryz.underlying180
 a39:=Tryz.isAgg180
 z39:=Tryz.sizeOf180
 v39:=Tryz.zeroValue180
 t45:=Tryz.underlying206
 a45:=Tryz.isAgg206
 z45:=Tryz.sizeOf206
 v45:=Tryz.zeroValue206
 t46:=Tryz.underlying207
 a46:=Tryz.isAgg207
 z46:=Tryz.sizeOf207
 v46:=Tryz.zeroValue207
 t50:=Tryz.underlying211
 a50:=Tryz.isAgg211
 z50:=Tryz.sizeOf211
 v50:=Tryz.zeroValue211
 t53:=Tryz.underlying214
 a53:=Tryz.isAgg214
 z53:=Tryz.sizeOf214
 v53:=Tryz.zeroValue214
 t55:=Tryz.underlying144
 a55:=Tryz.isAgg144
 z55:=Tryz.sizeOf144
 v55:=Tryz.zeroValue144
 t66:=Tryz.underlying215
 a66:=Tryz.isAgg215
 z66:=Tryz.sizeOf215
 v66:=Tryz.zeroValue215
 t70:=Tryz.underlying219
 a70:=Tryz.isAgg219
 z70:=Tryz.sizeOf219
 v70:=Tryz.zeroValue219
 t76:=Tryz.underlying221
 a76:=Tryz.isAgg221
 z76:=Tryz.sizeOf221
 v76:=Tryz.zeroValue221
 t77:=Tryz.underlying50
 a77:=Tryz.isAgg50
 z77:=Tryz.sizeOf50
 v77:=Tryz.zeroValue50 }
def Tryz.cmpInt_ren:Go.Shelf.Ren:=⟨fun|5=>144|7=>157|n=>n,fun|22=>3|3=>3|4=>4|n=>n,fun|n=>n⟩
theorem Tryz.cmpInt:Go.Proofs.SlLaysC2.n5 Tryz.prog Tryz.cmpInt_ren:={
 mixed:=by kernel_rfl
 f5:=⟨Tryz.f144.name,by decide,Tryz.func144.trans (congrArg some (by kernel_rfl))⟩
 f7:=⟨Tryz.f157.name,by decide,Tryz.func157.trans (congrArg some (by kernel_rfl))⟩
 t3:=Tryz.underlying3
 a3:=Tryz.isAgg3
 z3:=Tryz.sizeOf3
 v3:=Tryz.zeroValue3
 t4:=Tryz.underlying4
 a4:=Tryz.isAgg4
 z4:=Tryz.sizeOf4
 v4:=Tryz.zeroValue4
 t22:=Tryz.underlying3
 a22:=Tryz.isAgg3
 z22:=Tryz.sizeOf3
 v22:=Tryz.zeroValue3 }
end Go.Proofs
