/-
  Part 7 of the texts that the statement stands on.
-/
import Derived.Test.YtaaokejjmdbfaaaDoorZ6
set_option linter.all false
namespace Go.Proofs.YtaaokejjmdbfaaaDoor.V
theorem NG:cal env 12 []=some [(.bool true,false)]:=EH (n:=200) (by kernel_rfl)
end Go.Proofs.YtaaokejjmdbfaaaDoor.V

namespace Go.Proofs.YtaaokejjmdbfaaaDoor.V
theorem Si (p:Nat→Bool) {n:Nat} (h:n≤4096):okX (ext p n):=⟨Nat.le_trans (yA p n) h,fun x hx=>by have:=oh p n x hx;omega⟩
theorem adi (l:List Run) (i:Nat):jY (l.take i)≤jY l:=by
 have h:jY l=jY (l.take i)+jY (l.drop i):=by rw [← jZ,List.take_append_drop]
 omega
theorem NH {a:Pt} (h:bU a.img=0) (v:Nat):ig a v≤4096:=mO h v
theorem GV {a b:Pt} (h:bU a.img=0) (hl:a.img.length=b.img.length):∀ x∈differ a.img b.img,okX x:=fun x hx=>by
 obtain ⟨n,hn,rfl⟩:=List.getElem_of_mem hx
 rw [D9 hl hn]
 exact Si _ (NH h n)
theorem afU {a b:Pt} (h:bU a.img=0) (n:Nat):∀ x∈wX a b n,okX x:=fun x hx=>by
 unfold wX at hx
 obtain ⟨i,hi,rfl⟩:=List.mem_map.1 hx
 exact Si _ (NH h i)
theorem adk {a b:Pt} (h:bU a.img=0):okW ((yO a b a.img.length).map toW):=fun w hw=>by
 obtain ⟨x,hx,rfl⟩:=List.mem_map.1 hw
 obtain ⟨v,h1,h2,h3,h4,h5,h6⟩:=ZQ hx
 have h7:=mO h v
 have h8:=(kM h).1
 simp only [kW,Bool.and_eq_true,decide_eq_true_eq]
 omega
theorem aai {a n:Nat} (h:0<n):((a:Int).tmod (n:Int))=((a % n:Nat):Int):=by
 rw [Int.tmod_eq_emod_of_nonneg (by omega)];omega
set_option maxRecDepth 20000 in
theorem afV {base:jk} {ls:List (List iy)} {P:List Pt} {A B:Pt} {a b i k:Nat} (e1:cal env 32 [.list 1 (base.map bg),.list 1 (ls.map V8)]=some [(.list 4 (P.map nZ),true)]) (hP:P.length≤4) (ha:a<256) (hb:b<256) (hp:0<P.length) (hi:i=a % P.length) (hk:k=b % P.length) (hA:P[i]?=some A) (hB:P[k]?=some B)
  (hf:zZ P=0) (hfp:∀ p∈P,EN p) (hm:∀ v j,(A.img.getD v [])[j]?≠(B.img.getD v [])[j]?→mk2 A B v j=true) (h1:uG B.img ((yO A B A.img.length).map toW)=0) (h2:lS B.img ((yO A B A.img.length).map toW)=A.img) :
  cal env 10 [.list 1 (base.map bg),.list 1 (ls.map V8),.agg [.int .u8 (a:Int),.int .u8 (b:Int)]]=some [(.bool true,false)]:=by
 have hlim:lim=1073741824:=rfl
 have aw:=NG
 obtain ⟨g1,g2,g3,g4⟩:=Nz hf
 obtain ⟨hi1,hi2⟩:=List.getElem?_eq_some_iff.1 hA
 obtain ⟨hk1,hk2⟩:=List.getElem?_eq_some_iff.1 hB
 have mA:A∈P:=hi2 ▸ List.getElem_mem hi1
 have mB:B∈P:=hk2 ▸ List.getElem_mem hk1
 have cA:=g1 A mA
 have cB:=g1 B mB
 have hs:=g4 A mA B mB
 have iA:=(og cA).2.1
 have iB:=(og cB).2.1
 have lA:=kM iA
 have lB:=kM iB
 have hl:=(kU hs).1
 have hpe:mY A.img B.img=0:=by unfold mY;rw [if_neg (by omega),if_neg (by omega),if_pos hs]
 have hbe:btE A B=0:=by unfold btE;rw [if_pos cA,if_pos cB,if_pos hs]
 have e2:=ahR (a:=A.img) (b:=B.img) (by omega) (by omega) (fun v hv=>by have:=lA.2 v hv;omega)
 have e3:=ahX (hfp A mA) (hfp B mB)
 have e4:=ahZ (l:=P) (by omega) hfp hi1 hk1 hf
 rw [hi2,hk2] at e4
 have e5:=adM (im:=B.img) (adk (b:=B) iA) (by omega) (fun v hv=>by have:=lB.2 v hv;omega)
 have e6:=ahp (a:=A.img) (b:=A.img) (by omega) (fun v hv=>by have:=lA.2 v hv;omega)
 rw [h1,h2] at e5
 rw [decide_eq_true rfl] at e6
 unfold zy at e2
 rw [hpe,if_pos rfl] at e2
 unfold btO at e3
 rw [hbe,if_pos rfl] at e3
 have hdl:(differ A.img B.img).length=A.img.length:=by unfold differ;rw [List.length_map,List.length_zip];omega
 have hcnt:(jY (yO A B A.img.length):Int)=vW (differ A.img B.img):=by
  rw [RP,RZ hl hm _ (Nat.le_refl _),← hdl,List.take_length]
 have hbd:=DN (GV (b:=B) iA hl) A.img.length
 rw [← hdl,List.take_length] at hbd
 have hbl:=vK A B A.img.length
 have L3:=fun (st:St) (pl:PV) (W:List PV) (n8 n9:Int) (cs:List BV)=>ZG (st:=st) (dl:=differ A.img B.img) (ml:=wX A B A.img.length) (pl:=pl) (W:=W) (n8:=n8) (n9:=n9) (cs:=cs) (by omega) (by omega) (GV (b:=B) iA hl) (afU iA _) (VW hl hm)
 have hlt:=JR (b:=B) cA A.img.length
 have L5:=fun (st:St) (pl:PV) (n8 n9 n:Int) (cs:List BV)=>ZF (st:=st) (ws:=yO A B A.img.length) (pl:=pl) (n8:=n8) (n9:=n9) (n:=n) (cs:=cs) (by omega) (fun i=>by have:=adi (yO A B A.img.length) i;omega)
 rw [hcnt] at L5
 have z0:vW ((differ A.img B.img).take 0)=0:=rfl
 have z1:((jY ((yO A B A.img.length).take 0):Nat):Int)=0:=rfl
 rw [z0] at L3
 rw [z1] at L5
 have ra:((yO A B A.img.length).map toW).map oz=rowA A B A.img.length:=rfl
 rw [ra] at e5 L5
 have E1:vW (differ A.img B.img)==vW (differ A.img B.img):=beq_self_eq_true _
 have B1:((wX A B A.img.length).length != (differ A.img B.img).length)=false:=by simp [hdl,hbl]
 have B2:(((wX A B A.img.length).length:Int)==((differ A.img B.img).length:Int))=true:=by rw [hdl,hbl];exact beq_self_eq_true _
 have hx:(P.map nZ)[i]?=some (nZ A):=by rw [List.getElem?_map,hA];rfl
 have hy:(P.map nZ)[k]?=some (nZ B):=by rw [List.getElem?_map,hB];rfl
 have T1:((a:Int).tmod (P.length:Int))=(i:Int):=by rw [hi];exact aai hp
 have T2:((b:Int).tmod (P.length:Int))=(k:Int):=by rw [hk];exact aai hp
 have Z1:((P.length:Int)==0)=false:=beq_eq_false_iff_ne.2 (by omega)
 have Z4:((P.length:Int)=0)=False:=eq_false (by omega)
 have Z2:((0:Int) != 0)=false:=rfl
 have Z3:((0:Int)==0)=true:=rfl
 have Wa:IntKind.i64.wrap (a:Int)=(a:Int):=bn (by omega)
 have Wb:IntKind.i64.wrap (b:Int)=(b:Int):=bn (by omega)
 have P4:∀ a b c d:PV,part [a,b,c,d] 0 (some 4)=some (.agg [a,b,c,d]):=fun _ _ _ _=>rfl
 have I0:index (.int .i64 0) 2=some 0:=rfl
 have I1:index (.int .i64 1) 2=some 1:=rfl
 have X1:=ak (k:=.i64) hi1
 have X2:=ak (k:=.i64) hk1
 have hWl:(rowA A B A.img.length).length=(yO A B A.img.length).length:=by unfold rowA;rw [List.length_map,List.length_map]
 have hWt:(rowA A B A.img.length).take (yO A B A.img.length).length=rowA A B A.img.length:=List.take_of_length_le (by omega)
 generalize rowA A B A.img.length=W at *
 generalize vW (differ A.img B.img)=C at *
 rw [kL] at hx hy e3
 rw [kL] at e3
 rw [au adB rfl];simp only [UY,bC,Nat.reduceBEq,Nat.reduceLeDiff,Nat.reduceAdd,List.length_cons,List.length_nil]
 simp only [e1,e2,e3,e4,e5,e6,aw,hx,hy,T1,T2,Z1,Z4,Z2,Z3,Wa,Wb,P4,I0,I1,X1,X2,E1,B1,B2,hWl,hWt,List.length_map,aX,Nat.reduceMul,Nat.reduceBEq,Nat.reduceLT,Nat.reduceLeDiff,reduceCtorEq,Nat.reduceEqDiff,Nat.reduceAdd,Nat.beq]
 rw [L3 _ _ _ _ _ _ (by simp only [bC,dK,Nat.reduceMul,Nat.reduceBEq,Nat.reduceLT,Nat.reduceLeDiff,Nat.reduceAdd,decide_true,Bool.and_self,Bool.true_and]<;>rfl)]
 simp only [e1,e2,e3,e4,e5,e6,aw,hx,hy,T1,T2,Z1,Z4,Z2,Z3,Wa,Wb,P4,I0,I1,X1,X2,E1,B1,B2,hWl,hWt,List.length_map,aX,Nat.reduceMul,Nat.reduceBEq,Nat.reduceLT,Nat.reduceLeDiff,reduceCtorEq,Nat.reduceEqDiff,Nat.reduceAdd,Nat.beq]
 rw [L5 _ _ _ _ _ _ (by simp only [bC,dK,Nat.reduceMul,Nat.reduceBEq,Nat.reduceLT,Nat.reduceLeDiff,Nat.reduceAdd,decide_true,Bool.and_self,Bool.true_and]<;>rfl)]
 simp only [e1,e2,e3,e4,e5,e6,aw,hx,hy,T1,T2,Z1,Z4,Z2,Z3,Wa,Wb,P4,I0,I1,X1,X2,E1,B1,B2,hWl,hWt,List.length_map,aX,Nat.reduceMul,Nat.reduceBEq,Nat.reduceLT,Nat.reduceLeDiff,reduceCtorEq,Nat.reduceEqDiff,Nat.reduceAdd,Nat.beq]
theorem ah0 {base:jk} {ls:List (List iy)} {a b:Nat} (hw:∀ l∈ls,okW l) (hab:a<256∧b<256):cal env 10 [.list 1 (base.map bg),.list 1 (ls.map V8),.agg [.int .u8 (a:Int),.int .u8 (b:Int)]]=some [(.bool true,false)]:=by
 obtain ⟨ha,hb⟩:=hab
 have e1:=ahV (base:=base) (ls:=ls) hw
 by_cases c:D7 base ls=true
 ·unfold adg at e1
  rw [if_pos c] at e1
  obtain ⟨g1,g2,g3,g4,g5⟩:=D8 c
  have hpl:=D6 base ls ls.length
  have hpos:0<(jm base ls ls.length).length:=by omega
  have hi:a % (jm base ls ls.length).length<ls.length:=by rw [hpl];exact Nat.mod_lt _ (by omega)
  have hk:b % (jm base ls ls.length).length<ls.length:=by rw [hpl];exact Nat.mod_lt _ (by omega)
  have hA:(jm base ls ls.length)[a % (jm base ls ls.length).length]?=some (D5 base (a % (jm base ls ls.length).length) (ls.getD (a % (jm base ls ls.length).length) [])):=by
   rw [List.getElem?_eq_getElem (by omega),NC]
  have hB:(jm base ls ls.length)[b % (jm base ls ls.length).length]?=some (D5 base (b % (jm base ls ls.length).length) (ls.getD (b % (jm base ls ls.length).length) [])):=by
   rw [List.getElem?_eq_getElem (by omega),NC]
  have h:=VU c hi hk
  exact afV e1 (by omega) ha hb hpos rfl rfl hA hB (VT c) (fun p hp=>by
   obtain ⟨i,hi,rfl⟩:=ND hp
   have q:=(og (RX (n:=i) (g5 _ (oG hi)).1 (by omega)))
   have q2:=(kM q.2.1).1
   exact ⟨Nat.zero_le _,by have:=q.2.2.1;have hlim:lim=1073741824:=rfl;omega,by have hlim:lim=1073741824:=rfl;omega⟩) (fun v j hd=>aah (g5 _ (oG hi)).1 (g5 _ (oG hk)).1 hd) h.1 h.2
 ·have aw:=NG
  unfold adg at e1
  rw [if_neg c,List.map_nil] at e1
  have Z0:(((0:Nat):Int)==0)=true:=rfl
  rw [au adB rfl];simp only [UY,bC,Nat.reduceBEq,Nat.reduceLeDiff,Nat.reduceAdd,List.length_cons,List.length_nil]
  simp only [e1,aw,Z0,aX,Nat.reduceMul,Nat.reduceBEq,Nat.reduceLT,Nat.reduceLeDiff,reduceCtorEq,Nat.reduceEqDiff,Nat.reduceAdd,Nat.beq]
end Go.Proofs.YtaaokejjmdbfaaaDoor.V

namespace Go.Proofs.YtaaokejjmdbfaaaDoor
open Go.RowKit
section
variable {α:Type} {r:Rep α} {tag:Nat→Nat} {ok:Nat→Prop} {w:World}
theorem bV.put:∀ {l:List α} {i:Nat} {xs:List Value},bV r tag ok w i xs l→∀ {k:Nat} {x:α},l[k]?=some x→∀ (w':World) (c':List Value) (x':α),(∀ b,ok b→tag b≠i+k→w'.heap[b]?=w.heap[b]?) →
  r.rd (fun b=>ok b∧tag b=i+k) w' c' x'→bV r tag ok w' i (xs.take (k * r.sz)++(c'++xs.drop ((k+1) * r.sz))) (l.set k x')
 |[],_,_,_,k,x,hx=>by simp at hx
 |y :: l,i,xs,⟨c,rest,e,h1,h2⟩,0,x,hx=>fun w' c' x' hf hr=>by
  have hl:=r.len h1
  have e1:xs.take (0 * r.sz)++(c'++xs.drop ((0+1) * r.sz))=c'++rest:=by
   rw [Nat.zero_mul,List.take_zero,List.nil_append,Nat.zero_add,Nat.one_mul,e,← hl,List.drop_left]
  rw [e1]
  have:∀ {l:List α} {m:Nat} {xs:List Value},i<m→bV r tag ok w m xs l→bV r tag ok w' m xs l:=by
   intro l
   induction l with
   |nil=>intro m xs _ h;exact h
   |cons z l ih =>
    intro m xs hm h
    obtain ⟨d,rs,e',h3,h4⟩:=h
    exact ⟨d,rs,e',r.frame (fun b hb=>hf b hb.1 (by rw [hb.2];omega)) h3,ih (by omega) h4⟩
  exact ⟨c',rest,rfl,hr,this (Nat.lt_succ_self _) h2⟩
 |y :: l,i,xs,⟨c,rest,e,h1,h2⟩,k+1,x,hx=>fun w' c' x' hf hr=>by
  have hl:=r.len h1
  have ei:i+1+k=i+(k+1):=by omega
  have ih:=h2.put (k:=k) (x:=x) (by simpa using hx) w' c' x' (fun b hb hne=>hf b hb (by rw [← ei];exact hne)) (by rw [ei];exact hr)
  have e1:(k+1) * r.sz=r.sz+k * r.sz:=by rw [Nat.add_mul,Nat.one_mul];omega
  have e2:(k+1+1) * r.sz=r.sz+(k+1) * r.sz:=by rw [Nat.add_mul (k+1),Nat.one_mul];omega
  refine ⟨c,rest.take (k * r.sz)++(c'++rest.drop ((k+1) * r.sz)),?_,r.frame (fun b hb=>hf b hb.1 (by rw [hb.2];omega)) h1,ih⟩
  rw [e1,e2,e,← hl,List.take_length_add_append,List.drop_length_add_append,List.append_assoc,show (k+1) * c.length=c.length+k * c.length by rw [Nat.add_mul,Nat.one_mul];omega]
end
theorem set_mid {xs c:List Value} {s n j:Nat} {u:Value} (hc:c.length=n) (hs:s+n≤xs.length) (h:∀ j,j<n→xs[s+j]?=c[j]?) (hj:j<n):xs.take s++(c.set j u++xs.drop (s+n))=xs.set (s+j) u:=by
 apply List.ext_getElem?
 intro i
 have e1:(xs.take s).length=s:=by rw [List.length_take];omega
 have e2:(c.set j u).length=n:=by rw [List.length_set];exact hc
 by_cases h1:i<s
 ·rw [List.getElem?_append_left (by rw [e1];exact h1),List.getElem?_take,if_pos h1,List.getElem?_set,if_neg (by omega)]
 ·rw [List.getElem?_append_right (by rw [e1];omega),e1]
  by_cases h2:i<s+n
  ·rw [List.getElem?_append_left (by rw [e2];omega),List.getElem?_set,List.getElem?_set]
   by_cases h3:j=i - s
   ·rw [if_pos h3,if_pos (show s+j=i by omega),if_pos (by omega),if_pos (by omega)]
   ·rw [if_neg h3,if_neg (show ¬ s+j=i by omega),← h (i - s) (by omega)]
    congr 1;omega
  ·rw [List.getElem?_append_right (by rw [e2];omega),e2,List.getElem?_drop,List.getElem?_set,if_neg (by omega)]
   congr 1;omega
section
variable {α:Type} {r:Rep α} {B F:Nat} {E:TypeId} {w:World} {v:Value} {l:List α}
theorem jl.put (h:jl r B F E w v l) {k:Nat} {x:α} (hx:l[k]?=some x) :
  ∃ g cap cur c,∃ Vz:Nat→Prop,v=.slice (some ⟨g,0,none⟩) l.length cap∧B≤g∧g<w.heap.size∧w.heap[g]?=some (.cells cur E (0,0))∧(k+1) * r.sz≤cur.size∧(∀ j,j<r.sz→cur[k * r.sz+j]?=c[j]?)∧r.rd Vz w c x∧(∀ b,Vz b→B≤b∧b<w.heap.size∧b≠g) ∧
   ∀ (w':World) (j:Nat) (u:Value) (x':α),j<r.sz→w'.heap[g]?=some (.cells (cur.setIfInBounds (k * r.sz+j) u) E (0,0))→(∀ b,b<w.heap.size→b≠g→¬ Vz b→w'.heap[b]?=w.heap[b]?)→w.heap.size≤w'.heap.size →
    r.rd (fun b=>(Vz b∨w.heap.size≤b)∧b≠g) w' (c.set j u) x'→jl r B w'.heap.size E w' v (l.set k x'):=by
 obtain ⟨tag,xs,h1,h2⟩:=h
 have hk:=(List.getElem?_eq_some_iff.1 hx).1
 obtain ⟨hl,⟨_,h0⟩|⟨g,cap,cur,rfl,hb,hg,hnc,hcm,hcs,ht⟩⟩:=h1
 ·omega
 have hgl:g<w.heap.size:=(Array.getElem?_eq_some_iff.1 hg).1
 have hkn:(k+1) * r.sz≤l.length * r.sz:=Nat.mul_le_mul_right _ (by omega)
 have alj:l.length * r.sz≤cap * r.sz:=Nat.mul_le_mul_right _ hnc
 have e1:(k+1) * r.sz=k * r.sz+r.sz:=by rw [Nat.add_mul,Nat.one_mul]
 obtain ⟨c,h3,h4,_⟩:=h2.live.pick hx
 have hcl:=r.len h4
 have hcur:∀ i,i<l.length * r.sz→cur[i]?=xs[i]?:=fun i hi=>by
  rw [← ht,List.getElem?_take,if_pos hi,Array.getElem?_toList]
 refine ⟨g,cap,cur,c,_,rfl,hb,hgl,hg,by omega,fun j hj=>by rw [hcur _ (by omega),h3 j hj],h4,fun b hb=>⟨hb.1.1.1,hb.1.2,fun e=>hb.1.1.2.2 (by rw [e];rfl)⟩,fun w' j u x' hj hg' hf hsz hr=>?_⟩
 have h5:bV r (fun b=>if w.heap.size≤b then k else tag b) (fun b=>B≤b∧b<w'.heap.size∧b≠g∧(b<w.heap.size→b<F)) w 0 xs l :=
  ((h2.live.retag (tag':=fun b=>if w.heap.size≤b then k else tag b) fun b hb=>by
   show (if w.heap.size≤b then k else tag b)=tag b
   rw [if_neg (by have:=hb.2;omega)]).mono fun b hb=>⟨hb.1.1,by have:=hb.2;omega,fun e=>hb.1.2.2 (by rw [e];rfl),fun _=>hb.1.2.1⟩)
 have h6:=h5.put hx w' (c.set j u) x' (fun b hb hne=>by
  by_cases hbw:b<w.heap.size
  ·refine hf b hbw hb.2.2.1 fun ho=>hne ?_
   show (if w.heap.size≤b then k else tag b)=0+k
   rw [if_neg (by omega)];exact ho.2
  ·exact absurd (show (if w.heap.size≤b then k else tag b)=0+k by rw [if_pos (by omega),Nat.zero_add]) hne) (r.mono (fun b hb=>by
   obtain ⟨⟨h7,h8⟩,h9⟩:=hb
   rcases h7 with h7|h7
   ·refine ⟨⟨h7.1.1.1,h9,h8,fun _=>h7.1.1.2.1⟩,?_⟩
    show (if w.heap.size≤b then k else tag b)=0+k
    rw [if_neg (by have:=h7.1.2;omega)];exact h7.2
   ·refine ⟨⟨by omega,h9,h8,fun e=>by omega⟩,?_⟩
    show (if w.heap.size≤b then k else tag b)=0+k
    rw [if_pos h7,Nat.zero_add]) (r.live hr))
 rw [e1,set_mid hcl (by omega) h3 hj] at h6
 refine ⟨_,xs.set (k * r.sz+j) u,⟨by rw [List.length_set,List.length_set];exact hl,.inr ⟨g,cap,_,by rw [List.length_set],hb,hg',by rw [List.length_set];exact hnc,hcm,by rw [Array.size_setIfInBounds];exact hcs,?_⟩⟩,h6.mono fun b hb=>⟨hb.1,hb.2.1,fun e=>hb.2.2.1 (Option.some.inj e)⟩⟩
 have hA:k * r.sz+j<l.length * r.sz:=by rw [e1] at hkn;omega
 have hB:k * r.sz+j<cur.toList.length:=by rw [Array.length_toList,hcs];omega
 rw [List.length_set,← ht,Array.toList_setIfInBounds]
 apply List.ext_getElem?
 intro i
 rw [List.getElem?_take,List.getElem?_set,List.getElem?_set,List.length_take]
 by_cases hi:i<l.length * r.sz
 ·rw [if_pos hi]
  by_cases c1:k * r.sz+j=i
  ·rw [if_pos c1,if_pos c1,if_pos hB,if_pos (Nat.lt_min.2 ⟨hA,hB⟩)]
  ·rw [if_neg c1,if_neg c1,List.getElem?_take,if_pos hi]
 ·rw [if_neg hi,if_neg (by omega),List.getElem?_take,if_neg hi]
end
def aaj {α:Type} (r:Rep α) (E:TypeId):Rep ((Int × Int) × List α) where
 sz:=3
 rd ok w cs x:=∃ v,cs=[.int .i64 x.1.1,.int .i64 x.1.2,v]∧(gZ r E).rd ok w [v] x.2
 len h:=by obtain ⟨v,rfl,_⟩:=h;rfl
 mono hk h:=let ⟨v,e,h1⟩:=h;⟨v,e,(gZ r E).mono hk h1⟩
 live h:=let ⟨v,e,h1⟩:=h;⟨v,e,(gZ r E).live h1⟩
 frame hf h:=let ⟨v,e,h1⟩:=h;⟨v,e,(gZ r E).frame hf h1⟩
 one h:=by
  obtain ⟨v,rfl,h1⟩:=h
  intro u hu
  simp only [List.mem_cons,List.not_mem_nil,or_false] at hu
  rcases hu with rfl|rfl|rfl
  ·rfl
  ·rfl
  ·exact (gZ r E).one h1 _ (by simp)
end Go.Proofs.YtaaokejjmdbfaaaDoor

namespace Go.Proofs.YtaaokejjmdbfaaaDoor
section
variable {P:Program} {ops:Array Oper} {S:World→Prop} {Q:Act→World→Prop} {f:Nat}
def qy (P:Program) (ops:Array Oper) (S:World→Prop) (f:Nat) (Q:Act→World→Prop):Nat→Array Bool→Act→World→Prop
 |0,l,a,w=>Region.ready .any ops l=[]∧Q a w
 |fuel+1,l,a,w=>(Region.ready .any ops l=[]→Q a w)∧∀ i∈Region.ready .any ops l,wpOp P ops (bW Q) i (fun a' w'=>((l.setIfInBounds i true).getD f false=true∨S w')∧qy P ops S f Q fuel (l.setIfInBounds i true) a' w') a w
theorem Ea:∀ (fuel:Nat) (l:Array Bool) (a:Act) (w:World),qy P ops S f Q fuel l a w→wpAny P .any ops (bW Q) fuel l a w
 |0,_,_,_,h=>⟨h.1,rfl,h.2⟩
 |fuel+1,_,_,_,h=>⟨fun h0=>⟨rfl,h.1 h0⟩,fun i hi=>wpOp_mono (fun a' w' h'=>Ea fuel _ a' w' h'.2) (h.2 i hi)⟩
theorem ER (hsel:Region.noSelect ops=true) {i:Nat} {oi:Oper} {v:Value} (hi:ops[i]?=some oi) (hfi:f≠i)
  (hT:∀ l:Array Bool,l.size=ops.size→Closed ops l→l.getD i false=false→∀ w,(l.getD f false=true∨S w)→S w) :
  ∀ (fuel:Nat) (l:Array Bool) (a:Act) (w:World),l.size=ops.size→Closed ops l→(l.getD f false=true∨S w) →
   (∀ j oj,ops[j]?=some oj→j≠i→l.getD j true=false→(∀ e∈oj.after,Region.binds .any e=true→e.on≠i)→oi.apart ops oj=true) →
   i∈Region.ready .any ops l→YieldsIf P ops S oi v a →
   qy P ops S f Q fuel (l.setIfInBounds i true) (a.put oi.dst v) w→qy P ops S f Q (fuel+1) l a w:=by
 have listed:∀ {l:Array Bool} {w:World},l.size=ops.size→i∈Region.ready .any ops l→(l.getD f false=true∨S w)→((l.setIfInBounds i true).getD f false=true∨S w):=fun hs hr h=>h.imp (fun h=>by rw [fB _ _ _ (dW hs hr),if_neg (Ne.symm hfi)];exact h) id
 have oN:∀ {l:Array Bool},i∈Region.ready .any ops l→l.size=ops.size→l.getD i false=false:=fun h hs=>by
  have h1:=(mem_ready.1 h).1
  have h2:=dW hs h
  simpa [h2] using h1
 intro fuel
 induction fuel with
 |zero =>
  intro l a w hs hc hS _ hr hy H
  refine ⟨fun h=>(by rw [h] at hr;cases hr),fun j hj=>?_⟩
  by_cases hji:j=i
  ·subst hji;exact hy.wpOp hi (hT l hs hc (oN hr hs) w hS) ⟨listed hs hr hS,H⟩
  ·have:=ready_mono hj hji
   rw [H.1] at this
   cases this
 |succ fuel ih =>
  intro l a w hs hc hS hfree hr hy H
  refine ⟨fun h=>(by rw [h] at hr;cases hr),fun j hj=>?_⟩
  by_cases hji:j=i
  ·subst hji;exact hy.wpOp hi (hT l hs hc (oN hr hs) w hS) ⟨listed hs hr hS,H⟩
  ·have h1:=H.2 j (ready_mono hj hji)
   obtain ⟨hjun,oj,hoj,hall⟩:=mem_ready.1 hj
   have hnot:∀ e∈oj.after,Region.binds .any e=true→e.on≠i:=fun e he hb heq=>by
    have h1:=hall e he hb
    rw [heq,oN hr hs] at h1
    cases h1
   have h2:=wpOp_putIf hoj (hfree j oj hoj hji hjun hnot) (fun cs b=>Region.noSelect_spec hsel i oi cs b hi) (fun cs b=>Region.noSelect_spec hsel j oj cs b hoj) (fun c a w h=>by cases h.1) hy h1
   have hs':(l.setIfInBounds j true).size=ops.size:=by simpa using hs
   refine wpOp_mono (fun a' w' h3=>?_) h2
   have hSS:((l.setIfInBounds j true).getD f false=true∨S w'):=h3.2.1.imp (fun h=>by
    rw [fB _ _ _ (by simpa using dW hs hj),fB _ _ _ (dW hs hr),if_neg (Ne.symm hfi)] at h
    rw [fB _ _ _ (dW hs hj)];exact h) id
   refine ⟨hSS,ih (l.setIfInBounds j true) a' w' hs' (hc.set hs hj) hSS (fun k ok hk hki hun hno=>hfree k ok hk hki ?_ hno) (ready_mono hr (Ne.symm hji)) h3.1 ?_⟩
   ·by_cases hjk:j=k
    ·subst hjk;exact hjun
    ·rw [getD_set_ne true hjk] at hun;exact hun
   ·rw [Array.setIfInBounds_comm _ _ hji]
    exact h3.2.2
theorem qM (hsel:Region.noSelect ops=true) {w:World} (hS:S w):∀ (seg:List Nat) (m:Nat) (l l':Array Bool) (a:Act),l.size=ops.size→Closed ops l →
  (∀ i∈seg,f≠i∧vU ops ops.size f i=true)→bK ops seg l=some l' →
  wpQuiet P ops S (fun a'=>∀ (_:l'.size=ops.size) (_:Closed ops l'),qy P ops S f Q m l' a' w) (pick ops seg) a→qy P ops S f Q (m+seg.length) l a w
 |[],m,l,l',a,hs,hc,_,hq,h=>by
  simp only [bK,Option.some.injEq] at hq
  subst hq
  exact h hs hc
 |i :: is,m,l,l',a,hs,hc,hT,hq,h=>by
  unfold bK at hq
  split at hq
  case isFalse=>cases hq
  rename_i hcnd
  simp only [Bool.and_eq_true] at hcnd
  obtain ⟨⟨hp,hf⟩,hr⟩:=hcnd
  have hr':i∈Region.ready .any ops l:=by simpa using hr
  cases ho:ops[i]? with
  |none=>rw [ho] at hp;simp at hp
  |some o =>
   rw [ho] at hp
   simp only [Option.map_some,Option.getD_some] at hp
   simp only [pick,List.filterMap_cons,ho] at h
   unfold wpQuiet at h
   have key:∃ v,YieldsIf P ops S o v a∧wpQuiet P ops S (fun a'=>∀ (_:l'.size=ops.size) (_:Closed ops l'),qy P ops S f Q m l' a' w) (pick ops is) (a.put o.dst v):=by
    split at h
    ·rename_i hw
     obtain ⟨v,h1,h2⟩:=h
     refine ⟨v,.inl ⟨hw,fun w1 hw1=>?_⟩,h2⟩
     have h3:=h1 w1 hw1
     unfold Oper.quietAt at h3
     cases hrun:(execOp a.eval o).run P w1 with
     |halt x w2=>rw [hrun] at h3;exact h3.elim
     |ok x w2 =>
      obtain ⟨y,rfl⟩:=tH hp hrun
      rw [hrun] at h3
      obtain ⟨e1,e2⟩:=h3
      rw [e1,e2]
    ·rename_i hw
     exact ⟨undef,.inr ⟨by simpa using hw,rfl⟩,h⟩
   obtain ⟨v,hy,hk⟩:=key
   have hTi:=hT i (by simp)
   refine ER hsel ho hTi.1 (fun l _ hc hu w hS=>hS.resolve_left fun hf=>by rw [hc.dep _ _ _ hf hTi.2] at hu;cases hu) (m+is.length) l a w hs hc (.inr hS) (Region.free_spec ho hf) hr' hy ?_
   exact qM hsel hS is m (l.setIfInBounds i true) l' _ (by simpa using hs) (hc.set hs hr') (fun j hj=>hT j (by simp [hj])) hq hk
end
end Go.Proofs.YtaaokejjmdbfaaaDoor

namespace Go.Proofs.YtaaokejjmdbfaaaDoor
section
variable {P:Program} {ops:Array Oper} {S:World→Prop} {Q:Act→World→Prop} {f:Nat}
theorem wC {Q0:Act→World→Prop} {R K:Act→World→Prop} (hK:∀ a w,R a w→K a w) {i:Nat} {a:Act} {w:World} (h:wpList P ops (fun e a'' w''=>e=.normal∧R a'' w'') (pick ops [i]) a w):wpOp P ops (bW Q0) i K a w:=by
 unfold wpOp
 cases ho:ops[i]? with
 |none =>
  simp only [pick,List.filterMap_cons,ho,List.filterMap_nil] at h
  exact hK _ _ h.2
 |some o =>
  simp only [pick,List.filterMap_cons,ho,List.filterMap_nil] at h
  unfold wpList at h
  simp only
  split at h
  ·rename_i hw
   rw [if_pos hw]
   rcases h with h|⟨_,a0,w0,h0⟩
   ·exact .inl (QM (fun a1 w1 h1=>hK _ _ h1.2) (fun e a1 w1 h1=>h1.1) h)
   ·cases h0.1
  ·rename_i hw
   rw [if_neg hw]
   exact hK _ _ h.2
def NI (ops:Array Oper) (f:Nat):List (List Nat × Nat)→List Nat→Array Bool→Bool
 |[],bF,l=>bF.all (fun i=>f != i&&vU ops ops.size f i)&&match bK ops bF l with
  |some l1=>(Region.ready .any ops l1==[f])&&(Region.ready .any ops (l1.setIfInBounds f true)).isEmpty
  |none=>false
 |(seg,i) :: more,bF,l=>seg.all (fun i=>f != i&&vU ops ops.size f i)&&f != i&&match bK ops seg l with
  |some l1=>(Region.ready .any ops l1==[i])&&NI ops f more bF (l1.setIfInBounds i true)
  |none=>false
def vS:List (List Nat × Nat)→List Nat→Nat
 |[],bF=>1+bF.length
 |(seg,_) :: more,bF=>vS more bF+1+seg.length
def Sj (ops:Array Oper) (acts:List (List Nat × Nat)) (bF:List Nat) (f:Nat):Bool :=
 Region.noSelect ops&&(vS acts bF==ops.size)&&NI ops f acts bF (Array.replicate ops.size false)
def qN (P:Program) (ops:Array Oper) (S:World→Prop) (Q:Act→World→Prop) (f:Nat):List (List Nat × Nat)→List Nat→Act→World→Prop
 |[],bF,a,w=>wpQuiet P ops S (fun a'=>wpList P ops (fun e a'' w''=>e=.normal∧Q a'' w'') (pick ops [f]) a' w) (pick ops bF) a
 |(seg,i) :: more,bF,a,w=>wpQuiet P ops S (fun a'=>wpList P ops (fun e a'' w''=>e=.normal∧S w''∧qN P ops S Q f more bF a'' w'') (pick ops [i]) a' w) (pick ops seg) a
theorem Eb {seg:List Nat} {i:Nat} {more:List (List Nat × Nat)} {bF:List Nat} {a:Act} {w:World}
  (h:wpQuiet P ops S (fun a'=>wpList P ops (fun e a'' w''=>e=.normal∧S w''∧qN P ops S Q f more bF a'' w'') (pick ops [i]) a' w) (pick ops seg) a):qN P ops S Q f ((seg,i) :: more) bF a w:=by
 unfold qN;exact h
theorem NJ {bF:List Nat} {a:Act} {w:World} (h:wpQuiet P ops S (fun a'=>wpList P ops (fun e a'' w''=>e=.normal∧Q a'' w'') (pick ops [f]) a' w) (pick ops bF) a):qN P ops S Q f [] bF a w:=by
 unfold qN;exact h
theorem Ec (hsel:Region.noSelect ops=true):∀ (acts:List (List Nat × Nat)) (bF:List Nat) (l:Array Bool) (a:Act) (w:World),l.size=ops.size→Closed ops l→NI ops f acts bF l=true→S w →
  qN P ops S Q f acts bF a w→qy P ops S f Q (vS acts bF) l a w
 |[],bF,l,a,w,hs,hc,hB,hS,h=>by
  unfold NI at hB
  simp only [Bool.and_eq_true] at hB
  obtain ⟨hsg,hB⟩:=hB
  split at hB
  case h_2=>cases hB
  rename_i l1 hq
  simp only [Bool.and_eq_true,beq_iff_eq] at hB
  obtain ⟨hr,he⟩:=hB
  unfold qN at h
  exact qM (P:=P) (S:=S) (Q:=Q) (f:=f) hsel hS bF 1 l l1 a hs hc (fun i hi=>by
   have:=List.all_eq_true.1 hsg i hi
   simpa using this) hq (dA (fun a' h' hs1 hc1=>⟨fun h0=>(by rw [hr] at h0;cases h0),fun j hj=>by
    have hj':=hj
    rw [hr] at hj
    obtain rfl:j=f:=by simpa using hj
    exact wC (fun a2 w2 h2=>⟨.inl (by rw [fB _ _ _ (dW hs1 hj'),if_pos rfl]),by simpa using he,h2⟩) h'⟩) _ _ h)
 |(seg,i) :: more,bF,l,a,w,hs,hc,hB,hS,h=>by
  unfold NI at hB
  simp only [Bool.and_eq_true,bne_iff_ne] at hB
  obtain ⟨⟨hsg,hfi⟩,hB⟩:=hB
  split at hB
  case h_2=>cases hB
  rename_i l1 hq
  simp only [Bool.and_eq_true,beq_iff_eq] at hB
  obtain ⟨hr,hB⟩:=hB
  unfold qN at h
  exact qM (P:=P) (S:=S) (Q:=Q) (f:=f) hsel hS seg (vS more bF+1) l l1 a hs hc (fun i hi=>by
   have:=List.all_eq_true.1 hsg i hi
   simpa using this) hq (dA (fun a' h' hs1 hc1=>⟨fun h0=>(by rw [hr] at h0;cases h0),fun j hj=>by
    have hj':=hj
    rw [hr] at hj
    obtain rfl:j=i:=by simpa using hj
    exact wC (fun a2 w2 h2=>⟨.inr h2.1,Ec hsel more bF _ _ _ (by simpa using hs1) (hc1.set hs1 hj') hB h2.1 h2.2⟩) h'⟩) _ _ h)
theorem Ed {id:Nat} {l:List Oper} {a:Act} {w:World} {Q:Exit→Act→World→Prop} (S:World→Prop) (acts:List (List Nat × Nat)) (bF:List Nat) (f:Nat) (hm:P.follows .mixedOrders=true) (hB:Sj l.toArray acts bF f=true) (hS:S w.drew)
  (h:qN P l.toArray S (Q .normal) f acts bF a w.drew):(Code.region id l.toArray true).wp P Q a w:=by
 simp only [Sj,Bool.and_eq_true,beq_iff_eq] at hB
 obtain ⟨⟨hsel,hn⟩,hB⟩:=hB
 refine Code.wp_mono (Q:=bW (Q .normal)) (fun e a w h=>by obtain ⟨rfl,h⟩:=h;exact h) (wp_region_any hm ?_)
 have:=Ea _ _ _ _ (Ec hsel acts bF (Array.replicate l.toArray.size false) a _ (by simp) (fun m o hm=>absurd hm (by rw [Array.getD_eq_getD_getElem?,Array.getElem?_replicate];split<;>simp)) hB hS h)
 rw [hn] at this
 exact this
end
end Go.Proofs.YtaaokejjmdbfaaaDoor
