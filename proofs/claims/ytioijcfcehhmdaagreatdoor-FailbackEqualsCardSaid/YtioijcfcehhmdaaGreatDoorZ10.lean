/-
  Part 10 of the texts that the statement stands on.
-/
import Derived.Test.YtioijcfcehhmdaaGreatDoorZ9
set_option linter.all false
open Nat renaming beq → Z1, le_refl → ze, le_trans → zr, zero_le → ZaM, shiftRight_eq_div_pow → Za0, mod_eq_of_lt → Zb4, lt_of_not_le → ZcF, and_le_left → ZcV
open List renaming length_map → Z2, length_cons → za, length_nil → zd, getElem_mem → zR, length_take → Zac, map_nil → Zai, take_succ_eq_append_getElem → Zao, range → Zar, take_length → ZaI, map_append → ZaK, take_zero → ZaQ, mem_range → ZaS, mem_iff_getElem → Za9, filter_congr → Zbo
open Bool renaming true_and → zm, and_self → zt
open Int renaming lt_irrefl → Zap, toNat_natCast → ZaG
open BitVec renaming ofInt → Zau, toNat_ofNat → ZbT, eq_of_toNat_eq → ZbW, toNat_ofInt → Zc7, ofNat → ZdS, toNat_and → Zd5
namespace Go.Proofs.YtioijcfcehhmdaaGreatDoor.V
theorem Nv (n s:Nat)(h:s≤64){t:Int}(ht:t=(s:Int)):(n:Int).fdiv (2 ^ (min t.toNat IntKind.u64.bits))=((n >>> s:Nat):Int):=by
 subst ht
 rw [Za0,ZaG]
 show (n:Int).fdiv (2 ^ (min s 64))=_
 have h2:(0:Int)≤2 ^ s:=by have:=Int.natCast_nonneg (2 ^ s);push_cast at this;exact this
 rw [Nat.min_eq_left h,Int.fdiv_eq_ediv_of_nonneg _ h2]
 push_cast
 rfl
theorem Vm {n c:Nat}(h:n<2 ^ 64)(hc:c<2 ^ 64){t:Int}(ht:t=(c:Int)):IntKind.u64.wrap ((Zau IntKind.u64.bits (n:Int) &&& Zau IntKind.u64.bits t).toNat:Int)=((n &&& c:Nat):Int):=by
 subst ht
 show IntKind.u64.wrap ((Zau 64 (n:Int) &&& Zau 64 (c:Int)).toNat:Int)=_
 have e:∀ x:Nat,x<2 ^ 64→Zau 64 (x:Int)=ZdS 64 x:=fun x hx=>by
  apply ZbW
  rw [Zc7,ZbT]
  omega
 rw [e n h,e c hc,Jk,Zd5,ZbT,ZbT,Zb4 h,Zb4 hc]
 have:n &&& c≤n:=ZcV
 omega
theorem Nw {a b:Nat}(h:a+b<2 ^ 64):IntKind.u64.wrap ((a:Int)+(b:Int))=((a+b:Nat):Int):=by
 rw [Jk]
 omega
theorem anv {n:Nat}(h:n<1000000):IntKind.i64.wrap ((Zau IntKind.i64.bits (n:Int) &&& Zau IntKind.i64.bits 127).toNat:Int)=((n % 128:Nat):Int):=by
 show IntKind.i64.wrap ((Zau 64 (n:Int) &&& Zau 64 127).toNat:Int)=_
 have e:∀ x:Nat,x<2 ^ 64→Zau 64 (x:Int)=ZdS 64 x:=fun x hx=>by
  apply ZbW
  rw [Zc7,ZbT]
  omega
 have e2:Zau 64 127=ZdS 64 127:=rfl
 rw [e n (by omega),e2,Zd5,ZbT,ZbT,Zb4 (show n<2 ^ 64 by omega),Zb4 (show 127<2 ^ 64 by omega),show (127:Nat)=2 ^ 7 - 1 from rfl,Nat.and_two_pow_sub_one_eq_mod]
 exact bn (by omega)
theorem agF (s m x:Nat):oA s m x≤2*x:=by
 unfold oA
 have h1:x >>> s &&& m≤x >>> s:=ZcV
 have h2:x &&& m≤x:=ZcV
 have h3:x >>> s≤x:=by rw [Za0];exact Nat.div_le_self _ _
 omega
theorem ap6 {x:Nat}(h:x<16777216):cal env 91 [.int .u64 (x:Int)]=some [(.int .i64 (ones 24 x:Nat),false)]:=by
 have a1:=agF 1 6148914691236517205 x
 have a2:=agF 2 3689348814741910323 (oA 1 6148914691236517205 x)
 have e3:=ap5 h
 have e24:=ajL h
 have p8:=Dh 8 (x / 65536)
 have q8:=Dh 8 (x / 256 % 256)
 have r8:=Dh 8 (x % 256)
 have S1:=fun n=>Nv n 1 (by decide) (t:=1) rfl
 have S2:=fun n=>Nv n 2 (by decide) (t:=2) rfl
 have S4:=fun n=>Nv n 4 (by decide) (t:=4) rfl
 have S8:=fun n=>Nv n 8 (by decide) (t:=8) rfl
 have S16:=fun n=>Nv n 16 (by decide) (t:=16) rfl
 have S32:=fun n=>Nv n 32 (by decide) (t:=32) rfl
 have sle:∀ n s:Nat,n >>> s≤n:=fun n s=>by rw [Za0];exact Nat.div_le_self _ _
 have N:∀ n:Nat,((n:Int)<0)=False:=fun n=>eq_false (by omega)
 have N1:((1:Int)<0)=False:=eq_false (by decide)
 have N2:((2:Int)<0)=False:=eq_false (by decide)
 have N4:((4:Int)<0)=False:=eq_false (by decide)
 have N8:((8:Int)<0)=False:=eq_false (by decide)
 have N16:((16:Int)<0)=False:=eq_false (by decide)
 have N32:((32:Int)<0)=False:=eq_false (by decide)
 have y1:=agF 1 6148914691236517205 x
 have A1:IntKind.u64.wrap ((Zau IntKind.u64.bits ((x >>> 1:Nat):Int) &&& Zau IntKind.u64.bits 6148914691236517205).toNat:Int)=((x >>> 1 &&& 6148914691236517205:Nat):Int):=Vm (by have:=sle x 1;omega) (by decide) rfl
 have A2:IntKind.u64.wrap ((Zau IntKind.u64.bits (x:Int) &&& Zau IntKind.u64.bits 6148914691236517205).toNat:Int)=((x &&& 6148914691236517205:Nat):Int):=Vm (by omega) (by decide) rfl
 have A3:IntKind.u64.wrap (((x >>> 1 &&& 6148914691236517205:Nat):Int)+((x &&& 6148914691236517205:Nat):Int))=((oA 1 6148914691236517205 x:Nat):Int):=Nw (by unfold oA at a1;omega)
 generalize hz1:oA 1 6148914691236517205 x=z1 at *
 have B1:IntKind.u64.wrap ((Zau IntKind.u64.bits ((z1 >>> 2:Nat):Int) &&& Zau IntKind.u64.bits 3689348814741910323).toNat:Int)=((z1 >>> 2 &&& 3689348814741910323:Nat):Int):=Vm (by have:=sle z1 2;omega) (by decide) rfl
 have B2:IntKind.u64.wrap ((Zau IntKind.u64.bits (z1:Int) &&& Zau IntKind.u64.bits 3689348814741910323).toNat:Int)=((z1 &&& 3689348814741910323:Nat):Int):=Vm (by omega) (by decide) rfl
 have B3:IntKind.u64.wrap (((z1 >>> 2 &&& 3689348814741910323:Nat):Int)+((z1 &&& 3689348814741910323:Nat):Int))=((oA 2 3689348814741910323 z1:Nat):Int):=Nw (by unfold oA at a2;omega)
 generalize hz2:oA 2 3689348814741910323 z1=z2 at *
 have C1:IntKind.u64.wrap (((z2 >>> 4:Nat):Int)+(z2:Int))=((z2 >>> 4+z2:Nat):Int):=Nw (by have:=sle z2 4;omega)
 have C2:IntKind.u64.wrap ((Zau IntKind.u64.bits ((z2 >>> 4+z2:Nat):Int) &&& Zau IntKind.u64.bits 1085102592571150095).toNat:Int)=((z2 >>> 4+z2 &&& 1085102592571150095:Nat):Int):=Vm (by have:=sle z2 4;omega) (by decide) rfl
 have hT:oT 6148914691236517205 3689348814741910323 1085102592571150095 x=z2 >>> 4+z2 &&& 1085102592571150095:=by
  unfold oT oC;rw [hz1,hz2]
 rw [hT] at e3
 generalize z2 >>> 4+z2 &&& 1085102592571150095=z3 at *
 have D1:IntKind.u64.wrap ((z3:Int)+((z3 >>> 8:Nat):Int))=((z3+z3 >>> 8:Nat):Int):=Nw (by have:=sle z3 8;omega)
 generalize hz4:z3+z3 >>> 8=z4 at *
 have l4:z4<10000000:=by have:=sle z3 8;omega
 have D2:IntKind.u64.wrap ((z4:Int)+((z4 >>> 16:Nat):Int))=((z4+z4 >>> 16:Nat):Int):=Nw (by have:=sle z4 16;omega)
 generalize hz5:z4+z4 >>> 16=z5 at *
 have l5:z5<20000000:=by have:=sle z4 16;omega
 have D3:IntKind.u64.wrap ((z5:Int)+((z5 >>> 32:Nat):Int))=((z5+z5 >>> 32:Nat):Int):=Nw (by have:=sle z5 32;omega)
 generalize hz6:z5+z5 >>> 32=z6 at *
 obtain ⟨f1,f2⟩:=anu p8 q8 r8 (y4:=z4) (y5:=z5) (y6:=z6) (by rw [← hz4,e3,Za0]) (by rw [← hz5,Za0]) (by rw [← hz6,Za0])
 have W6:IntKind.i64.wrap (z6:Int)=(z6:Int):=bn (by omega)
 have E1:=anv f1
 rw [f2,← e24] at E1
 rw [ah ao1 rfl];simp only [aeu];simp only [start,aJ,aT,aH,aS,aB,aC,aI,aQ,Nat.reduceAdd,Nat.reduceSub]
 simp only [S1,S2,S4,S8,S16,S32,N,N1,N2,N4,N8,N16,N32,A1,A2,A3,B1,B2,B3,C1,C2,D1,D2,D3,W6,E1,bg,reduceCtorEq,Nat.reduceEqDiff,Nat.reduceAdd,Nat.reduceLT,Nat.reduceLeDiff,Z1]
def ku:List Wd→Nat
 |[]=>0
 |w::l=>ones 24 w.toNat+ku l
theorem Ny:∀ a b:List Wd,ku (a++b)=ku a+ku b
 |[],b=>by simp [ku]
 |e::a,b=>by simp only [List.cons_append,ku,Ny a b];omega
theorem Yg {l:List Wd}{i:Nat}(h:i<l.length):ku (l.take (i+1))=ku (l.take i)+ones 24 l[i].toNat:=by
 rw [Zao h,Ny];simp [ku]
theorem Di:∀ l:List Wd,ku l≤24*l.length
 |[]=>by simp [ku]
 |w::l=>by
  have h1:=Dh 24 w.toNat
  have h2:=Di l
  simp only [ku,za]
  omega
theorem anw {b:Bm}(hw:∀ w∈b.ws,w.toNat<16777216)(hl:b.ws.length≤64){st:St}(h:st.head [3,10,11,12] st.boxes.length=some ⟨sl 22 [(3,.pv (.int .i64 (ku (b.ws.take ((0:Nat))):Nat))),(10,.pv (.list 1 (b.ws.map eW))),(11,.pv (.int .i64 b.ws.length)),(12,.pv (.int .i64 (0:Nat)))],[⟨false,[.pv (.int .i64 b.size),.pv (.list 1 (b.ws.map eW))]⟩],[],none⟩) :
  den env Pg st=some (.normal,⟨sl 22 [(2,.any),(3,.pv (.int .i64 (ku b.ws:Nat)))],[⟨false,[.pv (.int .i64 b.size),.pv (.list 1 (b.ws.map eW))]⟩],[],none⟩):=by
 unfold Pg
 refine bM (env:=env) (nb:=1) (b.ws.length) (fun i=>⟨sl 22 [(3,.pv (.int .i64 (ku (b.ws.take (i)):Nat))),(10,.pv (.list 1 (b.ws.map eW))),(11,.pv (.int .i64 b.ws.length)),(12,.pv (.int .i64 i))],[⟨false,[.pv (.int .i64 b.size),.pv (.list 1 (b.ws.map eW))]⟩],[],none⟩) (fun i=>some (.normal,⟨sl 22 [(2,.any),(3,.pv (.int .i64 (ku b.ws:Nat)))],[⟨false,[.pv (.int .i64 b.size),.pv (.list 1 (b.ws.map eW))]⟩],[],none⟩)) h (fun _=>rfl) (fun _=>by simp only [aG,bJ,Nat.reduceMul,Nat.reduceBEq,Nat.reduceLT,Nat.reduceLeDiff,Nat.reduceAdd,decide_true,zt,zm]) ?_ ?_
 ·intro i rb hi ih
  have hi1:=bF hi (zr hl (by decide))
  have F1:((i:Int)<(b.ws.length:Int))=True:=eq_true (by omega)
  have hx:(b.ws.map eW)[i]?=some (.int .u64 (b.ws[i].toNat:Int)):=by rw [List.getElem?_map,List.getElem?_eq_getElem hi];rfl
  have e1:=ap6 (hw _ (zR hi))
  have b1:=Di (b.ws.take i)
  have b2:=Dh 24 b.ws[i].toNat
  have b3:(b.ws.take i).length≤b.ws.length:=by rw [Zac];omega
  have W:IntKind.i64.wrap ((ku (b.ws.take i):Nat)+(ones 24 b.ws[i].toNat:Nat):Int)=((ku (b.ws.take (i+1)):Nat):Int):=by rw [Yg hi,bn (by omega)];omega
  simp only [O9,F1,hx,W,e1,au hi,Z2,aF,Nat.reduceMul,Nat.reduceBEq,Nat.reduceLT,Nat.reduceLeDiff,reduceCtorEq,Nat.reduceEqDiff,Nat.reduceAdd,Z1]
  rw [ih _ (by simp only [hi1,aF,Nat.reduceMul,Nat.reduceBEq,Nat.reduceLT,Nat.reduceLeDiff,reduceCtorEq,Nat.reduceEqDiff,Nat.reduceAdd,Z1]<;>rfl)]
 ·intro rb
  rw [ZaI]
  simp only [O9,Zap,Z2,aF,Nat.reduceMul,Nat.reduceBEq,Nat.reduceLT,Nat.reduceLeDiff,reduceCtorEq,Nat.reduceEqDiff,Nat.reduceAdd,Z1]
theorem ap7 {b:Bm}(hb:okB b=true)(hw:∀ w∈b.ws,w.toNat<16777216):cal env 41 [jq b]=some [(.int .i64 (ku b.ws:Nat),false)]:=by
 have e1:=MR (b:=b)
 rw [Ah hb] at e1
 have Z0:((0:Int) != 0)=false:=rfl
 have P:∀ x y:PV,part [x,y] 0 (some 2)=some (.agg [x,y]):=fun _ _=>rfl
 unfold jq at e1 ⊢
 rw [ah aoK rfl];simp only [aeb,aG,Nat.reduceBEq,Nat.reduceLeDiff,Nat.reduceAdd,za,zd]
 simp only [e1,Z0,P,Z2,aF,Nat.reduceMul,Nat.reduceBEq,Nat.reduceLT,Nat.reduceLeDiff,reduceCtorEq,Nat.reduceEqDiff,Nat.reduceAdd,Z1]
 rw [anw (b:=b) hw (jM hb).2.2.1 (by simp only [ZaQ,ku];simp only [aG,bJ,Nat.reduceMul,Nat.reduceBEq,Nat.reduceLT,Nat.reduceLeDiff,Nat.reduceAdd,decide_true,zt,zm]<;>rfl)]
 simp only [aF,Nat.reduceMul,Nat.reduceBEq,Nat.reduceLT,Nat.reduceLeDiff,reduceCtorEq,Nat.reduceEqDiff,Nat.reduceAdd,Z1]
theorem anx {b:Bm}(hb:okB b=true)(h1:1≤b.size)(h24:b.size≤24):(∀ w∈b.ws,w.toNat<16777216)∧ku b.ws=((Zar b.size.toNat).filter (bit b.ws)).length:=by
 obtain ⟨-,-,-,k1,k2⟩:=jM hb
 obtain ⟨-,hz⟩:=kP.1 hb
 match hws:b.ws,(by omega:b.ws.length=1) with
 |[w],_ =>
  rw [hws] at hz
  have hbit:∀ i,i<64→bit [w] i=w.toNat.testBit i:=fun i hi=>by
   have:=P8 (ws:=[w]) (k:=0) (by simp) hi
   rw [Nat.mul_zero,Nat.zero_add] at this
   rw [this,BitVec.testBit_toNat];rfl
  have hlt:w.toNat<16777216:=by
   refine ZcF fun hge=>?_
   have hg:(2:Nat) ^ 24≤w.toNat:=hge
   obtain ⟨i,hi,ht⟩:=Nat.exists_ge_and_testBit_of_ge_two_pow hg
   have hi64:i<64:=by
    refine ZcF fun hc=>?_
    rw [Nat.testBit_lt_two_pow (Nat.lt_of_lt_of_le w.isLt (Nat.pow_le_pow_right (by decide) hc))] at ht
    cases ht
   rw [← hbit i hi64,hz i (by omega)] at ht
   cases ht
  refine ⟨fun x hx=>by rw [List.mem_singleton.1 hx];exact hlt,?_⟩
  show ones 24 w.toNat+0=_
  have e24:24=b.size.toNat+(24 - b.size.toNat):=by omega
  rw [Nat.add_zero]
  conv=>lhs;rw [e24,J6]
  have z:ones (24 - b.size.toNat) (w.toNat >>> b.size.toNat)=0:=by
   unfold ones
   rw [List.length_eq_zero_iff,List.filter_eq_nil_iff]
   intro i hi
   have hi:=ZaS.1 hi
   rw [Nat.testBit_shiftRight,← hbit _ (by omega),hz _ (by omega)]
   decide
  rw [z,Nat.add_zero]
  unfold ones
  congr 1
  apply Zbo
  intro i hi
  have hi:=ZaS.1 hi
  exact (hbit i (by omega)).symm
def Dl (l:List Bm):Int:=(l.map fun b=>(ku b.ws:Int)).sum
theorem agG {l:List Bm}{i:Nat}(h:i<l.length):Dl (l.take (i+1))=Dl (l.take i)+(ku l[i].ws:Int):=by
 unfold Dl
 rw [Zao h,ZaK,List.sum_append]
 simp
theorem J7:∀ {l:List Bm},(∀ b∈l,b.ws.length≤64)→0≤Dl l∧Dl l≤1536*(l.length:Int)
 |[],_=>by simp [Dl]
 |b::l,h=>by
  have h1:=Di b.ws
  have h2:=h b (by simp)
  have h3:=J7 (l:=l) fun x hx=>h x (by simp [hx])
  unfold Dl at h3 ⊢
  simp only [List.map_cons,List.sum_cons,za]
  omega
theorem agH:∀ l:List (List cZ),cL l=(l.map fun x=>jB (zi x)).sum
 |[]=>rfl
 |x::l=>by
  unfold cL
  rw [agH l]
  simp
def GL (x:iT):Nat→Int
 |0=>Dl (xB x 0)
 |i+1=>GL x i+Dl (xB x (i+1))
def fqY (x:iT)(i:Nat):Ns:=⟨(jO i).ng,10+(i:Int),(i:Int),[],Ep (rC x i)⟩
def Vy (x:iT)(k:Nat):List Ns:=(Zar k).map (fqY x)
theorem J8 (x:iT)(k:Nat):Vy x (k+1)=Vy x k++[fqY x k]:=by
 unfold Vy;rw [List.range_succ,ZaK];rfl
theorem Zl (x:iT)(k:Nat):(Vy x k).length=k:=by unfold Vy;simp
section
variable {x:iT}(h:OkQ x)
include h
theorem ap9 {i:Nat}(hi:i≤x.rs.length){v:Nat}(hv:v<x.im.length):(xB x i).length=x.im.length∧(xB x i).getD v ⟨0,[]⟩=mB x.im (zL x i) v∧(∀ w∈(mB x.im (zL x i) v).ws,w.toNat<16777216)∧(mB x.im (zL x i) v).ws.length≤64∧okB (mB x.im (zL x i) v)=true∧(ku (mB x.im (zL x i) v).ws:Int)=jB (ext (mM (o9 v (zL x i))) (x.im.getD v []).length):=by
 have hl:(xB x i).length=x.im.length:=eY _ _
 have e:(xB x i).getD v ⟨0,[]⟩=mB x.im (zL x i) v:=by rw [getD_lt (by rw [hl];exact hv)];exact qZ _
 obtain ⟨_,k2,k3,k4⟩:=vI (AB h hi) (lT h.r) v
 have h24:=oD h.r.v24 v
 have h1:1≤(x.im.getD v []).length:=by
  have h0:vk (bG x.im)=0:=qX h.r.eo
  have:=(yH h0).2 _ (zR hv)
  rw [getD_lt hv]
  exact List.length_pos_iff.2 this
 obtain ⟨c1,c2⟩:=anx k2 (by omega) (by omega)
 refine ⟨hl,e,c1,(jM k2).2.2.1,k2,?_⟩
 rw [c2,k3,ZaG,CO]
 congr 2
 exact Zbo fun s hs=>k4 s (ZaS.1 hs)
theorem GN {i:Nat}(hi:i≤x.rs.length):∀ b∈xB x i,okB b=true∧(∀ w∈b.ws,w.toNat<16777216)∧b.ws.length≤64:=fun b hb=>by
 obtain ⟨v,hv,rfl⟩:=Za9.1 hb
 have hl:(xB x i).length=x.im.length:=eY _ _
 obtain ⟨-,g2,g3,g4,g5,-⟩:=ap9 h hi (v:=v) (by omega)
 rw [getD_lt hv] at g2
 rw [g2]
 exact ⟨g5,g3,g4⟩
theorem agI {i:Nat}(hi:i≤x.rs.length):Dl (xB x i)=((Zar x.im.length).map fun v=>jB (ext (mM (o9 v (zL x i))) (x.im.getD v []).length)).sum:=by
 unfold Dl
 have hl:(xB x i).length=x.im.length:=eY _ _
 rw [agB _ ⟨0,[]⟩,hl]
 refine Ew fun v hv=>?_
 obtain ⟨-,g2,-,-,-,g6⟩:=ap9 h hi (ZaS.1 hv)
 rw [g2,g6]
theorem Zm {i:Nat}(hi:i≤x.rs.length):jr (Ep (rC x i))=Dl (xB x i):=by
 have hp:=J5 h hi
 have hz:=qw h i hi
 have hlB:=Yd h hi
 have hl:(xB x i).length=x.im.length:=eY _ _
 have hv4:∀ v∈(rC x i).img,v.length≤4096:=fun v hv=>by
  obtain ⟨j,hj,rfl⟩:=Za9.1 hv
  have hj:j<(oG x i).length:=hj
  have g:=(gV hz j).1
  have e:(oG x i).getD j []=(oG x i)[j]:=getD_lt hj
  have:=oD (lT h.r) j
  show (oG x i)[j].length≤4096
  rw [← e,g];exact this
 rw [agI h hi]
 unfold Ep GH
 rw [Zi (JW hp hv4) _ (ze _),pJ]
 have e0:(rC x i).dirty.length=x.im.length:=hl
 rw [e0]
 refine Ew fun v hv=>?_
 have hv:=ZaS.1 hv
 have hd:v<(rC x i).dirty.length:=by rw [e0];exact hv
 have hj:v<(rC x i).img.length:=by show v<(oG x i).length;omega
 obtain ⟨_,k2,k3,k4⟩:=vI (AB h hi) (lT h.r) v
 have eD:(rC x i).dirty[v]=mB x.im (zL x i) v:=qZ (im:=x.im) (l:=zL x i) hd
 have eL:(rC x i).img[v].length=(x.im.getD v []).length:=by
  have g:=(gV hz v).1
  rw [← g]
  have e:(oG x i).getD v []=(oG x i)[v]:=getD_lt hj
  rw [e];rfl
 rw [getD_lt (by rw [pJ];exact hd),JV hd,GI hp hd hj,eL,eD]
 congr 1
 exact rH fun s hs=>k4 s hs
theorem aqa:cL (qo (dF x) (iF x) 3)=Dl (xB x 0):=by
 rw [abR h.r,agH,agB _ [],lY,agI h (ZaM _)]
 refine Ew fun v hv=>?_
 have hv:=ZaS.1 hv
 have e1:=Zc h.r hv
 rw [getD_lt (by rw [lY];exact hv),e1]
 have e2:=JL (AB h (ZaM _)) (lT h.r) v
 show jB (zi (zi (o9 v (zL x 0))))=_
 rw [e2,CZ (oD (lT h.r) v)]
theorem QN:∀ i,i≤x.rs.length→GL x 0≤GL x i∧GL x i≤13824*((i:Int)+1)
 |0,hi=>by
  have h1:=J7 (l:=xB x 0) fun b hb=>(GN h hi b hb).2.2
  have hl:(xB x 0).length=x.im.length:=eY _ _
  have:=h.r.im9
  refine ⟨Int.le_refl _,?_⟩
  show Dl (xB x 0)≤_
  omega
 |i+1,hi=>by
  obtain ⟨a1,a2⟩:=QN i (by omega)
  have h1:=J7 (l:=xB x (i+1)) fun b hb=>(GN h hi b hb).2.2
  have hl:(xB x (i+1)).length=x.im.length:=eY _ _
  have:=h.r.im9
  show GL x 0≤GL x i+Dl (xB x (i+1))∧GL x i+Dl (xB x (i+1))≤_
  omega
theorem aqb:0≤GL x 0:=(J7 (l:=xB x 0) fun b hb=>(GN h (ZaM _) b hb).2.2).1
theorem Vo:∀ k,k≤x.rs.length→jv (Vy x (k+1))=GL x k
 |0,hk=>by
  rw [J8,zu]
  show jv []+jv [fqY x 0]=Dl (xB x 0)
  rw [← Zm h hk]
  simp [jv,fqY]
 |k+1,hk=>by
  rw [J8,zu,Vo k (by omega)]
  show GL x k+jv [fqY x (k+1)]=GL x k+Dl (xB x (k+1))
  rw [← Zm h hk]
  simp [jv,fqY]
theorem agJ {k:Nat}(hk:k≤x.rs.length):sL (differ (dF x).img (iF x).img)≤GL x k:=by
 have h1:=(QN h k hk).1
 have h2:GL x 0=cL (Qe (dF x) (iF x) x.im.length):=by
  show Dl (xB x 0)=_
  rw [← aqa h,abR h.r]
 have h3:=ajv h.r
 rw [agm h.r]
 omega
theorem anz {k:Nat}(hk:k≤x.rs.length+1):okC (Vy x k):=by
 refine ⟨by rw [Zl];have:=h.n8;omega,fun c hc=>?_⟩
 obtain ⟨i,hi,rfl⟩:=List.mem_map.1 hc
 have hi:=ZaS.1 hi
 have hir:i≤x.rs.length:=by omega
 have hz:=qw h i hir
 obtain ⟨g1,g2⟩:=kC (a:=oG x i) (b:=x.im) hz
 have h9:=h.r.im9
 have hv:∀ v∈oG x i,v.length≤24:=fun v hv=>by
  obtain ⟨j,hj,rfl⟩:=Za9.1 hv
  rw [g2 j hj (by omega)]
  exact h.r.v24 _ (zR _)
 refine ⟨?_,fun w hw=>?_⟩
 ·have:=X8 (J5 h hir) (show (oG x i).length≤9 by omega) hv
  show (Ep (rC x i)).length≤10000
  omega
 ·have hw:w∈GH (rC x i).img (Nr (rC x i)):=hw
  obtain ⟨v,hv',e,he,rfl⟩:=C9 hw
  obtain ⟨q1,q2,q3⟩:=Dc (JW (J5 h hir) fun v hv'=>zr (hv v hv') (by decide)) hv' he
  have q4:=wR q1 q2 q3
  have q5:((oG x i).getD v []).length≤24:=oD hv v
  have q3:e.start+e.count≤(((oG x i).getD v []).length:Int):=q3
  omega
theorem J9 {i:Nat}(hi:i≤x.rs.length):(oG x i).length≤9∧(∀ v∈oG x i,v.length≤24)∧(Yc x i).length≤9∧(∀ v∈Yc x i,v.length≤24):=by
 obtain ⟨_,a2,a3⟩:=Eu h.r (qw h i hi)
 obtain ⟨_,b2,b3⟩:=Eu h.r (QL h i hi)
 exact ⟨a3,a2,b3,b2⟩
theorem GR {i:Nat}(hi:i≤x.rs.length):Cb (rC x i):=by
 refine ⟨by show 2≤lim;decide,?_,?_⟩
 ·show (jP x.im (zL x i)).length≤lim
  rw [eY];have:=h.r.im9;unfold lim;omega
 ·show (oG x i).length≤lim
  have:=(J9 h hi).1;unfold lim;omega
theorem agK {im:fG}(hz:bG im=bG x.im){i:Nat}(hi:i≤x.rs.length):sF [{ dF x with img:=im },rC x i]=0:=by
 have h1:gU { dF x with img:=im }=0:=ajH h.r.eo (lT h.r) (by show (0:Int)≤0∧(0:Int)≤1073741824;decide) (show qJ [⟨1,1,7⟩]=true by decide) hz
 show (if gU { dF x with img:=im }=0 then (if gU (rC x i)=0 then 0 else gU (rC x i)) else _)=(0:Int)
 rw [if_pos h1,if_pos (J5 h hi)]
theorem agL {im:fG}(hz:bG im=bG x.im){i:Nat}(hi:i≤x.rs.length){k:Nat}(h1:1≤k)(hk:k≤1000):qE (jO k) { dF x with img:=im } (rC x i)=if im=oG x i then 0 else 22:=by
 unfold qE
 rw [if_pos (agC hk),if_pos (agK h hz hi),if_pos (show ({ dF x with img:=im }:Pt).site=(jO k).to from rfl),if_pos (show (rC x i).site=(jO k).uj from rfl),if_pos (show (jO k).done=false from rfl),if_pos (show 0<(jO k).step by show 0<(k:Int);omega)]
 rfl
theorem agM {im:fG}(hz:bG im=bG x.im){i:Nat}(hi:i≤x.rs.length){k:Nat}(h1:1≤k)(hk:k≤1000):qE { jO k with done:=true } { dF x with img:=im } (rC x i)=12:=by
 have hf:jZ { jO k with done:=true }=0:=by
  have:=agC hk
  unfold jZ at this ⊢
  have hc:0≤(jO k).ng∧(jO k).ng≤1073741824:=by unfold jO;simp only;split<;>omega
  rw [if_pos (show ({ jO k with done:=true }:sS).kind=3 from rfl),if_pos (show gK ({ jO k with done:=true }:sS).uj=true from (by decide:gK 1=true)),if_pos (show gK ({ jO k with done:=true }:sS).to=true from (by decide:gK 0=true)),if_pos (show ({ jO k with done:=true }:sS).uj≠({ jO k with done:=true }:sS).to from (by decide:(1:Int)≠0)),if_pos (show 0≤({ jO k with done:=true }:sS).step from (by omega:(0:Int)≤(k:Int))),if_pos (show ({ jO k with done:=true }:sS).step≤4096 from (by omega:(k:Int)≤4096)),if_pos (show 1≤({ jO k with done:=true }:sS).ep from (by decide:(1:Int)≤3)),if_pos (show ({ jO k with done:=true }:sS).ep≤1073741824 from (by decide:(3:Int)≤1073741824)),if_pos (show 0≤({ jO k with done:=true }:sS).ng from hc.1),if_pos (show ({ jO k with done:=true }:sS).ng≤1073741824 from hc.2),if_pos (show ({ jO k with done:=true }:sS).failed=false from rfl),if_pos (show ({ jO k with done:=true }:sS).done=true from rfl),if_pos (show 1≤({ jO k with done:=true }:sS).step from (by omega:(1:Int)≤(k:Int)))]
 unfold qE
 rw [if_pos hf,if_pos (agK h hz hi),if_pos (show ({ dF x with img:=im }:Pt).site=({ jO k with done:=true }:sS).to from rfl),if_pos (show (rC x i).site=({ jO k with done:=true }:sS).uj from rfl),if_neg (show ¬ ({ jO k with done:=true }:sS).done=false from (by decide:¬ true=false))]
theorem agN {i:Nat}(hi:i≤x.rs.length):QE (oG x i) (Ep (rC x i)):=Zd (JW (J5 h hi) fun v hv=>zr ((J9 h hi).2.1 v hv) (by decide))
theorem anA {i:Nat}(hi:i≤x.rs.length):okW (Ep (rC x i)):=fun w hw=>by
 obtain ⟨q1,q2,q3,q4⟩:=QF ((agN h hi).1 w hw)
 have h9:=(J9 h hi).1
 have h24:((oG x i).getD w.volume.toNat []).length≤24:=oD (J9 h hi).2.1 _
 simp only [qR,Bool.and_eq_true,decide_eq_true_eq]
 omega
end
theorem anB {k:Nat}(hk:k≤1000):FW (jO k).ng (10+(k:Int)) (k:Int) []=0:=by
 unfold FW jO
 rw [if_neg (by simp only;split<;>omega),if_neg (by omega)]
 rfl
def agO (c:Ns):List BV:=[.pv (.int .i64 c.base),.pv (.int .i64 c.num),.pv (.int .i64 c.time),.pv (.list 1 (c.pos.map eI)),.pv (.list 3 (c.ws.map jw))]
theorem Dj (c:Ns):agO c=[.pv (.int .i64 c.base),.pv (.int .i64 c.num),.pv (.int .i64 c.time),.pv (.list 1 (c.pos.map eI)),.pv (.list 3 (c.ws.map jw))]:=rfl
theorem Ko (a b c d e:PV):part [a,b,c,d,e] 0 (some 5)=some (.agg [a,b,c,d,e]):=rfl
theorem agP {a b:fG}(h:bG a=bG b)(w:fK):kN a w=kN b w:=by
 obtain ⟨h1,-⟩:=kC (a:=a) (b:=b) h
 have h2:=(gV h w.volume.toNat).1
 unfold kN
 rw [h1,h2]
theorem ajM {a b:fG}(h:bG a=bG b){l:List fK}(hs:QE a l):QE b l:=⟨fun w hw=>by rw [← agP h];exact hs.1 w hw,hs.2⟩
theorem anC {im:fG}{c:Ns}(hl:im.length≤1000){st:St}(h:st.head [0,3,7,19,20,21,29] st.boxes.length=some ⟨sl 47 [(0,.pv (.list 1 (im.map aX))),(3,.aO 0 0),(7,.row 1 (((aj im).take ((0:Nat))).map eI)),(19,.pv (.list 1 (im.map aX))),(20,.pv (.int .i64 im.length)),(21,.pv (.int .i64 (0:Nat))),(29,.any)],[⟨false,agO c⟩],[],none⟩) :
  den env O1 st=some (.normal,⟨sl 47 [(0,.pv (.list 1 (im.map aX))),(3,.aO 0 0),(4,.any),(5,.any),(7,.row 1 ((aj im).map eI))],[⟨false,agO c⟩],[],none⟩):=by
 unfold O1
 refine bM (env:=env) (nb:=1) (im.length) (fun i=>⟨sl 47 [(0,.pv (.list 1 (im.map aX))),(3,.aO 0 0),(7,.row 1 (((aj im).take (i)).map eI)),(19,.pv (.list 1 (im.map aX))),(20,.pv (.int .i64 im.length)),(21,.pv (.int .i64 i)),(29,.any)],[⟨false,agO c⟩],[],none⟩) (fun i=>some (.normal,⟨sl 47 [(0,.pv (.list 1 (im.map aX))),(3,.aO 0 0),(4,.any),(5,.any),(7,.row 1 ((aj im).map eI))],[⟨false,agO c⟩],[],none⟩)) h (fun _=>rfl) (fun _=>by simp only [aG,bJ,Nat.reduceMul,Nat.reduceBEq,Nat.reduceLT,Nat.reduceLeDiff,Nat.reduceAdd,decide_true,zt,zm]) ?_ ?_
 ·intro i rb hi ih
  have hi1:=bF hi (by unfold lim;omega)
  have F1:((i:Int)<(im.length:Int))=True:=eq_true (by omega)
  have hx:=U6 hi
  have hil:i<(aj im).length:=by unfold aj;rw [Z2];exact hi
  have F5:(((aj im).take i).length+1≤lim)=True:=eq_true (by rw [Zac];unfold lim;omega)
  have hs:((aj im).take (i+1)).map eI=((aj im).take i).map eI++[.int .i64 (im[i].length:Int)]:=by
   rw [Zao hil,ZaK]
   congr 1
   simp [aj,eI]
  rw [hs] at ih
  generalize (aj im).take i=Z at *
  simp only [OZ,F1,F5,hx,Dj,au hi,Z2,aF,Nat.reduceMul,Nat.reduceBEq,Nat.reduceLT,Nat.reduceLeDiff,reduceCtorEq,Nat.reduceEqDiff,Nat.reduceAdd,Z1]
  rw [ih _ (by simp only [hi1,Dj,aF,Nat.reduceMul,Nat.reduceBEq,Nat.reduceLT,Nat.reduceLeDiff,reduceCtorEq,Nat.reduceEqDiff,Nat.reduceAdd,Z1]<;>rfl)]
  rfl
 ·intro rb
  rw [show (aj im).take im.length=aj im from List.take_of_length_le (by simp [aj])]
  simp only [OZ,Zap,Dj,Z2,aF,Nat.reduceMul,Nat.reduceBEq,Nat.reduceLT,Nat.reduceLeDiff,reduceCtorEq,Nat.reduceEqDiff,Nat.reduceAdd,Z1]
theorem aqc {im:fG}{c:Ns}(hi:bY im=0)(h9:im.length≤1000)(h24:∀ v∈im,v.length≤4096)(hp:c.pos=[])(hs:QE im c.ws)(hl:c.ws.length≤lim)(hk:FW c.base c.num c.time []=0)(hw:okW c.ws)(he:wE im c.ws=0):cal env 36 [.list 1 (im.map aX),zG c]=some [(.list 1 ((qj im c.ws).map aX),false),(.int .i64 0,false)]:=by
 have e1:=YK (im:=im) (by unfold lim;omega)
 rw [hi] at e1
 have e2:=akB (im:=im) (b:=c.base) (n:=c.num) (t:=c.time) (p:=c.pos) (w:=c.ws) hs hi (by unfold lim;omega) (fun v hv=>zr (h24 v hv) (by decide)) hl (by rw [hp];decide)
 rw [hp,hk] at e2
 unfold ajy at e2
 have e3:=Y0 (im:=im) (l:=c.ws) hw (by omega) (fun v hv=>by have:=h24 v hv;omega)
 rw [he] at e3
 have Z:((0:Int) != 0)=false:=rfl
 rw [← hp] at e2
 rw [pK]
 rw [ah aoF rfl];simp only [ad7,aG,Nat.reduceBEq,Nat.reduceLeDiff,Nat.reduceAdd,za,zd]
 simp only [e1,Z,Ko,Z2,aF,Nat.reduceMul,Nat.reduceBEq,Nat.reduceLT,Nat.reduceLeDiff,reduceCtorEq,Nat.reduceEqDiff,Nat.reduceAdd,Z1]
 rw [anC (im:=im) (c:=c) (by omega) (by simp only [Dj,ZaQ,Zai];simp only [aG,bJ,Nat.reduceMul,Nat.reduceBEq,Nat.reduceLT,Nat.reduceLeDiff,Nat.reduceAdd,decide_true,zt,zm]<;>rfl)]
 simp only [e2,e3,Z,Ko,Dj,aF,Nat.reduceMul,Nat.reduceBEq,Nat.reduceLT,Nat.reduceLeDiff,reduceCtorEq,Nat.reduceEqDiff,Nat.reduceAdd,Z1]
def QA (x:iT)(i:Nat):Pt:={ dF x with img:=Yc x i }
theorem bQA (x:iT)(i:Nat):qU (QA x i)=[.pv (.int .i64 0),.pv (.list 3 (apn.map jY)),.pv (.list 2 ((jP x.im x.o).map jq)),.pv (.list 1 ((Yc x i).map aX))]:=rfl
theorem eQA (x:iT)(i:Nat):FP (QA x i)=.agg [.int .i64 0,.list 3 (apn.map jY),.list 2 ((jP x.im x.o).map jq),.list 1 ((Yc x i).map aX)]:=rfl
theorem bTq (x:iT)(i:Nat):qU (rC x i)=[.pv (.int .i64 1),.pv (.list 3 (afs.map jY)),.pv (.list 2 ((xB x i).map jq)),.pv (.list 1 ((oG x i).map aX))]:=rfl
theorem eTq (x:iT)(i:Nat):FP (rC x i)=.agg [.int .i64 1,.list 3 (afs.map jY),.list 2 ((xB x i).map jq),.list 1 ((oG x i).map aX)]:=rfl
theorem bPq (k:Nat):xw (jO k)=[.pv (.int .i64 3),.pv (.int .i64 1),.pv (.int .i64 0),.pv (.int .i64 (k:Int)),.pv (.int .i64 3),.pv (.int .i64 (jO k).ng),.pv (.bool false),.pv (.bool false)]:=rfl
theorem ePq (k:Nat):Ju (jO k)=.agg [.int .i64 3,.int .i64 1,.int .i64 0,.int .i64 (k:Int),.int .i64 3,.int .i64 (jO k).ng,.bool false,.bool false]:=rfl
theorem ePd (k:Nat):Ju { jO k with done:=true }=.agg [.int .i64 3,.int .i64 1,.int .i64 0,.int .i64 (k:Int),.int .i64 3,.int .i64 (jO k).ng,.bool true,.bool false]:=rfl
theorem eYq (x:iT)(i:Nat):zG (fqY x i)=.agg [.int .i64 (jO i).ng,.int .i64 (10+(i:Int)),.int .i64 (i:Int),.list 1 [],.list 3 ((Ep (rC x i)).map jw)]:=rfl
theorem anD (a b:PV):part [a,b] 0 (some 2)=some (.agg [a,b]):=rfl
theorem Ey (a b c d:PV):part [a,b,c,d] 0 (some 4)=some (.agg [a,b,c,d]):=rfl
theorem Ez (a b c d e f g i:PV):part [a,b,c,d,e,f,g,i] 0 (some 8)=some (.agg [a,b,c,d,e,f,g,i]):=rfl
theorem agQ (x:iT)(i:Nat):GL x i+Dl (xB x (i+1))=GL x (i+1):=rfl
theorem ajN (x:iT)(i:Nat):(Vy x (i+1)).map zG=(Vy x i).map zG++[.agg [.int .i64 (jO i).ng,.int .i64 (10+(i:Int)),.int .i64 (i:Int),.list 1 [],.list 3 ((Ep (rC x i)).map jw)]]:=by rw [J8,ZaK];rfl
def s3q:ay :=
 (.seq
     (.ops [.aN 13 (.nil 5)])
     (.seq
      (.seq
      (.ops [.aP 105 (.t 1) 3,.load 106 none (.t 105),.len 107 (.t 106),.bin 108 .add (.t 107) (.c (.int .i64 1)),.ak 109 (.c (.int .i64 0))])
      XC)
      (.seq
      (.ops [.load 230 (some 8) (.t 6),.load 231 (some 4) (.t 3),.load 232 (some 4) (.t 4),.call 233 15 [(.t 230),(.t 231),(.t 232)],.ak 229 (.t 233),.ext 234 (.t 229) 0,.ext 235 (.t 229) 1,.alloc 29 [(.int .i64 0),(.int .i64 0),(.int .i64 0),(.int .i64 0),(.int .i64 0),(.int .i64 0),(.bool false),(.bool false)],.store none 8 (.t 29) (.t 234),.aN 30 (.t 235)])
      (.seq
       (.ops [.ak 236 (.t 13),.call 237 20 [(.t 236)],.aN 31 (.t 237)])
       (.seq
       (.ops [.load 239 (some 8) (.t 29),.load 240 (some 4) (.t 3),.load 241 (some 4) (.t 4),.call 242 15 [(.t 239),(.t 240),(.t 241)],.ak 238 (.t 242),.ext 243 (.t 238) 0,.ext 244 (.t 238) 1,.alloc 32 [(.int .i64 0),(.int .i64 0),(.int .i64 0),(.int .i64 0),(.int .i64 0),(.int .i64 0),(.bool false),(.bool false)],.store none 8 (.t 32) (.t 243),.aN 33 (.t 244)])
       (.seq
        (.ops [.ak 245 (.t 30),.bin 246 .eql (.t 245) (.c (.int .i64 0)),.ak 247 (.t 246),.grd 247 true (.aP 248 (.t 29) 6),.grd 247 true (.load 249 none (.t 248)),.pick 250 (.t 247) (.t 249) (.c (.bool false)),.ak 251 (.t 250),.grd 251 true (.ak 252 (.t 33)),.grd 251 true (.bin 253 .eql (.t 252) (.c (.int .i64 12))),.pick 254 (.t 251) (.t 253) (.c (.bool false)),.ak 255 (.t 254),.grd 255 true (.ak 256 (.t 31)),.grd 255 true (.ak 257 (.t 9)),.grd 255 true (.bin 258 .geq (.t 256) (.t 257)),.pick 259 (.t 255) (.t 258) (.c (.bool false)),.ak 260 (.t 259),.grd 260 true (.ak 261 (.t 31)),.grd 260 true (.ak 262 (.t 11)),.grd 260 true (.bin 263 .leq (.t 261) (.t 262)),.pick 264 (.t 260) (.t 263) (.c (.bool false)),.ak 265 (.t 264),.grd 265 true (.call 266 11 []),.pick 267 (.t 265) (.t 266) (.c (.bool false)),.aN 2 (.t 267)])
        .ret))))))
theorem ajO {D:List Bm}{d0 d1 d2 d3 d4 d5:List BV}{dd m lm ii:Int}{C:List PV}(hD:∀ b∈D,okB b=true∧(∀ w∈b.ws,w.toNat<16777216)∧b.ws.length≤64)(hl:D.length≤100)(hm:0≤m∧m≤1000000){st:St}(h:st.head [1,3,4,6,9,11,13,23,108,109,154,182,194,195,196] st.boxes.length=some ⟨sl 268 [(1,.aO 0 0),(3,.aO 1 0),(4,.aO 2 0),(6,.aO 3 0),(9,.pv (.int .i64 dd)),(11,.pv (.int .i64 (m+Dl (D.take ((0:Nat)))))),(13,.row 5 C),(23,.pv (.list 2 (D.map jq))),(108,.pv (.int .i64 lm)),(109,.pv (.int .i64 ii)),(154,.any),(182,.any),(194,.pv (.list 2 (D.map jq))),(195,.pv (.int .i64 D.length)),(196,.pv (.int .i64 (0:Nat)))],[⟨false,d0⟩,⟨false,d1⟩,⟨false,d2⟩,⟨false,d3⟩,⟨true,d4⟩,⟨false,d5⟩],[],none⟩) :
  den env XB st=some (.normal,⟨sl 268 [(1,.aO 0 0),(2,.any),(3,.aO 1 0),(4,.aO 2 0),(6,.aO 3 0),(9,.pv (.int .i64 dd)),(11,.pv (.int .i64 (m+Dl D))),(13,.row 5 C),(108,.pv (.int .i64 lm)),(109,.pv (.int .i64 ii)),(154,.any)],[⟨false,d0⟩,⟨false,d1⟩,⟨false,d2⟩,⟨false,d3⟩,⟨true,d4⟩,⟨false,d5⟩],[],none⟩):=by
 unfold XB
 refine bM (env:=env) (nb:=6) (D.length) (fun i=>⟨sl 268 [(1,.aO 0 0),(3,.aO 1 0),(4,.aO 2 0),(6,.aO 3 0),(9,.pv (.int .i64 dd)),(11,.pv (.int .i64 (m+Dl (D.take (i))))),(13,.row 5 C),(23,.pv (.list 2 (D.map jq))),(108,.pv (.int .i64 lm)),(109,.pv (.int .i64 ii)),(154,.any),(182,.any),(194,.pv (.list 2 (D.map jq))),(195,.pv (.int .i64 D.length)),(196,.pv (.int .i64 i))],[⟨false,d0⟩,⟨false,d1⟩,⟨false,d2⟩,⟨false,d3⟩,⟨true,d4⟩,⟨false,d5⟩],[],none⟩) (fun i=>some (.normal,⟨sl 268 [(1,.aO 0 0),(2,.any),(3,.aO 1 0),(4,.aO 2 0),(6,.aO 3 0),(9,.pv (.int .i64 dd)),(11,.pv (.int .i64 (m+Dl D))),(13,.row 5 C),(108,.pv (.int .i64 lm)),(109,.pv (.int .i64 ii)),(154,.any)],[⟨false,d0⟩,⟨false,d1⟩,⟨false,d2⟩,⟨false,d3⟩,⟨true,d4⟩,⟨false,d5⟩],[],none⟩)) h (fun _=>rfl) (fun _=>by simp only [aG,bJ,Nat.reduceMul,Nat.reduceBEq,Nat.reduceLT,Nat.reduceLeDiff,Nat.reduceAdd,decide_true,zt,zm]) ?_ ?_
 ·intro i rb hi ih
  have hi1:=bF hi (zr hl (by decide))
  have F1:((i:Int)<(D.length:Int))=True:=eq_true (by omega)
  have hx:=GK hi
  obtain ⟨g1,g2,g3⟩:=hD _ (zR hi)
  have e1:cal env 41 [.agg [.int .i64 D[i].size,.list 1 (D[i].ws.map eW)]]=_:=ap7 (b:=D[i]) g1 g2
  have b1:=J7 (l:=D.take i) fun b hb=>(hD b (List.mem_of_mem_take hb)).2.2
  have b2:=Di D[i].ws
  have b3:(D.take i).length≤D.length:=by rw [Zac];omega
  have W:IntKind.i64.wrap (m+Dl (D.take i)+(ku D[i].ws:Nat))=m+Dl (D.take (i+1)):=by rw [agG hi,bn (by omega)];omega
  simp only [XA,F1,hx,anD,e1,W,au hi,Z2,aF,Nat.reduceMul,Nat.reduceBEq,Nat.reduceLT,Nat.reduceLeDiff,reduceCtorEq,Nat.reduceEqDiff,Nat.reduceAdd,Z1]
  rw [ih _ (by simp only [hi1,aF,Nat.reduceMul,Nat.reduceBEq,Nat.reduceLT,Nat.reduceLeDiff,reduceCtorEq,Nat.reduceEqDiff,Nat.reduceAdd,Z1]<;>rfl)]
 ·intro rb
  rw [ZaI]
  simp only [XA,Zap,Z2,aF,Nat.reduceMul,Nat.reduceBEq,Nat.reduceLT,Nat.reduceLeDiff,reduceCtorEq,Nat.reduceEqDiff,Nat.reduceAdd,Z1]
set_option maxRecDepth 20000 in
set_option maxHeartbeats 4000000 in
theorem ajP {x:iT}(hq:OkQ x){dd:Int}(hI0:0≤x.rs.length){st:St}(h:st.head [1,3,4,6,9,11,13,108,109,154] st.boxes.length=some ⟨sl 268 [(1,.aO 0 0),(3,.aO 1 0),(4,.aO 2 0),(6,.aO 3 0),(9,.pv (.int .i64 dd)),(11,.pv (.int .i64 (GL x ((0:Nat))))),(13,.row 5 ((Vy x ((0:Nat))).map zG)),(108,.pv (.int .i64 ((x.rs.length:Int)+1))),(109,.pv (.int .i64 (0:Nat))),(154,.any)],[⟨false,bOut x⟩,⟨false,qU (QA x ((0:Nat)))⟩,⟨false,qU (rC x ((0:Nat)))⟩,⟨false,xw (jO ((0:Nat)))⟩],[],none⟩) :
  den env XC st=some (.normal,⟨sl 268 [(2,.any),(3,.aO 1 0),(4,.aO 2 0),(6,.aO 3 0),(9,.pv (.int .i64 dd)),(11,.pv (.int .i64 (GL x x.rs.length))),(13,.row 5 ((Vy x (x.rs.length+1)).map zG))],[⟨false,bOut x⟩,⟨false,qU (QA x (x.rs.length+1))⟩,⟨false,qU (rC x x.rs.length)⟩,⟨false,xw (jO (x.rs.length+1))⟩],[],none⟩):=by
 unfold XC
 refine DX (env:=env) (nb:=4) ((x.rs.length+1)) (fun i=>(i)≤x.rs.length) (fun i=>⟨sl 268 [(1,.aO 0 0),(3,.aO 1 0),(4,.aO 2 0),(6,.aO 3 0),(9,.pv (.int .i64 dd)),(11,.pv (.int .i64 (GL x (i)))),(13,.row 5 ((Vy x (i)).map zG)),(108,.pv (.int .i64 ((x.rs.length:Int)+1))),(109,.pv (.int .i64 i)),(154,.any)],[⟨false,bOut x⟩,⟨false,qU (QA x (i))⟩,⟨false,qU (rC x (i))⟩,⟨false,xw (jO (i))⟩],[],none⟩) (fun i=>some (.normal,⟨sl 268 [(2,.any),(3,.aO 1 0),(4,.aO 2 0),(6,.aO 3 0),(9,.pv (.int .i64 dd)),(11,.pv (.int .i64 (GL x x.rs.length))),(13,.row 5 ((Vy x (x.rs.length+1)).map zG))],[⟨false,bOut x⟩,⟨false,qU (QA x (x.rs.length+1))⟩,⟨false,qU (rC x x.rs.length)⟩,⟨false,xw (jO (x.rs.length+1))⟩],[],none⟩)) h hI0 (fun _=>rfl) (fun _=>by simp only [aG,bJ,Nat.reduceMul,Nat.reduceBEq,Nat.reduceLT,Nat.reduceLeDiff,Nat.reduceAdd,decide_true,zt,zm]) ?_ ?_
 ·intro i rb hi hp ih
  have hlim:lim=1073741824:=rfl
  have hn8:=hq.n8
  have h9:=hq.r.im9
  have hi1:IntKind.i64.wrap ((i:Int)+1)=((i+1:Nat):Int):=by rw [bn (by omega)];omega
  have F1:((i:Int)<(x.rs.length:Int)+1)=True:=eq_true (by omega)
  have hik:i≤1000:=by omega
  have hF:=GR hq hp
  obtain ⟨m1,m2,m3,m4⟩:=J9 hq hp
  have hpt:=J5 hq hp
  have W10:IntKind.i64.wrap (10+(i:Int))=10+(i:Int):=bn (by omega)
  have e1:=ap2 (p:=jO i) (a:=rC x i) (n:=10+(i:Int)) (t:=(i:Int)) hF m1 m2
  obtain ⟨r1,r2⟩:=ajK hik hpt rfl rfl
  rw [r1,r2,Yb hik hpt rfl rfl,show (⟨(jO i).ng,10+(i:Int),(i:Int),[],Ep (rC x i)⟩:Ns)=fqY x i from rfl,ePq,ePq,eTq,eYq] at e1
  obtain ⟨k1,k2⟩:=agD hq hp
  have mw:(Ep (rC x i)).length≤216:=X8 hpt m1 m2
  have e2:=aqc (im:=Yc x i) (c:=fqY x i) (Ye hq hp).2 (by omega) (fun v hv=>zr (m4 v hv) (by decide)) rfl (ajM ((qw hq i hp).trans (QL hq i hp).symm) (agN hq hp)) (by show (Ep (rC x i)).length≤lim;omega) (anB hik) (anA hq hp) k1
  rw [show (fqY x i).ws=Ep (rC x i) from rfl,k2,eYq] at e2
  have e3:=aeQ (a:=oG x i) (b:=oG x i) (by omega) (fun v hv=>zr (m2 v hv) (by decide))
  rw [decide_eq_true (show oG x i=oG x i from rfl)] at e3
  have Z0:((0:Int) != 0)=false:=rfl
  have Nn:∀ n:Int,(n != n)=false:=fun n=>by simp
  have F5:((Vy x i).length+1≤lim)=True:=eq_true (by rw [Zl];omega)
  have hC:=ajN x i
  by_cases c:i=x.rs.length
  ·subst c
   have E1:((x.rs.length:Int)==(x.rs.length:Int))=true:=by simp
   have hA:(Yc x (x.rs.length+1)).map aX=(oG x x.rs.length).map aX:=rfl
   rw [hC,bQA x (x.rs.length+1),bQA x x.rs.length,bTq,hA,bPq (x.rs.length+1),bPq x.rs.length]
   simp only [OD,F1,W10,e1,e2,e3,Z0,Nn,F5,E1,fU,Ey,Ez,Ko,Z2,aF,Nat.reduceMul,Nat.reduceBEq,Nat.reduceLT,Nat.reduceLeDiff,reduceCtorEq,Nat.reduceEqDiff,Nat.reduceAdd,Z1]
   all_goals rfl
  ·have hir:i<x.rs.length:=by omega
   have E1:((i:Int)==(x.rs.length:Int))=false:=by simp;omega
   have hx:=Y6 hir
   have hg:x.rs.getD i []=x.rs[i]:=getD_lt hir
   have hB1:qj (oG x i) x.rs[i]=oG x (i+1):=by rw [← hg];rfl
   have hE1:wE (oG x i) x.rs[i]=0:=by rw [← hg,J4 (qw hq i hp)];exact Zj hq hir
   have e5:=Y0 (im:=oG x i) (l:=x.rs[i]) (hq.r.ok.2.2 _ (zR hir)) (by omega) (fun v hv=>by have:=m2 v hv;omega)
   rw [hB1,hE1] at e5
   generalize apI (oG x i) x.rs[i]=ai at e5
   have e6:=akx (x:=x) (by omega)
   rw [wQ] at e6
   have e7:=aky (im:=x.im) (l:=x.rs[i]) (by have:=hq.lr _ (zR hir);omega) (qF (hq.er _ (zR hir))) (by omega) (fun v hv=>zr (hq.r.v24 v hv) (by decide))
   have hD1:jP x.im x.rs[i]=xB x (i+1):=by rw [← hg];rfl
   rw [hD1] at e7
   have hDl:(xB x (i+1)).length=x.im.length:=eY _ _
   obtain ⟨n1,n2⟩:=QN hq i hp
   have n0:=aqb hq
   obtain ⟨j1,j2,-,-⟩:=J9 hq (show i+1≤x.rs.length by omega)
   have e8:=afD (p:=jO (i+1)) (a:=QA x (i+1)) (b:=rC x (i+1)) (Eu hq.r (im:=oG x i) (qw hq i hp)).1 (GR hq (by omega)) (fun v hv=>zr (m2 v hv) (by decide))
   have hfin:qE (jO (i+1)) (QA x (i+1)) (rC x (i+1))=if oG x i=oG x (i+1) then 0 else 22:=agL hq (im:=oG x i) (qw hq i hp) (show i+1≤x.rs.length by omega) (by omega) (by omega)
   rw [hfin] at e8
   generalize uM (jO (i+1)) (QA x (i+1)) (rC x (i+1))=z at e8
   rw [ePq,eQA,eTq,dw,show Yc x (i+1)=oG x i from rfl] at e8
   have e9:=aeQ (a:=oG x i) (b:=oG x (i+1)) (by omega) (fun v hv=>zr (m2 v hv) (by decide))
   have hM:=agQ x i
   rw [hC,bQA,bTq,bPq,show Yc x (i+1)=oG x i from rfl] at ih
   have asv:((22:Int)==0)=false:=rfl
   have asw:((22:Int) != 0)=true:=rfl
   have Z00:((0:Int)==0)=true:=rfl
   have hloop:=fun C d0 d1 d2 d3 d4 d5 lm ii st hst=>ajO (D:=xB x (i+1)) (m:=GL x i) (dd:=dd) (C:=C) (d0:=d0) (d1:=d1) (d2:=d2) (d3:=d3) (d4:=d4) (d5:=d5) (lm:=lm) (ii:=ii) (st:=st) (GN hq (by omega)) (by omega) (by omega) hst
   rw [bQA,bTq,bPq]
   by_cases cE:oG x i=oG x (i+1)
   ·rw [if_pos cE] at e8
    rw [decide_eq_true cE] at e9
    simp only [OD,F1,W10,e1,e2,e3,Z0,Nn,F5,E1,hx,e5,e6,e7,fU,Ey,Ez,Ko,au hir,Z2,aF,Nat.reduceMul,Nat.reduceBEq,Nat.reduceLT,Nat.reduceLeDiff,reduceCtorEq,Nat.reduceEqDiff,Nat.reduceAdd,Z1]
    rw [hloop _ _ _ _ _ _ _ _ _ _ (by simp only [ZaQ,show Dl ([]:List Bm)=0 from rfl,Int.add_zero,Z2];simp only [aG,bJ,Nat.reduceMul,Nat.reduceBEq,Nat.reduceLT,Nat.reduceLeDiff,Nat.reduceAdd,decide_true,zt,zm]<;>rfl)]
    simp only [e8,e9,hM,Z0,Z00,fU,Ey,Ez,Z2,aF,Nat.reduceMul,Nat.reduceBEq,Nat.reduceLT,Nat.reduceLeDiff,reduceCtorEq,Nat.reduceEqDiff,Nat.reduceAdd,Z1]
    rw [ih (by omega) _ (by simp only [hi1,fU,aF,Nat.reduceMul,Nat.reduceBEq,Nat.reduceLT,Nat.reduceLeDiff,reduceCtorEq,Nat.reduceEqDiff,Nat.reduceAdd,Z1]<;>rfl)]
    all_goals rfl
   ·rw [if_neg cE] at e8
    rw [decide_eq_false cE] at e9
    simp only [OD,F1,W10,e1,e2,e3,Z0,Nn,F5,E1,hx,e5,e6,e7,fU,Ey,Ez,Ko,au hir,Z2,aF,Nat.reduceMul,Nat.reduceBEq,Nat.reduceLT,Nat.reduceLeDiff,reduceCtorEq,Nat.reduceEqDiff,Nat.reduceAdd,Z1]
    rw [hloop _ _ _ _ _ _ _ _ _ _ (by simp only [ZaQ,show Dl ([]:List Bm)=0 from rfl,Int.add_zero,Z2];simp only [aG,bJ,Nat.reduceMul,Nat.reduceBEq,Nat.reduceLT,Nat.reduceLeDiff,Nat.reduceAdd,decide_true,zt,zm]<;>rfl)]
    simp only [e8,e9,hM,Z0,asv,asw,Nn,fU,Ey,Ez,Z2,aF,Nat.reduceMul,Nat.reduceBEq,Nat.reduceLT,Nat.reduceLeDiff,reduceCtorEq,Nat.reduceEqDiff,Nat.reduceAdd,Z1]
    rw [ih (by omega) _ (by simp only [hi1,fU,aF,Nat.reduceMul,Nat.reduceBEq,Nat.reduceLT,Nat.reduceLeDiff,reduceCtorEq,Nat.reduceEqDiff,Nat.reduceAdd,Z1]<;>rfl)]
    all_goals rfl
 ·intro rb hp
  exfalso
  omega
set_option maxRecDepth 20000 in
set_option maxHeartbeats 4000000 in
theorem anE {x:iT}(hq:OkQ x):(den env s3q ⟨sl 268 [(1,.aO 0 0),(3,.aO 1 0),(4,.aO 2 0),(6,.aO 3 0),(9,.pv (.int .i64 (sL (differ (dF x).img (iF x).img)))),(11,.pv (.int .i64 (GL x 0)))],[⟨false,bOut x⟩,⟨false,qU (QA x 0)⟩,⟨false,qU (rC x 0)⟩,⟨false,xw (jO 0)⟩],[],none⟩).bind (Go.Proofs.YtioijcfcehhmdaaGreatDoor.fin [.tmp 2])=some [(.bool true,false)]:=by
 have hlim:lim=1073741824:=rfl
 have hn8:=hq.n8
 have h9:=hq.r.im9
 have hR:=ze x.rs.length
 obtain ⟨m1,m2,m3,m4⟩:=J9 hq hR
 have W1:IntKind.i64.wrap ((x.rs.length:Int)+1)=(x.rs.length:Int)+1:=bn (by omega)
 have hfit:=(Eu hq.r (im:=oG x x.rs.length) (qw hq _ hR)).1
 have e1:=afD (p:=jO (x.rs.length+1)) (a:=QA x (x.rs.length+1)) (b:=rC x x.rs.length) hfit (GR hq hR) (fun v hv=>zr (m2 v hv) (by decide))
 have f1:qE (jO (x.rs.length+1)) (QA x (x.rs.length+1)) (rC x x.rs.length)=0:=(agL hq (im:=oG x x.rs.length) (qw hq _ hR) hR (by omega) (by omega)).trans (if_pos rfl)
 have o1:uM (jO (x.rs.length+1)) (QA x (x.rs.length+1)) (rC x x.rs.length)={ jO (x.rs.length+1) with done:=true }:=by unfold uM;rw [f1,if_pos rfl]
 rw [o1,f1,ePq,eQA,eTq,ePd] at e1
 have e2:=afD (p:={ jO (x.rs.length+1) with done:=true }) (a:=QA x (x.rs.length+1)) (b:=rC x x.rs.length) hfit (GR hq hR) (fun v hv=>zr (m2 v hv) (by decide))
 have f2:qE { jO (x.rs.length+1) with done:=true } (QA x (x.rs.length+1)) (rC x x.rs.length)=12:=agM hq (im:=oG x x.rs.length) (qw hq _ hR) hR (by omega) (by omega)
 rw [f2] at e2
 generalize uM { jO (x.rs.length+1) with done:=true } (QA x (x.rs.length+1)) (rC x x.rs.length)=z at e2
 rw [ePd,eQA,eTq,dw] at e2
 have e3:=ap1 (l:=Vy x (x.rs.length+1)) (anz hq (ze _))
 rw [Vo hq _ hR] at e3
 have e4:=UO
 have G1:(GL x x.rs.length ≥ sL (differ (dF x).img (iF x).img))=True:=eq_true (agJ hq hR)
 have G2:(GL x x.rs.length≤GL x x.rs.length)=True:=eq_true (Int.le_refl _)
 have Z00:((0:Int)==0)=true:=rfl
 have Z12:((12:Int)==12)=true:=rfl
 unfold s3q
 simp only [W1,fU,Z2,aF,Nat.reduceMul,Nat.reduceBEq,Nat.reduceLT,Nat.reduceLeDiff,reduceCtorEq,Nat.reduceEqDiff,Nat.reduceAdd,Z1]
 rw [ajP (x:=x) hq (dd:=sL (differ (dF x).img (iF x).img)) (ZaM _) (by simp only [show Vy x 0=[] from rfl,Zai,fU];simp only [aG,bJ,Nat.reduceMul,Nat.reduceBEq,Nat.reduceLT,Nat.reduceLeDiff,Nat.reduceAdd,decide_true,zt,zm]<;>rfl)]
 rw [bQA,bTq,bPq]
 simp only [e1,e2,e3,e4,G1,G2,Z00,Z12,fU,Ey,Ez,Z2,aF,Nat.reduceMul,Nat.reduceBEq,Nat.reduceLT,Nat.reduceLeDiff,reduceCtorEq,Nat.reduceEqDiff,Nat.reduceAdd,Z1]
end Go.Proofs.YtioijcfcehhmdaaGreatDoor.V
namespace Go.Proofs.YtioijcfcehhmdaaGreatDoor
open Go.RowKit
open V in
def aqf (p:sS):Value:=.agg #[.int .i64 p.kind,.int .i64 p.uj,.int .i64 p.to,.int .i64 p.step,.int .i64 p.ep,.int .i64 p.ng,.bool p.done,.bool p.failed]
open V in
theorem ajQ {ok:Nat→Prop}{w:World}{p:sS}{v:Value}(h:aA ok w (Ju p) v):v=aqf p:=by
 obtain ⟨arr,rfl,h1,_,h3⟩:=h.lW
 obtain ⟨a,b,c,d,e,f,g,i,rfl⟩:=KT h1
 have q0:=(h3 0 _ a rfl rfl).bP
 have q1:=(h3 1 _ b rfl rfl).bP
 have q2:=(h3 2 _ c rfl rfl).bP
 have q3:=(h3 3 _ d rfl rfl).bP
 have q4:=(h3 4 _ e rfl rfl).bP
 have q5:=(h3 5 _ f rfl rfl).bP
 have q6:=(h3 6 _ g rfl rfl).iJ
 have q7:=(h3 7 _ i rfl rfl).iJ
 rw [q0,q1,q2,q3,q4,q5,q6,q7];rfl
end Go.Proofs.YtioijcfcehhmdaaGreatDoor
