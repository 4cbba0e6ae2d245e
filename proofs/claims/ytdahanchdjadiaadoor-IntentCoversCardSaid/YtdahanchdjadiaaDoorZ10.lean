/-
  Part 10 of the texts that the statement stands on.
-/
import Derived.Test.YtdahanchdjadiaaDoorZ9
set_option linter.all false
namespace Go.Proofs.YtdahanchdjadiaaDoor.V
def tH (x:tY):PV:=.agg [.int .u8 (x.kd:Int),.int .u8 (x.wh:Int),.int .u8 (x.st:Int),.int .u8 (x.ct:Int)]
theorem kT (x:tY):tH x=.agg [.int .u8 (x.kd:Int),.int .u8 (x.wh:Int),.int .u8 (x.st:Int),.int .u8 (x.ct:Int)]:=rfl
def okV (x:tY):Prop:=x.kd<256∧x.wh<256∧x.st<256∧x.ct<256
def mD (m:iq) (s w:BV):List BV:=[.pv (.int .i64 m.log.size),.pv (.int .i64 m.log.aZ),.pv (.list 1 (m.log.act.map eI)),.pv (.int .i64 m.log.bm.size),.pv (.list 1 (m.log.bm.ws.map eW)),s]++(m.a.map (fun x=>.pv (eI x))++(m.b.map (fun x=>.pv (eI x))++[w,.pv (.int .i64 m.nx),.pv (.bool m.ok)]))
def sV (l:List Nat):BV:=.pv (.list 1 (l.map eY))
theorem ad4 (l:List Nat):sV l=.pv (.list 1 (l.map eY)):=rfl
theorem ad5 (m:iq) (w:BV):mC m w=mD m (sV m.st) w:=rfl
theorem vF (m:iq) (s w:BV):mD m s w=(mC m w).set 5 s:=rfl
theorem dV {m:iq} (h:jT m) (s w:BV):(mD m s w).length=129:=by rw [vF,List.length_set,afx h]
theorem ah7 (m:iq) (s w:BV):(mD m s w)[0]?=some (.pv (.int .i64 m.log.size)):=rfl
theorem BZ (m:iq) (s t w:BV):(mD m s w).set 5 t=mD m t w:=rfl
theorem rF (m:iq) (s w:BV) (i:fZ):(BV.pv (.int .i64 i.size) :: .pv (.int .i64 i.aZ) :: .pv (.list 1 (i.act.map eI)) :: .pv (.int .i64 i.bm.size) :: .pv (.list 1 (i.bm.ws.map eW)) :: (mD m s w).drop 5)=mD { m with log:=i } s w:=rfl
section
variable {m:iq} (h:jT m) (s w:BV)
include h
theorem gW:(mD m s w)[126]?=some w:=by rw [vF,List.getElem?_set_ne (by decide),tC h]
theorem aak:(mD m s w)[127]?=some (.pv (.int .i64 m.nx)):=by rw [vF,List.getElem?_set_ne (by decide),afz h]
theorem fE (x:BV):(mD m s w).set 126 x=mD m s x:=by rw [vF,List.set_comm _ _ (by decide),ac1 h];rfl
theorem Jt (x:Int):(mD m s w).set 127 (.pv (.int .i64 x))=mD { m with nx:=x } s w:=by rw [vF,List.set_comm _ _ (by decide),ac2 h];rfl
end
theorem take_set {α:Type} {l:List α} {k:Nat} (x:α) (hk:k<l.length):l.take k++[x]++l.drop (k+1)=l.set k x:=by
 rw [List.append_assoc];exact VA x hk
theorem ad6 {m:iq} (h:jT m) (s w:BV) (x:Int):List.take 127 (mD m s w)++[BV.pv (.int .i64 x)]++List.drop 128 (mD m s w)=mD { m with nx:=x } s w:=(take_set _ (by rw [dV h];decide)).trans (Jt h s w x)
theorem aal (m:iq) (s w:BV):(mD m s w).map BV.val=[.int .i64 m.log.size,.int .i64 m.log.aZ,.list 1 (m.log.act.map eI),.int .i64 m.log.bm.size,.list 1 (m.log.bm.ws.map eW),s.val]++(m.a.map eI++(m.b.map eI++[w.val,.int .i64 m.nx,.bool m.ok])):=by
 have h:∀ l:List Int,(l.map fun x=>BV.pv (eI x)).map BV.val=l.map eI:=fun l=>by rw [List.map_map];rfl
 simp only [mD,List.map_append,h];rfl
theorem dJ (m:iq) (s w:BV):(mD m s w).map BV.frozen=mD m s.frozen w.frozen:=by
 have h:∀ l:List Int,(l.map fun x=>BV.pv (eI x)).map BV.frozen=l.map fun x=>BV.pv (eI x):=fun l=>by rw [List.map_map];rfl
 simp only [mD,List.map_append,h];rfl
theorem D6 (m:iq) (s w:BV):part ((mD m s w).map BV.val) 0 (some 5)=some (kL m.log):=by
 rw [aal]
 simp only [part]
 rw [if_pos (by simp)]
 simp [kL]
theorem tJ {m:iq} (h:jT m) (l:List Nat) (ws:List Pnd) {s w:BV} (hs:s.val=.list 1 (l.map eY)) (hw:w.val=.list 5 (ws.map fG)):part ((mD m s w).map BV.val) 0 (some 129)=some (oV { m with st:=l,ws:=ws }):=by
 have e:(mD m s w).map BV.val=mV { m with st:=l,ws:=ws }:=by rw [aal,hs,hw];rfl
 rw [e,cZ]
 exact afy (m:={ m with st:=l,ws:=ws }) h
set_option maxRecDepth 20000 in
theorem ah8 {m:iq} {x:tY} (hm:jT m) (ho:gG m.log=true) (h60:m.log.size≤60) (hx:okV x) (hE:Zt m.log (Bo m.log.size x)=0) (hl:m.ws.length≤1000) (hn:0≤m.nx∧m.nx≤1000):cal env 37 [oV m,tH x]=some [(oV (kM m x),false)]:=by
 obtain ⟨i1,i2,i3,i4,i5⟩:=bU.1 ho
 obtain ⟨z1,z2,z3,z4⟩:=bT.1 i1
 obtain ⟨x1,x2,x3,x4⟩:=hx
 have hla:m.log.act.length≤lim:=by have:=lq i1;unfold lim;omega
 have hS:0≤(x.st:Int) % m.log.size:=Int.emod_nonneg _ (by omega)
 have hS2:(x.st:Int) % m.log.size<m.log.size:=Int.emod_lt_of_pos _ (by omega)
 have hC:0≤(x.ct:Int) % (m.log.size - (x.st:Int) % m.log.size):=Int.emod_nonneg _ (by omega)
 have hC2:(x.ct:Int) % (m.log.size - (x.st:Int) % m.log.size)<m.log.size - (x.st:Int) % m.log.size:=Int.emod_lt_of_pos _ (by omega)
 have F1:(m.log.size<1)=False:=eq_false (by omega)
 have F2:(m.log.size=0)=False:=eq_false (by omega)
 have W1:IntKind.i64.wrap (x.st:Int)=x.st:=ay (by omega)
 have W2:IntKind.i64.wrap (x.ct:Int)=x.ct:=ay (by omega)
 have M1:(x.st:Int).tmod m.log.size=(x.st:Int) % m.log.size:=Int.tmod_eq_emod_of_nonneg (by omega)
 have W3:IntKind.i64.wrap (m.log.size - (x.st:Int) % m.log.size)=m.log.size - (x.st:Int) % m.log.size:=ay (by omega)
 have F3:(m.log.size - (x.st:Int) % m.log.size=0)=False:=eq_false (by omega)
 have M2:(x.ct:Int).tmod (m.log.size - (x.st:Int) % m.log.size)=(x.ct:Int) % (m.log.size - (x.st:Int) % m.log.size):=Int.tmod_eq_emod_of_nonneg (by omega)
 have W4:IntKind.i64.wrap (1+(x.ct:Int) % (m.log.size - (x.st:Int) % m.log.size))=1+(x.ct:Int) % (m.log.size - (x.st:Int) % m.log.size):=ay (by omega)
 have W5:IntKind.i64.wrap (m.nx+1)=m.nx+1:=ay (by omega)
 obtain ⟨I,hI⟩:∃ I,Je m.log (Bo m.log.size x)=I:=⟨_,rfl⟩
 have hIk:=acV ho hE
 rw [hI] at hIk
 have hB:cal env 16 [kL m.log,.agg [.int .i64 ((x.st:Int) % m.log.size),.int .i64 (1+(x.ct:Int) % (m.log.size - (x.st:Int) % m.log.size))]]=some [(.agg [.int .i64 I.size,.int .i64 I.aZ,.list 1 (I.act.map eI),.int .i64 I.bm.size,.list 1 (I.bm.ws.map eW)],false),(.bool (bgS m.log (Bo m.log.size x)),false),(.int .i64 0,false)]:=by
  have:=Zu (i:=m.log) (e:=Bo m.log.size x) hla
  rw [hI,hE] at this
  exact this
 have hN:cal env 12 [.agg [.int .i64 I.size,.int .i64 I.aZ,.list 1 (I.act.map eI),.int .i64 I.bm.size,.list 1 (I.bm.ws.map eW)]]=some [(.list 1 ((mg I).map eY),true)]:=Rj (by rw [hIk.2.2.2];exact hla)
 have P5:∀ a b c d e:PV,part [a,b,c,d,e] 0 (some 5)=some (.agg [a,b,c,d,e]):=fun _ _ _ _ _=>rfl
 have L1:m.ws.length≤lim:=by unfold lim;omega
 have L2:m.ws.length+1≤lim:=by unfold lim;omega
 obtain ⟨Q,hQ⟩:∃ Q,kM m x=Q:=⟨_,rfl⟩
 have hQm:jT Q:=by rw [← hQ];exact hm
 have hV:=xK hQm
 have hR:part (List.map BV.val (mD Q (.pv (.list 1 (Q.st.map eY))) (.pv (.list 5 (Q.ws.map fG))))) 0 (some 129)=some (.agg (mV Q)):=tJ hQm Q.st Q.ws rfl rfl
 have Z2:sN.length=129:=by simp [sN]
 have Z1:List.drop 129 (List.map V3 sN)=[]:=List.drop_of_length_le (by rw [y9];exact Nat.le_refl _)
 rw [cZ,kT,hQ,cZ]
 have HL:∀ log st ws nx ok,jT ⟨log,st,m.a,m.b,ws,nx,ok⟩:=fun _ _ _ _ _=>hm
 cases hb:bgS m.log (Bo m.log.size x) with
 |true =>
  rw [hb] at hB
  have hM:part (List.map BV.val (mD ⟨I,m.st,m.a,m.b,m.ws,m.nx+1,m.ok⟩ (.row 1 ((mg I).map eY)) (.row 5 (m.ws.map fG++[.agg [.int .i64 ((x.st:Int) % m.log.size),.int .i64 (1+(x.ct:Int) % (m.log.size - (x.st:Int) % m.log.size)),.bool false,.bool false,.int .i64 (m.nx+1)]])))) 0 (some 129)=some (.agg (mV Q)):=by
   rw [tJ (m:=⟨I,m.st,m.a,m.b,m.ws,m.nx+1,m.ok⟩) hm (mg I) (m.ws++[⟨Bo m.log.size x,false,false,m.nx+1⟩]) rfl (by rw [List.map_append];rfl),← cZ,← hQ]
   unfold kM
   rw [hI,hb]
   rfl
  rw [ah ady rfl];simp only [UH,aG,Nat.reduceBEq,Nat.reduceLeDiff,Nat.reduceAdd,List.length_cons,List.length_nil]
  simp only [Gu,ad5,y9,ah7,D6,dV,gW,aak,fE,Jt,ad6,rF,BZ,dJ,hm,HL,ad4,qA,List.length_map,F1,F2,F3,W1,W2,W3,W4,W5,M1,M2,hB,hN,P5,L1,L2,hV,hR,hM,Z1,Z2,ak,Nat.reduceMul,Nat.reduceBEq,Nat.reduceLT,Nat.reduceLeDiff,reduceCtorEq,Nat.reduceEqDiff,Nat.reduceAdd,Nat.beq]
 |false =>
  rw [hb] at hB
  have hM:part (List.map BV.val (mD ⟨I,m.st,m.a,m.b,m.ws,m.nx+1,m.ok⟩ (.pv (.list 1 (m.st.map eY))) (.row 5 (m.ws.map fG++[.agg [.int .i64 ((x.st:Int) % m.log.size),.int .i64 (1+(x.ct:Int) % (m.log.size - (x.st:Int) % m.log.size)),.bool false,.bool false,.int .i64 (m.nx+1)]])))) 0 (some 129)=some (.agg (mV Q)):=by
   rw [tJ (m:=⟨I,m.st,m.a,m.b,m.ws,m.nx+1,m.ok⟩) hm m.st (m.ws++[⟨Bo m.log.size x,false,false,m.nx+1⟩]) rfl (by rw [List.map_append];rfl),← cZ,← hQ]
   unfold kM
   rw [hI,hb]
   rfl
  rw [ah ady rfl];simp only [UH,aG,Nat.reduceBEq,Nat.reduceLeDiff,Nat.reduceAdd,List.length_cons,List.length_nil]
  simp only [Gu,ad5,y9,ah7,D6,dV,gW,aak,fE,Jt,ad6,rF,BZ,dJ,hm,HL,ad4,qA,List.length_map,F1,F2,F3,W1,W2,W3,W4,W5,M1,M2,hB,hN,P5,L1,L2,hV,hR,hM,Z1,Z2,ak,Nat.reduceMul,Nat.reduceBEq,Nat.reduceLT,Nat.reduceLeDiff,reduceCtorEq,Nat.reduceEqDiff,Nat.reduceAdd,Nat.beq]
end Go.Proofs.YtdahanchdjadiaaDoor.V

namespace Go.Proofs.YtdahanchdjadiaaDoor.V
def pM (m:iq) (K:Nat) (w:Pnd) (i:Nat):iq:=⟨m.log,m.st,if K=1 then Gw m.a ⟨w.e.start,(i:Int)⟩ w.v else m.a,if K=2 then Gw m.b ⟨w.e.start,(i:Int)⟩ w.v else m.b,m.ws,m.nx,m.ok⟩
theorem MZ (l:List Int) (s v:Int):Gw l ⟨s,((0:Nat):Int)⟩ v=l:=by
 apply List.ext_getElem
 ·exact wF _ _ _
 ·intro i h1 h2
  simp [Gw,rH]
theorem Cb (m:iq) (K:Nat) (w:Pnd):pM m K w 0=m:=by
 unfold pM
 rw [MZ,MZ]
 simp
theorem Na {l:List Int} {s v:Int} {i:Nat} (h0:0≤s) (h:s+i<l.length):(Gw l ⟨s,(i:Int)⟩ v).set (s+(i:Int)).toNat v=Gw l ⟨s,((i+1:Nat):Int)⟩ v:=by
 apply List.ext_getElem
 ·simp [Gw]
 ·intro j h1 h2
  simp only [Gw,List.getElem_set,List.getElem_mapIdx]
  have e:=wE (e:=⟨s,(i:Int)⟩) (s:=j)
  have e':=wE (e:=⟨s,((i+1:Nat):Int)⟩) (s:=j)
  simp only at e e'
  by_cases c:(s+(i:Int)).toNat=j
  ·rw [if_pos c,if_pos (e'.2 (by omega))]
  ·rw [if_neg c]
   by_cases d:rH ⟨s,(i:Int)⟩ j=true
   ·rw [if_pos d,if_pos (e'.2 (by have:=e.1 d;omega))]
   ·rw [if_neg d,if_neg (fun q=>d (e.2 (by have:=e'.1 q;omega)))]
theorem AX {m:iq} (h:jT m) (K:Nat) (w:Pnd) (i:Nat):jT (pM m K w i):=by
 constructor
 ·show (if K=1 then Gw m.a ⟨w.e.start,(i:Int)⟩ w.v else m.a).length=60
  split
  ·rw [wF];exact h.1
  ·exact h.1
 ·show (if K=2 then Gw m.b ⟨w.e.start,(i:Int)⟩ w.v else m.b).length=60
  split
  ·rw [wF];exact h.2
  ·exact h.2
def pB (w:Pnd):List BV:=[.pv (.int .i64 w.e.start),.pv (.int .i64 w.e.count),.pv (.bool w.f),.pv (.bool w.s),.pv (.int .i64 w.v)]
theorem jv (w:Pnd):pB w=[.pv (.int .i64 w.e.start),.pv (.int .i64 w.e.count),.pv (.bool w.f),.pv (.bool w.s),.pv (.int .i64 w.v)]:=rfl
theorem ac8 {m:iq} (h:jT m) (s0 w0:BV) {w:Pnd} {i:Nat} (h0:0≤w.e.start) (hi:w.e.start+(i:Int)<60):(mD (pM m 1 w i) s0 w0).set (6+(w.e.start+(i:Int)).toNat) (.pv (.int .i64 w.v))=mD (pM m 1 w (i+1)) s0 w0:=by
 rw [vF,List.set_comm _ _ (by omega),acZ (AX h 1 w i) _ (by omega)]
 have:{ pM m 1 w i with a:=(pM m 1 w i).a.set (w.e.start+(i:Int)).toNat w.v }=pM m 1 w (i+1):=by
  unfold pM
  simp only [if_true,if_pos]
  rw [Na h0 (by rw [h.1];omega)]
  rfl
 rw [this];rfl
theorem ac9 {m:iq} (h:jT m) (s0 w0:BV) {w:Pnd} {i:Nat} (h0:0≤w.e.start) (hi:w.e.start+(i:Int)<60):(mD (pM m 2 w i) s0 w0).set (66+(w.e.start+(i:Int)).toNat) (.pv (.int .i64 w.v))=mD (pM m 2 w (i+1)) s0 w0:=by
 rw [vF,List.set_comm _ _ (by omega),ac0 (AX h 2 w i) _ (by omega)]
 have:{ pM m 2 w i with b:=(pM m 2 w i).b.set (w.e.start+(i:Int)).toNat w.v }=pM m 2 w (i+1):=by
  unfold pM
  simp only [if_true,if_pos]
  rw [Na h0 (by rw [h.2];omega)]
  rfl
 rw [this];rfl
theorem ajf (m:iq) (w:Pnd) (i j:Nat):pM m 3 w i=pM m 3 w j:=rfl
set_option maxRecDepth 20000 in
theorem Ju {m:iq} {x:tY} {w:Pnd} {kk K:Nat} (hm:jT m) (hK:x.kd % 5=K) (hK2:K=1∨K=2∨K=3) (hx:x.kd<256) (hw:0≤w.e.start∧1≤w.e.count∧w.e.start+w.e.count≤60) {st:St} (h:st.head [2,3,4,7,8,9] st.boxes.length=some ⟨sl 168 [(2,.aP 0 0),(3,.aP 1 0),(4,.aP 2 0),(7,.pv (.int .i64 kk)),(8,.aP 3 0),(9,.pv (.int .i64 (w.e.start+(((0:Nat):Nat):Int))))],[⟨false,mD (pM m K w ((0:Nat))) (.pv (.list 1 (m.st.map eY))) (.pv (.list 5 (m.ws.map fG)))⟩,⟨false,[.pv (.int .u8 (x.kd:Int)),.pv (.int .u8 (x.wh:Int)),.pv (.int .u8 (x.st:Int)),.pv (.int .u8 (x.ct:Int))]⟩,⟨false,sN.map V3⟩,⟨false,pB w⟩],[],none⟩) :
  den env Ib st=some (.normal,⟨sl 168 [(2,.aP 0 0),(3,.aP 1 0),(4,.aP 2 0),(7,.pv (.int .i64 kk)),(8,.aP 3 0)],[⟨false,mD (pM m K w w.e.count.toNat) (.pv (.list 1 (m.st.map eY))) (.pv (.list 5 (m.ws.map fG)))⟩,⟨false,[.pv (.int .u8 (x.kd:Int)),.pv (.int .u8 (x.wh:Int)),.pv (.int .u8 (x.st:Int)),.pv (.int .u8 (x.ct:Int))]⟩,⟨false,sN.map V3⟩,⟨false,pB w⟩],[],none⟩):=by
 unfold Ib
 refine dw (env:=env) (nb:=4) (w.e.count.toNat) (fun i=>⟨sl 168 [(2,.aP 0 0),(3,.aP 1 0),(4,.aP 2 0),(7,.pv (.int .i64 kk)),(8,.aP 3 0),(9,.pv (.int .i64 (w.e.start+((i:Nat):Int))))],[⟨false,mD (pM m K w (i)) (.pv (.list 1 (m.st.map eY))) (.pv (.list 5 (m.ws.map fG)))⟩,⟨false,[.pv (.int .u8 (x.kd:Int)),.pv (.int .u8 (x.wh:Int)),.pv (.int .u8 (x.st:Int)),.pv (.int .u8 (x.ct:Int))]⟩,⟨false,sN.map V3⟩,⟨false,pB w⟩],[],none⟩) (fun i=>some (.normal,⟨sl 168 [(2,.aP 0 0),(3,.aP 1 0),(4,.aP 2 0),(7,.pv (.int .i64 kk)),(8,.aP 3 0)],[⟨false,mD (pM m K w w.e.count.toNat) (.pv (.list 1 (m.st.map eY))) (.pv (.list 5 (m.ws.map fG)))⟩,⟨false,[.pv (.int .u8 (x.kd:Int)),.pv (.int .u8 (x.wh:Int)),.pv (.int .u8 (x.st:Int)),.pv (.int .u8 (x.ct:Int))]⟩,⟨false,sN.map V3⟩,⟨false,pB w⟩],[],none⟩)) h (fun _=>rfl) (fun _=>by simp only [aG,bY,Nat.reduceMul,Nat.reduceBEq,Nat.reduceLT,Nat.reduceLeDiff,Nat.reduceAdd,decide_true,Bool.and_self,Bool.true_and]) ?_ ?_
 ·intro i rb hi ih
  have c2:w.e.start+(i:Int)<60:=by omega
  have c3:0≤w.e.start+(i:Int):=by omega
  have W1:IntKind.i64.wrap (w.e.start+w.e.count)=w.e.start+w.e.count:=ay (by omega)
  have W2:IntKind.i64.wrap (w.e.start+(i:Int)+1)=w.e.start+((i+1:Nat):Int):=by rw [ay (by omega)];omega
  have F1:(w.e.start+(i:Int)<w.e.start+w.e.count)=True:=eq_true (by omega)
  have F2:(w.e.start+(i:Int)<60)=True:=eq_true c2
  have M1:(x.kd:Int).tmod 5=(K:Int):=by rw [Int.tmod_eq_emod_of_nonneg (by omega)];omega
  have J1:index (.int .i64 (w.e.start+(i:Int))) 60=some (w.e.start+(i:Int)).toNat:=UA c3 c2
  have F5:((5:Int)=0)=False:=eq_false (by decide)
  rcases hK2 with rfl|rfl|rfl
  ·have E1:(((1:Nat):Int)==1)=true:=rfl
   have E2:(((1:Nat):Int)==2)=false:=rfl
   have hln:=dV (AX hm 1 w i)
   have F6:(6+(w.e.start+(i:Int)).toNat≤128)=True:=eq_true (by omega)
   have hs:=(take_set (BV.pv (.int .i64 w.v)) (by rw [hln];omega)).trans (ac8 hm (.pv (.list 1 (m.st.map eY))) (.pv (.list 5 (m.ws.map fG))) (w:=w) (i:=i) hw.1 c2)
   simp only [yM,F1,F2,F5,F6,Nat.mul_one,W1,W2,M1,J1,E1,E2,jv,hs,hln,ak,Nat.reduceMul,Nat.reduceBEq,Nat.reduceLT,Nat.reduceLeDiff,reduceCtorEq,Nat.reduceEqDiff,Nat.reduceAdd,Nat.beq]
   rw [ih _ (by simp only [jv,ak,Nat.reduceMul,Nat.reduceBEq,Nat.reduceLT,Nat.reduceLeDiff,reduceCtorEq,Nat.reduceEqDiff,Nat.reduceAdd,Nat.beq]<;>rfl)]
   rfl
  ·have E1:(((2:Nat):Int)==1)=false:=rfl
   have E2:(((2:Nat):Int)==2)=true:=rfl
   have hln:=dV (AX hm 2 w i)
   have F6:(66+(w.e.start+(i:Int)).toNat≤128)=True:=eq_true (by omega)
   have hs:=(take_set (BV.pv (.int .i64 w.v)) (by rw [hln];omega)).trans (ac9 hm (.pv (.list 1 (m.st.map eY))) (.pv (.list 5 (m.ws.map fG))) (w:=w) (i:=i) hw.1 c2)
   simp only [yM,F1,F2,F5,F6,Nat.mul_one,W1,W2,M1,J1,E1,E2,jv,hs,hln,ak,Nat.reduceMul,Nat.reduceBEq,Nat.reduceLT,Nat.reduceLeDiff,reduceCtorEq,Nat.reduceEqDiff,Nat.reduceAdd,Nat.beq]
   rw [ih _ (by simp only [jv,ak,Nat.reduceMul,Nat.reduceBEq,Nat.reduceLT,Nat.reduceLeDiff,reduceCtorEq,Nat.reduceEqDiff,Nat.reduceAdd,Nat.beq]<;>rfl)]
   rfl
  ·have E1:(((3:Nat):Int)==1)=false:=rfl
   have E2:(((3:Nat):Int)==2)=false:=rfl
   simp only [yM,F1,F2,F5,W1,W2,M1,J1,E1,E2,jv,ajf m w i (i+1),ak,Nat.reduceMul,Nat.reduceBEq,Nat.reduceLT,Nat.reduceLeDiff,reduceCtorEq,Nat.reduceEqDiff,Nat.reduceAdd,Nat.beq]
   rw [ih _ (by simp only [jv,ak,Nat.reduceMul,Nat.reduceBEq,Nat.reduceLT,Nat.reduceLeDiff,reduceCtorEq,Nat.reduceEqDiff,Nat.reduceAdd,Nat.beq]<;>rfl)]
   rfl
 ·intro rb
  have W1:IntKind.i64.wrap (w.e.start+w.e.count)=w.e.start+w.e.count:=ay (by omega)
  have F1:(w.e.start+(w.e.count.toNat:Int)<w.e.start+w.e.count)=False:=eq_false (by omega)
  simp only [yM,F1,W1,jv,ak,Nat.reduceMul,Nat.reduceBEq,Nat.reduceLT,Nat.reduceLeDiff,reduceCtorEq,Nat.reduceEqDiff,Nat.reduceAdd,Nat.beq]
end Go.Proofs.YtdahanchdjadiaaDoor.V

namespace Go.Proofs.YtdahanchdjadiaaDoor.V
section
variable {m:iq} (h:jT m) (l:List Nat) (ws:List Pnd)
include h
theorem jY:part (List.map BV.val (mD m (.pv (.list 1 (l.map eY))) (.pv (.list 5 (ws.map fG))))) 0 (some 129)=some (.agg (mV ⟨m.log,l,m.a,m.b,ws,m.nx,m.ok⟩)):=tJ h l ws rfl rfl
theorem ad7:part (List.map BV.val (mD m (.row 1 (l.map eY)) (.pv (.list 5 (ws.map fG))))) 0 (some 129)=some (.agg (mV ⟨m.log,l,m.a,m.b,ws,m.nx,m.ok⟩)):=tJ h l ws rfl rfl
theorem mQ:part (List.map BV.val (mD m (.pv (.list 1 (l.map eY))) (.row 5 (ws.map fG)))) 0 (some 129)=some (.agg (mV ⟨m.log,l,m.a,m.b,ws,m.nx,m.ok⟩)):=tJ h l ws rfl rfl
end
theorem iL {log:fZ} {st:List Nat} {a b:List Int} {ws:List Pnd} {nx:Int} {ok:Bool} (h:jT ⟨log,st,a,b,ws,nx,ok⟩):(mV ⟨log,st,a,b,ws,nx,ok⟩).length=129:=xK h
theorem fF:sN.length=129:=by simp [sN]
theorem dL:List.drop 129 (List.map V3 sN)=[]:=List.drop_of_length_le (by rw [y9];exact Nat.le_refl _)
theorem iM (m:iq):(mV m).map BV.pv=mD m (.pv (.list 1 (m.st.map eY))) (.pv (.list 5 (m.ws.map fG))):=Gu m
set_option maxRecDepth 20000 in
theorem afE {n g:Int} {m:iq} {j:fZ} {c:Nat} {x:tY} (h:Inv n g m j c) (hn:n≤60) (hc:c≤100) (hx:okV x) (hK:x.kd % 5=0):cal env 13 [oV m,tH x]=some [(oV (pU m x),false)]:=by
 have hm:=h.ms
 have hk5:(x.kd:Int).tmod 5=0:=by rw [Int.tmod_eq_emod_of_nonneg (by omega)];omega
 have F5:((5:Int)=0)=False:=eq_false (by decide)
 have E0:((0:Int)==0)=true:=rfl
 have hz:=bT.1 h.n60
 have hl:=h.wl
 have hnx:=h.nx
 have hB:=ah8 (m:=m) (x:=x) hm h.lg (by rw [h.sz];omega) hx (aag h (by omega) (by rw [h.sz];exact PX hz.1 x)) (by omega) (by omega)
 rw [cZ,kT] at hB
 have hQ:pU m x=kM m x:=by unfold pU;rw [if_pos hK]
 have hQl:(mV (kM m x)).length=129:=xK (m:=kM m x) hm
 have hQa:part (List.map BV.val (mD (kM m x) (.pv (.list 1 ((kM m x).st.map eY))) (.pv (.list 5 ((kM m x).ws.map fG))))) 0 (some 129)=some (.agg (mV (kM m x))):=tJ (m:=kM m x) hm _ _ rfl rfl
 rw [cZ] at hB
 rw [hQ,cZ,kT,cZ]
 have P4:∀ a b c d:PV,part [a,b,c,d] 0 (some 4)=some (.agg [a,b,c,d]):=fun _ _ _ _=>rfl
 rw [ah AO rfl];simp only [Bj,aG,Nat.reduceBEq,Nat.reduceLeDiff,Nat.reduceAdd,List.length_cons,List.length_nil]
 simp only [iM,dV,dJ,jY,P4,hm,hk5,F5,E0,hB,hQl,hQa,fF,dL,List.length_map,ak,Nat.reduceMul,Nat.reduceBEq,Nat.reduceLT,Nat.reduceLeDiff,reduceCtorEq,Nat.reduceEqDiff,Nat.reduceAdd,Nat.beq]
 done
set_option maxRecDepth 20000 in
theorem afG {n g:Int} {m:iq} {j:fZ} {c:Nat} {x:tY} (h:Inv n g m j c) (hn:n≤60) (hx:okV x) (hK:x.kd % 5=4):cal env 13 [oV m,tH x]=some [(oV (pU m x),false)]:=by
 have hm:=h.ms
 obtain ⟨x1,x2,x3,x4⟩:=hx
 have hk5:(x.kd:Int).tmod 5=4:=by rw [Int.tmod_eq_emod_of_nonneg (by omega)];omega
 have hw2:(x.wh:Int).tmod 2=((x.wh % 2:Nat):Int):=by rw [Int.tmod_eq_emod_of_nonneg (by omega)];rfl
 have F5:((5:Int)=0)=False:=eq_false (by decide)
 have F2:((2:Int)=0)=False:=eq_false (by decide)
 have E0:((4:Int)==0)=false:=rfl
 have E1:((4:Int)==4)=true:=rfl
 obtain ⟨i1,i2,i3,i4,i5⟩:=bU.1 h.lg
 have hla:m.log.act.length≤lim:=by have:=lq i1;have:=bT.1 i1;unfold lim;omega
 obtain ⟨I,hI⟩:∃ I,xH m.log=I:=⟨_,rfl⟩
 have hC:cal env 18 [kL m.log]=some [(.agg [.int .i64 I.size,.int .i64 I.aZ,.list 1 (I.act.map eI),.int .i64 I.bm.size,.list 1 (I.bm.ws.map eW)],false),(.bool (acF m.log),false)]:=by
  have:=adU hla
  rw [hI] at this
  exact this
 have hIa:I.act=m.log.act:=by rw [← hI];exact (MV h.lg).2.2.2.1
 have hN:cal env 12 [.agg [.int .i64 I.size,.int .i64 I.aZ,.list 1 (I.act.map eI),.int .i64 I.bm.size,.list 1 (I.bm.ws.map eW)]]=some [(.list 1 ((mg I).map eY),true)]:=Rj (by rw [hIa];exact hla)
 have P5:∀ a b c d e:PV,part [a,b,c,d,e] 0 (some 5)=some (.agg [a,b,c,d,e]):=fun _ _ _ _ _=>rfl
 have hQ:pU m x=Jq m x:=by unfold pU;rw [if_neg (by omega),if_pos hK]
 have HL:∀ log st ws nx ok,jT ⟨log,st,m.a,m.b,ws,nx,ok⟩:=fun _ _ _ _ _=>hm
 rw [hQ]
 unfold Jq
 rw [hI,cZ,kT,cZ]
 rcases (by omega:x.wh % 2=0∨x.wh % 2=1) with cw|cw
 ·have W0:(((x.wh % 2:Nat):Int)==0)=true:=by rw [cw];rfl
  rw [if_pos cw]
  rw [ah AO rfl];simp only [Bj,aG,Nat.reduceBEq,Nat.reduceLeDiff,Nat.reduceAdd,List.length_cons,List.length_nil]
  simp only [iM,dV,dJ,D6,rF,BZ,jY,ad7,iL,hm,HL,hk5,hw2,F5,F2,E0,E1,hC,hN,P5,W0,fF,dL,List.length_map,ak,Nat.reduceMul,Nat.reduceBEq,Nat.reduceLT,Nat.reduceLeDiff,reduceCtorEq,Nat.reduceEqDiff,Nat.reduceAdd,Nat.beq]
  done
 ·have W0:(((x.wh % 2:Nat):Int)==0)=false:=by rw [cw];rfl
  rw [if_neg (by omega)]
  rw [ah AO rfl];simp only [Bj,aG,Nat.reduceBEq,Nat.reduceLeDiff,Nat.reduceAdd,List.length_cons,List.length_nil]
  simp only [iM,dV,dJ,D6,rF,BZ,jY,ad7,iL,hm,HL,hk5,hw2,F5,F2,E0,E1,hC,hN,P5,W0,fF,dL,List.length_map,ak,Nat.reduceMul,Nat.reduceBEq,Nat.reduceLT,Nat.reduceLeDiff,reduceCtorEq,Nat.reduceEqDiff,Nat.reduceAdd,Nat.beq]
  done
end Go.Proofs.YtdahanchdjadiaaDoor.V

namespace Go.Proofs.YtdahanchdjadiaaDoor.V
theorem Jv {m:iq} {K:Nat} {w:Pnd} (h:0≤w.e.count):pM m K w w.e.count.toNat=⟨m.log,m.st,if K=1 then Gw m.a w.e w.v else m.a,if K=2 then Gw m.b w.e w.v else m.b,m.ws,m.nx,m.ok⟩:=by
 have e:(⟨w.e.start,((w.e.count.toNat:Nat):Int)⟩:bD)=w.e:=by
  rw [show ((w.e.count.toNat:Nat):Int)=w.e.count by omega]
 unfold pM
 rw [e]
set_option maxRecDepth 20000 in
theorem afH {n g:Int} {m:iq} {j:fZ} {c:Nat} {x:tY} (h:Inv n g m j c) (hx:okV x) (hK0:x.kd % 5≠0) (hK4:x.kd % 5≠4) (hw:m.ws=[]):cal env 13 [oV m,tH x]=some [(oV m,false)]:=by
 have hm:=h.ms
 obtain ⟨x1,x2,x3,x4⟩:=hx
 obtain ⟨K,hk⟩:∃ K,x.kd % 5=K:=⟨_,rfl⟩
 rw [hk] at hK0 hK4
 have hk5:(x.kd:Int).tmod 5=(K:Int):=by rw [Int.tmod_eq_emod_of_nonneg (by omega)];omega
 have F5:((5:Int)=0)=False:=eq_false (by decide)
 have E0:((K:Int)==0)=false:=by simp;omega
 have E4:((K:Int)==4)=false:=by simp;omega
 have EL:((m.ws.length:Int)==0)=true:=by rw [hw];rfl
 have HL:∀ log st ws nx ok,jT ⟨log,st,m.a,m.b,ws,nx,ok⟩:=fun _ _ _ _ _=>hm
 have hQl:(mV m).length=129:=xK hm
 rw [cZ,kT]
 rw [ah AO rfl];simp only [Bj,aG,Nat.reduceBEq,Nat.reduceLeDiff,Nat.reduceAdd,List.length_cons,List.length_nil]
 simp only [iM,dV,gW,dJ,jY,iL,hm,HL,hk5,F5,E0,E4,EL,hQl,fF,dL,List.length_map,ak,Nat.reduceMul,Nat.reduceBEq,Nat.reduceLT,Nat.reduceLeDiff,reduceCtorEq,Nat.reduceEqDiff,Nat.reduceAdd,Nat.beq]
--+
set_option maxRecDepth 20000 in
theorem ada {n g:Int} {m:iq} {j:fZ} {c:Nat} {x:tY} (h:Inv n g m j c) (hn:n≤60) (hc:c≤100) (hx:okV x) (hK:x.kd % 5=1) {w:Pnd} (hw:m.ws[x.wh % m.ws.length]?=some w) (h3:1≠3∨w.f=false∨w.s=false):cal env 13 [oV m,tH x]=some [(oV (mM m x (x.wh % m.ws.length) w),false)]:=by
 have hm:=h.ms
 obtain ⟨hkl,hkw⟩:=List.getElem?_eq_some_iff.1 hw
 have hwl:=h.wl
 obtain ⟨x1,x2,x3,x4⟩:=hx
 have hk5:(x.kd:Int).tmod 5=((1:Nat):Int):=by rw [Int.tmod_eq_emod_of_nonneg (by omega)];omega
 have F5:((5:Int)=0)=False:=eq_false (by decide)
 have E0:(((1:Nat):Int)==0)=false:=rfl
 have E4:(((1:Nat):Int)==4)=false:=rfl
 have E1:(((1:Nat):Int)==1)=true:=rfl
 have E2:(((1:Nat):Int)==2)=false:=rfl
 have E3:(((1:Nat):Int)==3)=false:=rfl
 have EL:((m.ws.length:Int)==0)=false:=by simp;intro e;rw [e] at hkl;simp at hkl
 have FL:((m.ws.length:Int)=0)=False:=eq_false (by omega)
 have W1:IntKind.i64.wrap (x.wh:Int)=x.wh:=ay (by omega)
 have MW:(x.wh:Int).tmod (m.ws.length:Int)=((x.wh % m.ws.length:Nat):Int):=by rw [Int.tmod_eq_emod_of_nonneg (by omega)];rfl
 have hb:=iI.1 (h.wf w.e (List.mem_map_of_mem (List.mem_of_getElem? hw)))
 obtain ⟨k,hk⟩:∃ k,x.wh % m.ws.length=k:=⟨_,rfl⟩
 rw [hk] at hkl hw MW ⊢
 have hxk:(m.ws.map fG)[k]?=some (.agg [.int .i64 w.e.start,.int .i64 w.e.count,.bool w.f,.bool w.s,.int .i64 w.v]):=by rw [List.getElem?_map,hw];rfl
 have hP:=AX hm 1 w w.e.count.toNat
 have VF:=Jv (m:=m) (K:=1) (w:=w) (by omega)
 obtain ⟨PE,PZ⟩:∃ PE,pM m 1 w w.e.count.toNat=PE:=⟨_,rfl⟩
 have HL:∀ log st ws nx ok,jT ⟨log,st,PE.a,PE.b,ws,nx,ok⟩:=fun _ _ _ _ _=>by rw [← PZ];exact hP
 rw [PZ] at hP VF
 have hQ:mM m x k w=⟨PE.log,m.st,PE.a,PE.b,m.ws.set k (kS x w),PE.nx,PE.ok⟩:=by rw [VF];unfold mM;rw [hK]
 have L0:m.ws.length≤lim:=by unfold lim;omega
 have S0:w.e.start+((0:Nat):Int)=w.e.start:=by omega
 have hloop:=fun st=>Ju (m:=m) (x:=x) (w:=w) (kk:=k) (K:=1) hm hK (by decide) x1 (by omega) (st:=st)
 rw [PZ] at hloop
 rw [hQ,cZ,kT,cZ]
 rw [ah AO rfl];simp only [Bj,aG,Nat.reduceBEq,Nat.reduceLeDiff,Nat.reduceAdd,List.length_cons,List.length_nil]
 simp only [iM,dV,gW,fE,dJ,jY,mQ,iL,hm,hP,HL,hk5,F5,E0,E4,EL,FL,W1,MW,aj hkl,hxk,L0,fF,dL,List.length_map,ak,Nat.reduceMul,Nat.reduceBEq,Nat.reduceLT,Nat.reduceLeDiff,reduceCtorEq,Nat.reduceEqDiff,Nat.reduceAdd,Nat.beq]
 rw [hloop _ (by simp only [Cb,jv,S0];simp only [aG,bY,Nat.reduceMul,Nat.reduceBEq,Nat.reduceLT,Nat.reduceLeDiff,Nat.reduceAdd,decide_true,Bool.and_self,Bool.true_and]<;>rfl)]
 have hset:∀ a b:Bool,kS x w=⟨w.e,a,b,w.v⟩→(m.ws.map fG).set k (.agg [.int .i64 w.e.start,.int .i64 w.e.count,.bool a,.bool b,.int .i64 w.v])=(m.ws.set k (kS x w)).map fG:=fun a b e=>by rw [e,List.map_set];rfl
 cases hf:w.f<;>cases hs:w.s
 ·have hw':kS x w=⟨w.e,true,false,w.v⟩:=by unfold kS;rw [hK,hf,hs];rfl
  have q:=hset _ _ hw'
  simp only [jv,hf,hs,q,iM,dV,gW,fE,dJ,jY,mQ,iL,hm,hP,HL,hk5,F5,E0,E1,E2,E3,E4,EL,FL,W1,MW,aj hkl,hxk,L0,fF,dL,List.length_map,ak,Nat.reduceMul,Nat.reduceBEq,Nat.reduceLT,Nat.reduceLeDiff,reduceCtorEq,Nat.reduceEqDiff,Nat.reduceAdd,Nat.beq]
 ·have hw':kS x w=⟨w.e,true,true,w.v⟩:=by unfold kS;rw [hK,hf,hs];rfl
  have q:=hset _ _ hw'
  simp only [jv,hf,hs,q,iM,dV,gW,fE,dJ,jY,mQ,iL,hm,hP,HL,hk5,F5,E0,E1,E2,E3,E4,EL,FL,W1,MW,aj hkl,hxk,L0,fF,dL,List.length_map,ak,Nat.reduceMul,Nat.reduceBEq,Nat.reduceLT,Nat.reduceLeDiff,reduceCtorEq,Nat.reduceEqDiff,Nat.reduceAdd,Nat.beq]
 ·have hw':kS x w=⟨w.e,true,false,w.v⟩:=by unfold kS;rw [hK,hf,hs];rfl
  have q:=hset _ _ hw'
  simp only [jv,hf,hs,q,iM,dV,gW,fE,dJ,jY,mQ,iL,hm,hP,HL,hk5,F5,E0,E1,E2,E3,E4,EL,FL,W1,MW,aj hkl,hxk,L0,fF,dL,List.length_map,ak,Nat.reduceMul,Nat.reduceBEq,Nat.reduceLT,Nat.reduceLeDiff,reduceCtorEq,Nat.reduceEqDiff,Nat.reduceAdd,Nat.beq]
 ·by_cases c3:1=3
  ·rcases h3 with e|e|e
   ·exact absurd c3 e
   ·rw [e] at hf;cases hf
   ·rw [e] at hs;cases hs
  have hw':kS x w=⟨w.e,true,true,w.v⟩:=by unfold kS;rw [hK,hf,hs];rfl
  have q:=hset _ _ hw'
  first
  |exact absurd rfl c3
  |skip
   simp only [jv,hf,hs,q,iM,dV,gW,fE,dJ,jY,mQ,iL,hm,hP,HL,hk5,F5,E0,E1,E2,E3,E4,EL,FL,W1,MW,aj hkl,hxk,L0,fF,dL,List.length_map,ak,Nat.reduceMul,Nat.reduceBEq,Nat.reduceLT,Nat.reduceLeDiff,reduceCtorEq,Nat.reduceEqDiff,Nat.reduceAdd,Nat.beq]
--+
set_option maxRecDepth 20000 in
theorem adb {n g:Int} {m:iq} {j:fZ} {c:Nat} {x:tY} (h:Inv n g m j c) (hn:n≤60) (hc:c≤100) (hx:okV x) (hK:x.kd % 5=2) {w:Pnd} (hw:m.ws[x.wh % m.ws.length]?=some w) (h3:2≠3∨w.f=false∨w.s=false):cal env 13 [oV m,tH x]=some [(oV (mM m x (x.wh % m.ws.length) w),false)]:=by
 have hm:=h.ms
 obtain ⟨hkl,hkw⟩:=List.getElem?_eq_some_iff.1 hw
 have hwl:=h.wl
 obtain ⟨x1,x2,x3,x4⟩:=hx
 have hk5:(x.kd:Int).tmod 5=((2:Nat):Int):=by rw [Int.tmod_eq_emod_of_nonneg (by omega)];omega
 have F5:((5:Int)=0)=False:=eq_false (by decide)
 have E0:(((2:Nat):Int)==0)=false:=rfl
 have E4:(((2:Nat):Int)==4)=false:=rfl
 have E1:(((2:Nat):Int)==1)=false:=rfl
 have E2:(((2:Nat):Int)==2)=true:=rfl
 have E3:(((2:Nat):Int)==3)=false:=rfl
 have EL:((m.ws.length:Int)==0)=false:=by simp;intro e;rw [e] at hkl;simp at hkl
 have FL:((m.ws.length:Int)=0)=False:=eq_false (by omega)
 have W1:IntKind.i64.wrap (x.wh:Int)=x.wh:=ay (by omega)
 have MW:(x.wh:Int).tmod (m.ws.length:Int)=((x.wh % m.ws.length:Nat):Int):=by rw [Int.tmod_eq_emod_of_nonneg (by omega)];rfl
 have hb:=iI.1 (h.wf w.e (List.mem_map_of_mem (List.mem_of_getElem? hw)))
 obtain ⟨k,hk⟩:∃ k,x.wh % m.ws.length=k:=⟨_,rfl⟩
 rw [hk] at hkl hw MW ⊢
 have hxk:(m.ws.map fG)[k]?=some (.agg [.int .i64 w.e.start,.int .i64 w.e.count,.bool w.f,.bool w.s,.int .i64 w.v]):=by rw [List.getElem?_map,hw];rfl
 have hP:=AX hm 2 w w.e.count.toNat
 have VF:=Jv (m:=m) (K:=2) (w:=w) (by omega)
 obtain ⟨PE,PZ⟩:∃ PE,pM m 2 w w.e.count.toNat=PE:=⟨_,rfl⟩
 have HL:∀ log st ws nx ok,jT ⟨log,st,PE.a,PE.b,ws,nx,ok⟩:=fun _ _ _ _ _=>by rw [← PZ];exact hP
 rw [PZ] at hP VF
 have hQ:mM m x k w=⟨PE.log,m.st,PE.a,PE.b,m.ws.set k (kS x w),PE.nx,PE.ok⟩:=by rw [VF];unfold mM;rw [hK]
 have L0:m.ws.length≤lim:=by unfold lim;omega
 have S0:w.e.start+((0:Nat):Int)=w.e.start:=by omega
 have hloop:=fun st=>Ju (m:=m) (x:=x) (w:=w) (kk:=k) (K:=2) hm hK (by decide) x1 (by omega) (st:=st)
 rw [PZ] at hloop
 rw [hQ,cZ,kT,cZ]
 rw [ah AO rfl];simp only [Bj,aG,Nat.reduceBEq,Nat.reduceLeDiff,Nat.reduceAdd,List.length_cons,List.length_nil]
 simp only [iM,dV,gW,fE,dJ,jY,mQ,iL,hm,hP,HL,hk5,F5,E0,E4,EL,FL,W1,MW,aj hkl,hxk,L0,fF,dL,List.length_map,ak,Nat.reduceMul,Nat.reduceBEq,Nat.reduceLT,Nat.reduceLeDiff,reduceCtorEq,Nat.reduceEqDiff,Nat.reduceAdd,Nat.beq]
 rw [hloop _ (by simp only [Cb,jv,S0];simp only [aG,bY,Nat.reduceMul,Nat.reduceBEq,Nat.reduceLT,Nat.reduceLeDiff,Nat.reduceAdd,decide_true,Bool.and_self,Bool.true_and]<;>rfl)]
 have hset:∀ a b:Bool,kS x w=⟨w.e,a,b,w.v⟩→(m.ws.map fG).set k (.agg [.int .i64 w.e.start,.int .i64 w.e.count,.bool a,.bool b,.int .i64 w.v])=(m.ws.set k (kS x w)).map fG:=fun a b e=>by rw [e,List.map_set];rfl
 cases hf:w.f<;>cases hs:w.s
 ·have hw':kS x w=⟨w.e,false,true,w.v⟩:=by unfold kS;rw [hK,hf,hs];rfl
  have q:=hset _ _ hw'
  simp only [jv,hf,hs,q,iM,dV,gW,fE,dJ,jY,mQ,iL,hm,hP,HL,hk5,F5,E0,E1,E2,E3,E4,EL,FL,W1,MW,aj hkl,hxk,L0,fF,dL,List.length_map,ak,Nat.reduceMul,Nat.reduceBEq,Nat.reduceLT,Nat.reduceLeDiff,reduceCtorEq,Nat.reduceEqDiff,Nat.reduceAdd,Nat.beq]
 ·have hw':kS x w=⟨w.e,false,true,w.v⟩:=by unfold kS;rw [hK,hf,hs];rfl
  have q:=hset _ _ hw'
  simp only [jv,hf,hs,q,iM,dV,gW,fE,dJ,jY,mQ,iL,hm,hP,HL,hk5,F5,E0,E1,E2,E3,E4,EL,FL,W1,MW,aj hkl,hxk,L0,fF,dL,List.length_map,ak,Nat.reduceMul,Nat.reduceBEq,Nat.reduceLT,Nat.reduceLeDiff,reduceCtorEq,Nat.reduceEqDiff,Nat.reduceAdd,Nat.beq]
 ·have hw':kS x w=⟨w.e,true,true,w.v⟩:=by unfold kS;rw [hK,hf,hs];rfl
  have q:=hset _ _ hw'
  simp only [jv,hf,hs,q,iM,dV,gW,fE,dJ,jY,mQ,iL,hm,hP,HL,hk5,F5,E0,E1,E2,E3,E4,EL,FL,W1,MW,aj hkl,hxk,L0,fF,dL,List.length_map,ak,Nat.reduceMul,Nat.reduceBEq,Nat.reduceLT,Nat.reduceLeDiff,reduceCtorEq,Nat.reduceEqDiff,Nat.reduceAdd,Nat.beq]
 ·by_cases c3:2=3
  ·rcases h3 with e|e|e
   ·exact absurd c3 e
   ·rw [e] at hf;cases hf
   ·rw [e] at hs;cases hs
  have hw':kS x w=⟨w.e,true,true,w.v⟩:=by unfold kS;rw [hK,hf,hs];rfl
  have q:=hset _ _ hw'
  first
  |exact absurd rfl c3
  |skip
   simp only [jv,hf,hs,q,iM,dV,gW,fE,dJ,jY,mQ,iL,hm,hP,HL,hk5,F5,E0,E1,E2,E3,E4,EL,FL,W1,MW,aj hkl,hxk,L0,fF,dL,List.length_map,ak,Nat.reduceMul,Nat.reduceBEq,Nat.reduceLT,Nat.reduceLeDiff,reduceCtorEq,Nat.reduceEqDiff,Nat.reduceAdd,Nat.beq]
--+
set_option maxRecDepth 20000 in
theorem ade {n g:Int} {m:iq} {j:fZ} {c:Nat} {x:tY} (h:Inv n g m j c) (hn:n≤60) (hc:c≤100) (hx:okV x) (hK:x.kd % 5=3) {w:Pnd} (hw:m.ws[x.wh % m.ws.length]?=some w) (h3:3≠3∨w.f=false∨w.s=false):cal env 13 [oV m,tH x]=some [(oV (mM m x (x.wh % m.ws.length) w),false)]:=by
 have hm:=h.ms
 obtain ⟨hkl,hkw⟩:=List.getElem?_eq_some_iff.1 hw
 have hwl:=h.wl
 obtain ⟨x1,x2,x3,x4⟩:=hx
 have hk5:(x.kd:Int).tmod 5=((3:Nat):Int):=by rw [Int.tmod_eq_emod_of_nonneg (by omega)];omega
 have F5:((5:Int)=0)=False:=eq_false (by decide)
 have E0:(((3:Nat):Int)==0)=false:=rfl
 have E4:(((3:Nat):Int)==4)=false:=rfl
 have E1:(((3:Nat):Int)==1)=false:=rfl
 have E2:(((3:Nat):Int)==2)=false:=rfl
 have E3:(((3:Nat):Int)==3)=true:=rfl
 have EL:((m.ws.length:Int)==0)=false:=by simp;intro e;rw [e] at hkl;simp at hkl
 have FL:((m.ws.length:Int)=0)=False:=eq_false (by omega)
 have W1:IntKind.i64.wrap (x.wh:Int)=x.wh:=ay (by omega)
 have MW:(x.wh:Int).tmod (m.ws.length:Int)=((x.wh % m.ws.length:Nat):Int):=by rw [Int.tmod_eq_emod_of_nonneg (by omega)];rfl
 have hb:=iI.1 (h.wf w.e (List.mem_map_of_mem (List.mem_of_getElem? hw)))
 obtain ⟨k,hk⟩:∃ k,x.wh % m.ws.length=k:=⟨_,rfl⟩
 rw [hk] at hkl hw MW ⊢
 have hxk:(m.ws.map fG)[k]?=some (.agg [.int .i64 w.e.start,.int .i64 w.e.count,.bool w.f,.bool w.s,.int .i64 w.v]):=by rw [List.getElem?_map,hw];rfl
 have hP:=AX hm 3 w w.e.count.toNat
 have VF:=Jv (m:=m) (K:=3) (w:=w) (by omega)
 obtain ⟨PE,PZ⟩:∃ PE,pM m 3 w w.e.count.toNat=PE:=⟨_,rfl⟩
 have HL:∀ log st ws nx ok,jT ⟨log,st,PE.a,PE.b,ws,nx,ok⟩:=fun _ _ _ _ _=>by rw [← PZ];exact hP
 rw [PZ] at hP VF
 have hQ:mM m x k w=⟨PE.log,m.st,PE.a,PE.b,m.ws.set k (kS x w),PE.nx,PE.ok⟩:=by rw [VF];unfold mM;rw [hK]
 have L0:m.ws.length≤lim:=by unfold lim;omega
 have S0:w.e.start+((0:Nat):Int)=w.e.start:=by omega
 have hloop:=fun st=>Ju (m:=m) (x:=x) (w:=w) (kk:=k) (K:=3) hm hK (by decide) x1 (by omega) (st:=st)
 rw [PZ] at hloop
 rw [hQ,cZ,kT,cZ]
 rw [ah AO rfl];simp only [Bj,aG,Nat.reduceBEq,Nat.reduceLeDiff,Nat.reduceAdd,List.length_cons,List.length_nil]
 simp only [iM,dV,gW,fE,dJ,jY,mQ,iL,hm,hP,HL,hk5,F5,E0,E4,EL,FL,W1,MW,aj hkl,hxk,L0,fF,dL,List.length_map,ak,Nat.reduceMul,Nat.reduceBEq,Nat.reduceLT,Nat.reduceLeDiff,reduceCtorEq,Nat.reduceEqDiff,Nat.reduceAdd,Nat.beq]
 rw [hloop _ (by simp only [Cb,jv,S0];simp only [aG,bY,Nat.reduceMul,Nat.reduceBEq,Nat.reduceLT,Nat.reduceLeDiff,Nat.reduceAdd,decide_true,Bool.and_self,Bool.true_and]<;>rfl)]
 have hset:∀ a b:Bool,kS x w=⟨w.e,a,b,w.v⟩→(m.ws.map fG).set k (.agg [.int .i64 w.e.start,.int .i64 w.e.count,.bool a,.bool b,.int .i64 w.v])=(m.ws.set k (kS x w)).map fG:=fun a b e=>by rw [e,List.map_set];rfl
 cases hf:w.f<;>cases hs:w.s
 ·have hw':kS x w=⟨w.e,false,false,w.v⟩:=by unfold kS;rw [hK,hf,hs];rfl
  have q:=hset _ _ hw'
  simp only [jv,hf,hs,q,iM,dV,gW,fE,dJ,jY,mQ,iL,hm,hP,HL,hk5,F5,E0,E1,E2,E3,E4,EL,FL,W1,MW,aj hkl,hxk,L0,fF,dL,List.length_map,ak,Nat.reduceMul,Nat.reduceBEq,Nat.reduceLT,Nat.reduceLeDiff,reduceCtorEq,Nat.reduceEqDiff,Nat.reduceAdd,Nat.beq]
 ·have hw':kS x w=⟨w.e,false,true,w.v⟩:=by unfold kS;rw [hK,hf,hs];rfl
  have q:=hset _ _ hw'
  simp only [jv,hf,hs,q,iM,dV,gW,fE,dJ,jY,mQ,iL,hm,hP,HL,hk5,F5,E0,E1,E2,E3,E4,EL,FL,W1,MW,aj hkl,hxk,L0,fF,dL,List.length_map,ak,Nat.reduceMul,Nat.reduceBEq,Nat.reduceLT,Nat.reduceLeDiff,reduceCtorEq,Nat.reduceEqDiff,Nat.reduceAdd,Nat.beq]
 ·have hw':kS x w=⟨w.e,true,false,w.v⟩:=by unfold kS;rw [hK,hf,hs];rfl
  have q:=hset _ _ hw'
  simp only [jv,hf,hs,q,iM,dV,gW,fE,dJ,jY,mQ,iL,hm,hP,HL,hk5,F5,E0,E1,E2,E3,E4,EL,FL,W1,MW,aj hkl,hxk,L0,fF,dL,List.length_map,ak,Nat.reduceMul,Nat.reduceBEq,Nat.reduceLT,Nat.reduceLeDiff,reduceCtorEq,Nat.reduceEqDiff,Nat.reduceAdd,Nat.beq]
 ·by_cases c3:3=3
  ·rcases h3 with e|e|e
   ·exact absurd c3 e
   ·rw [e] at hf;cases hf
   ·rw [e] at hs;cases hs
  have hw':kS x w=⟨w.e,true,true,w.v⟩:=by unfold kS;rw [hK,hf,hs];rfl
  have q:=hset _ _ hw'
  first
  |exact absurd rfl c3
  |skip
   simp only [jv,hf,hs,q,iM,dV,gW,fE,dJ,jY,mQ,iL,hm,hP,HL,hk5,F5,E0,E1,E2,E3,E4,EL,FL,W1,MW,aj hkl,hxk,L0,fF,dL,List.length_map,ak,Nat.reduceMul,Nat.reduceBEq,Nat.reduceLT,Nat.reduceLeDiff,reduceCtorEq,Nat.reduceEqDiff,Nat.reduceAdd,Nat.beq]
end Go.Proofs.YtdahanchdjadiaaDoor.V
