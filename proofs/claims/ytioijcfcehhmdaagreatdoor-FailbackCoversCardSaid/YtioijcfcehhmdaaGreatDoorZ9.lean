/-
  Part 9 of the texts that the statement stands on.
-/
import Derived.Test.YtioijcfcehhmdaaGreatDoorZ8
import Derived.Test.YtioijcfcehhmdaaGreatDoorRows
import Derived.Tactics
import Derived.Tactics2
import Derived.Defers
import Derived.Recover
import Derived.TacticsInMore
import Derived.RegionIn
import Derived.RecoverIn
import Derived.Laws.Pointers
import Derived.WalkSmall
set_option linter.all false
namespace Go.Proofs.YtioijcfcehhmdaaGreatDoor.V
theorem exts_exs (D:List (List Exn)):D.map eExts=D.map eExs:=rfl
theorem loop8 {W:List Wrt} {v m:Nat} {L D:List (List Exn)} {c:Int} {z0 z1 z2 z3:Bool} {d0 d1 d2 d3:List BV} (hl:W.length≤1000) {st:St} (h:st.head [7,9,11,13,14,15,33,41,78,80,81,95,96,97,113] st.boxes.length=some ⟨sl 137 [(7,.pv (.list 1 (L.map eExs))),(9,.row 1 (D.map eExs)),(11,.pv (.int .i64 c)),(13,.row 3 (W.map eWr)),(14,.pv (.int .i64 v)),(15,.row 2 ((ofV v (W.take ((0:Nat)))).map eExt)),(33,.pv (.list 1 (L.map eExs))),(41,.any),(78,.any),(80,.pv (.int .i64 m)),(81,.pv (.int .i64 v)),(95,.ref (.slot 13) 0 W.length),(96,.pv (.int .i64 W.length)),(97,.pv (.int .i64 (0:Nat))),(113,.any)],[⟨z0,d0⟩,⟨z1,d1⟩,⟨z2,d2⟩,⟨z3,d3⟩],[],none⟩) :
  den env fn8_l1 st=some (.normal,⟨sl 137 [(2,.any),(7,.pv (.list 1 (L.map eExs))),(9,.row 1 (D.map eExs)),(11,.pv (.int .i64 c)),(13,.row 3 (W.map eWr)),(14,.pv (.int .i64 v)),(15,.row 2 ((ofV v W).map eExt)),(33,.pv (.list 1 (L.map eExs))),(41,.any),(78,.any),(80,.pv (.int .i64 m)),(81,.pv (.int .i64 v)),(113,.any)],[⟨z0,d0⟩,⟨z1,d1⟩,⟨z2,d2⟩,⟨z3,d3⟩],[],none⟩):=by
 unfold fn8_l1
 refine clean_up (env:=env) (nb:=4) (W.length) (fun i=>⟨sl 137 [(7,.pv (.list 1 (L.map eExs))),(9,.row 1 (D.map eExs)),(11,.pv (.int .i64 c)),(13,.row 3 (W.map eWr)),(14,.pv (.int .i64 v)),(15,.row 2 ((ofV v (W.take (i))).map eExt)),(33,.pv (.list 1 (L.map eExs))),(41,.any),(78,.any),(80,.pv (.int .i64 m)),(81,.pv (.int .i64 v)),(95,.ref (.slot 13) 0 W.length),(96,.pv (.int .i64 W.length)),(97,.pv (.int .i64 i)),(113,.any)],[⟨z0,d0⟩,⟨z1,d1⟩,⟨z2,d2⟩,⟨z3,d3⟩],[],none⟩) (fun i=>some (.normal,⟨sl 137 [(2,.any),(7,.pv (.list 1 (L.map eExs))),(9,.row 1 (D.map eExs)),(11,.pv (.int .i64 c)),(13,.row 3 (W.map eWr)),(14,.pv (.int .i64 v)),(15,.row 2 ((ofV v W).map eExt)),(33,.pv (.list 1 (L.map eExs))),(41,.any),(78,.any),(80,.pv (.int .i64 m)),(81,.pv (.int .i64 v)),(113,.any)],[⟨z0,d0⟩,⟨z1,d1⟩,⟨z2,d2⟩,⟨z3,d3⟩],[],none⟩)) h (fun _=>rfl) (fun _=>by simp only [slAll,slsAll,Nat.reduceMul,Nat.reduceBEq,Nat.reduceLT,Nat.reduceLeDiff,Nat.reduceAdd,decide_true,Bool.and_self,Bool.true_and]) ?_ ?_
 ·intro i rb hi ih
  have hlim:lim=1073741824:=rfl
  have hi1:=i64_next hi (Nat.le_trans hl (by decide))
  have F1:((i:Int)<(W.length:Int))=True:=eq_true (by omega)
  have hx:=eWr_at8 hi
  have P3:∀ a b c:PV,part [a,b,c] 0 (some 3)=some (.agg [a,b,c]):=fun _ _ _=>rfl
  have h1:=ofV_len v (W.take i)
  have h2:(W.take i).length≤W.length:=by rw [List.length_take];omega
  have F3:=eq_true (show (ofV v (W.take i)).length+1≤lim by omega)
  by_cases c:W[i].volume=(v:Int)
  ·have F2:(W[i].volume==(v:Int))=true:=by simp [c]
   have hs:(ofV v (W.take (i+1))).map eExt=(ofV v (W.take i)).map eExt++[.agg [.int .i64 W[i].start,.int .i64 W[i].data.length]]:=by rw [ofV_yes hi c,List.map_append];rfl
   simp only [fn8_b0,F1,F2,F3,hx,P3,index_nat hi,List.length_map,slAll,slsAll,Nat.reduceMul,Nat.reduceBEq,Nat.reduceLT,Nat.reduceLeDiff,memAll,vAll,reduceCtorEq,Nat.reduceEqDiff,Nat.reduceAdd,Nat.reduceLT,Nat.reduceLeDiff,Nat.beq]
   rw [ih _ (by simp only [hi1];rw [hs];simp only [slAll,slsAll,Nat.reduceMul,Nat.reduceBEq,Nat.reduceLT,Nat.reduceLeDiff,memAll,vAll,reduceCtorEq,Nat.reduceEqDiff,Nat.reduceAdd,Nat.reduceLT,Nat.reduceLeDiff,Nat.beq]<;>rfl)]
  ·have F2:(W[i].volume==(v:Int))=false:=by simp [c]
   simp only [fn8_b0,F1,F2,F3,hx,P3,index_nat hi,List.length_map,slAll,slsAll,Nat.reduceMul,Nat.reduceBEq,Nat.reduceLT,Nat.reduceLeDiff,memAll,vAll,reduceCtorEq,Nat.reduceEqDiff,Nat.reduceAdd,Nat.reduceLT,Nat.reduceLeDiff,Nat.beq]
   rw [ih _ (by simp only [hi1];rw [ofV_no hi c];simp only [slAll,slsAll,Nat.reduceMul,Nat.reduceBEq,Nat.reduceLT,Nat.reduceLeDiff,memAll,vAll,reduceCtorEq,Nat.reduceEqDiff,Nat.reduceAdd,Nat.reduceLT,Nat.reduceLeDiff,Nat.beq]<;>rfl)]
 ·intro rb
  rw [List.take_length]
  simp only [fn8_b0,Int.lt_irrefl,List.length_map,slAll,slsAll,Nat.reduceMul,Nat.reduceBEq,Nat.reduceLT,Nat.reduceLeDiff,memAll,vAll,reduceCtorEq,Nat.reduceEqDiff,Nat.reduceAdd,Nat.reduceLT,Nat.reduceLeDiff,Nat.beq]
theorem loop8l3 {x:Outg} (hk:OkR x) {c:Int} {z0 z1 z2 z3:Bool} {d0 d1 d2 d3:List BV} {L D:List (List Exn)} (hL:L=btw (oldP x) (curP x) x.im.length) (hD:D=differ (oldP x).img (curP x).img) {st:St} (h:st.head [7,9,11,13,33,41,78,80,81,113] st.boxes.length=some ⟨sl 137 [(7,.pv (.list 1 (L.map eExs))),(9,.row 1 (D.map eExs)),(11,.pv (.int .i64 c)),(13,.row 3 ((x.o++x.n).map eWr)),(33,.pv (.list 1 (L.map eExs))),(41,.any),(78,.any),(80,.pv (.int .i64 x.im.length)),(81,.pv (.int .i64 (0:Nat))),(113,.any)],[⟨z0,d0⟩,⟨z1,d1⟩,⟨z2,d2⟩,⟨z3,d3⟩],[],none⟩) :
  den env fn8_l3 st=some (.normal,⟨sl 137 [(2,.any),(7,.pv (.list 1 (L.map eExs))),(9,.row 1 (D.map eExs)),(11,.pv (.int .i64 c))],[⟨z0,d0⟩,⟨z1,d1⟩,⟨z2,d2⟩,⟨z3,d3⟩],[],none⟩):=by
 unfold fn8_l3
 refine clean_up (env:=env) (nb:=4) (x.im.length) (fun i=>⟨sl 137 [(7,.pv (.list 1 (L.map eExs))),(9,.row 1 (D.map eExs)),(11,.pv (.int .i64 c)),(13,.row 3 ((x.o++x.n).map eWr)),(33,.pv (.list 1 (L.map eExs))),(41,.any),(78,.any),(80,.pv (.int .i64 x.im.length)),(81,.pv (.int .i64 i)),(113,.any)],[⟨z0,d0⟩,⟨z1,d1⟩,⟨z2,d2⟩,⟨z3,d3⟩],[],none⟩) (fun i=>some (.normal,⟨sl 137 [(2,.any),(7,.pv (.list 1 (L.map eExs))),(9,.row 1 (D.map eExs)),(11,.pv (.int .i64 c))],[⟨z0,d0⟩,⟨z1,d1⟩,⟨z2,d2⟩,⟨z3,d3⟩],[],none⟩)) h (fun _=>rfl) (fun _=>by simp only [slAll,slsAll,Nat.reduceMul,Nat.reduceBEq,Nat.reduceLT,Nat.reduceLeDiff,Nat.reduceAdd,decide_true,Bool.and_self,Bool.true_and]) ?_ ?_
 ·intro i rb hi ih
  have hlim:lim=1073741824:=rfl
  have h9:=hk.im9
  have hi1:=i64_next hi (by omega)
  have F1:((i:Int)<(x.im.length:Int))=True:=eq_true (by omega)
  have hLl:L.length=x.im.length:=by rw [hL,btw_len]
  have hDl:D.length=x.im.length:=by rw [hD,cv_Dlen hk]
  have hiL:i<L.length:=by omega
  have hiD:i<D.length:=by omega
  have hy:=eExs_at hiL
  have hz:=eExs_at hiD
  have eL:L[i]=orS (ofV i (x.o++x.n)):=by subst hL;exact cv_at hk hi
  have eD:setOf subB D[i] (orS (ofV i (x.o++x.n)))=[]:=by subst hD;exact cv_sub hk hi
  have oD:okEs D[i]∧D[i].length≤4096:=by
   subst hD
   rw [cv_Dat hk hi]
   exact ⟨okEs_ext _ (getD_le (cv_v4 hk) i),Nat.le_trans (ext_len _ _) (getD_le (cv_v4 hk) i)⟩
  have oL:okEs (orS (ofV i (x.o++x.n)))∧(orS (ofV i (x.o++x.n))).length≤4096:=⟨okEs_ext _ (Nat.le_refl _),setOf_len _ _ _⟩
  have hol:=ofV_len i (x.o++x.n)
  have hoc:(x.o++x.n).length≤80:=by have:=hk.lo;have:=hk.ln;rw [List.length_append];omega
  rw [eL] at hy
  have e1:=cal31 (a:=D[i]) (b:=orS (ofV i (x.o++x.n))) oD.1 oL.1 (by omega) (by omega)
  rw [eD,List.map_nil] at e1
  have e2:=cal33 (a:=ofV i (x.o++x.n)) (b:=[]) (ofV_ok (cv_fit hk) (cv_v4 hk) i) okEs_nil (by omega) (by simp)
  rw [List.map_nil,show setOf orB (ofV i (x.o++x.n)) []=orS (ofV i (x.o++x.n)) from rfl] at e2
  have e3:=cal32 (a:=orS (ofV i (x.o++x.n))) (b:=orS (ofV i (x.o++x.n))) (by omega)
  rw [decide_eq_true rfl] at e3
  have Z0:(((0:Nat):Int) > 0)=False:=by simp
  simp only [fn8_b2,F1,hy,hz,e1,Z0,index_nat hiL,index_nat hiD,List.length_map,List.length_nil,slAll,slsAll,Nat.reduceMul,Nat.reduceBEq,Nat.reduceLT,Nat.reduceLeDiff,memAll,vAll,reduceCtorEq,Nat.reduceEqDiff,Nat.reduceAdd,Nat.reduceLT,Nat.reduceLeDiff,Nat.beq]
  rw [loop8 (W:=x.o++x.n) (v:=i) (m:=x.im.length) (L:=L) (D:=D) (c:=c) (z0:=z0) (z1:=z1) (z2:=z2) (z3:=z3) (d0:=d0) (d1:=d1) (d2:=d2) (d3:=d3) (by omega) (by simp only [List.take_zero,show ofV i []=[] from rfl,List.map_nil];simp only [slAll,slsAll,Nat.reduceMul,Nat.reduceBEq,Nat.reduceLT,Nat.reduceLeDiff,Nat.reduceAdd,decide_true,Bool.and_self,Bool.true_and]<;>rfl)]
  simp only [hy,e2,e3,index_nat hiL,List.length_map,slAll,slsAll,Nat.reduceMul,Nat.reduceBEq,Nat.reduceLT,Nat.reduceLeDiff,memAll,vAll,reduceCtorEq,Nat.reduceEqDiff,Nat.reduceAdd,Nat.reduceLT,Nat.reduceLeDiff,Nat.beq]
  rw [ih _ (by simp only [hi1,slAll,slsAll,Nat.reduceMul,Nat.reduceBEq,Nat.reduceLT,Nat.reduceLeDiff,memAll,vAll,reduceCtorEq,Nat.reduceEqDiff,Nat.reduceAdd,Nat.reduceLT,Nat.reduceLeDiff,Nat.beq]<;>rfl)]
 ·intro rb
  simp only [fn8_b2,Int.lt_irrefl,List.length_map,slAll,slsAll,Nat.reduceMul,Nat.reduceBEq,Nat.reduceLT,Nat.reduceLeDiff,memAll,vAll,reduceCtorEq,Nat.reduceEqDiff,Nat.reduceAdd,Nat.reduceLT,Nat.reduceLeDiff,Nat.beq]
set_option maxRecDepth 20000 in
theorem cal8 {x:Outg} (ho:okO x) (hrs:x.rs.length+2≤limB):cal env 8 [eOut x]=some [(.bool true,false)]:=by
 have aw:=calAwake
 have hlim:lim=1073741824:=rfl
 have w1:=cal22 (x:=x) ho hrs
 rw [eOut_eq] at w1 ⊢
 cases hR:rgtX x with
 |false =>
  rw [hR] at w1
  rw [cal_code env8 rfl];simp only [fn8,slAll,Nat.reduceBEq,Nat.reduceLeDiff,Nat.reduceAdd,List.length_cons,List.length_nil]
  simp only [aw,w1,slAll,slsAll,Nat.reduceMul,Nat.reduceBEq,Nat.reduceLT,Nat.reduceLeDiff,memAll,vAll,reduceCtorEq,Nat.reduceEqDiff,Nat.reduceAdd,Nat.reduceLT,Nat.reduceLeDiff,Nat.beq]
 |true =>
  rw [hR] at w1
  have h:=rgt_of ho hR
  have h9:=h.im9
  have e1:=cal23 h
  have ha9:=cv_len h
  have hb9:=cv_lenC h
  have va:∀ v∈(oldP x).img,v.length≤24:=(szs_small (a:=(oldP x).img) (b:=x.im) (cv_so h) h.im9 h.v24).2
  have fa:fitP (oldP x):=⟨by show 1≤lim;omega,by show (mkBs x.im x.o).length≤lim;rw [mkBs_len];omega,by omega⟩
  have fb:fitP (curP x):=⟨by show 2≤lim;omega,by show (mkBs x.im x.n).length≤lim;rw [mkBs_len];omega,by omega⟩
  have e2:=cal24 (a:=oldP x) (b:=curP x) (ep:=3) fa fb
  rw [cv_begE h,cv_L h] at e2
  have e3:=cal30 (a:=(oldP x).img) (b:=(curP x).img) (by omega) (by omega) (fun v hv=>by have:=va v hv;omega)
  rw [cv_pair h,cv_D h,exts_exs] at e3
  have e4:=cal17 (a:=(oldP x).img) (b:=(curP x).img) (by omega) (by omega) (fun v hv=>by have:=va v hv;omega)
  rw [if_pos (cv_pair h),cv_pair h,cv_D h,cv_least h] at e4
  have hDl:=cv_Dlen h
  have hLl:=btw_len (oldP x) (curP x) x.im.length
  have e5:=cal34 (l:=differ (oldP x).img (curP x).img) (fun y hy=>by
   obtain ⟨v,hv,rfl⟩:=List.mem_iff_getElem.1 hy
   rw [hDl] at hv
   rw [cv_Dat h hv]
   have:=getD_le (cv_v4 h) v
   have:=ext_len (dif ((oldP x).img.getD v []) ((curP x).img.getD v [])) (x.im.getD v []).length
   exact ⟨okEs_ext _ (by omega),by omega⟩) (by omega)
  have e6:=cal34 (l:=btw (oldP x) (curP x) x.im.length) (fun y hy=>by
   obtain ⟨v,hv,rfl⟩:=List.mem_iff_getElem.1 hy
   rw [hLl] at hv
   rw [cv_at h hv]
   have:=setOf_len orB (ofV v (x.o++x.n)) []
   exact ⟨okEs_ext _ (Nat.le_refl _),by unfold orS;omega⟩) (by omega)
  have hm:=cv_most h
  have hloop:=fun c z0 z1 z2 z3 d0 d1 d2 d3 st hst=>loop8l3 (x:=x) h (c:=c) (z0:=z0) (z1:=z1) (z2:=z2) (z3:=z3) (d0:=d0) (d1:=d1) (d2:=d2) (d3:=d3) (st:=st) (L:=btw (oldP x) (curP x) x.im.length) (D:=differ (oldP x).img (curP x).img) rfl rfl hst
  have N:∀ n:Int,(n==n)=true:=fun n=>by simp
  have Z0:((0:Int) != 0)=false:=rfl
  have F1:((x.im.length:Int) != (x.im.length:Int))=false:=by simp
  have F2:(cL (differ (oldP x).img (curP x).img)≤cL (btw (oldP x) (curP x) x.im.length))=True:=eq_true hm
  have lo:=h.lo
  have ln:=h.ln
  have F3:=eq_true (show 0+x.o.length≤lim by omega)
  have F4:=eq_true (show x.o.length+x.n.length≤lim by omega)
  have F3':=eq_true (show x.o.length≤lim by omega)
  have P4:∀ a b c d:PV,part [a,b,c,d] 0 (some 4)=some (.agg [a,b,c,d]):=fun _ _ _ _=>rfl
  rw [eOut_eq] at e1
  rw [ePrc_eq] at e2
  generalize begO (oldP x) (curP x) 3=q at *
  generalize hLd:btw (oldP x) (curP x) x.im.length=L at *
  generalize hDd:differ (oldP x).img (curP x).img=D at *
  generalize oldP x=a at *
  generalize curP x=b at *
  rw [ePt_eq,ePt_eq] at e1 e2
  rw [cal_code env8 rfl];simp only [fn8,slAll,Nat.reduceBEq,Nat.reduceLeDiff,Nat.reduceAdd,List.length_cons,List.length_nil]
  simp only [aw,w1,e1,e2,e3,e4,Z0,F1,F3,F4,F3',P4,hLl,hDl,Nat.zero_add,List.nil_append,List.length_append,slAll,slsAll,Nat.reduceMul,Nat.reduceBEq,Nat.reduceLT,Nat.reduceLeDiff,memAll,vAll,reduceCtorEq,Nat.reduceEqDiff,Nat.reduceAdd,Nat.reduceLT,Nat.reduceLeDiff,Nat.beq]
  simp only [List.map_append] at hloop
  rw [hloop _ _ _ _ _ _ _ _ _ _ (by simp only [slAll,slsAll,Nat.reduceMul,Nat.reduceBEq,Nat.reduceLT,Nat.reduceLeDiff,Nat.reduceAdd,decide_true,Bool.and_self,Bool.true_and]<;>rfl)]
  simp only [aw,e5,e6,N,F2,slAll,slsAll,Nat.reduceMul,Nat.reduceBEq,Nat.reduceLT,Nat.reduceLeDiff,memAll,vAll,reduceCtorEq,Nat.reduceEqDiff,Nat.reduceAdd,Nat.reduceLT,Nat.reduceLeDiff,Nat.beq]
end Go.Proofs.YtioijcfcehhmdaaGreatDoor.V

namespace Go.Proofs.YtioijcfcehhmdaaGreatDoor
open Go.RowKit
theorem demand_true (n:Int) (w:World):Calls Tryz.prog 51 #[.bool true,.int .i64 n] w fun e w'=>e=.returned (.tuple #[])∧w'=w:=by
 go_enter Tryz.func51,Tryz.ntmps51
 have hnot:∀ (x:Bool) (w:World),(Op.unary .not (.bool x)).run Tryz.prog w=.ok (.bool (!x)) w:=fun _ _=>rfl
 go_wp2
 go_end0
 exact ⟨rfl,rfl⟩
theorem demand_false (n:Int) (w:World):Calls Tryz.prog 51 #[.bool false,.int .i64 n] w fun e w'=>e=.panicked [{ v:=.iface 148 (.int .i64 n),recovered:=false }]∧w'=w:=by
 go_enter Tryz.func51,Tryz.ntmps51
 have hnot:∀ (x:Bool) (w:World),(Op.unary .not (.bool x)).run Tryz.prog w=.ok (.bool (!x)) w:=fun _ _=>rfl
 have hp:=run_panic_iface (P:=Tryz.prog) 148 (.int .i64 n)
 go_wp2
 exact ⟨rfl,rfl,rfl⟩
theorem setRow_one {w:World} {b:Nat} {x v:Value} {E:TypeId} (h:w.heap[b]?=some (.cells #[x] E (0,0))):w.setCell ⟨b,0,none⟩ v=w.setRow b #[v]:=by
 simp only [World.setCell,World.setRow]
 congr 1
 refine Array.ext_getElem? fun i=>?_
 rw [Array.getElem?_modify,Array.getElem?_modify]
 by_cases e:b=i
 ·subst e
  simp [h]
 ·simp [e]
theorem opv {F:Fence} {k:Nat} {P:Program} {ops:Array Oper} {Q:Exit→Act→World→Prop} {rest:List Oper} {a:Act} {w w1:World} {o:Oper} (hF:F=Fence.wide) (hg:o.guard=none) {v:Value} {nx:Next} (hr:(execOp a.eval o).run P w=.ok nx w1) (hnx:nx=.value v∨nx=.skip∧v=undef) (hd:∀ c,o.op≠.defer c)
  (h:wpListIn F k P ops Q rest (a.put o.dst v) w1):wpListIn F k P ops Q (o :: rest) a w:=by
 subst hF
 have hw:Region.wanted o (yielded ops a.tmps)=true:=by simp only [Region.wanted,hg]
 simp only [wpListIn,hw,↓reduceIte]
 refine ⟨fun f _=>trivial,?_⟩
 rw [semAt_eq hd,hr]
 rcases hnx with rfl|⟨rfl,rfl⟩
 ·exact h
 ·exact h
theorem resc_panics (b:Nat) (m n:Int) (E:TypeId) (w:World) (h:w.heap[b]?=some (.cells #[.int .i64 m] E (0,0))):CallsDIn Fence.wide 0 Tryz.prog 47 #[.pointer (some ⟨b,0,none⟩)] (.panicking [{ v:=.iface 148 (.int .i64 n),recovered:=false }]) w fun e u' w'=>e=.returned (.tuple #[])∧settle u'=.returning∧w'=w.setRow b #[.int .i64 n]:=by
 have hc:w.cell? ⟨b,0,none⟩=some (.int .i64 m):=by rw [cell_of_row w _ _ _ _ (0,0) h];rfl
 have hz:w.frozen? ⟨b,0,none⟩=false:=by
  simp only [World.frozen?,h]
  rw [decide_eq_false (Nat.not_lt_zero 0),Bool.and_false]
 have hS:=setRow_one (v:=.int .i64 n) h
 refine callsDIn_of_wpSIn Tryz.func47 rfl trivial fun c₀ cs hu=>?_
 apply wpSIn_seq
 apply wpSIn_region
 simp [wpOpsSIn,go_sem,recoverD,hu,Tryz.ntmps47,Exit.thenS]
 refine wpSIn_of_wpIn rfl ?_
 obtain ⟨I,hI⟩:∃ I:Value,I=.iface 148 (.int .i64 n):=⟨_,rfl⟩
 have hta:(Instr.typeAssert I 20 148 true).run Tryz.prog w=.ok (.tuple #[.int .i64 n,.bool true]) w:=by
  rw [hI];simp [Instr.typeAssert,run_underlying Tryz.underlying148]
 have heq:(do eqGuard .eql 20 (.tmp 6) (.const .nilIface) I .nilIface;Go.binOp .eql 20 I .nilIface:Sem Value).run Tryz.prog w=.ok (.bool false) w:=by
  rw [hI]
  simp [eqGuard,go_sem]
 refine wpIn_seq (wpIn_seq (wpIn_region_list ?_))
 refine opv (w1:=w) rfl rfl (v:=I) (nx:=.value I) (by simp [execOp,Act.eval,Act.put,hI]) (.inl rfl) (by intro c h;cases h) ?_
 refine opv (w1:=w) rfl rfl (v:=.bool false) (nx:=.value (.bool false)) (by simp [execOp,Act.eval,Act.put,hI,eqGuard,go_sem]) (.inl rfl) (by intro c h;cases h) ?_
 simp only [wpListIn,Exit.then]
 refine wpIn_cond (t:=false) (by simp [Act.eval,Act.put]) ?_
 simp only [Bool.false_eq_true,if_false]
 refine wpIn_skip ?_
 simp only [Exit.then]
 refine wpIn_seq (wpIn_region_list ?_)
 refine opv (w1:=w) rfl rfl (v:=I) (nx:=.value I) (by simp [execOp,Act.eval,Act.put,hI]) (.inl rfl) (by intro c h;cases h) ?_
 refine opv (w1:=w) rfl rfl (v:=.tuple #[.int .i64 n,.bool true]) (nx:=.value (.tuple #[.int .i64 n,.bool true])) (by rw [hI] at hta;simp [execOp,Act.eval,Act.put,hI,hta]) (.inl rfl) (by intro c h;cases h) ?_
 refine opv (w1:=w) rfl rfl (v:=.tuple #[.int .i64 n,.bool true]) (nx:=.value (.tuple #[.int .i64 n,.bool true])) (by simp [execOp,Act.eval,Act.put,hI]) (.inl rfl) (by intro c h;cases h) ?_
 refine opv (w1:=w) rfl rfl (v:=.int .i64 n) (nx:=.value (.int .i64 n)) (by simp [execOp,Act.eval,Act.put,hI,go_sem]) (.inl rfl) (by intro c h;cases h) ?_
 refine opv (w1:=w) rfl rfl (v:=.bool true) (nx:=.value (.bool true)) (by simp [execOp,Act.eval,Act.put,hI,go_sem]) (.inl rfl) (by intro c h;cases h) ?_
 refine opv (w1:=w) rfl rfl (v:=.int .i64 n) (nx:=.value (.int .i64 n)) (by simp [execOp,Act.eval,Act.put,hI]) (.inl rfl) (by intro c h;cases h) ?_
 refine opv (w1:=w) rfl rfl (v:=.bool true) (nx:=.value (.bool true)) (by simp [execOp,Act.eval,Act.put,hI]) (.inl rfl) (by intro c h;cases h) ?_
 simp only [wpListIn,Exit.then]
 refine wpIn_seq (wpIn_seq (wpIn_region_list ?_))
 refine opv (w1:=w) rfl rfl (v:=.bool true) (nx:=.value (.bool true)) (by simp [execOp,Act.eval,Act.put,hI]) (.inl rfl) (by intro c h;cases h) ?_
 refine opv (w1:=w) rfl rfl (v:=.bool false) (nx:=.value (.bool false)) (by simp [execOp,Act.eval,Act.put,hI,go_sem]) (.inl rfl) (by intro c h;cases h) ?_
 simp only [wpListIn,Exit.then]
 refine wpIn_cond (t:=false) (by simp [Act.eval,Act.put]) ?_
 simp only [Bool.false_eq_true,if_false]
 refine wpIn_skip ?_
 simp only [Exit.then]
 refine wpIn_region_list ?_
 refine opv (w1:=w) rfl rfl (v:=.pointer (some ⟨b,0,none⟩)) (nx:=.value (.pointer (some ⟨b,0,none⟩))) (by simp [execOp,Act.eval,Act.put,hI]) (.inl rfl) (by intro c h;cases h) ?_
 refine opv (w1:=w) rfl rfl (v:=.int .i64 n) (nx:=.value (.int .i64 n)) (by simp [execOp,Act.eval,Act.put,hI]) (.inl rfl) (by intro c h;cases h) ?_
 refine opv (w1:=w) rfl rfl (v:=.pointer (some ⟨b,0,none⟩)) (nx:=.value (.pointer (some ⟨b,0,none⟩))) (by simp [execOp,Act.eval,Act.put,hI,go_sem]) (.inl rfl) (by intro c h;cases h) ?_
 refine opv (w1:=w.setRow b #[.int .i64 n]) rfl rfl (v:=undef) (nx:=.skip) (by simp [execOp,Act.eval,Act.put,hI,go_sem,hc,hz,hS]) (.inr ⟨rfl,rfl⟩) (by intro c h;cases h) ?_
 simp only [wpListIn]
 simp [bodyPostS,results,Tryz.results47,settle,Act.put]
theorem resc_returns (b:Nat) (w:World):CallsDIn Fence.wide 0 Tryz.prog 47 #[.pointer (some ⟨b,0,none⟩)] .returning w fun e u' w'=>e=.returned (.tuple #[])∧settle u'=.returning∧w'=w:=by
 refine callsDIn_of_wpSIn Tryz.func47 rfl trivial fun c₀ cs hu=>?_
 apply wpSIn_seq
 apply wpSIn_region
 simp [wpOpsSIn,go_sem,recoverD,hu,Tryz.ntmps47,Exit.thenS]
 refine wpSIn_of_wpIn rfl ?_
 refine wpIn_seq (wpIn_seq (wpIn_region_list ?_))
 refine opv (w1:=w) rfl rfl (v:=.nilIface) (nx:=.value .nilIface) (by simp [execOp,Act.eval,Act.put]) (.inl rfl) (by intro c h;cases h) ?_
 refine opv (w1:=w) rfl rfl (v:=.bool true) (nx:=.value (.bool true)) (by simp [execOp,Act.eval,Act.put,eqGuard,go_sem]) (.inl rfl) (by intro c h;cases h) ?_
 simp only [wpListIn,Exit.then]
 refine wpIn_cond (t:=true) (by simp [Act.eval,Act.put]) ?_
 simp only [if_true]
 refine wpIn_ret ?_
 simp only [Exit.then]
 simp [bodyPostS,results,Tryz.results47,settle,Act.put]
 cases c₀
 simp_all
theorem resc_ok:RescOk Tryz.prog 47 148:=⟨by kernel_rfl,fun b m n E w h=>resc_panics b m n E w h,fun b w=>resc_returns b w⟩
theorem demand_ok:(∀ args,demandX args=some none→callable Tryz.prog 51=true∧CallOk Tryz.prog 51 args [])∧∀ args t n,demandX args=some (some (t,n))→callable Tryz.prog 51=true∧ThrOk Tryz.prog 51 args t n:=by
 have hc:callable Tryz.prog 51=true:=by kernel_rfl
 refine ⟨fun args h=>⟨hc,fun T0 w vs h0 hf hl hr hG=>?_⟩,fun args t n h=>⟨hc,fun T0 w vs h0 hf hl hr hG=>?_⟩⟩
 ·unfold demandX at h
  split at h<;>try (cases h;done)
  match vs,hl with
  |[u,v],_ =>
   have e1:=(hr 0 _ u rfl rfl).bool_inv
   have e2:=(hr 1 _ v rfl rfl).int_inv
   subst e1;subst e2
   refine (demand_true _ w).mono ?_
   rintro e w' ⟨rfl,rfl⟩
   exact ⟨.tuple #[],T0,rfl,Below.refl _ _,fun _ _=>rfl,hf,#[],rfl,rfl,fun i r u hr=>by simp at hr⟩
 ·unfold demandX at h
  split at h<;>try (cases h;done)
  cases h
  match vs,hl with
  |[u,v],_ =>
   have e1:=(hr 0 _ u rfl rfl).bool_inv
   have e2:=(hr 1 _ v rfl rfl).int_inv
   subst e1;subst e2
   refine (demand_false _ w).mono ?_
   rintro e w' ⟨rfl,rfl⟩
   exact ⟨rfl,Below.refl _ _⟩
theorem store_all {P:Program} {T0:TypeId} {w:World} {b:Nat} {v:Value} {arr:Array Value} {E:TypeId} (hs:szOf P T0=some v.cells.size) (hb:w.heap[b]?=some (.cells arr E (0,0))) (hl:arr.size=v.cells.size) (h1:∀ u∈v.cells.toList,u.oneCell'=true) :
  (Instr.storeAt T0 (.pointer (some ⟨b,0,none⟩)) v).run P w=.ok () (w.setRow b v.cells):=by
 have:=run_storeVar (P:=P) (T0:=T0) (off:=0) hs hb (by omega) h1
 have e:arr.toList.drop (0+v.cells.toList.length)=[]:=List.drop_eq_nil_of_le (by simp [hl])
 rw [e] at this
 simp [Instr.storeAt,Instr.sureAddr]
 simpa using this
theorem nil_bs {bs:List Nat} (h:bs.length=1):∃ b,bs=[b]:=by
 match bs,h with
 |[b],_=>exact ⟨b,rfl⟩
theorem two_bs {bs:List Nat} (h:bs.length=2):∃ b c,bs=[b,c]:=by
 match bs,h with
 |[b,c],_=>exact ⟨b,c,rfl⟩
theorem clos_finish:ClosOk Tryz.prog 62 [[.int .i64 0,.int .i64 0,.int .i64 0,.int .i64 0,.int .i64 0,.int .i64 0,.bool false,.bool false]]:=by
 refine ⟨by kernel_rfl,fun be bs E w hl h=>?_,fun be bs m E w hm hl h hb hn=>?_⟩
 ·obtain ⟨b0,rfl⟩:=nil_bs hl
  have hc:w.cell? ⟨be,0,none⟩=some (.int .i64 0):=by rw [cell_of_row w _ _ _ _ (0,0) h];rfl
  refine (callsDIn_of_wp (R:=fun e w'=>e=.returned (.tuple #[])∧w'=w) Tryz.func62 rfl trivial ?_).mono (by rintro e u' w' ⟨rfl,rfl,rfl⟩;exact ⟨rfl,rfl,rfl⟩)
  simp only [ptrs,List.map_cons,List.map_nil,Tryz.ntmps62]
  refine wpIn_seq (wpIn_region_list ?_)
  refine opv (w1:=w) rfl rfl (v:=.int .i64 0) (nx:=.value (.int .i64 0)) (by simp [execOp,Act.eval,Act.put,go_sem,hc]) (.inl rfl) (by intro c h;cases h) ?_
  refine opv (w1:=w) rfl rfl (v:=.bool false) (nx:=.value (.bool false)) (by simp [execOp,Act.eval,Act.put,eqGuard,go_sem]) (.inl rfl) (by intro c h;cases h) ?_
  simp only [wpListIn,Exit.then]
  refine wpIn_cond (t:=false) (by simp [Act.eval,Act.put]) ?_
  simp only [Bool.false_eq_true,if_false]
  refine wpIn_skip ?_
  simp [bodyPost,results,Tryz.results62,Act.put]
 ·obtain ⟨b0,rfl⟩:=nil_bs hl
  have hc:w.cell? ⟨be,0,none⟩=some (.int .i64 m):=by rw [cell_of_row w _ _ _ _ (0,0) h];rfl
  refine (callsDIn_of_wp (R:=fun e w'=>e=.returned (.tuple #[])∧w'=zeroAll [b0] [[.int .i64 0,.int .i64 0,.int .i64 0,.int .i64 0,.int .i64 0,.int .i64 0,.bool false,.bool false]] w) Tryz.func62 rfl trivial ?_).mono (by rintro e u' w' ⟨rfl,rfl,rfl⟩;exact ⟨rfl,rfl,rfl⟩)
  simp only [ptrs,List.map_cons,List.map_nil,Tryz.ntmps62]
  refine wpIn_seq (wpIn_region_list ?_)
  have hm':(m != 0)=true:=by simpa using hm
  obtain ⟨arr0,E0,g0,s0⟩:=hb 0 b0 _ rfl rfl
  refine opv (w1:=w) rfl rfl (v:=.int .i64 m) (nx:=.value (.int .i64 m)) (by simp [execOp,Act.eval,Act.put,go_sem,hc]) (.inl rfl) (by intro c h;cases h) ?_
  refine opv (w1:=w) rfl rfl (v:=.bool true) (nx:=.value (.bool true)) (by simp [execOp,Act.eval,Act.put,eqGuard,go_sem,hm']) (.inl rfl) (by intro c h;cases h) ?_
  simp only [wpListIn,Exit.then]
  refine wpIn_cond (t:=true) (by simp [Act.eval,Act.put]) ?_
  simp only [if_true]
  refine wpIn_region_list ?_
  refine opv (w1:=w) rfl rfl (v:=.agg #[.int .i64 0,.int .i64 0,.int .i64 0,.int .i64 0,.int .i64 0,.int .i64 0,.bool false,.bool false]) (nx:=.value (.agg #[.int .i64 0,.int .i64 0,.int .i64 0,.int .i64 0,.int .i64 0,.int .i64 0,.bool false,.bool false])) (by simp [execOp,Act.eval,Act.put,go_sem]) (.inl rfl) (by intro c h;cases h) ?_
  have S0:=store_all (P:=Tryz.prog) (T0:=23) (v:=.agg #[.int .i64 0,.int .i64 0,.int .i64 0,.int .i64 0,.int .i64 0,.int .i64 0,.bool false,.bool false]) (by kernel_rfl) g0 (by rw [s0];rfl) (by simp [Value.cells,Value.oneCell'])
  refine opv (w1:=(w.setRow b0 #[.int .i64 0,.int .i64 0,.int .i64 0,.int .i64 0,.int .i64 0,.int .i64 0,.bool false,.bool false])) rfl rfl (v:=undef) (nx:=.skip) (by simp [execOp,Act.eval,Act.put];simp [S0,Value.cells]) (.inr ⟨rfl,rfl⟩) (by intro c h;cases h) ?_
  simp only [wpListIn]
  simp [bodyPost,results,Tryz.results62,Act.put,zeroAll,zval,Value.cells]
theorem clos_begin:ClosOk Tryz.prog 68 [[.int .i64 0,.int .i64 0,.int .i64 0,.int .i64 0,.int .i64 0,.int .i64 0,.bool false,.bool false],[.list 1 []]]:=by
 refine ⟨by kernel_rfl,fun be bs E w hl h=>?_,fun be bs m E w hm hl h hb hn=>?_⟩
 ·obtain ⟨b0,b1,rfl⟩:=two_bs hl
  have hc:w.cell? ⟨be,0,none⟩=some (.int .i64 0):=by rw [cell_of_row w _ _ _ _ (0,0) h];rfl
  refine (callsDIn_of_wp (R:=fun e w'=>e=.returned (.tuple #[])∧w'=w) Tryz.func68 rfl trivial ?_).mono (by rintro e u' w' ⟨rfl,rfl,rfl⟩;exact ⟨rfl,rfl,rfl⟩)
  simp only [ptrs,List.map_cons,List.map_nil,Tryz.ntmps68]
  refine wpIn_seq (wpIn_region_list ?_)
  refine opv (w1:=w) rfl rfl (v:=.int .i64 0) (nx:=.value (.int .i64 0)) (by simp [execOp,Act.eval,Act.put,go_sem,hc]) (.inl rfl) (by intro c h;cases h) ?_
  refine opv (w1:=w) rfl rfl (v:=.bool false) (nx:=.value (.bool false)) (by simp [execOp,Act.eval,Act.put,eqGuard,go_sem]) (.inl rfl) (by intro c h;cases h) ?_
  simp only [wpListIn,Exit.then]
  refine wpIn_cond (t:=false) (by simp [Act.eval,Act.put]) ?_
  simp only [Bool.false_eq_true,if_false]
  refine wpIn_skip ?_
  simp [bodyPost,results,Tryz.results68,Act.put]
 ·obtain ⟨b0,b1,rfl⟩:=two_bs hl
  have hc:w.cell? ⟨be,0,none⟩=some (.int .i64 m):=by rw [cell_of_row w _ _ _ _ (0,0) h];rfl
  refine (callsDIn_of_wp (R:=fun e w'=>e=.returned (.tuple #[])∧w'=zeroAll [b0,b1] [[.int .i64 0,.int .i64 0,.int .i64 0,.int .i64 0,.int .i64 0,.int .i64 0,.bool false,.bool false],[.list 1 []]] w) Tryz.func68 rfl trivial ?_).mono (by rintro e u' w' ⟨rfl,rfl,rfl⟩;exact ⟨rfl,rfl,rfl⟩)
  simp only [ptrs,List.map_cons,List.map_nil,Tryz.ntmps68]
  refine wpIn_seq (wpIn_region_list ?_)
  have hm':(m != 0)=true:=by simpa using hm
  obtain ⟨arr0,E0,g0,s0⟩:=hb 0 b0 _ rfl rfl
  obtain ⟨arr1,E1,g1,s1⟩:=hb 1 b1 _ rfl rfl
  have hne:b1≠b0:=fun e=>by subst e;simp at hn
  refine opv (w1:=w) rfl rfl (v:=.int .i64 m) (nx:=.value (.int .i64 m)) (by simp [execOp,Act.eval,Act.put,go_sem,hc]) (.inl rfl) (by intro c h;cases h) ?_
  refine opv (w1:=w) rfl rfl (v:=.bool true) (nx:=.value (.bool true)) (by simp [execOp,Act.eval,Act.put,eqGuard,go_sem,hm']) (.inl rfl) (by intro c h;cases h) ?_
  simp only [wpListIn,Exit.then]
  refine wpIn_cond (t:=true) (by simp [Act.eval,Act.put]) ?_
  simp only [if_true]
  refine wpIn_region_list ?_
  refine opv (w1:=w) rfl rfl (v:=.agg #[.int .i64 0,.int .i64 0,.int .i64 0,.int .i64 0,.int .i64 0,.int .i64 0,.bool false,.bool false]) (nx:=.value (.agg #[.int .i64 0,.int .i64 0,.int .i64 0,.int .i64 0,.int .i64 0,.int .i64 0,.bool false,.bool false])) (by simp [execOp,Act.eval,Act.put,go_sem]) (.inl rfl) (by intro c h;cases h) ?_
  have S0:=store_all (P:=Tryz.prog) (T0:=23) (v:=.agg #[.int .i64 0,.int .i64 0,.int .i64 0,.int .i64 0,.int .i64 0,.int .i64 0,.bool false,.bool false]) (by kernel_rfl) g0 (by rw [s0];rfl) (by simp [Value.cells,Value.oneCell'])
  refine opv (w1:=(w.setRow b0 #[.int .i64 0,.int .i64 0,.int .i64 0,.int .i64 0,.int .i64 0,.int .i64 0,.bool false,.bool false])) rfl rfl (v:=undef) (nx:=.skip) (by simp [execOp,Act.eval,Act.put];simp [S0,Value.cells]) (.inr ⟨rfl,rfl⟩) (by intro c h;cases h) ?_
  have S1:=store_all (P:=Tryz.prog) (w:=w.setRow b0 #[.int .i64 0,.int .i64 0,.int .i64 0,.int .i64 0,.int .i64 0,.int .i64 0,.bool false,.bool false]) (T0:=62) (v:=.slice none 0 0) (by kernel_rfl) ((setRow_other w b0 b1 _ hne).trans g1) (by rw [s1];rfl) (by simp [Value.cells,Value.oneCell'])
  refine opv (w1:=((w.setRow b0 #[.int .i64 0,.int .i64 0,.int .i64 0,.int .i64 0,.int .i64 0,.int .i64 0,.bool false,.bool false]).setRow b1 #[.slice none 0 0])) rfl rfl (v:=undef) (nx:=.skip) (by simp [execOp,Act.eval,Act.put];simp [S1,Value.cells]) (.inr ⟨rfl,rfl⟩) (by intro c h;cases h) ?_
  simp only [wpListIn]
  simp [bodyPost,results,Tryz.results68,Act.put,zeroAll,zval,Value.cells]
theorem clos_round:ClosOk Tryz.prog 46 [[.int .i64 0,.int .i64 0,.int .i64 0,.int .i64 0,.int .i64 0,.int .i64 0,.bool false,.bool false],[.int .i64 0,.int .i64 0,.int .i64 0,.list 1 [],.list 3 []]]:=by
 refine ⟨by kernel_rfl,fun be bs E w hl h=>?_,fun be bs m E w hm hl h hb hn=>?_⟩
 ·obtain ⟨b0,b1,rfl⟩:=two_bs hl
  have hc:w.cell? ⟨be,0,none⟩=some (.int .i64 0):=by rw [cell_of_row w _ _ _ _ (0,0) h];rfl
  refine (callsDIn_of_wp (R:=fun e w'=>e=.returned (.tuple #[])∧w'=w) Tryz.func46 rfl trivial ?_).mono (by rintro e u' w' ⟨rfl,rfl,rfl⟩;exact ⟨rfl,rfl,rfl⟩)
  simp only [ptrs,List.map_cons,List.map_nil,Tryz.ntmps46]
  refine wpIn_seq (wpIn_region_list ?_)
  refine opv (w1:=w) rfl rfl (v:=.int .i64 0) (nx:=.value (.int .i64 0)) (by simp [execOp,Act.eval,Act.put,go_sem,hc]) (.inl rfl) (by intro c h;cases h) ?_
  refine opv (w1:=w) rfl rfl (v:=.bool false) (nx:=.value (.bool false)) (by simp [execOp,Act.eval,Act.put,eqGuard,go_sem]) (.inl rfl) (by intro c h;cases h) ?_
  simp only [wpListIn,Exit.then]
  refine wpIn_cond (t:=false) (by simp [Act.eval,Act.put]) ?_
  simp only [Bool.false_eq_true,if_false]
  refine wpIn_skip ?_
  simp [bodyPost,results,Tryz.results46,Act.put]
 ·obtain ⟨b0,b1,rfl⟩:=two_bs hl
  have hc:w.cell? ⟨be,0,none⟩=some (.int .i64 m):=by rw [cell_of_row w _ _ _ _ (0,0) h];rfl
  refine (callsDIn_of_wp (R:=fun e w'=>e=.returned (.tuple #[])∧w'=zeroAll [b0,b1] [[.int .i64 0,.int .i64 0,.int .i64 0,.int .i64 0,.int .i64 0,.int .i64 0,.bool false,.bool false],[.int .i64 0,.int .i64 0,.int .i64 0,.list 1 [],.list 3 []]] w) Tryz.func46 rfl trivial ?_).mono (by rintro e u' w' ⟨rfl,rfl,rfl⟩;exact ⟨rfl,rfl,rfl⟩)
  simp only [ptrs,List.map_cons,List.map_nil,Tryz.ntmps46]
  refine wpIn_seq (wpIn_region_list ?_)
  have hm':(m != 0)=true:=by simpa using hm
  obtain ⟨arr0,E0,g0,s0⟩:=hb 0 b0 _ rfl rfl
  obtain ⟨arr1,E1,g1,s1⟩:=hb 1 b1 _ rfl rfl
  have hne:b1≠b0:=fun e=>by subst e;simp at hn
  refine opv (w1:=w) rfl rfl (v:=.int .i64 m) (nx:=.value (.int .i64 m)) (by simp [execOp,Act.eval,Act.put,go_sem,hc]) (.inl rfl) (by intro c h;cases h) ?_
  refine opv (w1:=w) rfl rfl (v:=.bool true) (nx:=.value (.bool true)) (by simp [execOp,Act.eval,Act.put,eqGuard,go_sem,hm']) (.inl rfl) (by intro c h;cases h) ?_
  simp only [wpListIn,Exit.then]
  refine wpIn_cond (t:=true) (by simp [Act.eval,Act.put]) ?_
  simp only [if_true]
  refine wpIn_region_list ?_
  refine opv (w1:=w) rfl rfl (v:=.agg #[.int .i64 0,.int .i64 0,.int .i64 0,.int .i64 0,.int .i64 0,.int .i64 0,.bool false,.bool false]) (nx:=.value (.agg #[.int .i64 0,.int .i64 0,.int .i64 0,.int .i64 0,.int .i64 0,.int .i64 0,.bool false,.bool false])) (by simp [execOp,Act.eval,Act.put,go_sem]) (.inl rfl) (by intro c h;cases h) ?_
  refine opv (w1:=w) rfl rfl (v:=.agg #[.int .i64 0,.int .i64 0,.int .i64 0,.slice none 0 0,.slice none 0 0]) (nx:=.value (.agg #[.int .i64 0,.int .i64 0,.int .i64 0,.slice none 0 0,.slice none 0 0])) (by simp [execOp,Act.eval,Act.put,go_sem]) (.inl rfl) (by intro c h;cases h) ?_
  have S0:=store_all (P:=Tryz.prog) (T0:=23) (v:=.agg #[.int .i64 0,.int .i64 0,.int .i64 0,.int .i64 0,.int .i64 0,.int .i64 0,.bool false,.bool false]) (by kernel_rfl) g0 (by rw [s0];rfl) (by simp [Value.cells,Value.oneCell'])
  refine opv (w1:=(w.setRow b0 #[.int .i64 0,.int .i64 0,.int .i64 0,.int .i64 0,.int .i64 0,.int .i64 0,.bool false,.bool false])) rfl rfl (v:=undef) (nx:=.skip) (by simp [execOp,Act.eval,Act.put];simp [S0,Value.cells]) (.inr ⟨rfl,rfl⟩) (by intro c h;cases h) ?_
  have S1:=store_all (P:=Tryz.prog) (w:=w.setRow b0 #[.int .i64 0,.int .i64 0,.int .i64 0,.int .i64 0,.int .i64 0,.int .i64 0,.bool false,.bool false]) (T0:=36) (v:=.agg #[.int .i64 0,.int .i64 0,.int .i64 0,.slice none 0 0,.slice none 0 0]) (by kernel_rfl) ((setRow_other w b0 b1 _ hne).trans g1) (by rw [s1];rfl) (by simp [Value.cells,Value.oneCell'])
  refine opv (w1:=((w.setRow b0 #[.int .i64 0,.int .i64 0,.int .i64 0,.int .i64 0,.int .i64 0,.int .i64 0,.bool false,.bool false]).setRow b1 #[.int .i64 0,.int .i64 0,.int .i64 0,.slice none 0 0,.slice none 0 0])) rfl rfl (v:=undef) (nx:=.skip) (by simp [execOp,Act.eval,Act.put];simp [S1,Value.cells]) (.inr ⟨rfl,rfl⟩) (by intro c h;cases h) ?_
  simp only [wpListIn]
  simp [bodyPost,results,Tryz.results46,Act.put,zeroAll,zval,Value.cells]
end Go.Proofs.YtioijcfcehhmdaaGreatDoor
