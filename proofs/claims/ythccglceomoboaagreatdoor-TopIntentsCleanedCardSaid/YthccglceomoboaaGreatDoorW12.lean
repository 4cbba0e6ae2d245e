/-
  Part 12 of the texts that the statement stands on.
-/
import Derived.Test.YthccglceomoboaaGreatDoorW11
import Derived.Test.YthccglceomoboaaGreatDoorRows
import Derived.Lib.LaidTab
import Derived.LaidByTextLater
import Derived.SizedLaws
set_option linter.all false
open Bool renaming and_eq_true → ZS
open List renaming getElem?_eq_getElem → ZZ, getElem?_eq_some_iff → Z1, length_map → za, getElem?_map → zd, length_append → zp, all_eq_true → zw, getD_eq_getElem?_getD → Zaf, mem_singleton → Zao, getElem?_cons_zero → Zau, mem_append → Zax, map_append → ZaH, mem_cons → ZaI, getElem?_cons_succ → ZaO, mem_iff_getElem? → ZaR, filterMap_cons → ZaU, getElem?_toArray → ZaZ, filterMap_nil → Za8, not_mem_nil → ZcA
open Nat renaming le_refl → zg, lt_of_lt_of_le → Zab, eq_zero_or_pos → ZaT
open Option renaming bind_eq_some_iff → ZaJ
open Int renaming ofNat → Zda
namespace Go.Proofs.YthccglceomoboaaGreatDoor
open Go.RowKit V
def Nk (v:Value)(d:Nat):Nat:=v.ownBlock.getD d
theorem UQ {v:Value}{w w':World}(h:w.grownBy w' v.ownBlock)(d:Nat):w.grownBy w' (some (Nk v d)):=by
 unfold Nk
 cases e:v.ownBlock with
 |none=>rw [e] at h;exact Cm h
 |some b=>rw [e] at h;exact h
theorem aiW {v:Value}{B d:Nat}(hd:B≤d)(h:∀ k,v.ownBlock=some k→B≤k):B≤Nk v d:=by
 unfold Nk
 cases e:v.ownBlock with
 |none=>exact hd
 |some b=>exact h b e
theorem DL {P:Program}{w:World}{ops:Array Oper}{rest:List Oper}{o:Oper}{a:Act}{Q:Exit→Act→World→Prop}{T E sz bytes:Nat}{z:Value}{base:Nat}{v:Value}{n:Nat}{xs:List Value}(ht:lW P T E sz bytes z)(hgd:o.guard=none)(s x:Operand)
  (ho:o.op=.call { callee:=.builtin .append,args:=#[s,x],argTypes:=#[T,T] }) (hs:a.eval s=v) (hown:tq w base E z.cells v n xs)
  {ad:Addr} {m c:Nat} {news:List Value} (hx:a.eval x=.slice (some ad) m c) (hl:news.length=m*sz) (hnews:∀ j u,news[j]?=some u→w.cell? (ad.add j)=some u) (h1:∀ u∈news,u.oneCell'=true)
  (h63:n+m≤maxLen) (hby:(n+m)*bytes≤140737488355328) (hbase:base≤w.heap.size)
  (h:∀ v' w',tq w' base E z.cells v' (n+m) (xs++news)→w.grownBy w' v.ownBlock→((∃ x c,v=.slice x n c∧v'=.slice x (n+m) c)∨w.grownBy w' none)→wpList P ops Q rest (a.put o.dst v') w'):wpList P ops Q (o::rest) a w:=by
 obtain ⟨i,hi,hz0,hz1,hz2⟩:=info_parts ht.i
 exact Qo w hgd s x T ho base E i z ht.u hi hz0 (by rw [hz1];exact ht.zs) (by rw [hz1];exact ht.pos) v n xs hs hown ad m c news hx (by rw [hz1];exact hl) hnews h1 h63 (by rw [hz2];exact hby) hbase h
theorem amr {ok:Nat→Prop}{w:World}{b off:Nat}{evs:List TE}(h:∀ (i:Nat) (e:PV),(evs.map pU)[i]?=some e→Mem ok w b (off+i*4) e.cells){k:Nat}(hk:k<evs.length) :
  w.cell? ⟨b,off+k*4+2,none⟩=some (.int .u8 (evs[k].st:Int))∧∃ x n c,w.cell? ⟨b,off+k*4+3,none⟩=some (.slice x n c)∧aA ok w (.list 8 (evs[k].dat.map eP)) (.slice x n c):=by
 have he:(evs.map pU)[k]?=some (pU evs[k]):=by rw [zd,ZZ hk];rfl
 have hm:=h k _ he
 obtain ⟨u,g1,_,g3⟩:=hm 2 _ rfl
 obtain ⟨u2,k1,_,k3⟩:=hm 3 _ rfl
 obtain ⟨x,c,rfl,_⟩:=k3.dU
 exact ⟨by rw [g1,g3.bD],x,_,c,k1,k3⟩
set_option maxRecDepth 100000 in
set_option maxHeartbeats 4000000 in
theorem QW {a b:Nat}{evs:List TE}(ha:a<256)(hb:b<256)(hl:evs.length≤140737488351232)(hev:∀ x∈evs,uU x){w:World}{ue:Value}(hE:aA (fun b=>b<w.heap.size) w (.list 4 (evs.map pU)) ue)(hG:qJ w) :
  Calls Tryz.prog 7 #[.int .u8 (a:Int),.int .u8 (b:Int),ue] w (fun e w'=>e=.returned (.bool true)∧Below w.heap.size w w'):=by
 have cS:Calls Tryz.prog 44 #[ue] w (fun e w'=>e=.returned (.bool (smT evs))∧Below w.heap.size w w') :=
  (JM Wi (vs:=[ue]) (anN (l:=evs) hl) ⟨hE,trivial⟩ hG (fun r hr=>.inl (by rw [Zao.1 hr]))).mono (by
   rintro e w' ⟨v,rfl,hB,hv⟩
   have:=hv.one.jw
   exact ⟨by rw [this],hB⟩)
 have cA:∀ W,Below w.heap.size w W→Calls Tryz.prog 24 #[] W (fun e w'=>e=.returned (.bool true)∧Below W.heap.size W w'):=fun W hB =>
  Jp (vs:=[]) Wi afw trivial (hG.below hB)
 obtain ⟨xe,ce,rfl,le1,le2,le3⟩:=hE.dU
 rw [za] at *
 cases hs:smT evs with
 |false =>
  rw [hs] at cS
  go_enter Tryz.func7,Tryz.ntmps7
  go_wp2_with fail
  refine cS.mono ?_
  rintro e w1 ⟨rfl,hB1⟩
  go_wp2_with fail
  refine (cA _ hB1).mono ?_
  rintro e w2 ⟨rfl,hB2⟩
  go_wp2
  go_ret
  exact ⟨rfl,hB1.trans (hB2.mono hB1.size)⟩
 |true =>
  rw [hs] at cS
  obtain ⟨s1,s2⟩:=amo hs
  go_enter Tryz.func7,Tryz.ntmps7
  go_wp2_with fail
  refine cS.mono ?_
  rintro e w1 ⟨rfl,hB1⟩
  go_wp2_with fail
  go_loopw [7,8] (fun v i wr=>∃ k:Nat,k≤evs.length∧i=.int .i64 k∧(∃ xs,tq wr w.heap.size 119 zE.cells v (4*k) xs∧bJ (fun b=>b<w.heap.size) wr 4 ((vO (evs.take k)).map pU) xs)∧Below w.heap.size w wr∧w.heap.size≤wr.heap.size) (fun _ i _=>evs.length - (intOf i).toNat)
  case atStart=>exact ⟨0,Nat.zero_le _,rfl,⟨[],Qn _ _ _ _,bJ.nil _ _ _⟩,hB1,hB1.size⟩
  case round =>
   obtain ⟨k,hk,rfl,⟨xs,hown,hcs⟩,hB,hsz⟩:=hrel
   by_cases hlt:k<evs.length
   ·obtain ⟨bx,off,rfl,x1,x2,x3,x4⟩:=le3 (by omega)
    obtain ⟨m2,x,n,c,m3,m4⟩:=amr x4 hlt
    have c2:=(hB.cell (p:=⟨bx,off+k*4+2,none⟩) x1).trans m2
    have c3:=(hB.cell (p:=⟨bx,off+k*4+3,none⟩) x1).trans m3
    have HX:=Lib.hid x4
    clear x4 le3
    have yL:=hown.own.lt
    have hgo:w.heap.size≤Nk u7 wr.heap.size:=aiW hsz (fun k hk=>(yL k hk).1)
    have hl2:=nV (g:=Nk u7 wr.heap.size) c2 (by simp only;omega)
    have hl3:=nV (g:=Nk u7 wr.heap.size) c3 (by simp only;omega)
    clear c2 c3 m2 m3
    go_wp2_with fail
    refine vS (fun w'=>∃ x:lI (wr) (Nk u7 wr.heap.size),w'=x.w) [([0,1,2,3,4,5,6,7,8,9,10,11,12,13,14],15),([],16)] [17] Tryz.mixed (by kernel_rfl) (lI.drew _ _) ?_
    refine yM ?_
    simp only [pick,ZaU,Za8,ZaZ,ZaO,Zau]
    change wpQuiet _ _ _ _ [_,_,_,_,_,_,_,_,_,_,_,_,_,_,_] _
    repeat (go_big_quiet_step (fail))
    refine wpQuiet_nil ?_
    change wpList _ _ _ [_] _ _
    go_wp2_with fail
    obtain ⟨w2,hw2⟩:∃ w2,wr.drew.alloc (.cells (ev4 evs[k].st (.slice x n c)).toArray 119)=w2:=⟨_,rfl⟩
    have hB2:Below wr.heap.size wr w2:=by rw [← hw2];exact (Below.refl _ _).drew.alloc (zg _) _
    have hnews:=AX wr.drew 119 (ev4 evs[k].st (.slice x n c)).toArray
    rw [hw2] at hnews
    change (∃ x_1:lI wr (Nk u7 wr.heap.size),wr.drew.alloc (.cells (ev4 evs[k].st (.slice x n c)).toArray 119)=x_1.w)∧oN _ _ _ _ _ _ _ (wr.drew.alloc (.cells (ev4 evs[k].st (.slice x n c)).toArray 119))
    rw [hw2]
    refine ⟨lI.of (Cm (below_grown hB2)),?_⟩
    refine yM ?_
    simp only [pick,ZaU,Za8,ZaZ,ZaO,Zau]
    change wpQuiet _ _ _ _ [] _
    repeat (go_big_quiet_step (fail))
    refine wpQuiet_nil ?_
    change wpList _ _ _ [_] _ _
    have hown2:tq w2 w.heap.size 119 zE.cells u7 (4*k) xs:=hown.keep fun g _ hg=>hB2.block g hg
    have hz2:=hB2.size
    refine DL (w:=w2) Tryz.anO rfl _ _ rfl rfl hown2 (m:=4) (c:=4) (ad:=⟨wr.heap.size,0,none⟩) (news:=ev4 evs[k].st (.slice x n c)) rfl rfl hnews ?c1 ?c2 ?c3 ?c4 ?_
    case c1=>exact (J9 (x:=evs[k]) m4).one
    case c2=>unfold maxLen;omega
    case c3=>omega
    case c4=>omega
    intro v' w3 hown1 hgrow _
    have hg3:wr.grownBy w3 u7.ownBlock:=DJ (Cm (below_grown hB2)) hgrow
    go_wp2_with fail
    refine ⟨lI.of (UQ hg3 _),?_⟩
    refine CQ ?_
    simp only [pick,ZaU,Za8,ZaZ,ZaO,Zau]
    change wpQuiet _ _ _ _ [_] _
    repeat (go_big_quiet_step (fail))
    refine wpQuiet_nil ?_
    have hBw:Below w.heap.size w w3:=hB.grown hg3 hsz (fun k hk=>(yL k hk).1)
    go_wp2
    go_roundw
    case rel =>
     refine ⟨k+1,by omega,by go_num,⟨_,hown1,?_⟩,hBw,Nat.le_trans hsz hg3.size⟩
     rw [List.take_succ_eq_append_getElem hlt,afr,ZaH]
     exact (hcs.frame fun b hb' ams=>⟨hb',(hBw.block b hb').trans (hB.block b hb').symm⟩).append (J9 (m4.frame fun b hb' _=>⟨hb',hBw.block b hb'⟩))
    case measure=>simp [intOf];omega
   ·obtain rfl:k=evs.length:=by omega
    rw [List.take_length] at hcs
    have hcL:=V9 evs
    have hp:=J5 hown rfl (by rw [za,hcL]) (hcs.frame fun b hb' _=>⟨Zab hb' hsz,rfl⟩)
    have hc1:∀ x∈vO evs,uU x∧x.dat.length≤1000:=fun x hx=>by
     unfold vO at hx
     obtain ⟨y,hy,hx⟩:=List.mem_flatMap.1 hx
     have h1:=hev y hy
     have h2:=s2 y hy
     unfold uU at h1
     unfold clE at hx
     simp only [ZaI,ZcA,or_false] at hx
     unfold uU
     rcases hx with rfl|rfl|rfl|rfl<;>simp<;>omega
    have hc2:∀ x∈vO evs++[clX],uU x∧x.dat.length≤1000:=fun x hx=>by
     rcases Zax.1 hx with hx|hx
     ·exact hc1 x hx
     ·rw [Zao.1 hx]
      exact ⟨⟨by decide,by decide,by decide⟩,by decide⟩
    have t1:=ajm ha hb hc1 (by omega)
    have t2:=ajm ha hb hc2 (by rw [zp,hcL];show _+1≤_;omega)
    obtain ⟨k1,k2,k3,k4,k5,k6⟩:=afu a b s1
    rw [k2,k3,k4,← k1] at t2
    rw [← k1] at t1
    have asx:(Ba a b (vO evs)).a.length≤16:=by rw [k5];unfold oM;omega
    generalize (Ba a b (vO evs)).a=A at *
    generalize VN (oM a:Int) (CO b) (Ba a b (vO evs)).Hy=L at *
    have cC:∀ (l:List TE) (R:List bH) W u,cal env 45 [.int .u8 (a:Int),.int .u8 (b:Int),.list 4 (l.map pU)]=some [(oJ [A],false),(oJ [A],false),(.list 1 [.list 2 (R.map aZ)],true),(.bool true,false)]→qJ W→aA (fun b=>b<W.heap.size) W (.list 4 (l.map pU)) u →
      Calls Tryz.prog 45 #[.int .u8 (a:Int),.int .u8 (b:Int),u] W (fun e w'=>∃ y1 d1 y2 d2 y3 d3,e=.returned (.tuple #[.slice y1 1 d1,.slice y2 1 d2,.slice y3 1 d3,.bool true])∧aA (fun b=>b<w'.heap.size) w' (.list 1 ([A].map dh)) (.slice y1 1 d1)∧aA (fun b=>b<w'.heap.size) w' (.list 1 ([A].map dh)) (.slice y2 1 d2)∧aA (fun b=>b<w'.heap.size) w' (.list 1 [.list 2 (R.map aZ)]) (.slice y3 1 d3)∧Below W.heap.size W w'):=fun l R W u af5 hG' hu =>
     (JM Wi (vs:=[.int .u8 (a:Int),.int .u8 (b:Int),u]) af5 ⟨.int _ _,.int _ _,hu,trivial⟩ hG' (fun r hr=>by
      simp only [ZaI,ZcA,or_false] at hr
      rcases hr with rfl|rfl|rfl|rfl
      ·exact .inl rfl
      ·exact .inl rfl
      ·exact .inr ⟨_,_,rfl⟩
      ·exact .inl rfl)).mono (by
      rintro e w' ⟨v,rfl,hB,arr,hz,rfl,hv⟩
      obtain ⟨va,vb,vc,vd,rfl⟩:=aqu hz
      have q1:=hv 0 _ va rfl rfl
      have q2:=hv 1 _ vb rfl rfl
      have q3:=hv 2 _ vc rfl rfl
      have q4:=(hv 3 _ vd rfl rfl).jw
      obtain ⟨y1,d1,rfl,_⟩:=aA.dU (sz:=1) (es:=[A].map dh) q1
      obtain ⟨y2,d2,rfl,_⟩:=aA.dU (sz:=1) (es:=[A].map dh) q2
      obtain ⟨y3,d3,rfl,_⟩:=aA.dU (sz:=1) (es:=[PV.list 2 (R.map aZ)]) q3
      exact ⟨y1,d1,y2,d2,y3,d3,by rw [q4];rfl,q1,q2,q3,hB⟩)
    have cM:∀ W y d y' d',qJ W→aA (fun b=>b<W.heap.size) W (.list 1 ([A].map dh)) (.slice y 1 d)→aA (fun b=>b<W.heap.size) W (.list 1 ([A].map dh)) (.slice y' 1 d')→Calls Tryz.prog 22 #[.slice y 1 d,.slice y' 1 d'] W (fun e w'=>e=.returned (.bool true)∧Below W.heap.size W w'):=fun W y d y' d' hG' h1 h2=>by
     have k9:=anz (a:=[A]) (b:=[A]) (by show 1≤lim;decide) (fun v hv=>by rw [Zao.1 hv];unfold lim;omega)
     rw [decide_eq_true rfl] at k9
     exact Jp (vs:=[.slice y 1 d,.slice y' 1 d']) Wi k9 ⟨h1,h2,trivial⟩ hG'
    go_wp2_with fail
    refine (cC _ _ _ _ t1 (hG.below hB) hp).mono ?_
    rintro e w2 ⟨y1,d1,y2,d2,y3,d3,rfl,p1,p2,p3,hB2⟩
    obtain ⟨w3,hw3⟩:∃ w3,w2.alloc (.cells (evC 4 0 (.slice none 0 0)).toArray 119)=w3:=⟨_,rfl⟩
    have hB3:Below wr.heap.size wr w3:=by rw [← hw3];exact hB2.alloc hB2.size _
    have apF:Below w2.heap.size w2 w3:=by rw [← hw3];exact (Below.refl _ _).alloc (zg _) _
    have hnews:=AX w2 119 (evC 4 0 (.slice none 0 0)).toArray
    rw [hw3] at hnews
    have hz3:=hB3.size
    have hown3:tq w3 w.heap.size 119 zE.cells u7 (4*evs.length) xs:=hown.keep fun g _ hg=>hB3.block g hg
    have yL:=hown3.own.lt
    have hcs3:bJ (fun b=>b<w3.heap.size) w3 4 ((vO evs).map pU) xs:=hcs.frame fun b hb' ams=>⟨Zab ams hz3,hB3.block b ams⟩
    have hBw3:Below w.heap.size w w3:=hB.trans (hB3.mono hsz)
    have p1:=p1.up apF
    have p2:=p2.up apF
    have HT:=Lib.hid t2
    clear t2 t1 hc1 hc2 le3
    go_wp2_with (at_builtin;refine Hid.out ?_)
    refine Lib.hid ?_
    change wpList _ _ _ _ _ (w2.alloc (.cells (evC 4 0 (.slice none 0 0)).toArray 119))
    rw [hw3]
    refine DL (w:=w3) Tryz.anO rfl _ _ rfl rfl hown3 (m:=1) (c:=1) (ad:=⟨w2.heap.size,0,none⟩) (news:=evC 4 0 (.slice none 0 0)) rfl rfl hnews ?c1 ?c2 ?c3 ?c4 ?_
    case c1=>exact (qm (ok:=fun _=>True) (w:=w3) (k:=4) (st:=0) (dat:=[]) (.nil _ _)).one
    case c2=>unfold maxLen;omega
    case c3=>omega
    case c4=>omega
    intro v' w4 hown4 hgrow hcase
    have amu:Below w.heap.size w w4:=hBw3.grown hgrow hBw3.size (fun k hk=>(yL k hk).1)
    have hz4:=hgrow.size
    have key:aA (fun b=>b<w4.heap.size) w4 (.list 1 ([A].map dh)) (.slice y1 1 d1)∧aA (fun b=>b<w4.heap.size) w4 (.list 1 ([A].map dh)) (.slice y2 1 d2)∧bJ (fun b=>b<w4.heap.size) w4 4 ((vO evs).map pU) xs:=by
     rcases hcase with hcase|hcase
     ·obtain ⟨g,hp⟩:=aiV (by rw [hcL]) hcs3 hown3 hown4 hgrow hcase
      have hok:∀ b,b<w3.heap.size→b<w4.heap.size:=fun b hb'=>Zab hb' hz4
      exact ⟨hp.img hok p1,hp.img hok p2,hp.evs hok hcs3⟩
     ·have amv:Below w3.heap.size w3 w4:=grown_below hcase (zg _) (fun k hk=>by cases hk)
      exact ⟨p1.up amv,p2.up amv,hcs3.frame fun b hb' _=>⟨Zab hb' hz4,amv.block b hb'⟩⟩
    obtain ⟨p1,p2,aq3⟩:=key
    have hp4:aA (fun b=>b<w4.heap.size) w4 (.list 4 ((vO evs++[clX]).map pU)) v':=by
     rw [ZaH]
     exact J5 hown4 rfl (by rw [zp,za,hcL];rfl) (aq3.append (qm (k:=4) (st:=0) (dat:=[]) (.nil _ _)))
    go_wp2_with fail
    refine (cC _ _ _ _ HT.out (hG.below amu) hp4).mono ?_
    rintro e w5 ⟨y4,d4,y5,d5,y6,d6,rfl,p4,p5,p6,hB5⟩
    have p1:=p1.up hB5
    have p2:=p2.up hB5
    have amw:=amu.trans (hB5.mono amu.size)
    go_wp2_with fail
    refine (cA _ amw).mono ?_
    rintro e w6 ⟨rfl,hB6⟩
    have p1:=p1.up hB6
    have p2:=p2.up hB6
    have p4:=p4.up hB6
    have p5:=p5.up hB6
    have p6:=p6.up hB6
    have amx:=amw.trans (hB6.mono amw.size)
    go_wp2_with fail
    refine (cM _ _ _ _ _ (hG.below amx) p1 p2).mono ?_
    rintro e w7 ⟨rfl,hB7⟩
    have p1:=p1.up hB7
    have p4:=p4.up hB7
    have p5:=p5.up hB7
    have p6:=p6.up hB7
    have amy:=amx.trans (hB7.mono amx.size)
    go_wp2_with fail
    refine (cM _ _ _ _ _ (hG.below amy) p4 p5).mono ?_
    rintro e w8 ⟨rfl,hB8⟩
    have p1:=p1.up hB8
    have p4:=p4.up hB8
    have p6:=p6.up hB8
    have amA:=amy.trans (hB8.mono amy.size)
    go_wp2_with fail
    refine (cM _ _ _ _ _ (hG.below amA) p1 p4).mono ?_
    rintro e w9 ⟨rfl,hB9⟩
    have p6:=p6.up hB9
    have aq4:=amA.trans (hB9.mono amA.size)
    obtain ⟨y9,d9,e9,_,_,r9⟩:=aA.dU (sz:=1) (es:=[PV.list 2 (([]:List bH).map aZ)]) p6
    cases e9
    obtain ⟨b9,o9,rfl,_,_,_,r9⟩:=r9 (by decide)
    obtain ⟨u9,c9,_,v9⟩:=r9 0 _ rfl 0 _ rfl
    obtain ⟨x9,k9,rfl,_⟩:=aA.dU (sz:=2) (es:=[]) v9
    have c9:w9.cell? ⟨b9,o9,none⟩=some (.slice x9 0 k9):=c9
    go_wp2
    go_ret
    exact ⟨rfl,aq4⟩
end Go.Proofs.YthccglceomoboaaGreatDoor
namespace Go.Proofs.YthccglceomoboaaGreatDoor
open Go.RowKit
theorem Zj:(Rows.laid_math_bits_deBruijn64tab:DataW Unit)=Lib.tabData .u8 (Lib.deBruijn64tab.map Zda):=by kernel_rfl
theorem apH:Tryz.prog.globalNamed "math/bits.deBruijn64tab"=some 0:=by kernel_rfl
theorem Hr {w:World} {l:List (String × DataW Unit)} (hl:l=[("math/bits.deBruijn64tab",Rows.laid_math_bits_deBruijn64tab)]) (h:laidMetH Tryz.prog l w):qJ w:=by
 subst hl
 rw [MakeChecks.laidMetH_plain _ _ _ (by kernel_rfl),Zj] at h
 have ht:Lib.TabIs Tryz.prog w "math/bits.deBruijn64tab" .u8 (Lib.deBruijn64tab.map Zda) :=
  Lib.tabIs_of_head (t:=380) (e:=5) (n:=64) apH (by kernel_rfl) (by kernel_rfl) (by kernel_rfl) (by kernel_rfl) (by kernel_rfl) h
 have hc:∀ i,i<64→w.cell? ⟨0,i,none⟩=some (.int .u8 ((Lib.deBruijn64tab.map Zda).getD i 0)):=fun i hi=>ht.cell apH i (by simpa [Lib.deBruijn64tab] using hi)
 have hC:bV w 0:=zh (hc 0 (by decide))
 intro p hp
 obtain rfl:p=_:=Zao.1 hp
 refine .dD _ 0 _ 0 (fun i=>.int .u8 ((Lib.deBruijn64tab.map Zda).getD i 0)) (if_pos hC.lt) hC (fun k x hk=>?_) (fun k x hk=>?_)
 ·have hk':=(Z1.1 hk).1
  rw [Nat.zero_add]
  exact ⟨hc k (by simpa [Lib.deBruijn64tab] using hk'),rfl⟩
 ·simp only [zd] at hk
  cases e:Lib.deBruijn64tab[k]? with
  |none=>rw [e] at hk;cases hk
  |some n =>
   rw [e] at hk;cases hk
   have:(Lib.deBruijn64tab.map Zda).getD k 0=(n:Int):=by simp [Zaf,e]
   rw [this]
   exact .int _ _
end Go.Proofs.YthccglceomoboaaGreatDoor
namespace Go.Proofs.YthccglceomoboaaGreatDoor.V
open Go.RowKit Go.ChangeShapes Go.WideShapes Go.ChangeAt
theorem Tryz.afx:ownKnob Tryz.prog.godebug=none:=by kernel_rfl
theorem Tryz.Ht:laidOutB Tryz.prog=true:=by kernel_rfl
theorem Wj {q:PV}(h:SInt .u8 [q]):∃ b:UInt8,q=.int .u8 (b.toNat:Int):=by
 obtain ⟨n,h1,h2⟩:=h
 have h3:IntKind.u8.min=0:=rfl
 have h4:IntKind.u8.max=255:=rfl
 simp only [Lit.wf,ZS,decide_eq_true_eq] at h1
 cases h2
 refine ⟨UInt8.ofNat n.toNat,?_⟩
 rw [UInt8.toNat_ofNat_of_lt' (show n.toNat<2 ^ 8 by omega)]
 congr 1;omega
def amB:List PV→Prop:=anl 8 (SInt .u8)
theorem aq5 {ps:List PV}(h:amB ps):∃ s:eG,ps=kS s:=by
 obtain ⟨h1,h2⟩:=h
 have:∀ l:List PV,(∀ p∈l,SInt .u8 [p])→∃ m:List UInt8,m.length=l.length∧l=m.map fun b=>.int .u8 (b.toNat:Int):=by
  intro l
  induction l with
  |nil=>exact fun _=>⟨[],rfl,rfl⟩
  |cons p l ih =>
   intro h
   obtain ⟨b,hb⟩:=Wj (h p (by simp))
   obtain ⟨m,e1,e2⟩:=ih fun q hq=>h q (by simp [hq])
   exact ⟨b::m,by simp [e1],by rw [hb,e2];rfl⟩
 obtain ⟨m,e1,e2⟩:=this ps h2
 refine ⟨⟨m.toArray,by simp [e1,h1]⟩,?_⟩
 subst e2
 simp [kS,Vector.toList]
theorem ajo {α:Type}{n:Nat}{S:List PV→Prop}{wr:List PV→PV}{enc:α→PV}{ok:α→Prop}(hS:∀ ps,S ps→∃ a,ok a∧wr ps=enc a){q:PV}(h:aaG n S wr [q]):∃ l:List α,(∀ a∈l,ok a)∧q=.list n (l.map enc):=by
 obtain ⟨es,h1,h2⟩:=h
 cases h1
 have:∀ es:List PV,(∀ x∈es,∃ q,S q∧x=wr q)→∃ l:List α,(∀ a∈l,ok a)∧es=l.map enc:=by
  intro es
  induction es with
  |nil=>exact fun _=>⟨[],by simp,rfl⟩
  |cons e es ih =>
   intro h
   obtain ⟨q,h3,h4⟩:=h e (by simp)
   obtain ⟨a,h5,h6⟩:=hS q h3
   obtain ⟨l,h7,h8⟩:=ih fun x hx=>h x (by simp [hx])
   exact ⟨a::l,by simp;exact ⟨h5,h7⟩,by rw [h4,h6,h8];rfl⟩
 obtain ⟨l,h3,h4⟩:=this es h2
 exact ⟨l,h3,by rw [h4]⟩
def afy:List PV→Prop:=aaG 8 amB .agg
theorem apJ {q:PV}(h:afy [q]):∃ l:List eG,q=dh l:=by
 obtain ⟨l,_,e⟩:=ajo (enc:=eP) (ok:=fun _=>True) (fun ps h=>by obtain ⟨s,rfl⟩:=aq5 h;exact ⟨s,trivial,rfl⟩) h
 exact ⟨l,e⟩
theorem Tryz.Zk:lC Tryz.prog 5 1 (SInt .u8):=lC.int Tryz.underlying5 (by kernel_rfl)
theorem Tryz.apK:lC Tryz.prog 129 8 amB:=lC.arr Tryz.underlying129 Tryz.Zk (by kernel_rfl)
theorem Tryz.amC:lC Tryz.prog 71 1 afy:=lC.list Tryz.underlying71 (by kernel_rfl) Tryz.apK (by decide) (fun _ _ _=>rfl)
end Go.Proofs.YthccglceomoboaaGreatDoor.V
namespace Go.Proofs.YthccglceomoboaaGreatDoor
open Go.RowKit Go.WideShapes
def uY (P:Program)(t:TypeId)(n:Nat)(S:List PV→Prop):Prop :=
 P.cellsOf t=n∧∀ {H:Type} {enc:TypeId×Value→H} {w:World} {fuel:Nat} {cs:List Value} {x:DataW H×List MemPlace},DataW.trod enc P w 0 (fun _=>true) true fuel t cs=some x→(x.1.weights P t).all (·≤reachBytes)=true→∃ ps,S ps∧ps.length=n∧BH w cs ps
def afz (n:Nat)(S:List PV→Prop)(wr:List PV→PV)(ps:List PV):Prop:=∃ es,ps=[.list n es]∧es.length≤140737488351232∧∀ x∈es,∃ q,S q∧x=wr q
section
variable {P:Program}{t e:TypeId}{n m:Nat}{S:List PV→Prop}{k:IntKind}
theorem uY.of (h:lC P t n S):uY P t n S:=⟨h.1,fun h1 _=>h.2 h1⟩
theorem vG {H:Type}:∀ {ds:List (DataW H)} {i:Nat} (h:i<ds.length) {y:Nat},y∈ds[i].weights P e→y∈DataW.weightsAll P e ds
 |d::ds,0,_,y,hy=>by
  simp only [DataW.weightsAll,Zax]
  exact .inl hy
 |d::ds,i+1,h,y,hy=>by
  simp only [DataW.weightsAll,Zax]
  exact .inr (vG (ds:=ds) (i:=i) (by simpa using h) (by simpa using hy))
 |[],_,h,_,_=>by simp at h
theorem uY.list {wr:List PV→PV}(ht:P.underlying t=some (.slice e))(hc:P.cellsOf t=1)(hr:uY P e n S)(hb:1≤P.bytesOf e)(hpos:0<n)(hw:∀ ps,S ps→ps.length=n→(wr ps).cells=ps):uY P t 1 (afz n S wr):=⟨hc,fun {H enc w fuel cs x} h hz=>by
 rcases DataW.trod_slice ht h with ⟨rfl,_⟩|⟨a,len,cap,elems,rest,m,_,rfl,rfl,_,hl,hm,hel,hE,hR,_⟩
 ·exact ⟨[.list n []],⟨[],rfl,Nat.zero_le _,fun x hx=>by cases hx⟩,rfl,sZ rfl (.nil n none)⟩
 ·have hz1:elems.length≤140737488351232:=by
   have:=zw.1 hz ((elems.length+rest.length)*P.bytesOf e) (by simp [DataW.weights,ht])
   have h3:(elems.length+rest.length)*P.bytesOf e≤140737488351232:=by
    have h:=of_decide_eq_true this
    simpa [reachBytes] using h
   have h4:(elems.length+rest.length)*1≤(elems.length+rest.length)*P.bytesOf e:=Nat.mul_le_mul_left _ hb
   omega
  have hz2:∀ (i:Nat) (h:i<elems.length),(elems[i].1.weights P e).all (·≤reachBytes)=true:=fun i hi=>by
   rw [zw]
   intro y hy
   refine zw.1 hz y ?_
   simp only [DataW.weights,ht,ZaI,Zax]
   exact .inr (.inl (vG (i:=i) (by simpa using hi) (by simpa using hy)))
  obtain ⟨l,h1,h2⟩:=xX (p:=fun i (y:List Value×List PV)=>w.cells? 0 (a.add (i*n)) n=some y.1∧S y.2∧y.2.length=n∧BH w y.1 y.2) len fun i hi=>by
   have:=hE i hi
   rw [ZZ (by omega),hr.1,ZaJ] at this
   obtain ⟨c,h3,h4⟩:=this
   obtain ⟨ps,g1,g2,g3⟩:=hr.2 h4 (hz2 i (by omega))
   exact ⟨(c,ps),h3,g1,g2,g3⟩
  refine ⟨[.list n (l.map fun y=>wr y.2)],⟨_,rfl,by rw [za,h1];omega,fun x hx=>?_⟩,rfl,sZ rfl ?_⟩
  ·obtain ⟨y,hy,rfl⟩:=List.mem_map.1 hx
   obtain ⟨i,hi⟩:=ZaR.1 hy
   exact ⟨y.2,(h2 i y hi).2.1,rfl⟩
  ·by_cases hcap:cap=0
   ·have:len=0:=by omega
    subst hcap;subst this
    have:l=[]:=List.eq_nil_of_length_eq_zero h1
    subst this
    exact .nil n (some a)
   ·-- there are cells
    have hcell:∃ off v,w.cell? ⟨a.block,off,none⟩=some v∧a.spot=none:=by
     have OB:∀ (i:Nat) (c:List Value),w.cells? 0 (a.add (i*n)) n=some c→∃ off v,w.cell? ⟨a.block,off,none⟩=some v∧a.spot=none:=fun i c h3=>by
      obtain ⟨_,hc0,h4⟩:=World.cells?_some h3
      have h5:=h4 0 hpos
      rw [ZZ (by omega)] at h5
      have hs:(a.add (i*n)).spot=none:=by simpa [Addr.add] using World.cell?_spot h5
      have hs0:a.spot=none:=by
       unfold Addr.add at hs
       split at hs
       ·exact hs
       ·rename_i hne
        by_cases h0:i*n=0
        ·rename_i q;exact absurd h0 (by simpa using hne)
        ·rcases ZaT i with hi0|hi0
         ·subst hi0;simp at h0
         ·-- the row begins at a: its first cell
          have:0<len∨len=0:=by omega
          rcases this with hlen|hlen
          ·obtain ⟨y,hy⟩:∃ y,l[0]?=some y:=⟨l[0],ZZ (by omega)⟩
           obtain ⟨_,hc1,h6⟩:=World.cells?_some (h2 0 y hy).1
           have h7:=h6 0 hpos
           rw [ZZ (by omega)] at h7
           simpa [Addr.add] using World.cell?_spot h7
          ·have hrl:0<rest.length:=by have:=(hR rfl).1;omega
           have:=(hR rfl).2 0 (by omega)
           have h8:rest[0]?=some rest[0]:=ZZ hrl
           rw [h8,hr.1,hlen,ZaJ] at this
           obtain ⟨c1,h9,_⟩:=this
           obtain ⟨_,hc1,h6⟩:=World.cells?_some h9
           have h7:=h6 0 hpos
           rw [ZZ (by omega)] at h7
           simpa [Addr.add] using World.cell?_spot h7
      obtain ⟨b,off,spot⟩:=a
      simp only at hs0
      subst hs0
      rw [Addr.add_lit,Addr.add_lit] at h5
      exact ⟨_,_,h5,rfl⟩
     rcases ZaT len with hlen|hlen
     ·have hrl:0<rest.length:=by have:=(hR rfl).1;omega
      have:=(hR rfl).2 0 (by omega)
      have h8:rest[0]?=some rest[0]:=ZZ hrl
      rw [h8,hr.1,ZaJ] at this
      obtain ⟨c1,h9,_⟩:=this
      exact OB _ c1 h9
     ·obtain ⟨y,hy⟩:∃ y,l[0]?=some y:=⟨l[0],ZZ (by omega)⟩
      exact OB 0 _ (h2 0 y hy).1
    obtain ⟨aqr,v0,hv0,hspot⟩:=hcell
    obtain ⟨b,off,spot⟩:=a
    simp only at hspot hv0
    subst hspot
    have hC:bV w b:=zh hv0
    have hget:∀ (i:Nat) x,(l.map fun y=>wr y.2)[i]?=some x→∃ y,l[i]?=some y∧x=wr y.2:=fun i x hx=>by
     rw [zd] at hx
     cases e:l[i]? with
     |none=>rw [e] at hx;cases hx
     |some y=>rw [e] at hx;exact ⟨y,rfl,(Option.some.inj hx).symm⟩
    have hlen:(l.map fun y=>wr y.2).length=len:=by simp [h1]
    have:=aA.list (ok:=fun b=>b<w.heap.size) (w:=w) n (l.map fun y=>wr y.2) b off cap (fun i j=>(((l[i]?).map (·.1)).getD []).getD j default) hC.lt hC (by rw [hlen];exact hl) hm
     (fun x hx=>by
      obtain ⟨i,hi⟩:=ZaR.1 hx
      obtain ⟨y,hy,rfl⟩:=hget i x hi
      obtain ⟨_,g1,g2,_⟩:=h2 i y hy
      rw [hw _ g1 g2,g2])
     (fun i x j p hi hj=>by
      obtain ⟨y,hy,rfl⟩:=hget i x hi
      obtain ⟨g0,g1,g2,g3,g4,g5⟩:=h2 i y hy
      rw [hw _ g1 g2] at hj
      have hjn:j<n:=by have:=(Z1.1 hj).1;omega
      obtain ⟨_,hc1,h6⟩:=World.cells?_some g0
      have h7:=h6 j hjn
      have hcj:y.1[j]?=some y.1[j]:=ZZ (by omega)
      have hd:(((l[i]?).map (·.1)).getD []).getD j default=y.1[j]:=by
       rw [hy];simp [Zaf,hcj]
      rw [hd]
      rw [hcj,Addr.add_lit,Addr.add_lit] at h7
      exact ⟨h7,g4 _ (List.mem_of_getElem? hcj)⟩)
     (fun i x j p hi hj=>by
      obtain ⟨y,hy,rfl⟩:=hget i x hi
      obtain ⟨g0,g1,g2,g3,g4,g5⟩:=h2 i y hy
      rw [hw _ g1 g2] at hj
      have hjn:j<n:=by have:=(Z1.1 hj).1;omega
      have hcj:y.1[j]?=some y.1[j]:=ZZ (by omega)
      have hd:(((l[i]?).map (·.1)).getD []).getD j default=y.1[j]:=by
       rw [hy];simp [Zaf,hcj]
      rw [hd]
      exact g5 j p _ hj hcj)
    rw [hlen] at this
    exact this⟩
inductive Hu (P:Program):Nat→List Field→List (List PV→Prop)→Nat→Prop
 |nil (o:Nat):Hu P o [] [] 0
 |cons {o n m:Nat} {f:Field} {fs:List Field} {S:List PV→Prop} {Ss:List (List PV→Prop)}:f.offset=o→uY P f.type n S→Hu P (o+n) fs Ss m→Hu P o (f::fs) (S::Ss) (n+m)
theorem Hu.read {o:Nat}{fs:List Field}{Ss:List (List PV→Prop)}(h:Hu P o fs Ss m){H:Type}{enc:TypeId×Value→H}{w:World}{fuel:Nat}{cs:List Value}{xs:List (DataW H×List MemPlace)}(hl:cs.length=o+m)
  (hx:∀ (i:Nat) (f:Field),fs[i]?=some f→∃ x,DataW.trod enc P w 0 (fun _=>true) true fuel f.type ((cs.drop f.offset).take (P.cellsOf f.type))=some x∧(x.1.weights P f.type).all (·≤reachBytes)=true):∃ ps,OA Ss ps∧ps.length=m∧BH w (cs.drop o) ps:=by
 induction h with
 |nil o=>exact ⟨[],rfl,rfl,by rw [List.drop_of_length_le (by omega)];exact (⟨rfl,fun c hc=>(by cases hc),fun j x v hx=>(by simp at hx)⟩:BH w [] [])⟩
 |@cons o n m f fs S Ss h1 h2 h3 ih =>
  obtain ⟨x,h4,h5⟩:=hx 0 f rfl
  rw [h2.1,h1] at h4
  obtain ⟨p,g1,g2,g3⟩:=h2.2 h4 h5
  obtain ⟨q,k1,k2,k3⟩:=ih (by omega) (fun i f hf=>hx (i+1) f hf)
  refine ⟨p++q,⟨p,q,rfl,g1,k1⟩,by simp [g2,k2],?_⟩
  have:cs.drop o=(cs.drop o).take n++cs.drop (o+n):=by rw [← List.drop_drop,List.take_append_drop]
  rw [this]
  exact g3.append k3
theorem uY.struct {fs:Array Field}{Ss:List (List PV→Prop)}(ht:P.underlying t=some (.struct fs))(hf:Hu P 0 fs.toList Ss n)(hc:P.cellsOf t=n):uY P t n (OA Ss):=⟨hc,fun {H enc w fuel cs x} h hz=>by
 obtain ⟨xs,m,_,rfl,hl,hx,hE⟩:=DataW.trod_struct ht h
 obtain ⟨ps,h1,h2,h3⟩:=hf.read (xs:=xs) (enc:=enc) (w:=w) (fuel:=m) (cs:=cs) (by omega) (fun i f hi=>by
  have hi':fs[i]?=some f:=by simpa using hi
  have:=hE i f hi'
  have hil:i<xs.length:=by rw [hx];exact (Array.getElem?_eq_some_iff.1 hi').1
  refine ⟨xs[i],by rw [this,ZZ hil],?_⟩
  rw [zw]
  intro y hy
  refine zw.1 hz y ?_
  simp only [DataW.weights,ht]
  exact DataW.weights_mem_each (j:=i) (t:=f.type) (d:=xs[i].1) (by simp [hi']) (by simp [zd,ZZ hil]) y hy)
 exact ⟨ps,h1,h2,by simpa using h3⟩⟩
theorem uY.Vg {f0 f1 f2 f3:Field}{n0 n1 n2 n3:Nat}{S0 S1 S2 S3:List PV→Prop}(ht:P.underlying t=some (.struct #[f0,f1,f2,f3]))(h0:uY P f0.type n0 S0)(h1:uY P f1.type n1 S1)(h2:uY P f2.type n2 S2)(h3:uY P f3.type n3 S3)(o0:f0.offset=0)(o1:f1.offset=0+n0)(o2:f2.offset=0+n0+n1)(o3:f3.offset=0+n0+n1+n2)(hc:P.cellsOf t=n0+(n1+(n2+(n3+0)))):uY P t (n0+(n1+(n2+(n3+0)))) (OA [S0,S1,S2,S3]) :=
 uY.struct ht (show Hu P 0 [f0,f1,f2,f3] [S0,S1,S2,S3] (n0+(n1+(n2+(n3+0)))) from .cons o0 h0 (.cons o1 h1 (.cons o2 h2 (.cons o3 h3 (.nil _))))) hc
theorem afA {H:Type}{enc:TypeId×Value→H}{w:World}{v:Value}{d:DataW H}{p:List MemPlace}(hr:uY P t 1 S)(hone:v.cells.toList=[v])(h:DataW.Trod enc P w 0 (fun _=>true) true t v d p)(hz:(d.weights P t).all (·≤reachBytes)=true) :
  ∃ q,S [q]∧aA (fun b=>b<w.heap.size) w q v:=by
 obtain ⟨fuel,hf⟩:=h
 obtain ⟨ps,h1,h2,h3,h4,h5⟩:=hr.2 hf hz
 match ps,h2 with
 |[q],_=>exact ⟨q,h1,h5 0 q v rfl (by rw [hone];rfl)⟩
theorem UR {H:Type}{enc:TypeId×Value→H}{w:World}{v:Value}{d:DataW H}{p:List MemPlace}{m:Reach}{base:Nat}(ht:P.underlying t=some (.slice e))(hr:uY P t 1 S)(hv:Value.okWide P w m base t v)(h:DataW.Trod enc P w 0 (fun _=>true) true t v d p)(hz:(d.weights P t).all (·≤reachBytes)=true) :
  ∃ q,S [q]∧aA (fun b=>b<w.heap.size) w q v:=by
 obtain ⟨a,l,c,rfl⟩:=okWide_slice ht hv
 exact afA hr rfl h hz
theorem IK {H:Type}{t0 t1 t2:TypeId}{d0 d1 d2:DataW H}{ts:List TypeId}{ds:List (DataW H)}(h:(DataW.weightsEach P (t0::t1::t2::ts) (d0::d1::d2::ds)).all (·≤reachBytes)=true):(d0.weights P t0).all (·≤reachBytes)=true∧(d1.weights P t1).all (·≤reachBytes)=true∧(d2.weights P t2).all (·≤reachBytes)=true:=by
 simp only [DataW.weightsEach,List.all_append,ZS] at h
 exact ⟨h.1,h.2.1,h.2.2.1⟩
end
end Go.Proofs.YthccglceomoboaaGreatDoor
namespace Go.Proofs.YthccglceomoboaaGreatDoor
open V
open Go.RowKit Go.ChangeShapes Go.WideShapes Go.ChangeAt
theorem afB {q:PV}(h:SInt .u8 [q]):∃ c:Nat,c<256∧q=.int .u8 (c:Int):=by
 obtain ⟨b,e⟩:=Wj h
 exact ⟨b.toNat,b.toNat_lt,e⟩
def STe:List PV→Prop:=OA [SInt .u8,SInt .u8,SInt .u8,afy]
theorem ste {ps:List PV}(h:STe ps):∃ x:TE,uU x∧PV.agg ps=pU x:=by
 obtain ⟨p,q,rfl,⟨n,h1,rfl⟩,p2,q2,rfl,⟨n2,h2,rfl⟩,p3,q3,rfl,⟨n3,h3,rfl⟩,p4,q4,rfl,h4,rfl⟩:=h
 obtain ⟨a,ha,e1⟩:=afB ⟨n,h1,rfl⟩
 obtain ⟨b,hb,e2⟩:=afB ⟨n2,h2,rfl⟩
 obtain ⟨c,hc,e3⟩:=afB ⟨n3,h3,rfl⟩
 obtain ⟨es,rfl,g4⟩:=h4
 obtain ⟨l,e4⟩:=apJ (q:=.list 8 es) ⟨es,rfl,g4⟩
 refine ⟨⟨a,b,c,l⟩,⟨ha,hb,hc⟩,?_⟩
 rw [e1,e2,e3,e4];rfl
def apL:List PV→Prop:=afz 4 STe .agg
theorem aq7 {q:PV}(h:apL [q]):∃ l:List TE,(l.length≤140737488351232∧∀ x∈l,uU x)∧q=.list 4 (l.map pU):=by
 obtain ⟨es,e1,hl,h3⟩:=h
 cases e1
 obtain ⟨l,hx,e⟩:=ajo (enc:=pU) (ok:=uU) (fun ps h=>ste h) (q:=.list 4 es) ⟨es,rfl,h3⟩
 refine ⟨l,⟨?_,hx⟩,e⟩
 have:es=l.map pU:=by injection e
 rw [this,za] at hl
 exact hl
theorem Tryz.aq8:lC Tryz.prog 119 4 STe:=lC.Vg Tryz.underlying119 Tryz.Zk Tryz.Zk Tryz.Zk Tryz.amC rfl rfl rfl rfl (by kernel_rfl)
theorem Tryz.apM:uY Tryz.prog 116 1 apL:=uY.list Tryz.underlying116 (by kernel_rfl) (.of Tryz.aq8) (Nat.le_of_ble_eq_true (by kernel_rfl)) (by decide) (fun _ _ _=>rfl)
end Go.Proofs.YthccglceomoboaaGreatDoor
