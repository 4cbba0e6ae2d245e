/-
  Part 11 of the texts that the statement stands on.
-/
import Derived.Test.YtioijcfcehhmdaaGreatDoorZ10
import Derived.Test.YtioijcfcehhmdaaGreatDoorRows
import Derived.Lib.LaidTab
import Derived.LaidByTextLater
import Derived.SizedLaws
set_option linter.all false
namespace Go.Proofs.YtioijcfcehhmdaaGreatDoor
open Go.RowKit V
theorem QX (w:World) (o:Obj):(w.alloc o).heap[w.heap.size]?=some o:=Array.getElem?_push_size
theorem QY (w:World) (o:Obj):(w.alloc o).heap.size=w.heap.size+1:=Array.size_push _
theorem ao8 (w:World) (o:Obj) {k:Nat} (h:k<w.heap.size):(w.alloc o).heap[k]?=w.heap[k]?:=Below.heap_alloc w o k h
theorem wJ {B:Nat} {w:World} (o:Obj) (h:B≤w.heap.size):Below B w (w.alloc o):=(Below.refl _ _).alloc h _
theorem aP {w:World} {b j:Nat} {arr:Array Value} {E:TypeId} {v:Value} (h:w.heap[b]?=some (.cells arr E (0,0))) (hj:arr[j]?=some v):w.cell? ⟨b,j,none⟩=some v:=by rw [cell_of_row _ _ _ _ _ (0,0) h];exact hj
theorem fE {w:World} {b:Nat} {o:Obj} (h:w.heap[b]?=some o):b<w.heap.size:=(Array.getElem?_eq_some_iff.1 h).1
theorem bG {w w':World} {b:Nat} {o:Obj} (h:w.heap[b]?=some o) (hB:Below w.heap.size w w'):w'.heap[b]?=some o:=(hB.block b (fE h)).trans h
theorem QZ {w:World} {b:Nat} {o:Obj} (p:Obj) (h:w.heap[b]?=some o):(w.alloc p).heap[b]?=some o:=(ao8 w p (fE h)).trans h
set_option maxRecDepth 100000 in
set_option maxHeartbeats 4000000 in
theorem Q5 {o:qK} (ho:okO o) (hrs:o.rs.length+2≤Rk) {JL sec:Int} (aqQ:0≤JL∧JL≤255) (aqR:0≤sec∧sec≤255) {w:World} {u0 u1 u2 u3:Value} (hO:aC (fun b=>b<w.heap.size) w (QS o) (.agg #[u0,u1,u2,u3])) (hG:uq w) :
  Calls Tryz.prog 6 #[.agg #[u0,u1,u2,u3],.int .u8 JL,.int .u8 sec] w (fun e w'=>e=.returned (.bool true)∧Below w.heap.size w w'):=by
 have cR:∀ W,Below w.heap.size w W→Calls Tryz.prog 22 #[.agg #[u0,u1,u2,u3]] W (fun e w'=>e=.returned (.bool (YT o))∧Below W.heap.size W w'):=fun W hB =>
  (sQ JU (vs:=[.agg #[u0,u1,u2,u3]]) (alO ho hrs) ⟨hO.up hB,trivial⟩ (hG.below hB) (fun r hr=>.inl (by rw [List.mem_singleton.1 hr]))).mono (by
   rintro e w' ⟨v,rfl,hB,hv⟩
   have:=hv.one.jm
   exact ⟨by rw [this],hB⟩)
 have cA:∀ W,Below w.heap.size w W→Calls Tryz.prog 11 #[] W (fun e w'=>e=.returned (.bool true)∧Below W.heap.size W w'):=fun W hB =>
  Xe (vs:=[]) JU ac5 trivial (hG.below hB)
 have hB0:Below w.heap.size w (w.alloc (.cells #[u0,u1,u2,u3] 59)):=(Below.refl _ _).alloc (Nat.le_refl _) _
 cases hr:YT o with
 |false =>
  rw [hr] at cR
  go_enter Tryz.func6,Tryz.ntmps6
  go_wp2_with fail
  refine (cR _ hB0).mono ?_
  rintro e w1 ⟨rfl,hB1⟩
  have U2:=hB0.trans (hB1.mono hB0.size)
  go_wp2_with fail
  refine (cA _ U2).mono ?_
  rintro e w2 ⟨rfl,hB2⟩
  go_wp2
  go_ret
  exact ⟨rfl,U2.trans (hB2.mono U2.size)⟩
 |true =>
  rw [hr] at cR
  have h:=ajG ho hr
  have cP:∀ W,Below w.heap.size w W→Calls Tryz.prog 23 #[.agg #[u0,u1,u2,u3]] W (fun e w'=>∃ a1 a2 a3 b1 b2 b3,e=.returned (.tuple #[.agg #[.int .i64 0,a1,a2,a3],.agg #[.int .i64 1,b1,b2,b3],.bool true])∧YJ w' (jI o) a1 a2 a3∧YJ w' (dI o) b1 b2 b3∧Below W.heap.size W w'):=fun W hB =>
   (sQ JU (vs:=[.agg #[u0,u1,u2,u3]]) (alR h) ⟨hO.up hB,trivial⟩ (hG.below hB) (fun r hr=>.inl (by
    simp only [List.mem_cons,List.not_mem_nil,or_false] at hr
    rcases hr with rfl|rfl|rfl<;>rfl))).mono (by
    rintro e w' ⟨v,rfl,hB,hv⟩
    obtain ⟨va,vb,vc,rfl,q1,q2,q3⟩:=hv.three
    obtain ⟨a1,a2,a3,rfl,pa⟩:=ada q1
    obtain ⟨b1,b2,b3,rfl,pb⟩:=ada q2
    have:=q3.jm
    exact ⟨a1,a2,a3,b1,b2,b3,by rw [this];rfl,pa,pb,hB⟩)
  have cB:∀ W a1 a2 a3 b1 b2 b3,Below w.heap.size w W→YJ W (jI o) a1 a2 a3→YJ W (dI o) b1 b2 b3→Calls Tryz.prog 24 #[.agg #[.int .i64 0,a1,a2,a3],.agg #[.int .i64 1,b1,b2,b3],.int .i64 3] W (fun e w'=>∃ u,e=.returned (.tuple #[yV QT,u,.int .i64 0])∧u.oneCell'=true∧Below W.heap.size W w'):=fun W a1 a2 a3 b1 b2 b3 hB pa pb =>
   (sQ JU (vs:=[.agg #[.int .i64 0,a1,a2,a3],.agg #[.int .i64 1,b1,b2,b3],.int .i64 3]) (alE (a:=jI o) (b:=dI o) (ep:=3) (Ns h (im:=(jI o).img) (V7 h)).1 (xG h).1) ⟨pa.mk',pb.mk',.int _ _,trivial⟩ (hG.below hB) (fun r hr=>.inl (by
    simp only [List.mem_cons,List.not_mem_nil,or_false] at hr
    rcases hr with rfl|rfl|rfl<;>rfl))).mono (by
    rintro e w' ⟨v,rfl,hB,hv⟩
    obtain ⟨va,vb,vc,rfl,q1,q2,q3⟩:=hv.three
    have e1:=MR q1
    have e3:=q3.bM
    rw [ajJ h] at e1
    rw [V8 h] at e3
    exact ⟨vb,by rw [e1,e3],q2.cell1,hB⟩)
  have cD:∀ W p b1 b2 b3,Below w.heap.size w W→YJ W (dI o) b1 b2 b3→Calls Tryz.prog 12 #[yV p,.agg #[.int .i64 1,b1,b2,b3],.int .i64 9,.int .i64 0] W (fun e w'=>∃ x1 n1 c1 x2 n2 c2,e=.returned (.tuple #[yV (qB p (dI o) 9 0),.agg #[.int .i64 (mX p (dI o) 9 0).base,.int .i64 (mX p (dI o) 9 0).num,.int .i64 (mX p (dI o) 9 0).time,.slice x1 n1 c1,.slice x2 n2 c2],.int .i64 (oI p (dI o) 9 0)])∧Below W.heap.size W w'):=fun W p b1 b2 b3 hB pb =>
   (sQ JU (vs:=[yV p,.agg #[.int .i64 1,b1,b2,b3],.int .i64 9,.int .i64 0]) (alC (p:=p) (a:=dI o) (n:=9) (t:=0) (xG h).1 (xG h).2.2 (xG h).2.1) ⟨ac9,pb.mk',.int _ _,.int _ _,trivial⟩ (hG.below hB) (fun r hr=>.inl (by
    simp only [List.mem_cons,List.not_mem_nil,or_false] at hr
    rcases hr with rfl|rfl|rfl<;>rfl))).mono (by
    rintro e w' ⟨v,rfl,hB,hv⟩
    obtain ⟨va,vb,vc,rfl,q1,q2,q3⟩:=hv.three
    have e1:=MR q1
    have e3:=q3.bM
    obtain ⟨x1,n1,c1,x2,n2,c2,e2⟩:=agt q2
    exact ⟨x1,n1,c1,x2,n2,c2,by rw [e1,e2,e3],hB⟩)
  have cF:∀ W p im a1 a2 a3 b1 b2 b3,dR im=dR o.im→Below w.heap.size w W→YJ W { jI o with img:=im } a1 a2 a3→YJ W (dI o) b1 b2 b3→Calls Tryz.prog 15 #[yV p,.agg #[.int .i64 0,a1,a2,a3],.agg #[.int .i64 1,b1,b2,b3]] W (fun e w'=>e=.returned (.tuple #[yV (rV p { jI o with img:=im } (dI o)),.int .i64 (qA p { jI o with img:=im } (dI o))])∧Below W.heap.size W w'):=fun W p im a1 a2 a3 b1 b2 b3 hz hB pa pb =>
   (sQ JU (vs:=[yV p,.agg #[.int .i64 0,a1,a2,a3],.agg #[.int .i64 1,b1,b2,b3]]) (alm (p:=p) (a:={ jI o with img:=im }) (b:=dI o) (Ns h hz).1 (xG h).1 (fun v hv=>Nat.le_trans ((Ns h hz).2.1 v hv) (by decide))) ⟨ac9,pa.mk',pb.mk',trivial⟩ (hG.below hB) (fun r hr=>.inl (by
    simp only [List.mem_cons,List.not_mem_nil,or_false] at hr
    rcases hr with rfl|rfl<;>rfl))).mono (by
    rintro e w' ⟨v,rfl,hB,hv⟩
    obtain ⟨va,vb,rfl,q1,q2⟩:=hv.two
    have e1:=MR q1
    have e2:=q2.bM
    exact ⟨by rw [e1,e2],hB⟩)
  have HH:=Lib.hid h
  go_enter Tryz.func6,Tryz.ntmps6
  go_wp2_with fail
  refine (cR _ hB0).mono ?_
  rintro e w1 ⟨rfl,hB1⟩
  have U2:=hB0.trans (hB1.mono hB0.size)
  have s0:=uK hB1 (j:=0) rfl
  have s1:=uK hB1 (j:=1) rfl
  have s2:=uK hB1 (j:=2) rfl
  have s3:=uK hB1 (j:=3) rfl
  go_wp2_with fail
  refine (cP _ U2).mono ?_
  rintro e w2 ⟨a1,a2,a3,b1,b2,b3,rfl,pa,pb,hB2⟩
  have hB2':=U2.trans (hB2.mono U2.size)
  obtain ⟨ax1,ac1,rfl,_⟩:=pa.l.jq
  obtain ⟨ax2,ac2,rfl,_⟩:=pa.d.jq
  obtain ⟨ax3,ac3,rfl,_⟩:=pa.i.jq
  obtain ⟨bx1,bc1,rfl,_⟩:=pb.l.jq
  obtain ⟨bx2,bc2,rfl,_⟩:=pb.d.jq
  obtain ⟨bx3,bc3,rfl,_⟩:=pb.i.jq
  generalize (List.map lg (jI o).lin).length=an1 at *
  generalize (List.map jQ (jI o).dirty).length=an2 at *
  generalize (List.map bF (jI o).img).length=an3 at *
  generalize (List.map lg (dI o).lin).length=bn1 at *
  generalize (List.map jQ (dI o).dirty).length=bn2 at *
  generalize ao9:(List.map bF (dI o).img).length=Aw at *
  rw [List.length_map] at ao9
  go_wp2_with fail
  have A7:=QX w2 (.cells #[.int .i64 0,.slice ax1 an1 ac1,.slice ax2 an2 ac2,.slice ax3 an3 ac3] 29)
  have A7:=QZ (.cells #[.int .i64 1,.slice bx1 bn1 bc1,.slice bx2 bn2 bc2,.slice bx3 Aw bc3] 29) A7
  have A8:=QX (w2.alloc (.cells #[.int .i64 0,.slice ax1 an1 ac1,.slice ax2 an2 ac2,.slice ax3 an3 ac3] 29)) (.cells #[.int .i64 1,.slice bx1 bn1 bc1,.slice bx2 bn2 bc2,.slice bx3 Aw bc3] 29)
  rw [QY] at A8
  have B3:=(wJ (.cells #[.int .i64 0,.slice ax1 an1 ac1,.slice ax2 an2 ac2,.slice ax3 an3 ac3] 29) (Nat.le_refl w2.heap.size)).alloc (by rw [QY];omega) (.cells #[.int .i64 1,.slice bx1 bn1 bc1,.slice bx2 bn2 bc2,.slice bx3 Aw bc3] 29)
  generalize hW3:(w2.alloc (.cells #[.int .i64 0,.slice ax1 an1 ac1,.slice ax2 an2 ac2,.slice ax3 an3 ac3] 29)).alloc (.cells #[.int .i64 1,.slice bx1 bn1 bc1,.slice bx2 bn2 bc2,.slice bx3 Aw bc3] 29)=W3 at *
  have pa3:=pa.below B3
  have pb3:=pb.below B3
  have G3:=hB2'.trans (B3.mono hB2'.size)
  have D3:=B3
  refine (cB _ _ _ _ _ _ _ G3 pa3 pb3).mono ?_
  rintro e w3 ⟨u,rfl,hu,hB3⟩
  have A7:=bG A7 hB3
  have A8:=bG A8 hB3
  have pa3:=pa3.below hB3
  have pb3:=pb3.below hB3
  have G3:=G3.trans (hB3.mono G3.size)
  have D3:=D3.trans (hB3.mono D3.size)
  have l7:w2.heap.size<w3.heap.size:=fE A7
  have l8:w2.heap.size+1<w3.heap.size:=fE A8
  have n3:=l8
  have d0:=aP A8 (j:=0) rfl
  have d1:=aP A8 (j:=1) rfl
  have d2:=aP A8 (j:=2) rfl
  have d3:=aP A8 (j:=3) rfl
  unfold yV QT
  go_wp2_with fail
  have wK:=QX w3 (.cells #[.int .i64 3,.int .i64 1,.int .i64 0,.int .i64 0,.int .i64 3,.int .i64 5,.bool false,.bool false] 23)
  have B4:=wJ (.cells #[.int .i64 3,.int .i64 1,.int .i64 0,.int .i64 0,.int .i64 3,.int .i64 5,.bool false,.bool false] 23) (Nat.le_refl w3.heap.size)
  have A7:=bG A7 B4
  have A8:=bG A8 B4
  have pa4:=pa3.below B4
  have pb4:=pb3.below B4
  have G4:=G3.trans (B4.mono G3.size)
  have D4:=D3.trans (B4.mono D3.size)
  generalize hW4:w3.alloc (.cells #[.int .i64 3,.int .i64 1,.int .i64 0,.int .i64 0,.int .i64 3,.int .i64 5,.bool false,.bool false] 23)=W4 at *
  refine (cD _ QT _ _ _ G4 pb4).mono ?_
  rintro e w4 ⟨yx1,yn1,yc1,yx2,yn2,yc2,rfl,hB4⟩
  rw [agJ h,UW h,agK h]
  generalize (mX QT (dI o) 9 0).base=cb
  generalize (mX QT (dI o) 9 0).time=ct
  have A7:=bG A7 hB4
  have A8:=bG A8 hB4
  have wK:=bG wK hB4
  have pa4:=pa4.below hB4
  have pb4:=pb4.below hB4
  have G4:=G4.trans (hB4.mono G4.size)
  have D4:=D4.trans (hB4.mono D4.size)
  have l7:w2.heap.size<w4.heap.size:=fE A7
  have l8:w2.heap.size+1<w4.heap.size:=fE A8
  have l10:w3.heap.size<w4.heap.size:=fE wK
  have n4:=l10
  have d0:=aP A8 (j:=0) rfl
  have d1:=aP A8 (j:=1) rfl
  have d2:=aP A8 (j:=2) rfl
  have d3:=aP A8 (j:=3) rfl
  have aqS:((Aw:Int)==0)=false:=by
   have:=(ahj h).1
   simp;omega
  unfold yV Nr
  go_wp2_with fail
  have pU:=QX w4 (.cells #[.int .i64 3,.int .i64 1,.int .i64 0,.int .i64 1,.int .i64 3,.int .i64 9,.bool false,.bool false] 23)
  have pU:=QZ (.cells #[.int .i64 cb,.int .i64 9,.int .i64 ct,.slice yx1 yn1 yc1,.slice yx2 yn2 yc2] 36) pU
  have DC:=QX (w4.alloc (.cells #[.int .i64 3,.int .i64 1,.int .i64 0,.int .i64 1,.int .i64 3,.int .i64 9,.bool false,.bool false] 23)) (.cells #[.int .i64 cb,.int .i64 9,.int .i64 ct,.slice yx1 yn1 yc1,.slice yx2 yn2 yc2] 36)
  rw [QY] at DC
  have B5:=(wJ (.cells #[.int .i64 3,.int .i64 1,.int .i64 0,.int .i64 1,.int .i64 3,.int .i64 9,.bool false,.bool false] 23) (Nat.le_refl w4.heap.size)).alloc (by rw [QY];omega) (.cells #[.int .i64 cb,.int .i64 9,.int .i64 ct,.slice yx1 yn1 yc1,.slice yx2 yn2 yc2] 36)
  have A7:=bG A7 B5
  have A8:=bG A8 B5
  have wK:=bG wK B5
  have pa5:=pa4.below B5
  have pb5:=pb4.below B5
  have G5:=G4.trans (B5.mono G4.size)
  have D5:=D4.trans (B5.mono D4.size)
  generalize hW5:(w4.alloc (.cells #[.int .i64 3,.int .i64 1,.int .i64 0,.int .i64 1,.int .i64 3,.int .i64 9,.bool false,.bool false] 23)).alloc (.cells #[.int .i64 cb,.int .i64 9,.int .i64 ct,.slice yx1 yn1 yc1,.slice yx2 yn2 yc2] 36)=W5 at *
  refine (cD _ Nr _ _ _ G5 pb5).mono ?_
  rintro e w5 ⟨zx1,zn1,zc1,zx2,zn2,zc2,rfl,VR⟩
  rw [adL h]
  generalize (mX Nr (dI o) 9 0).base=eb
  generalize (mX Nr (dI o) 9 0).time=et
  generalize (mX Nr (dI o) 9 0).num=en
  generalize qB Nr (dI o) 9 0=z1
  have A7:=bG A7 VR
  have A8:=bG A8 VR
  have wK:=bG wK VR
  have pU:=bG pU VR
  have DC:=bG DC VR
  have pa5:=pa5.below VR
  have pb5:=pb5.below VR
  have G5:=G5.trans (VR.mono G5.size)
  have D5:=D5.trans (VR.mono D5.size)
  have l7:w2.heap.size<w5.heap.size:=fE A7
  have l8:w2.heap.size+1<w5.heap.size:=fE A8
  have l10:w3.heap.size<w5.heap.size:=fE wK
  have l13:w4.heap.size<w5.heap.size:=fE pU
  have l14:w4.heap.size+1<w5.heap.size:=fE DC
  have d0:=aP A8 (j:=0) rfl
  have d1:=aP A8 (j:=1) rfl
  have d2:=aP A8 (j:=2) rfl
  have d3:=aP A8 (j:=3) rfl
  have a0:=aP A7 (j:=0) rfl
  have a1:=aP A7 (j:=1) rfl
  have a2:=aP A7 (j:=2) rfl
  have a3:=aP A7 (j:=3) rfl
  have p0:=aP wK (j:=0) rfl
  have p1:=aP wK (j:=1) rfl
  have p2:=aP wK (j:=2) rfl
  have p3:=aP wK (j:=3) rfl
  have p4:=aP wK (j:=4) rfl
  have p5:=aP wK (j:=5) rfl
  have p6:=aP wK (j:=6) rfl
  have p7:=aP wK (j:=7) rfl
  unfold yV
  go_wp2_with fail
  have B6:=(wJ (.cells #[.int .i64 z1.kind,.int .i64 z1.pF,.int .i64 z1.to,.int .i64 z1.step,.int .i64 z1.ep,.int .i64 z1.oH,.bool z1.done,.bool z1.failed] 23) (Nat.le_refl w5.heap.size)).alloc (by rw [QY];omega) (.cells #[.int .i64 eb,.int .i64 en,.int .i64 et,.slice zx1 zn1 zc1,.slice zx2 zn2 zc2] 36)
  have A7:=bG A7 B6
  have A8:=bG A8 B6
  have wK:=bG wK B6
  have pU:=bG pU B6
  have DC:=bG DC B6
  have pa6:=pa5.below B6
  have pb6:=pb5.below B6
  have G6:=G5.trans (B6.mono G5.size)
  have D6:=D5.trans (B6.mono D5.size)
  generalize hW6:(w5.alloc (.cells #[.int .i64 z1.kind,.int .i64 z1.pF,.int .i64 z1.to,.int .i64 z1.step,.int .i64 z1.ep,.int .i64 z1.oH,.bool z1.done,.bool z1.failed] 23)).alloc (.cells #[.int .i64 eb,.int .i64 en,.int .i64 et,.slice zx1 zn1 zc1,.slice zx2 zn2 zc2] 36)=W6 at *
  refine (cF _ QT (jI o).img _ _ _ _ _ _ (V7 h) G6 pa6 pb6).mono ?_
  rintro e w6 ⟨rfl,hB6⟩
  rw [show ({ jI o with img:=(jI o).img }:Pt)=jI o from rfl,adN h]
  generalize rV QT (jI o) (dI o)=z2
  have A7:=bG A7 hB6
  have A8:=bG A8 hB6
  have wK:=bG wK hB6
  have pU:=bG pU hB6
  have DC:=bG DC hB6
  have pa6:=pa6.below hB6
  have pb6:=pb6.below hB6
  have G6:=G6.trans (hB6.mono G6.size)
  have D6:=D6.trans (hB6.mono D6.size)
  have l7:w2.heap.size<w6.heap.size:=fE A7
  have l8:w2.heap.size+1<w6.heap.size:=fE A8
  have l10:w3.heap.size<w6.heap.size:=fE wK
  have l13:w4.heap.size<w6.heap.size:=fE pU
  have l14:w4.heap.size+1<w6.heap.size:=fE DC
  have d0:=aP A8 (j:=0) rfl
  have d1:=aP A8 (j:=1) rfl
  have d2:=aP A8 (j:=2) rfl
  have d3:=aP A8 (j:=3) rfl
  unfold yV
  go_wp2_with fail
  have B7:=wJ (.cells #[.int .i64 z2.kind,.int .i64 z2.pF,.int .i64 z2.to,.int .i64 z2.step,.int .i64 z2.ep,.int .i64 z2.oH,.bool z2.done,.bool z2.failed] 23) (Nat.le_refl w6.heap.size)
  have A7:=bG A7 B7
  have A8:=bG A8 B7
  have wK:=bG wK B7
  have pU:=bG pU B7
  have DC:=bG DC B7
  have pa7:=pa6.below B7
  have pb7:=pb6.below B7
  have G7:=G6.trans (B7.mono G6.size)
  have D7:=D6.trans (B7.mono D6.size)
  generalize hW7:w6.alloc (.cells #[.int .i64 z2.kind,.int .i64 z2.pF,.int .i64 z2.to,.int .i64 z2.step,.int .i64 z2.ep,.int .i64 z2.oH,.bool z2.done,.bool z2.failed] 23)=W7 at *
  have m7:w2.heap.size<W7.heap.size:=fE A7
  have m8:w2.heap.size+1<W7.heap.size:=fE A8
  have m14:w4.heap.size+1<W7.heap.size:=fE DC
  obtain ⟨aa,an,ac,e,hI⟩:=adn pb7.i
  cases e
  have hfC:=xG h
  have hlen:=hI.len
  refine (YO hI (by have:=hfC.2.2;omega) (fun v hv=>by have:=hfC.2.1 v hv;omega)).mono ?_
  rintro e w7 ⟨v0,rfl,hown,hB7⟩
  have A7:=bG A7 hB7
  have A8:=bG A8 hB7
  have wK:=bG wK hB7
  have pU:=bG pU hB7
  have DC:=bG DC hB7
  have pa7:=pa7.below hB7
  have pb7:=pb7.below hB7
  have G7':=G7.trans (hB7.mono G7.size)
  have D7':=D7.trans (hB7.mono D7.size)
  have hne:=ahj h
  -- the volume
  obtain ⟨k,hk⟩:∃ k:Nat,JL % (Aw:Int)=(k:Int):=⟨(JL % (Aw:Int)).toNat,by have:=Int.emod_nonneg JL (b:=(Aw:Int)) (by omega);omega⟩
  have hkn:k<Aw:=by have:=Int.emod_lt_of_pos JL (b:=(Aw:Int)) (by omega);omega
  have hki:k<(dI o).img.length:=by omega
  have hx:(dI o).img[k]?=some (dI o).img[k]:=List.getElem?_eq_getElem hki
  obtain ⟨g,cap,cc,okk,hv0,hBg,hg,hcc,⟨u1,rfl,hub,hu,_⟩,ajp,hput⟩:=hown.at hx
  subst hv0
  have hxp:0<(dI o).img[k].length:=hne.2 _ (List.getElem_mem hki)
  generalize hX:(dI o).img[k]=X at *
  obtain ⟨gi,yX,rfl⟩:∃ gi yX,u1=.slice (some ⟨gi,0,none⟩) X.length yX:=by
   obtain ⟨xs,hrow,_⟩:=hu
   rcases hrow.2 with ⟨_,h0⟩|⟨gi,yX,cur',hvu,_⟩
   ·omega
   ·exact ⟨gi,yX,hvu⟩
  have hgi:=ajp gi (hub gi rfl)
  have hcell:w7.cell? ⟨g,k,none⟩=some (.slice (some ⟨gi,0,none⟩) X.length yX):=by have:=hcc 0 Nat.zero_lt_one;simpa [jR,iE] using this
  have amH:=DC
  have f7:w7.frozen? ⟨w2.heap.size,3,none⟩=false:=by simp only [World.frozen?,A7,decide_eq_false (Nat.not_lt_zero 3),Bool.and_false]
  have l7:w2.heap.size<w7.heap.size:=fE A7
  have l8:w2.heap.size+1<w7.heap.size:=fE A8
  have l10:w3.heap.size<w7.heap.size:=fE wK
  have l13:w4.heap.size<w7.heap.size:=fE pU
  have l14:w4.heap.size+1<w7.heap.size:=fE DC
  have a3:=aP A7 (j:=3) rfl
  rw [hlen]
  have D8:Below w2.heap.size w2 (w7.setCell ⟨w2.heap.size,3,none⟩ (.slice (some ⟨g,0,none⟩) Aw cap)):=D7'.grown (amA _ _ _ _) D7'.size (fun b hb=>by cases hb;exact Nat.le_refl _)
  have G8:=hB2'.trans (D8.mono hB2'.size)
  have A7:(w7.setCell ⟨w2.heap.size,3,none⟩ (.slice (some ⟨g,0,none⟩) Aw cap)).heap[w2.heap.size]?=some (.cells #[.int .i64 0,.slice ax1 an1 ac1,.slice ax2 an2 ac2,(.slice (some ⟨g,0,none⟩) Aw cap)] 29):=amy w7 A7
  have A8:=Nz (g:=w2.heap.size) (j:=3) (v:=(.slice (some ⟨g,0,none⟩) Aw cap)) A8 (by omega)
  have wK:=Nz (g:=w2.heap.size) (j:=3) (v:=(.slice (some ⟨g,0,none⟩) Aw cap)) wK (by omega)
  have pU:=Nz (g:=w2.heap.size) (j:=3) (v:=(.slice (some ⟨g,0,none⟩) Aw cap)) pU (by omega)
  have DC:=Nz (g:=w2.heap.size) (j:=3) (v:=(.slice (some ⟨g,0,none⟩) Aw cap)) DC (by omega)
  have hgk:(w7.setCell ⟨w2.heap.size,3,none⟩ (.slice (some ⟨g,0,none⟩) Aw cap)).cell? ⟨g,k,none⟩=some (.slice (some ⟨gi,0,none⟩) X.length yX):=(World.cell?_of_block (Below.heap_setCell _ _ _ _ (show g≠w2.heap.size by omega))).trans hcell
  obtain ⟨j,hj⟩:∃ j:Nat,sec % (X.length:Int)=(j:Int):=⟨(sec % (X.length:Int)).toNat,by have:=Int.emod_nonneg sec (b:=(X.length:Int)) (by omega);omega⟩
  have hjn:j<X.length:=by have:=Int.emod_lt_of_pos sec (b:=(X.length:Int)) (by omega);omega
  have hP8:aC (fun b=>b<(w7.setCell ⟨w2.heap.size,3,none⟩ (.slice (some ⟨g,0,none⟩) Aw cap)).heap.size) (w7.setCell ⟨w2.heap.size,3,none⟩ (.slice (some ⟨g,0,none⟩) Aw cap)) (.list 1 ((dI o).img.map bF)) (.slice (some ⟨g,0,none⟩) Aw cap):=by
   obtain ⟨a2,n2,c2,e,Iu⟩:=hown.img
   rw [hlen] at e
   cases e
   refine aC.frame (ok:=fun b=>W7.heap.size≤b∧b<w7.heap.size) (fun b hb _=>⟨by rw [He];exact hb.2,Below.heap_setCell _ _ _ _ (show b≠w2.heap.size by omega)⟩) (Nb (ok:=(W7.heap.size≤·)) (fun b hb hl=>⟨hb,hl⟩) (fun e=>by rw [e] at hki;exact absurd hki (Nat.not_lt_zero _)) (fun x hx e=>by have:=hne.2 x hx;rw [e] at this;exact absurd this (Nat.lt_irrefl _)) Iu)
  have l7:w2.heap.size<(w7.setCell ⟨w2.heap.size,3,none⟩ (.slice (some ⟨g,0,none⟩) Aw cap)).heap.size:=fE A7
  have l8:w2.heap.size+1<(w7.setCell ⟨w2.heap.size,3,none⟩ (.slice (some ⟨g,0,none⟩) Aw cap)).heap.size:=fE A8
  have l10:w3.heap.size<(w7.setCell ⟨w2.heap.size,3,none⟩ (.slice (some ⟨g,0,none⟩) Aw cap)).heap.size:=fE wK
  have l13:w4.heap.size<(w7.setCell ⟨w2.heap.size,3,none⟩ (.slice (some ⟨g,0,none⟩) Aw cap)).heap.size:=fE pU
  have l14:w4.heap.size+1<(w7.setCell ⟨w2.heap.size,3,none⟩ (.slice (some ⟨g,0,none⟩) Aw cap)).heap.size:=fE DC
  have a0:=aP A7 (j:=0) rfl
  have a1:=aP A7 (j:=1) rfl
  have a2:=aP A7 (j:=2) rfl
  have a3:=aP A7 (j:=3) rfl
  have d0:=aP A8 (j:=0) rfl
  have d1:=aP A8 (j:=1) rfl
  have d2:=aP A8 (j:=2) rfl
  have d3:=aP A8 (j:=3) rfl
  have q0:=aP pU (j:=0) rfl
  have q1:=aP pU (j:=1) rfl
  have q2:=aP pU (j:=2) rfl
  have q3:=aP pU (j:=3) rfl
  have q4:=aP pU (j:=4) rfl
  have q5:=aP pU (j:=5) rfl
  have q6:=aP pU (j:=6) rfl
  have q7:=aP pU (j:=7) rfl
  have pa8:=pa.below D8
  have pb8:=pb.below D8
  go_wp2_with fail
  refine (cF _ Nr (dI o).img _ _ _ _ _ _ (GY h) G8 ⟨pa8.l,pa8.d,hP8⟩ pb8).mono ?_
  rintro e w8 ⟨rfl,hB8⟩
  rw [adO h (GY h),if_pos rfl]
  generalize rV Nr { jI o with img:=(dI o).img } (dI o)=z3
  have A7:=bG A7 hB8
  have A8:=bG A8 hB8
  have wK:=bG wK hB8
  have pU:=bG pU hB8
  have DC:=bG DC hB8
  have D8':=D8.trans (hB8.mono D8.size)
  have amI:=hown.far (w':=w8) (fun b h1 h2=>(hB8.block b (by rw [He];exact h2)).trans (Below.heap_setCell _ _ _ _ (show b≠w2.heap.size by omega)))
  have hgk:=(hB8.cell (p:=⟨g,k,none⟩) (by rw [He];exact hg)).trans hgk
  have aqV:gi<w8.heap.size:=by have:=hB8.size;rw [He] at this;omega
  have hg8:g<w8.heap.size:=by have:=hB8.size;rw [He] at this;omega
  obtain ⟨g',cap',cc8,aqW,hv8,_,_,ape,⟨u8,rfl,amJ,hu8,_⟩,ap0,amK⟩:=amI.at hx
  cases hv8
  have hc8:w8.cell? ⟨g,k,none⟩=some u8:=by have:=ape 0 Nat.zero_lt_one;simpa [jR,iE] using this
  rw [hgk] at hc8
  cases hc8
  have hby:∀ b:UInt8,(Value.int .u8 (((b.toNat:Int)+1) % 256))=.int .u8 ((b+1).toNat:Int):=fun b=>by
   rw [UInt8.toNat_add]
   congr 1
  obtain ⟨o1,hb8,hf8⟩:=Own.set1 hu8 (k:=j) (s:=X[j]) (List.getElem?_eq_getElem hjn) (hby X[j][0])
  have aqZ:w2.heap.size+1<gi:=by omega
  have n4':=n4
  have aq0:w4.heap.size+1<gi:=by
   have:=fE amH
   omega
  have l7:w2.heap.size<w8.heap.size:=fE A7
  have l8:w2.heap.size+1<w8.heap.size:=fE A8
  have l10:w3.heap.size<w8.heap.size:=fE wK
  have l13:w4.heap.size<w8.heap.size:=fE pU
  have l14:w4.heap.size+1<w8.heap.size:=fE DC
  have a0:=aP A7 (j:=0) rfl
  have a1:=aP A7 (j:=1) rfl
  have a2:=aP A7 (j:=2) rfl
  have a3:=aP A7 (j:=3) rfl
  have d0:=aP A8 (j:=0) rfl
  have d1:=aP A8 (j:=1) rfl
  have d2:=aP A8 (j:=2) rfl
  have d3:=aP A8 (j:=3) rfl
  have q0:=aP pU (j:=0) rfl
  have q1:=aP pU (j:=1) rfl
  have q2:=aP pU (j:=2) rfl
  have q3:=aP pU (j:=3) rfl
  have q4:=aP pU (j:=4) rfl
  have q5:=aP pU (j:=5) rfl
  have q6:=aP pU (j:=6) rfl
  have q7:=aP pU (j:=7) rfl
  have OD:=amK (w8.setCell ⟨gi,j * 8,none⟩ (.int .u8 (((X[j][0]).toNat+1:Int) % 256))) (X.set j (Aq X[j])) (fun b hb hne=>Below.heap_setCell _ _ _ _ (fun e=>hne (by rw [e];exact amJ gi rfl))) rfl rfl rfl (by rw [He];exact Nat.le_refl _) ⟨_,rfl,amJ,o1,fun e=>by
   have:=congrArg List.length e
   rw [List.length_set] at this
   exact absurd hxp (by rw [this];exact Nat.lt_irrefl _)⟩
  have hinc:(dI o).img.set k (X.set j (Aq X[j]))=BU (dI o).img k j:=by
   unfold BU
   rw [List.getD_eq_getElem?_getD,List.getElem?_eq_getElem hki,hX]
   show _=(dI o).img.set k (X.set j (Aq (X.getD j KN)))
   rw [List.getD_eq_getElem?_getD,List.getElem?_eq_getElem hjn];rfl
  rw [hinc] at OD
  obtain ⟨i1,i2⟩:=V9 (im:=(dI o).img) (v:=k) (k:=j) hki (by rw [List.getD_eq_getElem?_getD,List.getElem?_eq_getElem hki,hX];exact hjn)
  have DB:Below w2.heap.size w2 (w8.setCell ⟨gi,j * 8,none⟩ (.int .u8 (((X[j][0]).toNat+1:Int) % 256))):=D8'.grown (amA _ _ _ _) D8'.size (fun b hb=>by cases hb;omega)
  have A7:=Nz (g:=gi) (j:=j * 8) (v:=(.int .u8 (((X[j][0]).toNat+1:Int) % 256))) A7 (by omega)
  have A8:=Nz (g:=gi) (j:=j * 8) (v:=(.int .u8 (((X[j][0]).toNat+1:Int) % 256))) A8 (by omega)
  have wK:=Nz (g:=gi) (j:=j * 8) (v:=(.int .u8 (((X[j][0]).toNat+1:Int) % 256))) wK (by omega)
  have pU:=Nz (g:=gi) (j:=j * 8) (v:=(.int .u8 (((X[j][0]).toNat+1:Int) % 256))) pU (by omega)
  have DC:=Nz (g:=gi) (j:=j * 8) (v:=(.int .u8 (((X[j][0]).toNat+1:Int) % 256))) DC (by omega)
  have l7b:w2.heap.size<(w8.setCell ⟨gi,j * 8,none⟩ (.int .u8 (((X[j][0]).toNat+1:Int) % 256))).heap.size:=fE A7
  have l8b:w2.heap.size+1<(w8.setCell ⟨gi,j * 8,none⟩ (.int .u8 (((X[j][0]).toNat+1:Int) % 256))).heap.size:=fE A8
  have aq1:w3.heap.size<(w8.setCell ⟨gi,j * 8,none⟩ (.int .u8 (((X[j][0]).toNat+1:Int) % 256))).heap.size:=fE wK
  have aq2:w4.heap.size<(w8.setCell ⟨gi,j * 8,none⟩ (.int .u8 (((X[j][0]).toNat+1:Int) % 256))).heap.size:=fE pU
  have aq3:w4.heap.size+1<(w8.setCell ⟨gi,j * 8,none⟩ (.int .u8 (((X[j][0]).toNat+1:Int) % 256))).heap.size:=fE DC
  have ab0:=aP A7 (j:=0) rfl
  have ab1:=aP A7 (j:=1) rfl
  have ab2:=aP A7 (j:=2) rfl
  have ab3:=aP A7 (j:=3) rfl
  have db0:=aP A8 (j:=0) rfl
  have db1:=aP A8 (j:=1) rfl
  have db2:=aP A8 (j:=2) rfl
  have db3:=aP A8 (j:=3) rfl
  have qb0:=aP pU (j:=0) rfl
  have qb1:=aP pU (j:=1) rfl
  have qb2:=aP pU (j:=2) rfl
  have qb3:=aP pU (j:=3) rfl
  have qb4:=aP pU (j:=4) rfl
  have qb5:=aP pU (j:=5) rfl
  have qb6:=aP pU (j:=6) rfl
  have qb7:=aP pU (j:=7) rfl
  have ajL:(BU (dI o).img k j).length=Aw:=by
   unfold BU
   rw [List.length_set];exact hlen
  have hP9:aC (fun b=>b<(w8.setCell ⟨gi,j * 8,none⟩ (.int .u8 (((X[j][0]).toNat+1:Int) % 256))).heap.size) (w8.setCell ⟨gi,j * 8,none⟩ (.int .u8 (((X[j][0]).toNat+1:Int) % 256))) (.list 1 ((BU (dI o).img k j).map bF)) (.slice (some ⟨g,0,none⟩) Aw cap):=by
   obtain ⟨a2,n2,c2,e,Iu⟩:=OD.img
   rw [hlen] at e
   cases e
   refine Nb (ok:=(W7.heap.size≤·)) (fun b hb hl=>hl) (fun e=>by rw [e] at ajL;simp at ajL;omega) (fun x hx e=>?_) Iu
   subst e
   have hz:=V9 (im:=(dI o).img) (v:=k) (k:=j) hki (by rw [List.getD_eq_getElem?_getD,List.getElem?_eq_getElem hki,hX];exact hjn)
   obtain ⟨_,g2⟩:=xB (a:=BU (dI o).img k j) (b:=(dI o).img) hz.2
   obtain ⟨i,hi,e⟩:=List.mem_iff_getElem.1 hx
   have hi2:i<(dI o).img.length:=by rw [hlen];rw [ajL] at hi;exact hi
   have:=g2 i hi hi2
   rw [e] at this
   have h3:=hne.2 _ (List.getElem_mem hi2)
   simp at this
   omega
  unfold yV
  go_wp2_with fail
  have W9:=wJ (.cells #[.int .i64 z3.kind,.int .i64 z3.pF,.int .i64 z3.to,.int .i64 z3.step,.int .i64 z3.ep,.int .i64 z3.oH,.bool z3.done,.bool z3.failed] 23) (Nat.le_refl w8.heap.size)
  have e73:=W9.cell (World.block_lt_of_cell? _ _ a3)
  have egk:=W9.cell (World.block_lt_of_cell? _ _ hgk)
  have egb:=W9.cell (World.block_lt_of_cell? _ _ hb8)
  rw [a3] at e73
  rw [hgk] at egk
  rw [hb8] at egb
  have k1:=BM e73
  have k2:=BM egk
  have k3:=BM egb
  refine Iz (fun w'=>∃ x:Later (w8.alloc (.cells #[.int .i64 z3.kind,.int .i64 z3.pF,.int .i64 z3.to,.int .i64 z3.step,.int .i64 z3.ep,.int .i64 z3.oH,.bool z3.done,.bool z3.failed] 23)),w'=x.w) [0,1,2,3,4,5,6,7,8,9,10,11] 12 Tryz.mixed (by kernel_rfl) (Eb.drew _) ?_
  simp only [pick,List.filterMap_cons,List.filterMap_nil,List.getElem?_toArray,List.getElem?_cons_succ,List.getElem?_cons_zero]
  change wpQuiet _ _ _ _ (_ :: _ :: _ :: _ :: _ :: _ :: _ :: _ :: _ :: _ :: _ :: _ :: []) _
  repeat (go_big_quiet_step (fail))
  refine wpQuiet_nil ?_
  go_wp2_with fail
  have B10:=(wJ (.cells #[.int .i64 z3.kind,.int .i64 z3.pF,.int .i64 z3.to,.int .i64 z3.step,.int .i64 z3.ep,.int .i64 z3.oH,.bool z3.done,.bool z3.failed] 23) (Nat.le_refl (w8.setCell ⟨gi,j * 8,none⟩ (.int .u8 (((X[j][0]).toNat+1:Int) % 256))).heap.size)).drew
  have D10:=DB.trans (B10.mono DB.size)
  have G10:=hB2'.trans (D10.mono hB2'.size)
  have amL:=pa.below D10
  have apj:=pb.below D10
  have apk:=hP9.up B10
  refine (cF _ Nr (BU (dI o).img k j) _ _ _ _ _ _ (i2.trans (GY h)) G10 ⟨amL.l,amL.d,apk⟩ apj).mono ?_
  rintro e w9 ⟨rfl,hB9⟩
  rw [adO h (i2.trans (GY h)),if_neg i1]
  generalize rV Nr { jI o with img:=BU (dI o).img k j } (dI o)=z4
  have G9:=G10.trans (hB9.mono G10.size)
  unfold yV
  go_wp2_with fail
  have B11:=wJ (.cells #[.int .i64 z4.kind,.int .i64 z4.pF,.int .i64 z4.to,.int .i64 z4.step,.int .i64 z4.ep,.int .i64 z4.oH,.bool z4.done,.bool z4.failed] 23) (Nat.le_refl w9.heap.size)
  have G11:=G9.trans (B11.mono G9.size)
  refine (cA _ G11).mono ?_
  rintro e w10 ⟨rfl,apm⟩
  go_wp2
  go_ret
  exact ⟨rfl,G11.trans (apm.mono G11.size)⟩
end Go.Proofs.YtioijcfcehhmdaaGreatDoor

namespace Go.Proofs.YtioijcfcehhmdaaGreatDoor
open Go.RowKit
theorem Y0:(Rows.laid_math_bits_deBruijn64tab:DataW Unit)=Lib.tabData .u8 (Lib.deBruijn64tab.map Int.ofNat):=by kernel_rfl
theorem amM:Tryz.prog.globalNamed "math/bits.deBruijn64tab"=some 0:=by kernel_rfl
theorem Hl {w:World} {l:List (String × DataW Unit)} (hl:l=[("math/bits.deBruijn64tab",Rows.laid_math_bits_deBruijn64tab)]) (h:laidMetH Tryz.prog l w):uq w:=by
 subst hl
 rw [MakeChecks.laidMetH_plain _ _ _ (by kernel_rfl),Y0] at h
 have ht:Lib.TabIs Tryz.prog w "math/bits.deBruijn64tab" .u8 (Lib.deBruijn64tab.map Int.ofNat) :=
  Lib.tabIs_of_head (t:=204) (e:=5) (n:=64) amM (by kernel_rfl) (by kernel_rfl) (by kernel_rfl) (by kernel_rfl) (by kernel_rfl) h
 have hc:∀ i,i<64→w.cell? ⟨0,i,none⟩=some (.int .u8 ((Lib.deBruijn64tab.map Int.ofNat).getD i 0)):=fun i hi=>ht.cell amM i (by simpa [Lib.deBruijn64tab] using hi)
 have hC:dA w 0:=EM (hc 0 (by decide))
 intro p hp
 obtain rfl:p=_:=List.mem_singleton.1 hp
 refine .eF _ 0 _ 0 (fun i=>.int .u8 ((Lib.deBruijn64tab.map Int.ofNat).getD i 0)) (if_pos hC.lt) hC (fun k x hk=>?_) (fun k x hk=>?_)
 ·have hk':=(List.getElem?_eq_some_iff.1 hk).1
  rw [Nat.zero_add]
  exact ⟨hc k (by simpa [Lib.deBruijn64tab] using hk'),rfl⟩
 ·simp only [List.getElem?_map] at hk
  cases e:Lib.deBruijn64tab[k]? with
  |none=>rw [e] at hk;cases hk
  |some n =>
   rw [e] at hk;cases hk
   have:(Lib.deBruijn64tab.map Int.ofNat).getD k 0=(n:Int):=by simp [List.getD_eq_getElem?_getD,e]
   rw [this]
   exact .int _ _
end Go.Proofs.YtioijcfcehhmdaaGreatDoor

namespace Go.Proofs.YtioijcfcehhmdaaGreatDoor.V
open Go.RowKit Go.ChangeShapes Go.WideShapes Go.ChangeAt
theorem Tryz.adQ:ownKnob Tryz.prog.godebug=none:=by kernel_rfl
theorem Tryz.Ho:laidOutB Tryz.prog=true:=by kernel_rfl
def okI (n:Int):Prop:=-9223372036854775808≤n∧n≤9223372036854775807
theorem Q7 {q:PV} (h:SInt .i64 [q]):∃ n,okI n∧q=eI n:=by
 obtain ⟨n,h1,h2⟩:=h
 have h3:IntKind.i64.min=-9223372036854775808:=rfl
 have h4:IntKind.i64.max=9223372036854775807:=rfl
 simp only [Lit.wf,Bool.and_eq_true,decide_eq_true_eq] at h1
 cases h2
 exact ⟨n,⟨by omega,by omega⟩,rfl⟩
theorem Wh {q:PV} (h:SInt .u8 [q]):∃ b:UInt8,q=.int .u8 (b.toNat:Int):=by
 obtain ⟨n,h1,h2⟩:=h
 have h3:IntKind.u8.min=0:=rfl
 have h4:IntKind.u8.max=255:=rfl
 simp only [Lit.wf,Bool.and_eq_true,decide_eq_true_eq] at h1
 cases h2
 refine ⟨UInt8.ofNat n.toNat,?_⟩
 rw [UInt8.toNat_ofNat_of_lt' (show n.toNat<2 ^ 8 by omega)]
 congr 1;omega
def ajM:List PV→Prop:=akD 8 (SInt .u8)
theorem apn {ps:List PV} (h:ajM ps):∃ s:fP,ps=oz s:=by
 obtain ⟨h1,h2⟩:=h
 have:∀ l:List PV,(∀ p∈l,SInt .u8 [p])→∃ m:List UInt8,m.length=l.length∧l=m.map fun b=>.int .u8 (b.toNat:Int):=by
  intro l
  induction l with
  |nil=>exact fun _=>⟨[],rfl,rfl⟩
  |cons p l ih =>
   intro h
   obtain ⟨b,hb⟩:=Wh (h p (by simp))
   obtain ⟨m,e1,e2⟩:=ih fun q hq=>h q (by simp [hq])
   exact ⟨b :: m,by simp [e1],by rw [hb,e2];rfl⟩
 obtain ⟨m,e1,e2⟩:=this ps h2
 refine ⟨⟨m.toArray,by simp [e1,h1]⟩,?_⟩
 subst e2
 simp [oz,Vector.toList]
theorem Wi {α:Type} {n:Nat} {S:List PV→Prop} {wr:List PV→PV} {enc:α→PV} {ok:α→Prop} (hS:∀ ps,S ps→∃ a,ok a∧wr ps=enc a) {q:PV} (h:EL n S wr [q]):∃ l:List α,(∀ a∈l,ok a)∧q=.list n (l.map enc):=by
 obtain ⟨es,h1,h2⟩:=h
 cases h1
 have:∀ es:List PV,(∀ x∈es,∃ q,S q∧x=wr q)→∃ l:List α,(∀ a∈l,ok a)∧es=l.map enc:=by
  intro es
  induction es with
  |nil=>exact fun _=>⟨[],by simp,rfl⟩
  |cons e es ih =>
   intro h
   obtain ⟨q,h3,h4⟩:=h e (by simp)
   obtain ⟨a,h5,h6⟩:=hS q h3
   obtain ⟨l,h7,h8⟩:=ih fun x hx=>h x (by simp [hx])
   exact ⟨a :: l,by simp;exact ⟨h5,h7⟩,by rw [h4,h6,h8];rfl⟩
 obtain ⟨l,h3,h4⟩:=this es h2
 exact ⟨l,h3,by rw [h4]⟩
theorem Wj {n:Nat} {S:List PV→Prop} {wr:List PV→PV} {ps:List PV} (h:EL n S wr ps):(wrS ps).cells=ps:=by
 obtain ⟨es,rfl,_⟩:=h;rfl
def Wn:List PV→Prop:=EL 8 ajM .agg
theorem ahk {q:PV} (h:Wn [q]):∃ l:List fP,q=bF l:=by
 obtain ⟨l,_,e⟩:=Wi (enc:=ni) (ok:=fun _=>True) (fun ps h=>by obtain ⟨s,rfl⟩:=apn h;exact ⟨s,trivial,rfl⟩) h
 exact ⟨l,e⟩
def ajN:List PV→Prop:=EL 1 Wn wrS
theorem apo {q:PV} (h:ajN [q]):∃ l:iR,q=.list 1 (l.map bF):=by
 obtain ⟨l,_,e⟩:=Wi (enc:=bF) (ok:=fun _=>True) (fun ps h=>by
  obtain ⟨es,rfl,h2⟩:=h
  obtain ⟨l,e⟩:=ahk (q:=.list 8 es) ⟨es,rfl,h2⟩
  exact ⟨l,trivial,e⟩) h
 exact ⟨l,e⟩
theorem Tryz.ahl:iI Tryz.prog 3 1 (SInt .i64):=iI.int Tryz.underlying3 (by kernel_rfl)
theorem Tryz.ajO:iI Tryz.prog 5 1 (SInt .u8):=iI.int Tryz.underlying5 (by kernel_rfl)
theorem Tryz.amN:iI Tryz.prog 68 8 ajM:=iI.arr Tryz.underlying68 Tryz.ajO (by kernel_rfl)
theorem Tryz.adR:iI Tryz.prog 66 1 Wn:=iI.list Tryz.underlying66 (by kernel_rfl) Tryz.amN (by decide) (fun _ _ _=>rfl)
theorem Tryz.amO:iI Tryz.prog 27 1 ajN:=iI.list Tryz.underlying27 (by kernel_rfl) Tryz.adR (by decide) (fun _ h _=>Wj h)
end Go.Proofs.YtioijcfcehhmdaaGreatDoor.V

namespace Go.Proofs.YtioijcfcehhmdaaGreatDoor.V
open Go.RowKit Go.ChangeShapes Go.WideShapes Go.ChangeAt
theorem Wp {n:Int} (h:okI n):qw n=true:=by
 unfold okI at h
 simp only [qw,Bool.and_eq_true,decide_eq_true_eq];exact h
def SWr:List PV→Prop:=SV [SInt .i64,SInt .i64,Wn]
theorem swr {ps:List PV} (h:SWr ps):∃ x:iM,(qw x.volume=true∧qw x.start=true)∧PV.agg ps=jL x:=by
 obtain ⟨p,q,rfl,⟨n,h1,rfl⟩,p2,q2,rfl,⟨m,h2,rfl⟩,p3,q3,rfl,h3,rfl⟩:=h
 obtain ⟨a,o1,e1⟩:=Q7 ⟨n,h1,rfl⟩
 obtain ⟨b,o2,e2⟩:=Q7 ⟨m,h2,rfl⟩
 obtain ⟨es,rfl,h4⟩:=h3
 obtain ⟨l,e3⟩:=ahk (q:=.list 8 es) ⟨es,rfl,h4⟩
 refine ⟨⟨a,b,l⟩,⟨Wp o1,Wp o2⟩,?_⟩
 rw [e1,e2,e3];rfl
def adS:List PV→Prop:=EL 3 SWr .agg
theorem ajP {q:PV} (h:adS [q]):∃ l:List iM,okW l∧q=.list 3 (l.map jL) :=
 Wi (enc:=jL) (ok:=fun x=>qw x.volume=true∧qw x.start=true) (fun ps h=>swr h) h
theorem Tryz.apr:iI Tryz.prog 81 3 SWr:=iI.aeu Tryz.underlying81 Tryz.ahl Tryz.ahl Tryz.adR rfl rfl rfl (by kernel_rfl)
theorem Tryz.adT:iI Tryz.prog 34 1 adS:=iI.list Tryz.underlying34 (by kernel_rfl) Tryz.apr (by decide) (fun _ _ _=>rfl)
end Go.Proofs.YtioijcfcehhmdaaGreatDoor.V

namespace Go.Proofs.YtioijcfcehhmdaaGreatDoor
open V
open Go.RowKit Go.ChangeShapes Go.WideShapes Go.ChangeAt
def adU:List PV→Prop:=EL 1 adS wrS
def amP:List PV→Prop:=SV [ajN,adS,adS,adU]
theorem amQ {q:PV} (h:adU [q]):∃ l:List (List iM),(∀ x∈l,okW x)∧q=.list 1 (l.map GX):=by
 obtain ⟨l,ho,e⟩:=Wi (enc:=GX) (ok:=okW) (fun ps h=>by
  obtain ⟨es,rfl,g⟩:=h
  obtain ⟨l,o,e⟩:=ajP (q:=.list 3 es) ⟨es,rfl,g⟩
  exact ⟨l,o,e⟩) h
 exact ⟨l,ho,e⟩
theorem aps {ps:List PV} (h:amP ps):∃ x:qK,okO x∧PV.agg ps=QS x:=by
 obtain ⟨p,q,rfl,h1,p2,q2,rfl,h2,p3,q3,rfl,h3,p4,q4,rfl,h4,rfl⟩:=h
 obtain ⟨es1,rfl,g1⟩:=h1
 obtain ⟨es2,rfl,g2⟩:=h2
 obtain ⟨es3,rfl,g3⟩:=h3
 obtain ⟨es4,rfl,g4⟩:=h4
 obtain ⟨m,e1⟩:=apo (q:=.list 1 es1) ⟨es1,rfl,g1⟩
 obtain ⟨o,o2,e2⟩:=ajP (q:=.list 3 es2) ⟨es2,rfl,g2⟩
 obtain ⟨n,o3,e3⟩:=ajP (q:=.list 3 es3) ⟨es3,rfl,g3⟩
 obtain ⟨r,o4,e4⟩:=amQ (q:=.list 1 es4) ⟨es4,rfl,g4⟩
 refine ⟨⟨m,o,n,r⟩,⟨o2,o3,o4⟩,?_⟩
 rw [e1,e2,e3,e4];rfl
theorem Tryz.ajQ:iI Tryz.prog 57 1 adU:=iI.list Tryz.underlying57 (by kernel_rfl) Tryz.adT (by decide) (fun _ h _=>Wj h)
theorem Tryz.amR:iI Tryz.prog 59 4 amP:=iI.aev Tryz.underlying59 Tryz.amO Tryz.adT Tryz.adT Tryz.ajQ rfl rfl rfl rfl (by kernel_rfl)
theorem Y1 {P:Program} {H:Type} {enc:TypeId × Value→H} {w:World} {ok:Nat→Prop} {t e:TypeId} {fs:Array Field} {arr:Array Value} {d:DataW H} {p:List MemPlace} {f:Field} {k n:Nat} {ps es:List PV}
  (ht:P.underlying t=some (.struct fs)) (hf:fs[k]?=some f) (hu:P.underlying f.type=some (.slice e)) (hc1:P.cellsOf f.type=1)
  (h:DataW.Trod enc P w 0 (fun _=>true) true t (.agg arr) d p) (hr:aC ok w (.agg ps) (.agg arr)) (hp:ps[f.offset]?=some (.list n es))
  {ts:List TypeId} {ds:List (DataW H)} {j:Nat} (hts:ts[j]?=some t) (hds:ds[j]?=some d) (hS:(DataW.weightsEach P ts ds).all (·≤reachBytes)=true):es.length * P.bytesOf e≤reachBytes:=by
 obtain ⟨fuel,hf0⟩:=h
 obtain ⟨xs,m,_,hx,hl,hlen,hE⟩:=DataW.trod_struct ht hf0
 have hk:=hE k f hf
 rw [hc1] at hk
 have hd:d=.agg (xs.map (·.1)):=congrArg Prod.fst hx
 have hkl:k<xs.length:=by rw [hlen];exact (Array.getElem?_eq_some_iff.1 hf).1
 rw [List.getElem?_eq_getElem hkl] at hk
 have hcs:(Value.agg arr).cells.toList=arr.toList:=rfl
 rw [hcs] at hk
 cases hr with
 |agg _ _ h1 h2 h3 =>
  have ho:f.offset<arr.size:=by rw [h1];exact (List.getElem?_eq_some_iff.1 hp).1
  have hv:arr[f.offset]?=some arr[f.offset]:=Array.getElem?_eq_getElem ho
  have hq:=h3 f.offset _ _ hp hv
  have hone:(arr.toList.drop f.offset).take 1=[arr[f.offset]]:=by
   rw [List.drop_eq_getElem_cons (by simpa using ho)]
   simp
  rw [hone] at hk
  generalize arr[f.offset]=u at *
  rcases DataW.trod_slice hu hk with ⟨h4,_⟩|⟨a,len,cap,elems,rest,n',_,h4,h5,_,_,_,hl2,_⟩
  ·cases h4
   cases hq with
   |nil=>simp
  ·cases h4
   cases hq with
   |nil=>simp
   |list _ _ b off c cv q1 q2 q3 q4 q5 q6 q7 =>
    have e1:(xs[k]).1=.slice (elems.map (·.1)) (rest.map (·.1)):=by rw [h5]
    have m1:(elems.length+rest.length) * P.bytesOf e∈(xs[k]).1.weights P f.type:=by rw [e1];simp [DataW.weights,hu]
    have m2:(elems.length+rest.length) * P.bytesOf e∈d.weights P t:=by
     rw [hd]
     simp only [DataW.weights,ht]
     exact DataW.weights_mem_each (j:=k) (t:=f.type) (d:=(xs[k]).1) (by rw [List.getElem?_map,Array.getElem?_toList,hf];rfl) (by rw [List.getElem?_map,List.getElem?_eq_getElem hkl];rfl) _ m1
    have m3:=DataW.weights_mem_each hts hds _ m2
    have m4:=List.all_eq_true.1 hS _ m3
    simp only [decide_eq_true_eq] at m4
    have:es.length * P.bytesOf e≤(elems.length+rest.length) * P.bytesOf e:=Nat.mul_le_mul_right _ (by omega)
    omega
theorem agN {H:Type} {enc:TypeId × Value→H} {w:World} {ok:Nat→Prop} {x:qK} {v:Value} {d:DataW H} {p:List MemPlace} (r:aC ok w (QS x) v) (h:DataW.Trod enc Tryz.prog w 0 (fun _=>true) true 59 v d p)
  {ts:List TypeId} {ds:List (DataW H)} (hts:ts[0]?=some 59) (hds:ds[0]?=some d) (hS:(DataW.weightsEach Tryz.prog ts ds).all (·≤reachBytes)=true):x.rs.length+2≤Rk:=by
 rw [Am] at r
 have hb:Tryz.prog.bytesOf 34=24:=by kernel_rfl
 obtain ⟨arr,rfl⟩:∃ arr,v=.agg arr:=by cases r;exact ⟨_,rfl⟩
 have:=Y1 (k:=3) (n:=1) (es:=x.rs.map GX) Tryz.underlying59 rfl Tryz.underlying57 (by kernel_rfl) h r rfl hts hds hS
 rw [hb,List.length_map] at this
 unfold reachBytes at this
 unfold Rk
 omega
end Go.Proofs.YtioijcfcehhmdaaGreatDoor
