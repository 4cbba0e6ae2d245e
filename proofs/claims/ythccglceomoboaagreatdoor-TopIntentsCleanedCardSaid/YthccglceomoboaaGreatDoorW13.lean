/-
  Part 13 of the texts that the statement stands on.
-/
import Derived.Test.YthccglceomoboaaGreatDoorW12
import Derived.Test.YthccglceomoboaaGreatDoorCards
import Derived.Test.YthccglceomoboaaGreatDoorTie
import Derived.Lay
set_option linter.all false
open List renaming mem_append_right → Zb5, mem_append_left → Zb8
namespace Go.Proofs.YthccglceomoboaaGreatDoor
open Go.RowKit Go.ChangeShapes Go.WideShapes Go.ChangeAt V
set_option maxRecDepth 100000 in
theorem sH (os:Os)(started:os.Started)(H:Type)(enc:TypeId×Value→H) :
  ReturnsInHanded {} Tryz.checked os 7 .any (fun w args=>(Rows.topIntentsCleanedSpec.pre enc Tryz.prog Tryz.f7 [] false w args∧laidMetH Tryz.prog Rows.topIntentsCleanedRow.laid w)∧sizedMet enc Tryz.prog Tryz.f7 (OpenSpec.ofChange Rows.topIntentsCleanedSpec) false w args) (Rows.topIntentsCleanedSpec.post enc Tryz.prog Tryz.f7 false true false false):=by
 refine returnsInHanded_of_change_and (C:=Tryz.checked) (X:=fun w _=>laidMetH Tryz.prog Rows.topIntentsCleanedRow.laid w) (fun _ _ _ hh h=>h.of_heap hh) Tryz.afx started (by kernel_rfl) Tryz.func7
  (ChangeSpec.witness_shaped (enc:=enc) (C:=Tryz.checked) (os:=os) (X:=fun w _=>laidMetH Tryz.prog Rows.topIntentsCleanedRow.laid w) false (World.laidAll Tryz.prog os Rows.topIntentsCleanedRow.laid) #[.int .u8 0,.int .u8 0,.slice none 0 0] 8 (World.laidAll_os _ _ _)
   (World.shaped_of_ZipB (by kernel_rfl) (by kernel_rfl)) (by kernel_rfl) (by kernel_rfl) (by kernel_rfl)
   (by rw [MakeChecks.laidMetH_plain _ _ _ (by kernel_rfl)];exact laidMet_laidAll _ (by kernel_rfl) (by kernel_rfl))) ?_
 intro W base args ds gs before hval0 hW _ hSz apN _
 have hval:∀ (j:Nat) t v,Tryz.f7.params[j]?=some t→args[j]?=some v→Value.okWide Tryz.prog W .any base t v:=hval0
 have hW':=hW
 obtain ⟨p,q,hA0,hV,rfl,_,_⟩:=hW
 have hA:DataW.TrodAll enc Tryz.prog W 0 (fun _=>true) true Tryz.f7.params.toList args.toList ds p:=hA0
 rw [Tryz.params7] at hA hval
 obtain ⟨v0,v1,v2,d0,d1,d2,p0,p1,p2,rfl,rfl,rfl,h0,h1,h2⟩:=trodAll_three hA
 obtain ⟨rfl,rfl⟩:=trodVars_none hV
 have hsz:=hSz
 rw [Tryz.params7] at hsz
 obtain ⟨z0,z1,z2⟩:=IK (t0:=5) (d0:=d0) (t1:=5) (d1:=d1) (t2:=116) (d2:=d2) hsz
 obtain ⟨q0,s0,r0⟩:=Vh Tryz.underlying5 Tryz.Zk (hval 0 5 v0 rfl rfl) h0
 obtain ⟨x0,o0,rfl⟩:=afB s0
 obtain ⟨q1,s1,r1⟩:=Vh Tryz.underlying5 Tryz.Zk (hval 1 5 v1 rfl rfl) h1
 obtain ⟨x1,o1,rfl⟩:=afB s1
 obtain ⟨q2,s2,r2⟩:=UR Tryz.underlying116 Tryz.apM (hval 2 116 v2 rfl rfl) h2 z2
 obtain ⟨x2,o2,rfl⟩:=aq7 s2
 clear hA0 hval0
 simp only [List.append_nil,List.append_assoc] at hW'
 have hlt:∀ x∈p0++(p1++p2),x.block<W.heap.size:=fun x hx=>by simpa using hW'.lt x hx
 have r0':=r0.bD
 have r1':=r1.bD
 subst r0'
 subst r1'
 refine (QW o0 o1 o2.1 o2.2 r2 (Hr rfl apN)).mono fun e W' ⟨he,hB⟩=>?_
 subst he
 exact ⟨_,rfl,_,_,_,[],_,[],hW',trodAll_mk1 (shut_bool Tryz.underlying4 _),trodAll_mk3 (Below.trod Tryz.Ht (by kernel_rfl) (of_decide_eq_true (by kernel_rfl)) h0 hB (fun x hx=>hlt x (Zb8 _ hx))) (Below.trod Tryz.Ht (by kernel_rfl) (of_decide_eq_true (by kernel_rfl)) h1 hB (fun x hx=>hlt x (Zb5 _ (Zb8 _ hx)))) (Below.trod Tryz.Ht (by kernel_rfl) (of_decide_eq_true (by kernel_rfl)) h2 hB (fun x hx=>hlt x (Zb5 _ (Zb5 _ hx)))),rfl,hB.frame _,fun h=>by cases h⟩
end Go.Proofs.YthccglceomoboaaGreatDoor
