/-
  Part 13 of the texts that the statement stands on.
-/
import Derived.Test.YthccglceomoboaaGreatDoorX12
import Derived.Test.YthccglceomoboaaGreatDoorCards
import Derived.Test.YthccglceomoboaaGreatDoorTie
import Derived.Lay
set_option linter.all false
open List renaming mem_append_right → Zck, mem_append_left → Zdd
namespace Go.Proofs.YthccglceomoboaaGreatDoor
open Go.RowKit Go.ChangeShapes Go.WideShapes Go.ChangeAt V
set_option maxRecDepth 100000 in
theorem qB (os:Os)(started:os.Started)(H:Type)(enc:TypeId×Value→H) :
  ReturnsInHanded {} Tryz.checked os 6 .any (fun w args=>(Rows.topComparisonsExactSpec.pre enc Tryz.prog Tryz.f6 [] false w args∧laidMetH Tryz.prog Rows.topComparisonsExactRow.laid w)∧sizedMet enc Tryz.prog Tryz.f6 (OpenSpec.ofChange Rows.topComparisonsExactSpec) false w args) (Rows.topComparisonsExactSpec.post enc Tryz.prog Tryz.f6 false true false false):=by
 refine returnsInHanded_of_change_and (C:=Tryz.checked) (X:=fun w _=>laidMetH Tryz.prog Rows.topComparisonsExactRow.laid w) (fun _ _ _ hh h=>h.of_heap hh) Tryz.aeX started (by kernel_rfl) Tryz.func6
  (ChangeSpec.witness_shaped (enc:=enc) (C:=Tryz.checked) (os:=os) (X:=fun w _=>laidMetH Tryz.prog Rows.topComparisonsExactRow.laid w) false (World.laidAll Tryz.prog os Rows.topComparisonsExactRow.laid) #[.slice none 0 0,.slice none 0 0,.int .u8 0] 8 (World.laidAll_os _ _ _)
   (World.shaped_of_ZipB (by kernel_rfl) (by kernel_rfl)) (by kernel_rfl) (by kernel_rfl) (by kernel_rfl)
   (by rw [MakeChecks.laidMetH_plain _ _ _ (by kernel_rfl)];exact laidMet_laidAll _ (by kernel_rfl) (by kernel_rfl))) ?_
 intro W base args ds gs before hval0 hW _ hSz ao5 _
 have hval:∀ (j:Nat) t v,Tryz.f6.params[j]?=some t→args[j]?=some v→Value.okWide Tryz.prog W .any base t v:=hval0
 have hW':=hW
 obtain ⟨p,q,hA0,hV,rfl,_,_⟩:=hW
 have hA:DataW.TrodAll enc Tryz.prog W 0 (fun _=>true) true Tryz.f6.params.toList args.toList ds p:=hA0
 rw [Tryz.params6] at hA hval
 obtain ⟨v0,v1,v2,d0,d1,d2,p0,p1,p2,rfl,rfl,rfl,h0,h1,h2⟩:=trodAll_three hA
 obtain ⟨rfl,rfl⟩:=trodVars_none hV
 have hsz:=hSz
 rw [Tryz.params6] at hsz
 obtain ⟨z0,z1,z2⟩:=IY (t0:=71) (d0:=d0) (t1:=22) (d1:=d1) (t2:=5) (d2:=d2) hsz
 obtain ⟨q0,s0,r0⟩:=YS Tryz.underlying71 Tryz.alA (hval 0 71 v0 rfl rfl) h0
 obtain ⟨x0,rfl⟩:=alD s0
 obtain ⟨q1,s1,r1⟩:=Vp Tryz.underlying22 Tryz.alE (hval 1 22 v1 rfl rfl) h1 z1
 obtain ⟨x1,o1,rfl⟩:=ao3 s1
 obtain ⟨q2,s2,r2⟩:=agD Tryz.underlying5 Tryz.ao2 (hval 2 5 v2 rfl rfl) h2
 obtain ⟨x2,o2,rfl⟩:=aqx s2
 clear hA0 hval0
 simp only [List.append_nil,List.append_assoc] at hW'
 have hlt:∀ x∈p0++(p1++p2),x.block<W.heap.size:=fun x hx=>by simpa using hW'.lt x hx
 refine (YR (vs:=[v0,v1,v2]) ao0 (ap2 o1 o2) ⟨r0,r1,r2,trivial⟩ (Ia rfl ao5)).mono fun e W' ⟨he,hB⟩=>?_
 subst he
 exact ⟨_,rfl,_,_,_,[],_,[],hW',trodAll_mk1 (shut_bool Tryz.underlying4 _),trodAll_mk3 (Below.trod Tryz.Ib (by kernel_rfl) (of_decide_eq_true (by kernel_rfl)) h0 hB (fun x hx=>hlt x (Zdd _ hx))) (Below.trod Tryz.Ib (by kernel_rfl) (of_decide_eq_true (by kernel_rfl)) h1 hB (fun x hx=>hlt x (Zck _ (Zdd _ hx)))) (Below.trod Tryz.Ib (by kernel_rfl) (of_decide_eq_true (by kernel_rfl)) h2 hB (fun x hx=>hlt x (Zck _ (Zck _ hx)))),rfl,hB.frame _,fun h=>by cases h⟩
end Go.Proofs.YthccglceomoboaaGreatDoor
