/-
  Part 13 of the texts that the statement stands on.
-/
import Derived.Test.YtpcncggjmabnaaaGreatDoorZ12
import Derived.Test.YtpcncggjmabnaaaGreatDoorCards
import Derived.Test.YtpcncggjmabnaaaGreatDoorTie
import Derived.Lay
set_option linter.all false
namespace Go.Proofs.YtpcncggjmabnaaaGreatDoor
open Go.RowKit Go.ChangeShapes Go.WideShapes Go.ChangeAt V
set_option maxRecDepth 100000 in
theorem uf (os:Os) (started:os.Started) (H:Type) (enc:TypeId × Value→H) :
  ReturnsInHanded {} Tryz.checked os 6 .any (fun w args=>(Rows.spillDrainsSpec.pre enc Tryz.prog Tryz.f6 [] false w args∧laidMetH Tryz.prog Rows.spillDrainsRow.laid w)∧sizedMet enc Tryz.prog Tryz.f6 (OpenSpec.ofChange Rows.spillDrainsSpec) false w args) (Rows.spillDrainsSpec.post enc Tryz.prog Tryz.f6 false true false false):=by
 refine returnsInHanded_of_change_and (C:=Tryz.checked) (X:=fun w _=>laidMetH Tryz.prog Rows.spillDrainsRow.laid w) (fun _ _ _ hh h=>h.of_heap hh) Tryz.Yg started (by kernel_rfl) Tryz.func6
  (ChangeSpec.witness_shaped (enc:=enc) (C:=Tryz.checked) (os:=os) (X:=fun w _=>laidMetH Tryz.prog Rows.spillDrainsRow.laid w) false (World.laidAll Tryz.prog os Rows.spillDrainsRow.laid) #[.agg #[.int .i64 0,.slice none 0 0,.slice none 0 0,.bool false,.int .i64 0,.int .i64 0,.slice none 0 0],.slice none 0 0,.int .i64 0] 8 (World.laidAll_os _ _ _)
   (World.shaped_of_ZipB (by kernel_rfl) (by kernel_rfl)) (by kernel_rfl) (by kernel_rfl) (by kernel_rfl)
   (by rw [MakeChecks.laidMetH_plain _ _ _ (by kernel_rfl)];exact laidMet_laidAll _ (by kernel_rfl) (by kernel_rfl))) ?_
 intro W base args ds gs before hval0 hW _ hSz agZ _
 have hval:∀ (j:Nat) t v,Tryz.f6.params[j]?=some t→args[j]?=some v→Value.okWide Tryz.prog W .any base t v:=hval0
 have hW':=hW
 obtain ⟨p,q,hA0,hV,rfl,_,_⟩:=hW
 have hA:DataW.TrodAll enc Tryz.prog W 0 (fun _=>true) true Tryz.f6.params.toList args.toList ds p:=hA0
 rw [Tryz.params6] at hA hval
 obtain ⟨v0,v1,v2,d0,d1,d2,p0,p1,p2,rfl,rfl,rfl,h0,h1,h2⟩:=trodAll_three hA
 obtain ⟨rfl,rfl⟩:=trodVars_none hV
 have hsz:=hSz
 rw [Tryz.params6] at hsz
 obtain ⟨z0,z1,z2⟩:=BO (t0:=27) (d0:=d0) (t1:=52) (d1:=d1) (t2:=3) (d2:=d2) hsz
 obtain ⟨q0,s0,r0⟩:=J5 Tryz.underlying27 Tryz.adV (hval 0 27 v0 rfl rfl) h0 z0
 obtain ⟨x0,o0,e0⟩:=agV s0
 rw [e0] at r0
 obtain ⟨q1,s1,r1⟩:=NY Tryz.underlying52 Tryz.adW (hval 1 52 v1 rfl rfl) h1 z1
 obtain ⟨x1,o1,rfl⟩:=agY s1
 obtain ⟨q2,s2,r2⟩:=aaD Tryz.underlying3 Tryz.rC (hval 2 3 v2 rfl rfl) h2
 obtain ⟨x2,rfl⟩:=agR s2
 clear hA0 hval0
 simp only [List.append_nil,List.append_assoc] at hW'
 have hlt:∀ x∈p0++(p1++p2),x.block<W.heap.size:=fun x hx=>by simpa using hW'.lt x hx
 refine (SI (vs:=[v0,v1,v2]) agN (ahN o0 o1) ⟨r0,r1,r2,trivial⟩ (Ba rfl agZ)).mono fun e W' ⟨he,hB⟩=>?_
 subst he
 exact ⟨_,rfl,_,_,_,[],_,[],hW',trodAll_mk1 (shut_bool Tryz.underlying4 _),trodAll_mk3 (Below.trod Tryz.Bc (by kernel_rfl) (of_decide_eq_true (by kernel_rfl)) h0 hB (fun x hx=>hlt x (List.mem_append_left _ hx))) (Below.trod Tryz.Bc (by kernel_rfl) (of_decide_eq_true (by kernel_rfl)) h1 hB (fun x hx=>hlt x (List.mem_append_right _ (List.mem_append_left _ hx)))) (Below.trod Tryz.Bc (by kernel_rfl) (of_decide_eq_true (by kernel_rfl)) h2 hB (fun x hx=>hlt x (List.mem_append_right _ (List.mem_append_right _ hx)))),rfl,hB.frame _,fun h=>by cases h⟩
theorem vV:Rows.SpillDrainsSaid :=
 OpenClaim.holds_of_wide 6 Tryz.f6 rfl rfl rfl rfl rfl rfl rfl ⟨rfl,rfl,rfl,rfl,rfl⟩ rfl rfl rfl rfl rfl (by kernel_rfl) Tryz.func6 (by kernel_rfl)
  (of_decide_eq_true (by kernel_rfl)) (by unfold Func.isWrapper;first|(rw [if_pos (by decide +kernel)];kernel_rfl)|(rw [if_neg (by decide +kernel)];exact ⟨rfl,rfl⟩))
  (fun os started H enc _=>uf os started H enc)
theorem spillDrains_card_holds:Rows.SpillDrainsCardSaid :=
 Claim7.holds_tied_plain_at .later [] [.data] true (true,Rows.spillDrainsCard.stood.harness.2) false vV (fun _ h=>by cases h) (by kernel_rfl) (fun _ h=>by cases h) spillDrains_row_tie rfl ⟨rfl,rfl⟩ (by kernel_rfl) rfl
  (fun f fn hf hfn=>by
   obtain rfl:f=6:=Option.some.inj ((show Tryz.prog.funcNamed "standby/standbylaw24.SpillDrains"=some 6 by kernel_rfl).symm.trans hf) |>.symm
   obtain rfl:fn=Tryz.f6:=(Option.some.inj (Tryz.func6.symm.trans hfn)).symm
   exact ⟨by kernel_rfl,fun j t ht=>by
    rw [Tryz.params6] at ht
    have hm:t∈[27,52,3]:=by simpa using Array.mem_of_getElem? ht
    have hall:([27,52,3].all fun u=>!Tryz.prog.wantsStandIn u)=true:=by kernel_rfl
    exact (show Tryz.prog.wantsStandIn t=false by simpa using List.all_eq_true.1 hall t hm)⟩)
  (by kernel_rfl)
end Go.Proofs.YtpcncggjmabnaaaGreatDoor
