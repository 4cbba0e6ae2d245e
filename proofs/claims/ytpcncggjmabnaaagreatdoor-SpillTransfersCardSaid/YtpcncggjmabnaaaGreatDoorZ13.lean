/-
  Part 13 of the texts that the statement stands on.
-/
import Derived.Test.YtpcncggjmabnaaaGreatDoorZ12
import Derived.Test.YtpcncggjmabnaaaGreatDoorCards
import Derived.Test.YtpcncggjmabnaaaGreatDoorTie
import Derived.Lay
set_option linter.all false
namespace Go.Proofs.YtpcncggjmabnaaaGreatDoor
open Go.RowKit Go.ChangeShapes Go.WideShapes Go.ChangeAt V
set_option maxRecDepth 100000 in
theorem uP (os:Os) (started:os.Started) (H:Type) (enc:TypeId × Value→H) :
  ReturnsInHanded {} Tryz.checked os 9 .any (fun w args=>(Rows.spillTransfersSpec.pre enc Tryz.prog Tryz.f9 [] false w args∧laidMetH Tryz.prog Rows.spillTransfersRow.laid w)∧sizedMet enc Tryz.prog Tryz.f9 (OpenSpec.ofChange Rows.spillTransfersSpec) false w args) (Rows.spillTransfersSpec.post enc Tryz.prog Tryz.f9 false true false false):=by
 refine returnsInHanded_of_change_and (C:=Tryz.checked) (X:=fun w _=>laidMetH Tryz.prog Rows.spillTransfersRow.laid w) (fun _ _ _ hh h=>h.of_heap hh) Tryz.ad4 started (by kernel_rfl) Tryz.func9
  (ChangeSpec.witness_shaped (enc:=enc) (C:=Tryz.checked) (os:=os) (X:=fun w _=>laidMetH Tryz.prog Rows.spillTransfersRow.laid w) false (World.laidAll Tryz.prog os Rows.spillTransfersRow.laid) #[.int .u8 0,.slice none 0 0] 8 (World.laidAll_os _ _ _)
   (World.shaped_of_ZipB (by kernel_rfl) (by kernel_rfl)) (by kernel_rfl) (by kernel_rfl) (by kernel_rfl)
   (by rw [MakeChecks.laidMetH_plain _ _ _ (by kernel_rfl)];exact laidMet_laidAll _ (by kernel_rfl) (by kernel_rfl))) ?_
 intro W base args ds gs before hval0 hW _ hSz anO _
 have hval:∀ (j:Nat) t v,Tryz.f9.params[j]?=some t→args[j]?=some v→Value.okWide Tryz.prog W .any base t v:=hval0
 have hW':=hW
 obtain ⟨p,q,hA0,hV,rfl,_,_⟩:=hW
 have hA:DataW.TrodAll enc Tryz.prog W 0 (fun _=>true) true Tryz.f9.params.toList args.toList ds p:=hA0
 rw [Tryz.params9] at hA hval
 obtain ⟨v0,v1,d0,d1,p0,p1,rfl,rfl,rfl,h0,h1⟩:=trodAll_two hA
 obtain ⟨rfl,rfl⟩:=trodVars_none hV
 have hsz:=hSz
 rw [Tryz.params9] at hsz
 obtain ⟨z0,z1⟩:=QD (t0:=5) (d0:=d0) (t1:=59) (d1:=d1) hsz
 obtain ⟨q0,s0,r0⟩:=agC Tryz.underlying5 Tryz.ag3 (hval 0 5 v0 rfl rfl) h0
 obtain ⟨x0,o0,rfl⟩:=akr s0
 obtain ⟨q1,s1,r1⟩:=U8 Tryz.underlying59 Tryz.akt (hval 1 59 v1 rfl rfl) h1 z1
 obtain ⟨x1,o1,rfl⟩:=anM s1
 clear hA0 hval0
 simp only [List.append_nil,List.append_assoc] at hW'
 have hlt:∀ x∈p0++p1,x.block<W.heap.size:=fun x hx=>by simpa using hW'.lt x hx
 refine (Y6 (vs:=[v0,v1]) anF (aoJ o0 o1) ⟨r0,r1,trivial⟩ (FZ rfl anO)).mono fun e W' ⟨he,hB⟩=>?_
 subst he
 exact ⟨_,rfl,_,_,_,[],_,[],hW',trodAll_mk1 (shut_bool Tryz.underlying4 _),trodAll_mk2 (Below.trod Tryz.QC (by kernel_rfl) (of_decide_eq_true (by kernel_rfl)) h0 hB (fun x hx=>hlt x (List.mem_append_left _ hx))) (Below.trod Tryz.QC (by kernel_rfl) (of_decide_eq_true (by kernel_rfl)) h1 hB (fun x hx=>hlt x (List.mem_append_right _ hx))),rfl,hB.frame _,fun h=>by cases h⟩
theorem wu:Rows.SpillTransfersSaid :=
 OpenClaim.holds_of_wide 9 Tryz.f9 rfl rfl rfl rfl rfl rfl rfl ⟨rfl,rfl,rfl,rfl,rfl⟩ rfl rfl rfl rfl rfl (by kernel_rfl) Tryz.func9 (by kernel_rfl)
  (of_decide_eq_true (by kernel_rfl)) (by unfold Func.isWrapper;first|(rw [if_pos (by decide +kernel)];kernel_rfl)|(rw [if_neg (by decide +kernel)];exact ⟨rfl,rfl⟩))
  (fun os started H enc _=>uP os started H enc)
theorem spillTransfers_card_holds:Rows.SpillTransfersCardSaid :=
 Claim7.holds_tied_plain_at .later [] [.data] true (true,Rows.spillTransfersCard.stood.harness.2) false wu (fun _ h=>by cases h) (by kernel_rfl) (fun _ h=>by cases h) spillTransfers_row_tie rfl ⟨rfl,rfl⟩ (by kernel_rfl) rfl
  (fun f fn hf hfn=>by
   obtain rfl:f=9:=Option.some.inj ((show Tryz.prog.funcNamed "standby/standbylaw24.SpillTransfers"=some 9 by kernel_rfl).symm.trans hf) |>.symm
   obtain rfl:fn=Tryz.f9:=(Option.some.inj (Tryz.func9.symm.trans hfn)).symm
   exact ⟨by kernel_rfl,fun j t ht=>by
    rw [Tryz.params9] at ht
    have hm:t∈[5,59]:=by simpa using Array.mem_of_getElem? ht
    have hall:([5,59].all fun u=>!Tryz.prog.wantsStandIn u)=true:=by kernel_rfl
    exact (show Tryz.prog.wantsStandIn t=false by simpa using List.all_eq_true.1 hall t hm)⟩)
  (by kernel_rfl)
end Go.Proofs.YtpcncggjmabnaaaGreatDoor
