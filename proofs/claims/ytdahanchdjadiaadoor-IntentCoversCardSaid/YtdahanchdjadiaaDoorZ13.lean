/-
  Part 13 of the texts that the statement stands on.
-/
import Derived.Test.YtdahanchdjadiaaDoorZ12
import Derived.Test.YtdahanchdjadiaaDoorCards
import Derived.Test.YtdahanchdjadiaaDoorTie
import Derived.Lay
set_option linter.all false
namespace Go.Proofs.YtdahanchdjadiaaDoor
open Go.RowKit Go.ChangeShapes Go.WideShapes Go.ChangeAt V
set_option maxRecDepth 100000 in
theorem wJ (os:Os) (started:os.Started) (H:Type) (enc:TypeId × Value→H) :
  ReturnsInHanded {} Tryd.checked os 4 .any (fun w args=>(Rows.intentCoversSpec.pre enc Tryd.prog Tryd.f4 [] false w args∧laidMetH Tryd.prog Rows.intentCoversRow.laid w)∧sizedMet enc Tryd.prog Tryd.f4 (OpenSpec.ofChange Rows.intentCoversSpec) false w args) (Rows.intentCoversSpec.post enc Tryd.prog Tryd.f4 false true false false):=by
 refine returnsInHanded_of_change_and (C:=Tryd.checked) (X:=fun w _=>laidMetH Tryd.prog Rows.intentCoversRow.laid w) (fun _ _ _ hh h=>h.of_heap hh) Tryd.aau started (by kernel_rfl) Tryd.func4
  (ChangeSpec.witness_shaped (enc:=enc) (C:=Tryd.checked) (os:=os) (X:=fun w _=>laidMetH Tryd.prog Rows.intentCoversRow.laid w) false (World.laidAll Tryd.prog os Rows.intentCoversRow.laid) #[.int .u8 0,.int .u8 0,.slice none 0 0] 8 (World.laidAll_os _ _ _)
   (World.shaped_of_ZipB (by kernel_rfl) (by kernel_rfl)) (by kernel_rfl) (by kernel_rfl) (by kernel_rfl)
   (by rw [MakeChecks.laidMetH_plain _ _ _ (by kernel_rfl)];exact laidMet_laidAll _ (by kernel_rfl) (by kernel_rfl))) ?_
 intro W base args ds gs before hval0 hW _ _ aiw _
 have hval:∀ (j:Nat) t v,Tryd.f4.params[j]?=some t→args[j]?=some v→Value.okWide Tryd.prog W .any base t v:=hval0
 have hW':=hW
 obtain ⟨p,q,hA0,hV,rfl,_,_⟩:=hW
 have hA:DataW.TrodAll enc Tryd.prog W 0 (fun _=>true) true Tryd.f4.params.toList args.toList ds p:=hA0
 rw [Tryd.params4] at hA hval
 obtain ⟨v0,v1,v2,d0,d1,d2,p0,p1,p2,rfl,rfl,rfl,h0,h1,h2⟩:=trodAll_three hA
 obtain ⟨rfl,rfl⟩:=trodVars_none hV
 obtain ⟨q0,s0,r0⟩:=RN Tryd.underlying5 Tryd.VK (hval 0 5 v0 rfl rfl) h0
 obtain ⟨x0,o0,rfl⟩:=su8 s0
 obtain ⟨q1,s1,r1⟩:=RN Tryd.underlying5 Tryd.VK (hval 1 5 v1 rfl rfl) h1
 obtain ⟨x1,o1,rfl⟩:=su8 s1
 obtain ⟨q2,s2,r2⟩:=VI Tryd.underlying36 Tryd.afM (hval 2 36 v2 rfl rfl) h2
 obtain ⟨x2,o2,rfl⟩:=aiv s2
 clear hA0 hval0
 simp only [List.append_nil,List.append_assoc] at hW'
 have hlt:∀ x∈p0++(p1++p2),x.block<W.heap.size:=fun x hx=>by simpa using hW'.lt x hx
 refine (VH (vs:=[v0,v1,v2]) air (ajk o0 o1 o2) ⟨r0,r1,r2,trivial⟩ (Ea rfl aiw)).mono fun e W' ⟨he,hB⟩=>?_
 subst he
 exact ⟨_,rfl,_,_,_,[],_,[],hW',trodAll_mk1 (shut_bool Tryd.underlying4 _),trodAll_mk3 (Below.trod Tryd.Eb (by kernel_rfl) (of_decide_eq_true (by kernel_rfl)) h0 hB (fun x hx=>hlt x (List.mem_append_left _ hx))) (Below.trod Tryd.Eb (by kernel_rfl) (of_decide_eq_true (by kernel_rfl)) h1 hB (fun x hx=>hlt x (List.mem_append_right _ (List.mem_append_left _ hx)))) (Below.trod Tryd.Eb (by kernel_rfl) (of_decide_eq_true (by kernel_rfl)) h2 hB (fun x hx=>hlt x (List.mem_append_right _ (List.mem_append_right _ hx)))),rfl,hB.frame _,fun h=>by cases h⟩
theorem xP:Rows.IntentCoversSaid :=
 OpenClaim.holds_of_wide 4 Tryd.f4 rfl rfl rfl rfl rfl rfl rfl ⟨rfl,rfl,rfl,rfl,rfl⟩ rfl rfl rfl rfl rfl (by kernel_rfl) Tryd.func4 (by kernel_rfl)
  (of_decide_eq_true (by kernel_rfl)) (by unfold Func.isWrapper;first|(rw [if_pos (by decide +kernel)];kernel_rfl)|(rw [if_neg (by decide +kernel)];exact ⟨rfl,rfl⟩))
  (fun os started H enc _=>wJ os started H enc)
theorem intentCovers_card_holds:Rows.IntentCoversCardSaid :=
 Claim7.holds_tied_plain_at .later [] [.data] true (true,Rows.intentCoversCard.stood.harness.2) false xP (fun _ h=>by cases h) (by kernel_rfl) (fun _ h=>by cases h) intentCovers_row_tie rfl ⟨rfl,rfl⟩ (by kernel_rfl) rfl
  (fun f fn hf hfn=>by
   obtain rfl:f=4:=Option.some.inj ((show Tryd.prog.funcNamed "standby/standbylaw17.IntentCovers"=some 4 by kernel_rfl).symm.trans hf) |>.symm
   obtain rfl:fn=Tryd.f4:=(Option.some.inj (Tryd.func4.symm.trans hfn)).symm
   exact ⟨by kernel_rfl,fun j t ht=>by
    rw [Tryd.params4] at ht
    have hm:t∈[5,5,36]:=by simpa using Array.mem_of_getElem? ht
    have hall:([5,5,36].all fun u=>!Tryd.prog.wantsStandIn u)=true:=by kernel_rfl
    exact (show Tryd.prog.wantsStandIn t=false by simpa using List.all_eq_true.1 hall t hm)⟩)
  (by kernel_rfl)
end Go.Proofs.YtdahanchdjadiaaDoor
