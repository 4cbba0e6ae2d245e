/-
  Part 13 of the texts that the statement stands on.
-/
import Derived.Test.YtioijcfcehhmdaaGreatDoorZ12
import Derived.Test.YtioijcfcehhmdaaGreatDoorCards
import Derived.Test.YtioijcfcehhmdaaGreatDoorTie
import Derived.Lay
set_option linter.all false
open Option renaming some → ZD
namespace Go.Proofs.YtioijcfcehhmdaaGreatDoor
open Go.RowKit Go.ChangeShapes Go.WideShapes Go.ChangeAt V
theorem aq7 {ok:Nat→Prop}{w:World}{o:iT}{v:Value}(h:aA ok w (U7 o) v):∃ a b c d,v=.agg #[a,b,c,d]:=by
 rw [wQ] at h
 obtain ⟨arr,rfl,h1,_,_⟩:=h.lW
 obtain ⟨a,b,c,d,rfl⟩:=apl h1
 exact ⟨a,b,c,d,rfl⟩
set_option maxRecDepth 100000 in
theorem xC (os:Os)(started:os.Started)(H:Type)(enc:TypeId×Value→H) :
  ReturnsInHanded {} Tryz.checked os 9 .any (fun w args=>(Rows.failbackEqualsSpec.pre enc Tryz.prog Tryz.f9 [] false w args∧laidMetH Tryz.prog Rows.failbackEqualsRow.laid w)∧sizedMet enc Tryz.prog Tryz.f9 (OpenSpec.ofChange Rows.failbackEqualsSpec) false w args) (Rows.failbackEqualsSpec.post enc Tryz.prog Tryz.f9 false true false false):=by
 refine returnsInHanded_of_change_and (C:=Tryz.checked) (X:=fun w _=>laidMetH Tryz.prog Rows.failbackEqualsRow.laid w) (fun _ _ _ hh h=>h.of_heap hh) Tryz.agV started (by kernel_rfl) Tryz.func9
  (ChangeSpec.witness_shaped (enc:=enc) (C:=Tryz.checked) (os:=os) (X:=fun w _=>laidMetH Tryz.prog Rows.failbackEqualsRow.laid w) false (World.laidAll Tryz.prog os Rows.failbackEqualsRow.laid) #[.agg #[.slice none 0 0,.slice none 0 0,.slice none 0 0,.slice none 0 0]] 8 (World.laidAll_os _ _ _)
   (World.shaped_of_ZipB (by kernel_rfl) (by kernel_rfl)) (by kernel_rfl) (by kernel_rfl) (by kernel_rfl)
   (by rw [MakeChecks.laidMetH_plain _ _ _ (by kernel_rfl)];exact laidMet_laidAll _ (by kernel_rfl) (by kernel_rfl))) ?_
 intro W base args ds gs before hval0 hW _ hSz aq8 _
 have hval:∀ (j:Nat) t v,Tryz.f9.params[j]?=some t→args[j]?=some v→Value.okWide Tryz.prog W .any base t v:=hval0
 have hW':=hW
 obtain ⟨p,q,hA0,hV,rfl,_,_⟩:=hW
 have hA:DataW.TrodAll enc Tryz.prog W 0 (fun _=>true) true Tryz.f9.params.toList args.toList ds p:=hA0
 rw [Tryz.params9] at hA hval
 obtain ⟨v0,d0,rfl,rfl,h0⟩:=trodAll_one hA
 obtain ⟨rfl,rfl⟩:=trodVars_none hV
 obtain ⟨q0,s0,r0⟩:=WI Tryz.underlying59 Tryz.aq6 (hval 0 59 v0 rfl rfl) h0
 obtain ⟨x0,o0,e0⟩:=atP s0
 rw [e0] at r0
 clear hA0 hval0
 simp only [List.append_nil,List.append_assoc] at hW'
 have hlt:∀ x∈p,x.block<W.heap.size:=fun x hx=>by simpa using hW'.lt x hx
 have hln:=ajU r0 h0 (by rw [Tryz.params9];rfl) rfl hSz
 obtain ⟨w0,w1,w2,w3,rfl⟩:=aq7 r0
 refine (Yh aq0 o0 hln r0 (Ku rfl aq8)).mono fun e W' ⟨he,hB⟩=>?_
 subst he
 exact ⟨_,rfl,_,_,_,[],_,[],hW',trodAll_mk1 (shut_bool Tryz.underlying4 _),trodAll_mk1 (Below.trod Tryz.agW (by kernel_rfl) (of_decide_eq_true (by kernel_rfl)) h0 hB (fun x hx=>hlt x hx)),rfl,hB.frame _,fun h=>by cases h⟩
theorem yL:Rows.FailbackEqualsSaid :=
 OpenClaim.holds_of_wide 9 Tryz.f9 rfl rfl rfl rfl rfl rfl rfl ⟨rfl,rfl,rfl,rfl,rfl⟩ rfl rfl rfl rfl rfl (by kernel_rfl) Tryz.func9 (by kernel_rfl)
  (of_decide_eq_true (by kernel_rfl)) (by unfold Func.isWrapper;first|(rw [if_pos (by decide +kernel)];kernel_rfl)|(rw [if_neg (by decide +kernel)];exact ⟨rfl,rfl⟩))
  (fun os started H enc _=>xC os started H enc)
theorem failbackEquals_card_holds:Rows.FailbackEqualsCardSaid :=
 Claim7.holds_tied_plain_at .later [] [.data] true (true,Rows.failbackEqualsCard.stood.harness.2) true yL (fun _ h=>by cases h) (by kernel_rfl) (fun _ h=>by cases h) failbackEquals_row_tie rfl ⟨rfl,rfl⟩ (by kernel_rfl) rfl
  (fun f fn hf hfn=>by
   obtain rfl:f=9:=ZD.inj ((show Tryz.prog.funcNamed "standby/standbylaw48.FailbackEquals"=some 9 by kernel_rfl).symm.trans hf) |>.symm
   obtain rfl:fn=Tryz.f9:=(ZD.inj (Tryz.func9.symm.trans hfn)).symm
   exact ⟨by kernel_rfl,fun j t ht=>by
    rw [Tryz.params9] at ht
    have hm:t∈[59]:=by simpa using Array.mem_of_getElem? ht
    have hall:([59].all fun u=>!Tryz.prog.wantsStandIn u)=true:=by kernel_rfl
    exact (show Tryz.prog.wantsStandIn t=false by simpa using List.all_eq_true.1 hall t hm)⟩)
  (by kernel_rfl)
end Go.Proofs.YtioijcfcehhmdaaGreatDoor
