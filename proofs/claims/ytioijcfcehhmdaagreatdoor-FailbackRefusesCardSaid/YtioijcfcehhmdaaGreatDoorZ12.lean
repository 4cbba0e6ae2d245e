/-
  Part 12 of the texts that the statement stands on.
-/
import Derived.Test.YtioijcfcehhmdaaGreatDoorZ11
import Derived.Test.YtioijcfcehhmdaaGreatDoorCards
import Derived.Test.YtioijcfcehhmdaaGreatDoorTie
import Derived.Lay
set_option linter.all false
namespace Go.Proofs.YtioijcfcehhmdaaGreatDoor
open Go.RowKit Go.ChangeShapes Go.WideShapes Go.ChangeAt V
theorem amS {q:PV} (h:SInt .u8 [q]):∃ n:Int,(0≤n∧n≤255)∧q=.int .u8 n:=by
 obtain ⟨b,rfl⟩:=Wh h
 have:=b.toNat_lt
 exact ⟨_,by omega,rfl⟩
theorem apt {ok:Nat→Prop} {w:World} {o:qK} {v:Value} (h:aC ok w (QS o) v):∃ a b c d,v=.agg #[a,b,c,d]:=by
 rw [Am] at h
 cases h with
 |agg ps arr h1 h2 h3 =>
  have h4:arr.size=4:=h1
  exact ⟨arr[0],arr[1],arr[2],arr[3],by
   congr 1
   apply Array.ext
   ·exact h4
   ·intro i q1 q2
    match i,q2 with
    |0,_=>rfl
    |1,_=>rfl
    |2,_=>rfl
    |3,_=>rfl⟩
set_option maxRecDepth 100000 in
theorem uO (os:Os) (started:os.Started) (H:Type) (enc:TypeId × Value→H) :
  ReturnsInHanded {} Tryz.checked os 6 .any (fun w args=>(Rows.failbackRefusesSpec.pre enc Tryz.prog Tryz.f6 [] false w args∧laidMetH Tryz.prog Rows.failbackRefusesRow.laid w)∧sizedMet enc Tryz.prog Tryz.f6 (OpenSpec.ofChange Rows.failbackRefusesSpec) false w args) (Rows.failbackRefusesSpec.post enc Tryz.prog Tryz.f6 false true false false):=by
 refine returnsInHanded_of_change_and (C:=Tryz.checked) (X:=fun w _=>laidMetH Tryz.prog Rows.failbackRefusesRow.laid w) (fun _ _ _ hh h=>h.of_heap hh) Tryz.adQ started (by kernel_rfl) Tryz.func6
  (ChangeSpec.witness_shaped (enc:=enc) (C:=Tryz.checked) (os:=os) (X:=fun w _=>laidMetH Tryz.prog Rows.failbackRefusesRow.laid w) false (World.laidAll Tryz.prog os Rows.failbackRefusesRow.laid) #[.agg #[.slice none 0 0,.slice none 0 0,.slice none 0 0,.slice none 0 0],.int .u8 0,.int .u8 0] 8 (World.laidAll_os _ _ _)
   (World.shaped_of_ZipB (by kernel_rfl) (by kernel_rfl)) (by kernel_rfl) (by kernel_rfl) (by kernel_rfl)
   (by rw [MakeChecks.laidMetH_plain _ _ _ (by kernel_rfl)];exact laidMet_laidAll _ (by kernel_rfl) (by kernel_rfl))) ?_
 intro W base args ds gs before hval0 hW _ hSz amT _
 have hval:∀ (j:Nat) t v,Tryz.f6.params[j]?=some t→args[j]?=some v→Value.okWide Tryz.prog W .any base t v:=hval0
 have hW':=hW
 obtain ⟨p,q,hA0,hV,rfl,_,_⟩:=hW
 have hA:DataW.TrodAll enc Tryz.prog W 0 (fun _=>true) true Tryz.f6.params.toList args.toList ds p:=hA0
 rw [Tryz.params6] at hA hval
 obtain ⟨v0,v1,v2,d0,d1,d2,p0,p1,p2,rfl,rfl,rfl,h0,h1,h2⟩:=trodAll_three hA
 obtain ⟨rfl,rfl⟩:=trodVars_none hV
 obtain ⟨q0,s0,r0⟩:=SX Tryz.underlying59 Tryz.amR (hval 0 59 v0 rfl rfl) h0
 obtain ⟨x0,o0,e0⟩:=aps s0
 rw [e0] at r0
 obtain ⟨q1,s1,r1⟩:=Vr Tryz.underlying5 Tryz.ajO (hval 1 5 v1 rfl rfl) h1
 obtain ⟨x1,o1,rfl⟩:=amS s1
 obtain ⟨q2,s2,r2⟩:=Vr Tryz.underlying5 Tryz.ajO (hval 2 5 v2 rfl rfl) h2
 obtain ⟨x2,o2,rfl⟩:=amS s2
 clear hA0 hval0
 simp only [List.append_nil,List.append_assoc] at hW'
 have hlt:∀ x∈p0++(p1++p2),x.block<W.heap.size:=fun x hx=>by simpa using hW'.lt x hx
 have hln:=agN r0 h0 (by rw [Tryz.params6];rfl) rfl hSz
 obtain ⟨w0,w1,w2,w3,rfl⟩:=apt r0
 cases r1
 cases r2
 refine (Q5 o0 hln o1 o2 r0 (Hl rfl amT)).mono fun e W' ⟨he,hB⟩=>?_
 subst he
 exact ⟨_,rfl,_,_,_,[],_,[],hW',trodAll_mk1 (shut_bool Tryz.underlying4 _),trodAll_mk3 (Below.trod Tryz.Ho (by kernel_rfl) (of_decide_eq_true (by kernel_rfl)) h0 hB (fun x hx=>hlt x (List.mem_append_left _ hx))) (Below.trod Tryz.Ho (by kernel_rfl) (of_decide_eq_true (by kernel_rfl)) h1 hB (fun x hx=>hlt x (List.mem_append_right _ (List.mem_append_left _ hx)))) (Below.trod Tryz.Ho (by kernel_rfl) (of_decide_eq_true (by kernel_rfl)) h2 hB (fun x hx=>hlt x (List.mem_append_right _ (List.mem_append_right _ hx)))),rfl,hB.frame _,fun h=>by cases h⟩
theorem uY:Rows.FailbackRefusesSaid :=
 OpenClaim.holds_of_wide 6 Tryz.f6 rfl rfl rfl rfl rfl rfl rfl ⟨rfl,rfl,rfl,rfl,rfl⟩ rfl rfl rfl rfl rfl (by kernel_rfl) Tryz.func6 (by kernel_rfl)
  (of_decide_eq_true (by kernel_rfl)) (by unfold Func.isWrapper;first|(rw [if_pos (by decide +kernel)];kernel_rfl)|(rw [if_neg (by decide +kernel)];exact ⟨rfl,rfl⟩))
  (fun os started H enc _=>uO os started H enc)
theorem failbackRefuses_card_holds:Rows.FailbackRefusesCardSaid :=
 Claim7.holds_tied_plain_at .later [] [.data] true (true,Rows.failbackRefusesCard.stood.harness.2) true uY (fun _ h=>by cases h) (by kernel_rfl) (fun _ h=>by cases h) failbackRefuses_row_tie rfl ⟨rfl,rfl⟩ (by kernel_rfl) rfl
  (fun f fn hf hfn=>by
   obtain rfl:f=6:=Option.some.inj ((show Tryz.prog.funcNamed "standby/standbylaw48.FailbackRefuses"=some 6 by kernel_rfl).symm.trans hf) |>.symm
   obtain rfl:fn=Tryz.f6:=(Option.some.inj (Tryz.func6.symm.trans hfn)).symm
   exact ⟨by kernel_rfl,fun j t ht=>by
    rw [Tryz.params6] at ht
    have hm:t∈[59,5,5]:=by simpa using Array.mem_of_getElem? ht
    have hall:([59,5,5].all fun u=>!Tryz.prog.wantsStandIn u)=true:=by kernel_rfl
    exact (show Tryz.prog.wantsStandIn t=false by simpa using List.all_eq_true.1 hall t hm)⟩)
  (by kernel_rfl)
end Go.Proofs.YtioijcfcehhmdaaGreatDoor
