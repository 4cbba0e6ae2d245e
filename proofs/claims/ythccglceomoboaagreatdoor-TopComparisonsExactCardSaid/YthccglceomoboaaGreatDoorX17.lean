/-
  Part 17 of the texts that the statement stands on.
-/
import Derived.Test.YthccglceomoboaaGreatDoorX16
import Derived.Test.YthccglceomoboaaGreatDoorCards
import Derived.Test.YthccglceomoboaaGreatDoorTie
import Derived.Lay
set_option linter.all false
open Option renaming some → ZS
namespace Go.Proofs.YthccglceomoboaaGreatDoor
open Go.RowKit Go.ChangeShapes Go.WideShapes Go.ChangeAt V
set_option maxRecDepth 100000 in
theorem qC:joinedFacts Tryz.prog 6 Tryz.f6 Rows.topComparisonsExactSpec Rows.topComparisonsExactRow=true:=by
 have ha:=uI
 have hb:=uJ
 have hc:=uK
 have hd:=uM
 have he:=uN
 have hg:=uO
 unfold joinedFacts
 simp only [Bool.and_eq_true,and_assoc] at ha hg ⊢
 obtain ⟨a1,a2,a3,a4,a5,a6,a7,a8,a9⟩:=ha
 exact ⟨a1,a2,a3,a4,a5,a6,a7,a8,a9,hb,hc,hd,he,hg⟩
theorem qJ:Rows.TopComparisonsExactSaid :=
 OpenClaim.holds_of_wide 6 Tryz.f6 rfl rfl rfl rfl rfl rfl rfl ⟨rfl,rfl,rfl,rfl,rfl⟩ rfl rfl rfl rfl rfl (by kernel_rfl) Tryz.func6 qC
  (of_decide_eq_true (by kernel_rfl)) (by unfold Func.isWrapper;first|(rw [if_pos (by decide +kernel)];kernel_rfl)|(rw [if_neg (by decide +kernel)];exact ⟨rfl,rfl⟩))
  (fun os started H enc _=>qB os started H enc)
theorem topComparisonsExact_card_holds:Rows.TopComparisonsExactCardSaid :=
 Claim7.holds_tied_plain_at .later [] [.data] true (true,Rows.topComparisonsExactCard.stood.harness.2) true qJ (fun _ h=>by cases h) (by kernel_rfl) (fun _ h=>by cases h) topComparisonsExact_row_tie rfl ⟨rfl,rfl⟩ (by kernel_rfl) rfl
  (fun f fn hf hfn=>by
   obtain rfl:f=6:=ZS.inj ((show Tryz.prog.funcNamed "standby/standbytop.TopComparisonsExact"=some 6 by kernel_rfl).symm.trans hf) |>.symm
   obtain rfl:fn=Tryz.f6:=(ZS.inj (Tryz.func6.symm.trans hfn)).symm
   exact ⟨by kernel_rfl,fun j t ht=>by
    rw [Tryz.params6] at ht
    have hm:t∈[71,22,5]:=by simpa using Array.mem_of_getElem? ht
    have hall:([71,22,5].all fun u=>!Tryz.prog.wantsStandIn u)=true:=by kernel_rfl
    exact (show Tryz.prog.wantsStandIn t=false by simpa using List.all_eq_true.1 hall t hm)⟩)
  (by kernel_rfl)
end Go.Proofs.YthccglceomoboaaGreatDoor
