/-
  Part 17 of the texts that the statement stands on.
-/
import Derived.Test.YthccglceomoboaaGreatDoorW16
import Derived.Test.YthccglceomoboaaGreatDoorCards
import Derived.Test.YthccglceomoboaaGreatDoorTie
import Derived.Lay
set_option linter.all false
open Option renaming some → ZD
namespace Go.Proofs.YthccglceomoboaaGreatDoor
open Go.RowKit Go.ChangeShapes Go.WideShapes Go.ChangeAt V
set_option maxRecDepth 100000 in
theorem sJ:joinedFacts Tryz.prog 7 Tryz.f7 Rows.topIntentsCleanedSpec Rows.topIntentsCleanedRow=true:=by
 have ha:=xw
 have hb:=xA
 have hc:=xB
 have hd:=xC
 have he:=xE
 have hg:=xG
 unfold joinedFacts
 simp only [Bool.and_eq_true,and_assoc] at ha hg ⊢
 obtain ⟨a1,a2,a3,a4,a5,a6,a7,a8,a9⟩:=ha
 exact ⟨a1,a2,a3,a4,a5,a6,a7,a8,a9,hb,hc,hd,he,hg⟩
theorem uf:Rows.TopIntentsCleanedSaid :=
 OpenClaim.holds_of_wide 7 Tryz.f7 rfl rfl rfl rfl rfl rfl rfl ⟨rfl,rfl,rfl,rfl,rfl⟩ rfl rfl rfl rfl rfl (by kernel_rfl) Tryz.func7 sJ
  (of_decide_eq_true (by kernel_rfl)) (by unfold Func.isWrapper;first|(rw [if_pos (by decide +kernel)];kernel_rfl)|(rw [if_neg (by decide +kernel)];exact ⟨rfl,rfl⟩))
  (fun os started H enc _=>sH os started H enc)
theorem topIntentsCleaned_card_holds:Rows.TopIntentsCleanedCardSaid :=
 Claim7.holds_tied_plain_at .later [] [.data] true (true,Rows.topIntentsCleanedCard.stood.harness.2) true uf (fun _ h=>by cases h) (by kernel_rfl) (fun _ h=>by cases h) topIntentsCleaned_row_tie rfl ⟨rfl,rfl⟩ (by kernel_rfl) rfl
  (fun f fn hf hfn=>by
   obtain rfl:f=7:=ZD.inj ((show Tryz.prog.funcNamed "standby/standbytop.TopIntentsCleaned"=some 7 by kernel_rfl).symm.trans hf) |>.symm
   obtain rfl:fn=Tryz.f7:=(ZD.inj (Tryz.func7.symm.trans hfn)).symm
   exact ⟨by kernel_rfl,fun j t ht=>by
    rw [Tryz.params7] at ht
    have hm:t∈[5,5,116]:=by simpa using Array.mem_of_getElem? ht
    have hall:([5,5,116].all fun u=>!Tryz.prog.wantsStandIn u)=true:=by kernel_rfl
    exact (show Tryz.prog.wantsStandIn t=false by simpa using List.all_eq_true.1 hall t hm)⟩)
  (by kernel_rfl)
end Go.Proofs.YthccglceomoboaaGreatDoor
