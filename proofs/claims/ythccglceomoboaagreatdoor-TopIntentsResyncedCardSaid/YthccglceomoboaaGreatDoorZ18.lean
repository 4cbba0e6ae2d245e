/-
  Part 18 of the texts that the statement stands on.
-/
import Derived.Test.YthccglceomoboaaGreatDoorZ17
import Derived.Test.YthccglceomoboaaGreatDoorCards
import Derived.Test.YthccglceomoboaaGreatDoorTie
import Derived.Lay
set_option linter.all false
open Option renaming some → ZS
namespace Go.Proofs.YthccglceomoboaaGreatDoor
open Go.RowKit Go.ChangeShapes Go.WideShapes Go.ChangeAt V
set_option maxRecDepth 100000 in
theorem sG:joinedFacts Tryz.prog 8 Tryz.f8 Rows.topIntentsResyncedSpec Rows.topIntentsResyncedRow=true:=by
 have ha:=wR
 have hb:=wS
 have hc:=wU
 have hd:=wV
 have he:=wW
 have hg:=wY
 unfold joinedFacts
 simp only [Bool.and_eq_true,and_assoc] at ha hg ⊢
 obtain ⟨a1,a2,a3,a4,a5,a6,a7,a8,a9⟩:=ha
 exact ⟨a1,a2,a3,a4,a5,a6,a7,a8,a9,hb,hc,hd,he,hg⟩
theorem uj:Rows.TopIntentsResyncedSaid :=
 OpenClaim.holds_of_wide 8 Tryz.f8 rfl rfl rfl rfl rfl rfl rfl ⟨rfl,rfl,rfl,rfl,rfl⟩ rfl rfl rfl rfl rfl (by kernel_rfl) Tryz.func8 sG
  (of_decide_eq_true (by kernel_rfl)) (by unfold Func.isWrapper;first|(rw [if_pos (by decide +kernel)];kernel_rfl)|(rw [if_neg (by decide +kernel)];exact ⟨rfl,rfl⟩))
  (fun os started H enc _=>sF os started H enc)
theorem topIntentsResynced_card_holds:Rows.TopIntentsResyncedCardSaid :=
 Claim7.holds_tied_plain_at .later [] [.data] true (true,Rows.topIntentsResyncedCard.stood.harness.2) true uj (fun _ h=>by cases h) (by kernel_rfl) (fun _ h=>by cases h) topIntentsResynced_row_tie rfl ⟨rfl,rfl⟩ (by kernel_rfl) rfl
  (fun f fn hf hfn=>by
   obtain rfl:f=8:=ZS.inj ((show Tryz.prog.funcNamed "standby/standbytop.TopIntentsResynced"=some 8 by kernel_rfl).symm.trans hf) |>.symm
   obtain rfl:fn=Tryz.f8:=(ZS.inj (Tryz.func8.symm.trans hfn)).symm
   exact ⟨by kernel_rfl,fun j t ht=>by
    rw [Tryz.params8] at ht
    have hm:t∈[5,5,116]:=by simpa using Array.mem_of_getElem? ht
    have hall:([5,5,116].all fun u=>!Tryz.prog.wantsStandIn u)=true:=by kernel_rfl
    exact (show Tryz.prog.wantsStandIn t=false by simpa using List.all_eq_true.1 hall t hm)⟩)
  (by kernel_rfl)
end Go.Proofs.YthccglceomoboaaGreatDoor
