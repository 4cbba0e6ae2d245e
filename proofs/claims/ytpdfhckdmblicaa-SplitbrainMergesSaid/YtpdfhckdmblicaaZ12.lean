/-
  Part 12 of the texts that the statement stands on.
-/
import Derived.Test.YtpdfhckdmblicaaZ11
set_option linter.all false
namespace Go.Proofs.Ytpdfhckdmblicaa
open Go.RowKit Go.ChangeShapes Go.WideShapes Go.ChangeAt V
set_option maxRecDepth 100000 in
theorem splitbrainMerges_lifted (os:Os) (started:os.Started) (H:Type) (enc:TypeId × Value→H) :
  ReturnsInHanded {} Try.checked os 5 .any (Rows.splitbrainMergesSpec.pre6 enc Try.prog Try.f5 Rows.splitbrainMergesRow.domain false) (Rows.splitbrainMergesSpec.post enc Try.prog Try.f5 false true false false):=by
 refine returnsInHanded_of_change (C:=Try.checked) Try.ownKnobV started (by kernel_rfl) Try.func5
  (ChangeSpec.witness6 (enc:=enc) (C:=Try.checked) false ⟨#[],#[.slice none 0 0,.slice none 0 0,.slice none 0 0],[]⟩ 8 (by kernel_rfl) (by kernel_rfl) (by kernel_rfl) (by kernel_rfl)) ?_
 intro W base args ds gs before hval0 hW _ _
 have hval:∀ (j:Nat) t v,Try.f5.params[j]?=some t→args[j]?=some v→Value.okWide Try.prog W .any base t v:=hval0
 have hW':=hW
 obtain ⟨p,q,hA0,hV,rfl,_,_⟩:=hW
 have hA:DataW.TrodAll enc Try.prog W 0 (fun _=>true) true Try.f5.params.toList args.toList ds p:=hA0
 rw [Try.params5] at hA hval
 obtain ⟨v0,v1,v2,d0,d1,d2,p0,p1,p2,rfl,rfl,rfl,h0,h1,h2⟩:=trodAll_three hA
 obtain ⟨rfl,rfl⟩:=trodVars_none hV
 obtain ⟨q0,s0,r0⟩:=arg_slice Try.underlying48 Try.rdImg (hval 0 48 v0 rfl rfl) h0
 obtain ⟨x0,rfl⟩:=simg s0
 obtain ⟨q1,s1,r1⟩:=arg_slice Try.underlying48 Try.rdImg (hval 1 48 v1 rfl rfl) h1
 obtain ⟨x1,rfl⟩:=simg s1
 obtain ⟨q2,s2,r2⟩:=arg_slice Try.underlying48 Try.rdImg (hval 2 48 v2 rfl rfl) h2
 obtain ⟨x2,rfl⟩:=simg s2
 clear hA0 hval0
 simp only [List.append_nil,List.append_assoc] at hW'
 have hlt:∀ x∈p0++(p1++p2),x.block<W.heap.size:=fun x hx=>by simpa using hW'.lt x hx
 refine (calls_all (vs:=[v0,v1,v2]) envOk1 (calMerges ) ⟨r0,r1,r2,trivial⟩).mono fun e W' ⟨he,hB⟩=>?_
 subst he
 exact ⟨_,rfl,_,_,_,[],_,[],hW',trodAll_mk1 (shut_bool Try.underlying4 _),trodAll_mk3 (Below.trod Try.laidOutV (by kernel_rfl) (of_decide_eq_true (by kernel_rfl)) h0 hB (fun x hx=>hlt x (List.mem_append_left _ hx))) (Below.trod Try.laidOutV (by kernel_rfl) (of_decide_eq_true (by kernel_rfl)) h1 hB (fun x hx=>hlt x (List.mem_append_right _ (List.mem_append_left _ hx)))) (Below.trod Try.laidOutV (by kernel_rfl) (of_decide_eq_true (by kernel_rfl)) h2 hB (fun x hx=>hlt x (List.mem_append_right _ (List.mem_append_right _ hx)))),rfl,hB.frame _,fun h=>by cases h⟩
theorem splitbrainMerges_holds:Rows.SplitbrainMergesSaid :=
 OpenClaim.holds_of_wide 5 Try.f5 rfl rfl rfl rfl rfl rfl rfl ⟨rfl,rfl,rfl,rfl,rfl⟩ rfl rfl rfl rfl rfl (by kernel_rfl) Try.func5 (by kernel_rfl)
  (of_decide_eq_true (by kernel_rfl)) (by unfold Func.isWrapper;first|(rw [if_pos (by decide +kernel)];kernel_rfl)|(rw [if_neg (by decide +kernel)];exact ⟨rfl,rfl⟩))
  (fun os started H enc _=>splitbrainMerges_lifted os started H enc)
end Go.Proofs.Ytpdfhckdmblicaa
