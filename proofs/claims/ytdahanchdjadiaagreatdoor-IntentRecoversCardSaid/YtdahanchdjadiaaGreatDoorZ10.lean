/-
  Part 10 of the texts that the statement stands on.
-/
import Derived.Test.YtdahanchdjadiaaGreatDoorZ9
import Derived.Test.YtdahanchdjadiaaGreatDoorRows
import Derived.Lib.LaidTab
import Derived.LaidByTextLater
set_option linter.all false
namespace Go.Proofs.YtdahanchdjadiaaGreatDoor

def Ok1 (P : Program) (f : Nat) : VDef → Prop
  | .code fn => fnOk P f fn = true
  | .ext g => ∀ args rs, g args = some rs → callable P f = true ∧ CallOk P f args rs
  | .srt h => callable P f = true ∧ SortOk P f h
theorem ok4 : Ok1 Tryz.prog 4 (.code fn4) := (by kernel_rfl : fnOk Tryz.prog 4 fn4 = true)
theorem ok6 : Ok1 Tryz.prog 6 (.code fn6) := (by kernel_rfl : fnOk Tryz.prog 6 fn6 = true)
theorem ok7 : Ok1 Tryz.prog 7 (.code fn7) := (by kernel_rfl : fnOk Tryz.prog 7 fn7 = true)
theorem ok9 : Ok1 Tryz.prog 9 (.code fn9) := (by kernel_rfl : fnOk Tryz.prog 9 fn9 = true)
theorem ok10 : Ok1 Tryz.prog 10 (.code fn10) := (by kernel_rfl : fnOk Tryz.prog 10 fn10 = true)
theorem ok12 : Ok1 Tryz.prog 12 (.code fn12) := (by kernel_rfl : fnOk Tryz.prog 12 fn12 = true)
theorem ok14 : Ok1 Tryz.prog 14 (.code fn14) := (by kernel_rfl : fnOk Tryz.prog 14 fn14 = true)
theorem ok16 : Ok1 Tryz.prog 16 (.code fn16) := (by kernel_rfl : fnOk Tryz.prog 16 fn16 = true)
theorem ok17 : Ok1 Tryz.prog 17 (.code fn17) := (by kernel_rfl : fnOk Tryz.prog 17 fn17 = true)
theorem ok18 : Ok1 Tryz.prog 18 (.code fn18) := (by kernel_rfl : fnOk Tryz.prog 18 fn18 = true)
theorem ok19 : Ok1 Tryz.prog 19 (.code fn19) := (by kernel_rfl : fnOk Tryz.prog 19 fn19 = true)
theorem ok20 : Ok1 Tryz.prog 20 (.code fn20) := (by kernel_rfl : fnOk Tryz.prog 20 fn20 = true)
theorem ok21 : Ok1 Tryz.prog 21 (.code fn21) := (by kernel_rfl : fnOk Tryz.prog 21 fn21 = true)
theorem ok22 : Ok1 Tryz.prog 22 (.code fn22) := (by kernel_rfl : fnOk Tryz.prog 22 fn22 = true)
theorem ok23 : Ok1 Tryz.prog 23 (.code fn23) := (by kernel_rfl : fnOk Tryz.prog 23 fn23 = true)
theorem ok24 : Ok1 Tryz.prog 24 (.code fn24) := (by kernel_rfl : fnOk Tryz.prog 24 fn24 = true)
theorem ok25 : Ok1 Tryz.prog 25 (.code fn25) := (by kernel_rfl : fnOk Tryz.prog 25 fn25 = true)
theorem ok26 : Ok1 Tryz.prog 26 (.code fn26) := (by kernel_rfl : fnOk Tryz.prog 26 fn26 = true)
theorem ok29 : Ok1 Tryz.prog 29 (.code fn29) := (by kernel_rfl : fnOk Tryz.prog 29 fn29 = true)
theorem ok30 : Ok1 Tryz.prog 30 (.code fn30) := (by kernel_rfl : fnOk Tryz.prog 30 fn30 = true)
theorem ok31 : Ok1 Tryz.prog 31 (.code fn31) := (by kernel_rfl : fnOk Tryz.prog 31 fn31 = true)
theorem ok32 : Ok1 Tryz.prog 32 (.code fn32) := (by kernel_rfl : fnOk Tryz.prog 32 fn32 = true)
theorem ok33 : Ok1 Tryz.prog 33 (.code fn33) := (by kernel_rfl : fnOk Tryz.prog 33 fn33 = true)
theorem ok34 : Ok1 Tryz.prog 34 (.code fn34) := (by kernel_rfl : fnOk Tryz.prog 34 fn34 = true)
theorem ok35 : Ok1 Tryz.prog 35 (.code fn35) := (by kernel_rfl : fnOk Tryz.prog 35 fn35 = true)
theorem ok36 : Ok1 Tryz.prog 36 (.code fn36) := (by kernel_rfl : fnOk Tryz.prog 36 fn36 = true)
theorem ok37 : Ok1 Tryz.prog 37 (.code fn37) := (by kernel_rfl : fnOk Tryz.prog 37 fn37 = true)
theorem ok38 : Ok1 Tryz.prog 38 (.ext (cloneX 1)) := clone38_ok
theorem ok39 : Ok1 Tryz.prog 39 (.code fn39) := (by kernel_rfl : fnOk Tryz.prog 39 fn39 = true)
theorem ok41 : Ok1 Tryz.prog 41 (.code fn41) := (by kernel_rfl : fnOk Tryz.prog 41 fn41 = true)
theorem ok42 : Ok1 Tryz.prog 42 (.code fn42) := (by kernel_rfl : fnOk Tryz.prog 42 fn42 = true)
theorem ok43 : Ok1 Tryz.prog 43 (.code fn43) := (by kernel_rfl : fnOk Tryz.prog 43 fn43 = true)
theorem ok44 : Ok1 Tryz.prog 44 (.code fn44) := (by kernel_rfl : fnOk Tryz.prog 44 fn44 = true)
theorem ok45 : Ok1 Tryz.prog 45 (.code fn45) := (by kernel_rfl : fnOk Tryz.prog 45 fn45 = true)
theorem ok46 : Ok1 Tryz.prog 46 (.code fn46) := (by kernel_rfl : fnOk Tryz.prog 46 fn46 = true)
theorem ok47 : Ok1 Tryz.prog 47 (.code fn47) := (by kernel_rfl : fnOk Tryz.prog 47 fn47 = true)
theorem ok48 : Ok1 Tryz.prog 48 (.code fn48) := (by kernel_rfl : fnOk Tryz.prog 48 fn48 = true)
theorem ok49 : Ok1 Tryz.prog 49 (.code fn49) := (by kernel_rfl : fnOk Tryz.prog 49 fn49 = true)
theorem ok50 : Ok1 Tryz.prog 50 (.code fn50) := (by kernel_rfl : fnOk Tryz.prog 50 fn50 = true)
theorem ok51 : Ok1 Tryz.prog 51 (.code fn51) := (by kernel_rfl : fnOk Tryz.prog 51 fn51 = true)
theorem ok52 : Ok1 Tryz.prog 52 (.code fn52) := (by kernel_rfl : fnOk Tryz.prog 52 fn52 = true)
theorem ok53 : Ok1 Tryz.prog 53 (.code fn53) := (by kernel_rfl : fnOk Tryz.prog 53 fn53 = true)
theorem ok54 : Ok1 Tryz.prog 54 (.code fn54) := (by kernel_rfl : fnOk Tryz.prog 54 fn54 = true)
theorem ok55 : Ok1 Tryz.prog 55 (.code fn55) := (by kernel_rfl : fnOk Tryz.prog 55 fn55 = true)
theorem ok56 : Ok1 Tryz.prog 56 (.code fn56) := (by kernel_rfl : fnOk Tryz.prog 56 fn56 = true)
theorem ok57 : Ok1 Tryz.prog 57 (.code fn57) := (by kernel_rfl : fnOk Tryz.prog 57 fn57 = true)
theorem ok58 : Ok1 Tryz.prog 58 (.code fn58) := (by kernel_rfl : fnOk Tryz.prog 58 fn58 = true)
theorem ok59 : Ok1 Tryz.prog 59 (.code fn59) := (by kernel_rfl : fnOk Tryz.prog 59 fn59 = true)
theorem ok60 : Ok1 Tryz.prog 60 (.code fn60) := (by kernel_rfl : fnOk Tryz.prog 60 fn60 = true)
theorem ok61 : Ok1 Tryz.prog 61 (.code fn61) := (by kernel_rfl : fnOk Tryz.prog 61 fn61 = true)
theorem ok62 : Ok1 Tryz.prog 62 (.code fn62) := (by kernel_rfl : fnOk Tryz.prog 62 fn62 = true)
theorem ok63 : Ok1 Tryz.prog 63 (.code fn63) := (by kernel_rfl : fnOk Tryz.prog 63 fn63 = true)
theorem ok64 : Ok1 Tryz.prog 64 (.code fn64) := (by kernel_rfl : fnOk Tryz.prog 64 fn64 = true)
theorem ok65 : Ok1 Tryz.prog 65 (.code fn65) := (by kernel_rfl : fnOk Tryz.prog 65 fn65 = true)
theorem ok66 : Ok1 Tryz.prog 66 (.code fn66) := (by kernel_rfl : fnOk Tryz.prog 66 fn66 = true)
theorem ok67 : Ok1 Tryz.prog 67 (.code fn67) := (by kernel_rfl : fnOk Tryz.prog 67 fn67 = true)
theorem ok68 : Ok1 Tryz.prog 68 (.code fn68) := (by kernel_rfl : fnOk Tryz.prog 68 fn68 = true)
theorem ok69 : Ok1 Tryz.prog 69 (.code fn69) := (by kernel_rfl : fnOk Tryz.prog 69 fn69 = true)
theorem ok70 : Ok1 Tryz.prog 70 (.code fn70) := (by kernel_rfl : fnOk Tryz.prog 70 fn70 = true)
theorem ok71 : Ok1 Tryz.prog 71 (.code fn71) := (by kernel_rfl : fnOk Tryz.prog 71 fn71 = true)
theorem ok72 : Ok1 Tryz.prog 72 (.code fn72) := (by kernel_rfl : fnOk Tryz.prog 72 fn72 = true)
theorem ok73 : Ok1 Tryz.prog 73 (.code fn73) := (by kernel_rfl : fnOk Tryz.prog 73 fn73 = true)
theorem ok74 : Ok1 Tryz.prog 74 (.code fn74) := (by kernel_rfl : fnOk Tryz.prog 74 fn74 = true)
theorem ok75 : Ok1 Tryz.prog 75 (.code fn75) := (by kernel_rfl : fnOk Tryz.prog 75 fn75 = true)
theorem ok76 : Ok1 Tryz.prog 76 (.ext (cloneX 1)) := clone76_ok
theorem ok77 : Ok1 Tryz.prog 77 (.code fn77) := (by kernel_rfl : fnOk Tryz.prog 77 fn77 = true)
theorem ok78 : Ok1 Tryz.prog 78 (.code fn78) := (by kernel_rfl : fnOk Tryz.prog 78 fn78 = true)
theorem ok79 : Ok1 Tryz.prog 79 (.code fn79) := (by kernel_rfl : fnOk Tryz.prog 79 fn79 = true)
theorem ok80 : Ok1 Tryz.prog 80 (.code fn80) := (by kernel_rfl : fnOk Tryz.prog 80 fn80 = true)
theorem ok81 : Ok1 Tryz.prog 81 (.ext (cloneX 1)) := clone81_ok
theorem ok82 : Ok1 Tryz.prog 82 (.code fn82) := (by kernel_rfl : fnOk Tryz.prog 82 fn82 = true)
theorem ok83 : Ok1 Tryz.prog 83 (.code fn83) := (by kernel_rfl : fnOk Tryz.prog 83 fn83 = true)
theorem ok84 : Ok1 Tryz.prog 84 (.code fn84) := (by kernel_rfl : fnOk Tryz.prog 84 fn84 = true)
theorem ok85 : Ok1 Tryz.prog 85 (.code fn85) := (by kernel_rfl : fnOk Tryz.prog 85 fn85 = true)
theorem ok86 : Ok1 Tryz.prog 86 (.code fn86) := (by kernel_rfl : fnOk Tryz.prog 86 fn86 = true)
theorem ok87 : Ok1 Tryz.prog 87 (.code fn87) := (by kernel_rfl : fnOk Tryz.prog 87 fn87 = true)
theorem ok88 : Ok1 Tryz.prog 88 (.code fn88) := (by kernel_rfl : fnOk Tryz.prog 88 fn88 = true)
theorem ok89 : Ok1 Tryz.prog 89 (.code fn89) := (by kernel_rfl : fnOk Tryz.prog 89 fn89 = true)
theorem ok90 : Ok1 Tryz.prog 90 (.code fn90) := (by kernel_rfl : fnOk Tryz.prog 90 fn90 = true)
theorem ok91 : Ok1 Tryz.prog 91 (.code fn91) := (by kernel_rfl : fnOk Tryz.prog 91 fn91 = true)
theorem ok92 : Ok1 Tryz.prog 92 (.code fn92) := (by kernel_rfl : fnOk Tryz.prog 92 fn92 = true)
theorem ok93 : Ok1 Tryz.prog 93 (.code fn93) := (by kernel_rfl : fnOk Tryz.prog 93 fn93 = true)
theorem ok94 : Ok1 Tryz.prog 94 (.ext tzX) := tz_ok
theorem ok95 : Ok1 Tryz.prog 95 (.code fn95) := (by kernel_rfl : fnOk Tryz.prog 95 fn95 = true)
theorem ok96 : Ok1 Tryz.prog 96 (.srt (sortEndsX 97)) := sortEnds_ok
theorem ok97 : Ok1 Tryz.prog 97 (.code fn97) := (by kernel_rfl : fnOk Tryz.prog 97 fn97 = true)
theorem ok98 : Ok1 Tryz.prog 98 (.code fn98) := (by kernel_rfl : fnOk Tryz.prog 98 fn98 = true)
theorem ok101 : Ok1 Tryz.prog 101 (.code fn101) := (by kernel_rfl : fnOk Tryz.prog 101 fn101 = true)
theorem tabOk : ∀ p ∈ tab, Ok1 Tryz.prog p.1 p.2 := by
  unfold tab
  exact List.forall_mem_cons.2 ⟨ok4, List.forall_mem_cons.2 ⟨ok6, List.forall_mem_cons.2 ⟨ok7, List.forall_mem_cons.2 ⟨ok9, List.forall_mem_cons.2 ⟨ok10, List.forall_mem_cons.2 ⟨ok12, List.forall_mem_cons.2 ⟨ok14, List.forall_mem_cons.2 ⟨ok16, List.forall_mem_cons.2 ⟨ok17, List.forall_mem_cons.2 ⟨ok18, List.forall_mem_cons.2 ⟨ok19, List.forall_mem_cons.2 ⟨ok20, List.forall_mem_cons.2 ⟨ok21, List.forall_mem_cons.2 ⟨ok22, List.forall_mem_cons.2 ⟨ok23, List.forall_mem_cons.2 ⟨ok24, List.forall_mem_cons.2 ⟨ok25, List.forall_mem_cons.2 ⟨ok26, List.forall_mem_cons.2 ⟨ok29, List.forall_mem_cons.2 ⟨ok30, List.forall_mem_cons.2 ⟨ok31, List.forall_mem_cons.2 ⟨ok32, List.forall_mem_cons.2 ⟨ok33, List.forall_mem_cons.2 ⟨ok34, List.forall_mem_cons.2 ⟨ok35, List.forall_mem_cons.2 ⟨ok36, List.forall_mem_cons.2 ⟨ok37, List.forall_mem_cons.2 ⟨ok38, List.forall_mem_cons.2 ⟨ok39, List.forall_mem_cons.2 ⟨ok41, List.forall_mem_cons.2 ⟨ok42, List.forall_mem_cons.2 ⟨ok43, List.forall_mem_cons.2 ⟨ok44, List.forall_mem_cons.2 ⟨ok45, List.forall_mem_cons.2 ⟨ok46, List.forall_mem_cons.2 ⟨ok47, List.forall_mem_cons.2 ⟨ok48, List.forall_mem_cons.2 ⟨ok49, List.forall_mem_cons.2 ⟨ok50, List.forall_mem_cons.2 ⟨ok51, List.forall_mem_cons.2 ⟨ok52, List.forall_mem_cons.2 ⟨ok53, List.forall_mem_cons.2 ⟨ok54, List.forall_mem_cons.2 ⟨ok55, List.forall_mem_cons.2 ⟨ok56, List.forall_mem_cons.2 ⟨ok57, List.forall_mem_cons.2 ⟨ok58, List.forall_mem_cons.2 ⟨ok59, List.forall_mem_cons.2 ⟨ok60, List.forall_mem_cons.2 ⟨ok61, List.forall_mem_cons.2 ⟨ok62, List.forall_mem_cons.2 ⟨ok63, List.forall_mem_cons.2 ⟨ok64, List.forall_mem_cons.2 ⟨ok65, List.forall_mem_cons.2 ⟨ok66, List.forall_mem_cons.2 ⟨ok67, List.forall_mem_cons.2 ⟨ok68, List.forall_mem_cons.2 ⟨ok69, List.forall_mem_cons.2 ⟨ok70, List.forall_mem_cons.2 ⟨ok71, List.forall_mem_cons.2 ⟨ok72, List.forall_mem_cons.2 ⟨ok73, List.forall_mem_cons.2 ⟨ok74, List.forall_mem_cons.2 ⟨ok75, List.forall_mem_cons.2 ⟨ok76, List.forall_mem_cons.2 ⟨ok77, List.forall_mem_cons.2 ⟨ok78, List.forall_mem_cons.2 ⟨ok79, List.forall_mem_cons.2 ⟨ok80, List.forall_mem_cons.2 ⟨ok81, List.forall_mem_cons.2 ⟨ok82, List.forall_mem_cons.2 ⟨ok83, List.forall_mem_cons.2 ⟨ok84, List.forall_mem_cons.2 ⟨ok85, List.forall_mem_cons.2 ⟨ok86, List.forall_mem_cons.2 ⟨ok87, List.forall_mem_cons.2 ⟨ok88, List.forall_mem_cons.2 ⟨ok89, List.forall_mem_cons.2 ⟨ok90, List.forall_mem_cons.2 ⟨ok91, List.forall_mem_cons.2 ⟨ok92, List.forall_mem_cons.2 ⟨ok93, List.forall_mem_cons.2 ⟨ok94, List.forall_mem_cons.2 ⟨ok95, List.forall_mem_cons.2 ⟨ok96, List.forall_mem_cons.2 ⟨ok97, List.forall_mem_cons.2 ⟨ok98, List.forall_mem_cons.2 ⟨ok101, fun p hp => by cases hp⟩⟩⟩⟩⟩⟩⟩⟩⟩⟩⟩⟩⟩⟩⟩⟩⟩⟩⟩⟩⟩⟩⟩⟩⟩⟩⟩⟩⟩⟩⟩⟩⟩⟩⟩⟩⟩⟩⟩⟩⟩⟩⟩⟩⟩⟩⟩⟩⟩⟩⟩⟩⟩⟩⟩⟩⟩⟩⟩⟩⟩⟩⟩⟩⟩⟩⟩⟩⟩⟩⟩⟩⟩⟩⟩⟩⟩⟩⟩⟩⟩⟩⟩⟩⟩⟩⟩⟩
theorem lookup_mem : ∀ {l : List (Nat × VDef)} {f : Nat} {d : VDef}, l.lookup f = some d → (f, d) ∈ l
  | (k, v) :: l, f, d, h => by
    rw [List.lookup_cons] at h
    split at h
    · rename_i e
      have e : f = k := by simpa using e
      cases h; subst e; simp
    · exact List.mem_cons_of_mem _ (lookup_mem h)
theorem envOk : EnvOk Tryz.prog env := fun f d h => by
  have := tabOk _ (lookup_mem h)
  cases d <;> exact this
end Go.Proofs.YtdahanchdjadiaaGreatDoor

namespace Go.Proofs.YtdahanchdjadiaaGreatDoor
open Go.RowKit
theorem laidTabEq : (Rows.laid_math_bits_deBruijn64tab : DataW Unit) = Lib.tabData .u8 (Lib.deBruijn64tab.map Int.ofNat) := by kernel_rfl
theorem tabG : Tryz.prog.globalNamed "math/bits.deBruijn64tab" = some 0 := by kernel_rfl
theorem globIn_of_laid {w : World} {l : List (String × DataW Unit)} (hl : l = [("math/bits.deBruijn64tab", Rows.laid_math_bits_deBruijn64tab)]) (h : laidMetH Tryz.prog l w) : GlobIn w := by
  subst hl
  rw [MakeChecks.laidMetH_plain _ _ _ (by kernel_rfl), laidTabEq] at h
  have ht : Lib.TabIs Tryz.prog w "math/bits.deBruijn64tab" .u8 (Lib.deBruijn64tab.map Int.ofNat) :=
    Lib.tabIs_of_head (t := 149) (e := 5) (n := 64) tabG (by kernel_rfl) (by kernel_rfl) (by kernel_rfl) (by kernel_rfl) (by kernel_rfl) h
  have hc : ∀ i, i < 64 → w.cell? ⟨0, i, none⟩ = some (.int .u8 ((Lib.deBruijn64tab.map Int.ofNat).getD i 0)) := fun i hi => ht.cell tabG i (by simpa [Lib.deBruijn64tab] using hi)
  have hC : Cellish w 0 := cellish_of (hc 0 (by decide))
  intro p hp
  obtain rfl : p = _ := List.mem_singleton.1 hp
  refine .iptr _ 0 _ 0 (fun i => .int .u8 ((Lib.deBruijn64tab.map Int.ofNat).getD i 0)) (if_pos hC.lt) hC (fun k x hk => ?_) (fun k x hk => ?_)
  · have hk' := (List.getElem?_eq_some_iff.1 hk).1
    rw [Nat.zero_add]
    exact ⟨hc k (by simpa [Lib.deBruijn64tab] using hk'), rfl⟩
  · simp only [List.getElem?_map] at hk
    cases e : Lib.deBruijn64tab[k]? with
    | none => rw [e] at hk; cases hk
    | some n =>
      rw [e] at hk; cases hk
      have : (Lib.deBruijn64tab.map Int.ofNat).getD k 0 = (n : Int) := by simp [List.getD_eq_getElem?_getD, e]
      rw [this]
      exact .int _ _
end Go.Proofs.YtdahanchdjadiaaGreatDoor

namespace Go.Proofs.YtdahanchdjadiaaGreatDoor.V
open Go.RowKit Go.ChangeShapes Go.WideShapes Go.ChangeAt

theorem Tryz.ownKnobV : ownKnob Tryz.prog.godebug = none := by kernel_rfl
theorem Tryz.laidOutV : laidOutB Tryz.prog = true := by kernel_rfl
def okI (n : Int) : Prop := -9223372036854775808 ≤ n ∧ n ≤ 9223372036854775807
theorem sint_i64 {q : PV} (h : SInt .i64 [q]) : ∃ n, okI n ∧ q = eI n := by
  obtain ⟨n, h1, h2⟩ := h
  have h3 : IntKind.i64.min = -9223372036854775808 := rfl
  have h4 : IntKind.i64.max = 9223372036854775807 := rfl
  simp only [Lit.wf, Bool.and_eq_true, decide_eq_true_eq] at h1
  cases h2
  exact ⟨n, ⟨by omega, by omega⟩, rfl⟩
theorem sint_u8 {q : PV} (h : SInt .u8 [q]) : ∃ b : UInt8, q = .int .u8 (b.toNat : Int) := by
  obtain ⟨n, h1, h2⟩ := h
  have h3 : IntKind.u8.min = 0 := rfl
  have h4 : IntKind.u8.max = 255 := rfl
  simp only [Lit.wf, Bool.and_eq_true, decide_eq_true_eq] at h1
  cases h2
  refine ⟨UInt8.ofNat n.toNat, ?_⟩
  rw [UInt8.toNat_ofNat_of_lt' (show n.toNat < 2 ^ 8 by omega)]
  congr 1; omega
theorem slist {α : Type} {n : Nat} {S : List PV → Prop} {wr : List PV → PV} {enc : α → PV} {ok : α → Prop} (hS : ∀ ps, S ps → ∃ a, ok a ∧ wr ps = enc a) {q : PV} (h : SList n S wr [q]) : ∃ l : List α, (∀ a ∈ l, ok a) ∧ q = .list n (l.map enc) := by
  obtain ⟨es, h1, h2⟩ := h
  cases h1
  have : ∀ es : List PV, (∀ x ∈ es, ∃ q, S q ∧ x = wr q) → ∃ l : List α, (∀ a ∈ l, ok a) ∧ es = l.map enc := by
    intro es
    induction es with
    | nil => exact fun _ => ⟨[], by simp, rfl⟩
    | cons e es ih =>
      intro h
      obtain ⟨q, h3, h4⟩ := h e (by simp)
      obtain ⟨a, h5, h6⟩ := hS q h3
      obtain ⟨l, h7, h8⟩ := ih fun x hx => h x (by simp [hx])
      exact ⟨a :: l, by simp; exact ⟨h5, h7⟩, by rw [h4, h6, h8]; rfl⟩
  obtain ⟨l, h3, h4⟩ := this es h2
  exact ⟨l, h3, by rw [h4]⟩
theorem wr_int {k : IntKind} {ps : List PV} (h : SInt k ps) : (wrS ps).cells = ps := by
  obtain ⟨n, _, rfl⟩ := h; rfl
theorem Tryz.rdInt : RdsC Tryz.prog 3 1 (SInt .i64) := RdsC.int Tryz.underlying3 (by kernel_rfl)
end Go.Proofs.YtdahanchdjadiaaGreatDoor.V

namespace Go.Proofs.YtdahanchdjadiaaGreatDoor
open V
theorem su8 {q : PV} (h : SInt .u8 [q]) : ∃ c : Nat, c < 256 ∧ q = .int .u8 (c : Int) := by
  obtain ⟨b, rfl⟩ := sint_u8 h
  exact ⟨b.toNat, b.toNat_lt, rfl⟩
theorem sintn {q : PV} (h : SInt .i64 [q]) : ∃ n, q = .int .i64 n := by
  obtain ⟨n, _, e⟩ := sint_i64 h
  exact ⟨n, e⟩
end Go.Proofs.YtdahanchdjadiaaGreatDoor

namespace Go.Proofs.YtdahanchdjadiaaGreatDoor
open V
open Go.RowKit Go.ChangeShapes Go.WideShapes Go.ChangeAt
end Go.Proofs.YtdahanchdjadiaaGreatDoor

namespace Go.Proofs.YtdahanchdjadiaaGreatDoor
open V
open Go.RowKit Go.ChangeShapes Go.WideShapes Go.ChangeAt
def SByts : List PV → Prop := SList 1 (SInt .u8) wrS
theorem sbyts {q : PV} (h : SByts [q]) : ∃ l : List Nat, (∀ c ∈ l, c < 256) ∧ q = .list 1 (l.map eY) := by
  obtain ⟨l, h1, e⟩ := slist (enc := eY) (ok := fun c => c < 256) (fun ps h => by
    obtain ⟨n, h1, rfl⟩ := h
    obtain ⟨c, hc, e⟩ := su8 (q := .int .u8 n) ⟨n, h1, rfl⟩
    exact ⟨c, hc, e⟩) h
  exact ⟨l, h1, e⟩
theorem Tryz.rdByt : RdsC Tryz.prog 5 1 (SInt .u8) := RdsC.int Tryz.underlying5 (by kernel_rfl)
theorem Tryz.rdByts : RdsC Tryz.prog 47 1 SByts := RdsC.list Tryz.underlying47 (by kernel_rfl) Tryz.rdByt (by decide) (fun _ h _ => wr_int h)
end Go.Proofs.YtdahanchdjadiaaGreatDoor
