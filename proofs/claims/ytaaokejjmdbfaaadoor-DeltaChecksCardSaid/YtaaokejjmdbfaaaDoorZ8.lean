/-
  Part 8 of the texts that the statement stands on.
-/
import Derived.Test.YtaaokejjmdbfaaaDoorZ7
import Derived.Test.YtaaokejjmdbfaaaDoorRows
import Derived.Lib.LaidTab
import Derived.LaidByTextLater
set_option linter.all false
namespace Go.Proofs.YtaaokejjmdbfaaaDoor

def Ok1 (P : Program) (f : Nat) : VDef → Prop
  | .code fn => fnOk P f fn = true
  | .ext g => ∀ args rs, g args = some rs → callable P f = true ∧ CallOk P f args rs
  | .srt h => callable P f = true ∧ SortOk P f h
theorem ok3 : Ok1 Tryd.prog 3 (.code fn3) := (by kernel_rfl : fnOk Tryd.prog 3 fn3 = true)
theorem ok11 : Ok1 Tryd.prog 11 (.code fn11) := (by kernel_rfl : fnOk Tryd.prog 11 fn11 = true)
theorem ok12 : Ok1 Tryd.prog 12 (.code fn12) := (by kernel_rfl : fnOk Tryd.prog 12 fn12 = true)
theorem ok13 : Ok1 Tryd.prog 13 (.code fn13) := (by kernel_rfl : fnOk Tryd.prog 13 fn13 = true)
theorem ok14 : Ok1 Tryd.prog 14 (.code fn14) := (by kernel_rfl : fnOk Tryd.prog 14 fn14 = true)
theorem ok15 : Ok1 Tryd.prog 15 (.code fn15) := (by kernel_rfl : fnOk Tryd.prog 15 fn15 = true)
theorem ok16 : Ok1 Tryd.prog 16 (.code fn16) := (by kernel_rfl : fnOk Tryd.prog 16 fn16 = true)
theorem ok17 : Ok1 Tryd.prog 17 (.code fn17) := (by kernel_rfl : fnOk Tryd.prog 17 fn17 = true)
theorem ok18 : Ok1 Tryd.prog 18 (.code fn18) := (by kernel_rfl : fnOk Tryd.prog 18 fn18 = true)
theorem ok20 : Ok1 Tryd.prog 20 (.code fn20) := (by kernel_rfl : fnOk Tryd.prog 20 fn20 = true)
theorem ok22 : Ok1 Tryd.prog 22 (.code fn22) := (by kernel_rfl : fnOk Tryd.prog 22 fn22 = true)
theorem ok24 : Ok1 Tryd.prog 24 (.code fn24) := (by kernel_rfl : fnOk Tryd.prog 24 fn24 = true)
theorem ok26 : Ok1 Tryd.prog 26 (.code fn26) := (by kernel_rfl : fnOk Tryd.prog 26 fn26 = true)
theorem ok27 : Ok1 Tryd.prog 27 (.code fn27) := (by kernel_rfl : fnOk Tryd.prog 27 fn27 = true)
theorem ok29 : Ok1 Tryd.prog 29 (.code fn29) := (by kernel_rfl : fnOk Tryd.prog 29 fn29 = true)
theorem ok41 : Ok1 Tryd.prog 41 (.code fn41) := (by kernel_rfl : fnOk Tryd.prog 41 fn41 = true)
theorem ok42 : Ok1 Tryd.prog 42 (.ext pointX) := point_ok
theorem ok43 : Ok1 Tryd.prog 43 (.code fn43) := (by kernel_rfl : fnOk Tryd.prog 43 fn43 = true)
theorem ok44 : Ok1 Tryd.prog 44 (.code fn44) := (by kernel_rfl : fnOk Tryd.prog 44 fn44 = true)
theorem ok45 : Ok1 Tryd.prog 45 (.code fn45) := (by kernel_rfl : fnOk Tryd.prog 45 fn45 = true)
theorem ok46 : Ok1 Tryd.prog 46 (.code fn46) := (by kernel_rfl : fnOk Tryd.prog 46 fn46 = true)
theorem ok47 : Ok1 Tryd.prog 47 (.code fn47) := (by kernel_rfl : fnOk Tryd.prog 47 fn47 = true)
theorem ok48 : Ok1 Tryd.prog 48 (.code fn48) := (by kernel_rfl : fnOk Tryd.prog 48 fn48 = true)
theorem ok49 : Ok1 Tryd.prog 49 (.code fn49) := (by kernel_rfl : fnOk Tryd.prog 49 fn49 = true)
theorem ok50 : Ok1 Tryd.prog 50 (.code fn50) := (by kernel_rfl : fnOk Tryd.prog 50 fn50 = true)
theorem ok51 : Ok1 Tryd.prog 51 (.code fn51) := (by kernel_rfl : fnOk Tryd.prog 51 fn51 = true)
theorem ok52 : Ok1 Tryd.prog 52 (.code fn52) := (by kernel_rfl : fnOk Tryd.prog 52 fn52 = true)
theorem ok53 : Ok1 Tryd.prog 53 (.code fn53) := (by kernel_rfl : fnOk Tryd.prog 53 fn53 = true)
theorem ok54 : Ok1 Tryd.prog 54 (.code fn54) := (by kernel_rfl : fnOk Tryd.prog 54 fn54 = true)
theorem ok55 : Ok1 Tryd.prog 55 (.code fn55) := (by kernel_rfl : fnOk Tryd.prog 55 fn55 = true)
theorem ok56 : Ok1 Tryd.prog 56 (.code fn56) := (by kernel_rfl : fnOk Tryd.prog 56 fn56 = true)
theorem ok57 : Ok1 Tryd.prog 57 (.code fn57) := (by kernel_rfl : fnOk Tryd.prog 57 fn57 = true)
theorem ok58 : Ok1 Tryd.prog 58 (.code fn58) := (by kernel_rfl : fnOk Tryd.prog 58 fn58 = true)
theorem ok59 : Ok1 Tryd.prog 59 (.code fn59) := (by kernel_rfl : fnOk Tryd.prog 59 fn59 = true)
theorem ok60 : Ok1 Tryd.prog 60 (.code fn60) := (by kernel_rfl : fnOk Tryd.prog 60 fn60 = true)
theorem ok61 : Ok1 Tryd.prog 61 (.code fn61) := (by kernel_rfl : fnOk Tryd.prog 61 fn61 = true)
theorem ok64 : Ok1 Tryd.prog 64 (.code fn64) := (by kernel_rfl : fnOk Tryd.prog 64 fn64 = true)
theorem ok65 : Ok1 Tryd.prog 65 (.code fn65) := (by kernel_rfl : fnOk Tryd.prog 65 fn65 = true)
theorem ok66 : Ok1 Tryd.prog 66 (.code fn66) := (by kernel_rfl : fnOk Tryd.prog 66 fn66 = true)
theorem ok67 : Ok1 Tryd.prog 67 (.code fn67) := (by kernel_rfl : fnOk Tryd.prog 67 fn67 = true)
theorem ok68 : Ok1 Tryd.prog 68 (.code fn68) := (by kernel_rfl : fnOk Tryd.prog 68 fn68 = true)
theorem ok69 : Ok1 Tryd.prog 69 (.code fn69) := (by kernel_rfl : fnOk Tryd.prog 69 fn69 = true)
theorem ok70 : Ok1 Tryd.prog 70 (.code fn70) := (by kernel_rfl : fnOk Tryd.prog 70 fn70 = true)
theorem ok77 : Ok1 Tryd.prog 77 (.code fn77) := (by kernel_rfl : fnOk Tryd.prog 77 fn77 = true)
theorem ok79 : Ok1 Tryd.prog 79 (.code fn79) := (by kernel_rfl : fnOk Tryd.prog 79 fn79 = true)
theorem ok80 : Ok1 Tryd.prog 80 (.code fn80) := (by kernel_rfl : fnOk Tryd.prog 80 fn80 = true)
theorem ok81 : Ok1 Tryd.prog 81 (.code fn81) := (by kernel_rfl : fnOk Tryd.prog 81 fn81 = true)
theorem ok82 : Ok1 Tryd.prog 82 (.code fn82) := (by kernel_rfl : fnOk Tryd.prog 82 fn82 = true)
theorem ok83 : Ok1 Tryd.prog 83 (.code fn83) := (by kernel_rfl : fnOk Tryd.prog 83 fn83 = true)
theorem ok84 : Ok1 Tryd.prog 84 (.code fn84) := (by kernel_rfl : fnOk Tryd.prog 84 fn84 = true)
theorem ok85 : Ok1 Tryd.prog 85 (.code fn85) := (by kernel_rfl : fnOk Tryd.prog 85 fn85 = true)
theorem ok86 : Ok1 Tryd.prog 86 (.code fn86) := (by kernel_rfl : fnOk Tryd.prog 86 fn86 = true)
theorem ok87 : Ok1 Tryd.prog 87 (.code fn87) := (by kernel_rfl : fnOk Tryd.prog 87 fn87 = true)
theorem ok88 : Ok1 Tryd.prog 88 (.code fn88) := (by kernel_rfl : fnOk Tryd.prog 88 fn88 = true)
theorem ok89 : Ok1 Tryd.prog 89 (.code fn89) := (by kernel_rfl : fnOk Tryd.prog 89 fn89 = true)
theorem ok90 : Ok1 Tryd.prog 90 (.code fn90) := (by kernel_rfl : fnOk Tryd.prog 90 fn90 = true)
theorem ok91 : Ok1 Tryd.prog 91 (.code fn91) := (by kernel_rfl : fnOk Tryd.prog 91 fn91 = true)
theorem ok92 : Ok1 Tryd.prog 92 (.code fn92) := (by kernel_rfl : fnOk Tryd.prog 92 fn92 = true)
theorem ok93 : Ok1 Tryd.prog 93 (.code fn93) := (by kernel_rfl : fnOk Tryd.prog 93 fn93 = true)
theorem ok99 : Ok1 Tryd.prog 99 (.code fn99) := (by kernel_rfl : fnOk Tryd.prog 99 fn99 = true)
theorem ok100 : Ok1 Tryd.prog 100 (.code fn100) := (by kernel_rfl : fnOk Tryd.prog 100 fn100 = true)
theorem ok101 : Ok1 Tryd.prog 101 (.code fn101) := (by kernel_rfl : fnOk Tryd.prog 101 fn101 = true)
theorem ok102 : Ok1 Tryd.prog 102 (.code fn102) := (by kernel_rfl : fnOk Tryd.prog 102 fn102 = true)
theorem ok103 : Ok1 Tryd.prog 103 (.code fn103) := (by kernel_rfl : fnOk Tryd.prog 103 fn103 = true)
theorem ok104 : Ok1 Tryd.prog 104 (.code fn104) := (by kernel_rfl : fnOk Tryd.prog 104 fn104 = true)
theorem ok105 : Ok1 Tryd.prog 105 (.code fn105) := (by kernel_rfl : fnOk Tryd.prog 105 fn105 = true)
theorem ok106 : Ok1 Tryd.prog 106 (.code fn106) := (by kernel_rfl : fnOk Tryd.prog 106 fn106 = true)
theorem ok109 : Ok1 Tryd.prog 109 (.code fn109) := (by kernel_rfl : fnOk Tryd.prog 109 fn109 = true)
theorem ok110 : Ok1 Tryd.prog 110 (.code fn110) := (by kernel_rfl : fnOk Tryd.prog 110 fn110 = true)
theorem ok111 : Ok1 Tryd.prog 111 (.ext tzX) := tz_ok
theorem ok112 : Ok1 Tryd.prog 112 (.code fn112) := (by kernel_rfl : fnOk Tryd.prog 112 fn112 = true)
theorem tabOk : ∀ p ∈ tab, Ok1 Tryd.prog p.1 p.2 := by
  unfold tab
  exact List.forall_mem_cons.2 ⟨ok3, List.forall_mem_cons.2 ⟨ok11, List.forall_mem_cons.2 ⟨ok12, List.forall_mem_cons.2 ⟨ok13, List.forall_mem_cons.2 ⟨ok14, List.forall_mem_cons.2 ⟨ok15, List.forall_mem_cons.2 ⟨ok16, List.forall_mem_cons.2 ⟨ok17, List.forall_mem_cons.2 ⟨ok18, List.forall_mem_cons.2 ⟨ok20, List.forall_mem_cons.2 ⟨ok22, List.forall_mem_cons.2 ⟨ok24, List.forall_mem_cons.2 ⟨ok26, List.forall_mem_cons.2 ⟨ok27, List.forall_mem_cons.2 ⟨ok29, List.forall_mem_cons.2 ⟨ok41, List.forall_mem_cons.2 ⟨ok42, List.forall_mem_cons.2 ⟨ok43, List.forall_mem_cons.2 ⟨ok44, List.forall_mem_cons.2 ⟨ok45, List.forall_mem_cons.2 ⟨ok46, List.forall_mem_cons.2 ⟨ok47, List.forall_mem_cons.2 ⟨ok48, List.forall_mem_cons.2 ⟨ok49, List.forall_mem_cons.2 ⟨ok50, List.forall_mem_cons.2 ⟨ok51, List.forall_mem_cons.2 ⟨ok52, List.forall_mem_cons.2 ⟨ok53, List.forall_mem_cons.2 ⟨ok54, List.forall_mem_cons.2 ⟨ok55, List.forall_mem_cons.2 ⟨ok56, List.forall_mem_cons.2 ⟨ok57, List.forall_mem_cons.2 ⟨ok58, List.forall_mem_cons.2 ⟨ok59, List.forall_mem_cons.2 ⟨ok60, List.forall_mem_cons.2 ⟨ok61, List.forall_mem_cons.2 ⟨ok64, List.forall_mem_cons.2 ⟨ok65, List.forall_mem_cons.2 ⟨ok66, List.forall_mem_cons.2 ⟨ok67, List.forall_mem_cons.2 ⟨ok68, List.forall_mem_cons.2 ⟨ok69, List.forall_mem_cons.2 ⟨ok70, List.forall_mem_cons.2 ⟨ok77, List.forall_mem_cons.2 ⟨ok79, List.forall_mem_cons.2 ⟨ok80, List.forall_mem_cons.2 ⟨ok81, List.forall_mem_cons.2 ⟨ok82, List.forall_mem_cons.2 ⟨ok83, List.forall_mem_cons.2 ⟨ok84, List.forall_mem_cons.2 ⟨ok85, List.forall_mem_cons.2 ⟨ok86, List.forall_mem_cons.2 ⟨ok87, List.forall_mem_cons.2 ⟨ok88, List.forall_mem_cons.2 ⟨ok89, List.forall_mem_cons.2 ⟨ok90, List.forall_mem_cons.2 ⟨ok91, List.forall_mem_cons.2 ⟨ok92, List.forall_mem_cons.2 ⟨ok93, List.forall_mem_cons.2 ⟨ok99, List.forall_mem_cons.2 ⟨ok100, List.forall_mem_cons.2 ⟨ok101, List.forall_mem_cons.2 ⟨ok102, List.forall_mem_cons.2 ⟨ok103, List.forall_mem_cons.2 ⟨ok104, List.forall_mem_cons.2 ⟨ok105, List.forall_mem_cons.2 ⟨ok106, List.forall_mem_cons.2 ⟨ok109, List.forall_mem_cons.2 ⟨ok110, List.forall_mem_cons.2 ⟨ok111, List.forall_mem_cons.2 ⟨ok112, fun p hp => by cases hp⟩⟩⟩⟩⟩⟩⟩⟩⟩⟩⟩⟩⟩⟩⟩⟩⟩⟩⟩⟩⟩⟩⟩⟩⟩⟩⟩⟩⟩⟩⟩⟩⟩⟩⟩⟩⟩⟩⟩⟩⟩⟩⟩⟩⟩⟩⟩⟩⟩⟩⟩⟩⟩⟩⟩⟩⟩⟩⟩⟩⟩⟩⟩⟩⟩⟩⟩⟩⟩⟩⟩
theorem lookup_mem : ∀ {l : List (Nat × VDef)} {f : Nat} {d : VDef}, l.lookup f = some d → (f, d) ∈ l
  | (k, v) :: l, f, d, h => by
    rw [List.lookup_cons] at h
    split at h
    · rename_i e
      have e : f = k := by simpa using e
      cases h; subst e; simp
    · exact List.mem_cons_of_mem _ (lookup_mem h)
theorem envOk : EnvOk Tryd.prog env := fun f d h => by
  have := tabOk _ (lookup_mem h)
  cases d <;> exact this
end Go.Proofs.YtaaokejjmdbfaaaDoor

namespace Go.Proofs.YtaaokejjmdbfaaaDoor
open Go.RowKit
theorem laidTabEq : (Rows.laid_math_bits_deBruijn64tab : DataW Unit) = Lib.tabData .u8 (Lib.deBruijn64tab.map Int.ofNat) := by kernel_rfl
theorem tabG : Tryd.prog.globalNamed "math/bits.deBruijn64tab" = some 0 := by kernel_rfl
theorem globIn_of_laid {w : World} {l : List (String × DataW Unit)} (hl : l = [("math/bits.deBruijn64tab", Rows.laid_math_bits_deBruijn64tab)]) (h : laidMetH Tryd.prog l w) : GlobIn w := by
  subst hl
  rw [MakeChecks.laidMetH_plain _ _ _ (by kernel_rfl), laidTabEq] at h
  have ht : Lib.TabIs Tryd.prog w "math/bits.deBruijn64tab" .u8 (Lib.deBruijn64tab.map Int.ofNat) :=
    Lib.tabIs_of_head (t := 167) (e := 5) (n := 64) tabG (by kernel_rfl) (by kernel_rfl) (by kernel_rfl) (by kernel_rfl) (by kernel_rfl) h
  have hc : ∀ i, i < 64 → w.cell? ⟨0, i, none⟩ = some (.int .u8 ((Lib.deBruijn64tab.map Int.ofNat).getD i 0)) := fun i hi => ht.cell tabG i (by simpa [Lib.deBruijn64tab] using hi)
  have hC : Cellish w 0 := cellish_of (hc 0 (by decide))
  intro p hp
  obtain rfl : p = _ := List.mem_singleton.1 hp
  refine .iptr _ 0 _ 0 (fun i => .int .u8 ((Lib.deBruijn64tab.map Int.ofNat).getD i 0)) (if_pos hC.lt) hC (fun k x hk => ?_) (fun k x hk => ?_)
  · have hk' := (List.getElem?_eq_some_iff.1 hk).1
    rw [Nat.zero_add]
    exact ⟨hc k (by simpa [Lib.deBruijn64tab] using hk'), rfl⟩
  · simp only [List.getElem?_map] at hk
    cases e : Lib.deBruijn64tab[k]? with
    | none => rw [e] at hk; cases hk
    | some n =>
      rw [e] at hk; cases hk
      have : (Lib.deBruijn64tab.map Int.ofNat).getD k 0 = (n : Int) := by simp [List.getD_eq_getElem?_getD, e]
      rw [this]
      exact .int _ _
end Go.Proofs.YtaaokejjmdbfaaaDoor

namespace Go.Proofs.YtaaokejjmdbfaaaDoor.V
open Go.RowKit Go.ChangeShapes Go.WideShapes Go.ChangeAt

theorem Tryd.ownKnobV : ownKnob Tryd.prog.godebug = none := by kernel_rfl
theorem Tryd.laidOutV : laidOutB Tryd.prog = true := by kernel_rfl
def okI (n : Int) : Prop := -9223372036854775808 ≤ n ∧ n ≤ 9223372036854775807
theorem sint_i64 {q : PV} (h : SInt .i64 [q]) : ∃ n, okI n ∧ q = eI n := by
  obtain ⟨n, h1, h2⟩ := h
  have h3 : IntKind.i64.min = -9223372036854775808 := rfl
  have h4 : IntKind.i64.max = 9223372036854775807 := rfl
  simp only [Lit.wf, Bool.and_eq_true, decide_eq_true_eq] at h1
  cases h2
  exact ⟨n, ⟨by omega, by omega⟩, rfl⟩
theorem sint_u8 {q : PV} (h : SInt .u8 [q]) : ∃ b : UInt8, q = .int .u8 (b.toNat : Int) := by
  obtain ⟨n, h1, h2⟩ := h
  have h3 : IntKind.u8.min = 0 := rfl
  have h4 : IntKind.u8.max = 255 := rfl
  simp only [Lit.wf, Bool.and_eq_true, decide_eq_true_eq] at h1
  cases h2
  refine ⟨UInt8.ofNat n.toNat, ?_⟩
  rw [UInt8.toNat_ofNat_of_lt' (show n.toNat < 2 ^ 8 by omega)]
  congr 1; omega
def SSec : List PV → Prop := SArr 8 (SInt .u8)
theorem ssec {ps : List PV} (h : SSec ps) : ∃ s : Sec, ps = secPV s := by
  obtain ⟨h1, h2⟩ := h
  have : ∀ l : List PV, (∀ p ∈ l, SInt .u8 [p]) → ∃ m : List UInt8, m.length = l.length ∧ l = m.map fun b => .int .u8 (b.toNat : Int) := by
    intro l
    induction l with
    | nil => exact fun _ => ⟨[], rfl, rfl⟩
    | cons p l ih =>
      intro h
      obtain ⟨b, hb⟩ := sint_u8 (h p (by simp))
      obtain ⟨m, e1, e2⟩ := ih fun q hq => h q (by simp [hq])
      exact ⟨b :: m, by simp [e1], by rw [hb, e2]; rfl⟩
  obtain ⟨m, e1, e2⟩ := this ps h2
  refine ⟨⟨m.toArray, by simp [e1, h1]⟩, ?_⟩
  subst e2
  simp [secPV, Vector.toList]
theorem slist {α : Type} {n : Nat} {S : List PV → Prop} {wr : List PV → PV} {enc : α → PV} {ok : α → Prop} (hS : ∀ ps, S ps → ∃ a, ok a ∧ wr ps = enc a) {q : PV} (h : SList n S wr [q]) : ∃ l : List α, (∀ a ∈ l, ok a) ∧ q = .list n (l.map enc) := by
  obtain ⟨es, h1, h2⟩ := h
  cases h1
  have : ∀ es : List PV, (∀ x ∈ es, ∃ q, S q ∧ x = wr q) → ∃ l : List α, (∀ a ∈ l, ok a) ∧ es = l.map enc := by
    intro es
    induction es with
    | nil => exact fun _ => ⟨[], by simp, rfl⟩
    | cons e es ih =>
      intro h
      obtain ⟨q, h3, h4⟩ := h e (by simp)
      obtain ⟨a, h5, h6⟩ := hS q h3
      obtain ⟨l, h7, h8⟩ := ih fun x hx => h x (by simp [hx])
      exact ⟨a :: l, by simp; exact ⟨h5, h7⟩, by rw [h4, h6, h8]; rfl⟩
  obtain ⟨l, h3, h4⟩ := this es h2
  exact ⟨l, h3, by rw [h4]⟩
theorem wr_int {k : IntKind} {ps : List PV} (h : SInt k ps) : (wrS ps).cells = ps := by
  obtain ⟨n, _, rfl⟩ := h; rfl
theorem wr_list {n : Nat} {S : List PV → Prop} {wr : List PV → PV} {ps : List PV} (h : SList n S wr ps) : (wrS ps).cells = ps := by
  obtain ⟨es, rfl, _⟩ := h; rfl
def SSecs : List PV → Prop := SList 8 SSec .agg
theorem ssecs {q : PV} (h : SSecs [q]) : ∃ l : List Sec, q = eSecs l := by
  obtain ⟨l, _, e⟩ := slist (enc := eSec) (ok := fun _ => True) (fun ps h => by obtain ⟨s, rfl⟩ := ssec h; exact ⟨s, trivial, rfl⟩) h
  exact ⟨l, e⟩
def SImg : List PV → Prop := SList 1 SSecs wrS
theorem simg {q : PV} (h : SImg [q]) : ∃ l : Img, q = .list 1 (l.map eSecs) := by
  obtain ⟨l, _, e⟩ := slist (enc := eSecs) (ok := fun _ => True) (fun ps h => by
    obtain ⟨es, rfl, h2⟩ := h
    obtain ⟨l, e⟩ := ssecs (q := .list 8 es) ⟨es, rfl, h2⟩
    exact ⟨l, trivial, e⟩) h
  exact ⟨l, e⟩
theorem Tryd.rdInt : RdsC Tryd.prog 3 1 (SInt .i64) := RdsC.int Tryd.underlying3 (by kernel_rfl)
theorem Tryd.rdU8 : RdsC Tryd.prog 5 1 (SInt .u8) := RdsC.int Tryd.underlying5 (by kernel_rfl)
theorem Tryd.rdSec : RdsC Tryd.prog 78 8 SSec := RdsC.arr Tryd.underlying78 Tryd.rdU8 (by kernel_rfl)
theorem Tryd.rdSecs : RdsC Tryd.prog 76 1 SSecs := RdsC.list Tryd.underlying76 (by kernel_rfl) Tryd.rdSec (by decide) (fun _ _ _ => rfl)
theorem Tryd.rdImg : RdsC Tryd.prog 25 1 SImg := RdsC.list Tryd.underlying25 (by kernel_rfl) Tryd.rdSecs (by decide) (fun _ h _ => wr_list h)
end Go.Proofs.YtaaokejjmdbfaaaDoor.V

namespace Go.Proofs.YtaaokejjmdbfaaaDoor.V
open Go.RowKit Go.ChangeShapes Go.WideShapes Go.ChangeAt
def okSpn (x : Spn) : Prop := okI x.epoch ∧ okI x.fr ∧ okI x.to
def SSpn : List PV → Prop := SCat [SInt .i64, SInt .i64, SInt .i64]
theorem sspn {ps : List PV} (h : SSpn ps) : ∃ x : Spn, okSpn x ∧ PV.agg ps = eSpn x := by
  obtain ⟨p, q, rfl, ⟨n, h1, rfl⟩, p2, q2, rfl, ⟨m, h2, rfl⟩, p3, q3, rfl, ⟨k, h3, rfl⟩, rfl⟩ := h
  obtain ⟨a, o1, e1⟩ := sint_i64 ⟨n, h1, rfl⟩
  obtain ⟨b, o2, e2⟩ := sint_i64 ⟨m, h2, rfl⟩
  obtain ⟨c, o3, e3⟩ := sint_i64 ⟨k, h3, rfl⟩
  refine ⟨⟨a, b, c⟩, ⟨o1, o2, o3⟩, ?_⟩
  rw [e1, e2, e3]; rfl
def SSpns : List PV → Prop := SList 3 SSpn .agg
theorem sspns {q : PV} (h : SSpns [q]) : ∃ l : List Spn, q = .list 3 (l.map eSpn) := by
  obtain ⟨l, _, e⟩ := slist (enc := eSpn) (ok := okSpn) (fun ps h => sspn h) h
  exact ⟨l, e⟩
theorem Tryd.rdSpn : RdsC Tryd.prog 68 3 SSpn := RdsC.struct3 Tryd.underlying68 Tryd.rdInt Tryd.rdInt Tryd.rdInt rfl rfl rfl (by kernel_rfl)
theorem Tryd.rdSpns : RdsC Tryd.prog 22 1 SSpns := RdsC.list Tryd.underlying22 (by kernel_rfl) Tryd.rdSpn (by decide) (fun _ _ _ => rfl)
end Go.Proofs.YtaaokejjmdbfaaaDoor.V

namespace Go.Proofs.YtaaokejjmdbfaaaDoor
open V
open Go.RowKit Go.ChangeShapes Go.WideShapes Go.ChangeAt
theorem sint_w {ps : List PV} (h : SInt .u64 ps) : ∃ w : Wd, ps = [eW w] := by
  obtain ⟨n, h1, rfl⟩ := h
  have h2 : 0 ≤ n ∧ n < 18446744073709551616 := by
    simp only [Lit.wf, IntKind.min, IntKind.max, IntKind.signed, IntKind.bits, Bool.and_eq_true, decide_eq_true_eq] at h1
    refine ⟨by simpa using h1.1, ?_⟩
    have := h1.2
    simp at this
    omega
  refine ⟨BitVec.ofNat 64 n.toNat, ?_⟩
  unfold eW
  rw [BitVec.toNat_ofNat, Nat.mod_eq_of_lt (by omega), Int.toNat_of_nonneg h2.1]
def SWds : List PV → Prop := SList 1 (SInt .u64) wrS
theorem swds {q : PV} (h : SWds [q]) : ∃ l : List Wd, q = .list 1 (l.map eW) := by
  obtain ⟨l, _, e⟩ := slist (enc := eW) (ok := fun _ => True) (fun ps h => by
    obtain ⟨w, rfl⟩ := sint_w h
    exact ⟨w, trivial, rfl⟩) h
  exact ⟨l, e⟩
def SBm : List PV → Prop := SCat [SInt .i64, SWds]
theorem sbm {ps : List PV} (h : SBm ps) : ∃ b : Bm, PV.agg ps = eBm b := by
  obtain ⟨p, q, rfl, ⟨n, h1, rfl⟩, p2, q2, rfl, h2, rfl⟩ := h
  obtain ⟨es, rfl, h3⟩ := h2
  obtain ⟨l, e⟩ := swds (q := .list 1 es) ⟨es, rfl, h3⟩
  refine ⟨⟨n, l⟩, ?_⟩
  rw [e]; rfl
def SBms : List PV → Prop := SList 2 SBm .agg
theorem sbms {q : PV} (h : SBms [q]) : ∃ l : List Bm, q = .list 2 (l.map eBm) := by
  obtain ⟨l, _, e⟩ := slist (enc := eBm) (ok := fun _ => True) (fun ps h => by
    obtain ⟨b, e⟩ := sbm h
    exact ⟨b, trivial, e⟩) h
  exact ⟨l, e⟩
theorem Tryd.rdWd : RdsC Tryd.prog 133 1 (SInt .u64) := RdsC.int Tryd.underlying133 (by kernel_rfl)
theorem Tryd.rdWds : RdsC Tryd.prog 99 1 SWds := RdsC.list Tryd.underlying99 (by kernel_rfl) Tryd.rdWd (by decide) (fun _ h _ => wr_int h)
theorem Tryd.rdBm : RdsC Tryd.prog 101 2 SBm := RdsC.struct2 Tryd.underlying101 Tryd.rdInt Tryd.rdWds rfl rfl (by kernel_rfl)
theorem Tryd.rdBms : RdsC Tryd.prog 23 1 SBms := RdsC.list Tryd.underlying23 (by kernel_rfl) Tryd.rdBm (by decide) (fun _ _ _ => rfl)
end Go.Proofs.YtaaokejjmdbfaaaDoor

namespace Go.Proofs.YtaaokejjmdbfaaaDoor
open V
open Go.RowKit Go.ChangeShapes Go.WideShapes Go.ChangeAt
def SPt : List PV → Prop := SCat [SInt .i64, SSpns, SBms, SImg]
theorem spt {ps : List PV} (h : SPt ps) : ∃ p : Pt, PV.agg ps = ePt p := by
  obtain ⟨p, q, rfl, ⟨n, h1, rfl⟩, p2, q2, rfl, h2, p3, q3, rfl, h3, p4, q4, rfl, h4, rfl⟩ := h
  obtain ⟨es2, rfl, g2⟩ := h2
  obtain ⟨es3, rfl, g3⟩ := h3
  obtain ⟨es4, rfl, g4⟩ := h4
  obtain ⟨l, e2⟩ := sspns (q := .list 3 es2) ⟨es2, rfl, g2⟩
  obtain ⟨d, e3⟩ := sbms (q := .list 2 es3) ⟨es3, rfl, g3⟩
  obtain ⟨m, e4⟩ := simg (q := .list 1 es4) ⟨es4, rfl, g4⟩
  refine ⟨⟨n, l, d, m⟩, ?_⟩
  rw [e2, e3, e4]; rfl
theorem Tryd.rdPt : RdsC Tryd.prog 27 4 SPt := RdsC.struct4 Tryd.underlying27 Tryd.rdInt Tryd.rdSpns Tryd.rdBms Tryd.rdImg rfl rfl rfl rfl (by kernel_rfl)
theorem RdsC.arr2 {P : Program} {t e : TypeId} {m : Nat} {S : List PV → Prop} (ht : P.underlying t = some (.array 2 e)) (he : RdsC P e m S) (hc : P.cellsOf t = 2 * m) : RdsC P t (2 * m) (SCat [S, S]) := ⟨hc, fun {H enc w fuel cs x} h => by
  obtain ⟨xs, mm, _, _, hl, hx, hE⟩ := DataW.trod_array ht h
  rw [hc] at hl
  have h0 := hE 0 (by decide)
  have h1 := hE 1 (by decide)
  rw [List.getElem?_eq_getElem (by omega), he.1] at h0 h1
  obtain ⟨p0, g1, g2, g3, g4, g5⟩ := he.2 h0
  obtain ⟨p1, k1, k2, k3, k4, k5⟩ := he.2 h1
  have hcs : cs = (cs.drop (0 * m)).take m ++ (cs.drop (1 * m)).take m := by
    rw [Nat.zero_mul, List.drop_zero, Nat.one_mul, List.take_of_length_le (l := cs.drop m) (by rw [List.length_drop]; omega), List.take_append_drop]
  have hl0 : ((cs.drop (0 * m)).take m).length = m := by rw [g3, g2]
  refine ⟨p0 ++ p1, ⟨p0, p1, rfl, g1, p1, [], by simp, k1, rfl⟩, by rw [List.length_append, g2, k2]; omega, ?_⟩
  rw [hcs]
  refine ⟨by rw [List.length_append, List.length_append, g3, k3], fun c hc => ?_, fun j x v hx hv => ?_⟩
  · rcases List.mem_append.1 hc with hc | hc
    · exact g4 c hc
    · exact k4 c hc
  · by_cases hj : j < m
    · rw [List.getElem?_append_left (by omega)] at hx
      rw [List.getElem?_append_left (by omega)] at hv
      exact g5 j x v hx hv
    · rw [List.getElem?_append_right (by omega), g2] at hx
      rw [List.getElem?_append_right (by omega), hl0] at hv
      exact k5 (j - m) x v hx hv⟩
def SPt2 : List PV → Prop := SCat [SPt, SPt]
theorem spt2 {ps : List PV} (h : SPt2 ps) : ∃ x : Pt × Pt, PV.agg ps = .agg ((ePt x.1).cells ++ (ePt x.2).cells) := by
  obtain ⟨p, q, rfl, h1, p2, q2, rfl, h2, rfl⟩ := h
  obtain ⟨a, ea⟩ := spt h1
  obtain ⟨b, eb⟩ := spt h2
  refine ⟨(a, b), ?_⟩
  rw [← ea, ← eb, List.append_nil]
  rfl
theorem Tryd.rdPt2 : RdsC Tryd.prog 28 8 SPt2 := RdsC.arr2 Tryd.underlying28 Tryd.rdPt (by kernel_rfl)
end Go.Proofs.YtaaokejjmdbfaaaDoor
