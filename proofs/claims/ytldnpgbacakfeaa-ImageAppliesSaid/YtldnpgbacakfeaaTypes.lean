/-
  Closed facts on the types of this translation.
-/
import Derived.Test.YtldnpgbacakfeaaRows
import Derived.Test.YtldnpgbacakfeaaOwn
import Derived.Test.YtldnpgbacakfeaaAct
namespace Go.Proofs.Ytldnpgbacakfeaa
open Go.RowKit

abbrev secsR : Rep (List Sec) := listR secR
abbrev imgR : Rep (List (List Sec)) := listR secsR
/-- An extent: where it starts, how many. -/
abbrev Ext := Int × Int
abbrev extR : Rep Ext := pairR intR intR
abbrev extsR : Rep (List Ext) := listR extR
/-- A write: the volume, where it starts, what it writes. -/
abbrev Wr := Int × Int × List Sec
abbrev wrR : Rep Wr := pairR intR (pairR intR secsR)
def zeroSec : Sec := Vector.replicate 8 0

theorem Try.mixed : Try.prog.follows .mixedOrders = true := by kernel_rfl
theorem Try.slInt : SliceT Try.prog 22 3 1 8 (.int .i64 0) := ⟨Try.underlying22, by kernel_rfl, rfl, by decide⟩
theorem Try.slSec : SliceT Try.prog 40 52 8 8 (.agg #[.int .u8 0, .int .u8 0, .int .u8 0, .int .u8 0, .int .u8 0, .int .u8 0, .int .u8 0, .int .u8 0]) := ⟨Try.underlying40, by kernel_rfl, rfl, by decide⟩
theorem Try.slImg : SliceT Try.prog 24 40 1 24 (.slice none 0 0) := ⟨Try.underlying24, by kernel_rfl, rfl, by decide⟩
theorem Try.slSecs : SliceT Try.prog 23 40 1 24 (.slice none 0 0) := ⟨Try.underlying23, by kernel_rfl, rfl, by decide⟩
theorem Try.slExt : SliceT Try.prog 80 59 2 16 (.agg #[.int .i64 0, .int .i64 0]) := ⟨Try.underlying80, by kernel_rfl, rfl, by decide⟩
theorem Try.slExts : SliceT Try.prog 53 80 1 24 (.slice none 0 0) := ⟨Try.underlying53, by kernel_rfl, rfl, by decide⟩
theorem Try.slWr : SliceT Try.prog 38 42 3 40 (.agg #[.int .i64 0, .int .i64 0, .slice none 0 0]) := ⟨Try.underlying38, by kernel_rfl, rfl, by decide⟩

theorem Try.eqSec (x y : Sec) (w : World) : (Op.equalIn 10000 52 (.agg (secCells x).toArray) (.agg (secCells y).toArray)).run Try.prog w = .ok (x == y) w := by
  obtain ⟨i, hi⟩ : ∃ i, Try.prog.info? 5 = some i := Option.isSome_iff_exists.1 (by kernel_rfl)
  exact run_equalIn_sec (P := Try.prog) Try.underlying52 Try.underlying5 hi (by kernel_rfl) x y w
theorem Try.loadSec {w : World} {b off : Nat} {x : Sec} (h : ∀ j, j < 8 → w.cell? ⟨b, off + j, none⟩ = (secCells x)[j]?) : (loadVar 52 ⟨b, off, none⟩).run Try.prog w = .ok (.agg (secCells x).toArray) w :=
  run_loadAgg Try.underlying52 rfl (by rw [secCells_length]; kernel_rfl) fun j hj => by rw [Addr.add_lit]; exact h j (by rwa [secCells_length] at hj)
/-- A sector of a slice, in whatever later world. -/
theorem Try.secLater {ok : Nat → Prop} {w : World} {b off n c k : Nat} {l : List Sec} {x : Sec} (h : Sl secR ok w (some ⟨b, off, none⟩) n c l) (hx : l[k]? = some x) :
    ∀ w', LaterS w w' → (loadVar 52 ⟨b, off + k * 8, none⟩).run Try.prog w' = .ok (.agg (secCells x).toArray) w' := by
  rintro _ ⟨y, rfl⟩
  exact Try.loadSec ((h.below y.below).sec hx)

theorem ret_int {k : IntKind} {a b : Int} (h : a = b) : Ending.returned (.int k a) = .returned (.int k b) := by rw [h]
theorem ret_bool {a b : Bool} (h : a = b) : Ending.returned (.bool a) = .returned (.bool b) := by rw [h]
theorem i64ok_nat {n : Nat} (h : n ≤ maxLen) : i64ok (n : Int) := by unfold i64ok maxLen at *; omega
theorem Sl.i64 {α : Type} {r : Rep α} {ok : Nat → Prop} {w : World} {a : Option Addr} {n c : Nat} {l : List α} (h : Sl r ok w a n c l) : i64ok (n : Int) := i64ok_nat (Nat.le_trans h.cap h.bnd)
/-- The length's bound, for omega. -/
theorem Sl.small {α : Type} {r : Rep α} {ok : Nat → Prop} {w : World} {a : Option Addr} {n c : Nat} {l : List α} (h : Sl r ok w a n c l) : n ≤ 9223372036854775807 := by
  have := Nat.le_trans h.cap h.bnd; unfold maxLen at this; omega

theorem take_all_succ {α : Type} {p : α → Bool} {l : List α} {k : Nat} {x : α} (h : l[k]? = some x) : (l.take (k + 1)).all p = ((l.take k).all p && p x) := by
  rw [List.take_add_one, h]; simp
theorem all_false {α : Type} {p : α → Bool} {l : List α} {k : Nat} {x : α} (h : l[k]? = some x) (hp : p x = false) : l.all p = false := by
  rw [List.all_eq_false]; exact ⟨x, List.mem_of_getElem? h, by simp [hp]⟩
theorem take_any_succ {α : Type} {p : α → Bool} {l : List α} {k : Nat} {x : α} (h : l[k]? = some x) : (l.take (k + 1)).any p = ((l.take k).any p || p x) := by
  rw [List.take_add_one, h]; simp
theorem any_true {α : Type} {p : α → Bool} {l : List α} {k : Nat} {x : α} (h : l[k]? = some x) (hp : p x = true) : l.any p = true := by
  rw [List.any_eq_true]; exact ⟨x, List.mem_of_getElem? h, hp⟩
theorem take_succ_get {α : Type} {l : List α} {k : Nat} {x : α} (h : l[k]? = some x) : l.take (k + 1) = l.take k ++ [x] := by
  rw [List.take_add_one, h]; rfl
/-- Behind a loop: all. -/
theorem take_all {α : Type} {l : List α} {n : Nat} (h : l.length = n) : l.take n = l := List.take_of_length_le (by omega)

end Go.Proofs.Ytldnpgbacakfeaa
