/-
  What the statements of layer 7 share: arguments that read as data.
-/
import Derived.Test.YtldnpgbacakfeaaTypes
import Derived.Test.YtldnpgbacakfeaaReads
namespace Go.Proofs.Ytldnpgbacakfeaa
open Go.RowKit Go.ChangeShapes Go.WideShapes Go.ChangeAt

theorem Try.ownKnob : ownKnob Try.prog.godebug = none := by kernel_rfl
theorem Try.laidOut : laidOutB Try.prog = true := by kernel_rfl
theorem Reads.arg {α : Type} {P : Program} {t e : TypeId} {r : Rep α} {H : Type} {enc : TypeId × Value → H} {w : World} {v : Value} {d : DataW H} {p : List MemPlace} {m : Reach} {base : Nat} (ht : P.underlying t = some (.slice e)) (hr : Reads P t (listR r))
    (hv : Value.okWide P w m base t v) (h : DataW.Trod enc P w 0 (fun _ => true) true t v d p) : ∃ a n c l, v = .slice a n c ∧ Sl r (fun b => True ∧ b < w.heap.size) w a n c l := by
  obtain ⟨fuel, hf⟩ := h
  obtain ⟨a, n, c, rfl⟩ := okWide_slice ht hv
  obtain ⟨y, a', n', c', e1, hy⟩ := hr.2 hf
  cases e1
  exact ⟨_, _, _, y, rfl, hy.live⟩
theorem Try.readsInt : Reads Try.prog 3 intR := Reads.int Try.underlying3 (by kernel_rfl)
theorem Try.readsInts : Reads Try.prog 22 (listR intR) := Reads.list Try.underlying22 (by kernel_rfl) Try.readsInt (by decide)
theorem Try.readsSec : Reads Try.prog 52 secR := Reads.sec Try.underlying52 Try.underlying5 (by kernel_rfl) (by kernel_rfl)
theorem Try.readsSecs : Reads Try.prog 40 (listR secR) := Reads.list Try.underlying40 (by kernel_rfl) Try.readsSec (by decide)
theorem Try.readsImg : Reads Try.prog 24 (listR secsR) := Reads.list Try.underlying24 (by kernel_rfl) Try.readsSecs (by decide)
theorem Try.readsWr : Reads Try.prog 42 wrR := Reads.three Try.underlying42 Try.readsInt Try.readsInt Try.readsSecs rfl rfl rfl (by kernel_rfl)
theorem Try.readsWrs : Reads Try.prog 38 (listR wrR) := Reads.list Try.underlying38 (by kernel_rfl) Try.readsWr (by decide)

end Go.Proofs.Ytldnpgbacakfeaa
