/- SameRows, SameEntry, SameBook of the reference, at what reads alike: true. -/
import Derived.Test.YtplecfbdchmogaaEShort2
import Derived.Test.YtplecfbdchmogaaEBooks
import Derived.Test.YtplecfbdchmogaaESame
import Derived.Deep.QuietTactic
import Derived.BigQuiet
namespace Go.Proofs.Ytplecfbdchmogaa
open Go.RowKit
theorem CtsV.both {w : World} {A : Option Addr} {n c : Nat} {cs : List Ct} (h : CtsV w A n c cs) {k : Nat} (hk : k < n) : ∃ b off, A = some ⟨b, off, none⟩ ∧ b < w.heap.size ∧ ∃ A1 n1 c1 A2 n2 c2, w.cell? ⟨b, off + k * 2, none⟩ = some (.slice A1 n1 c1) ∧ w.cell? ⟨b, off + k * 2 + 1, none⟩ = some (.slice A2 n2 c2) ∧ RowsV w A1 n1 c1 (cs.getD k default).args ∧ RowsV w A2 n2 c2 (cs.getD k default).outs := by
 obtain ⟨b, off, e, hb, hm⟩ := h.mem (by omega)
 exact ⟨b, off, e, hb, hm k hk⟩
end Go.Proofs.Ytplecfbdchmogaa
