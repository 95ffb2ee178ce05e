/- Part 29 of the proof of DiagHands, for every input: HandsRow. No condition. -/
import Derived.Test.YthjnlggommennaaH27
import Derived.Test.YthjnlggommennaaH26
set_option linter.unusedVariables false
set_option linter.unusedSimpArgs false
set_option linter.unusedSectionVars false
/- DiagHands: its arguments opened. No condition. -/
namespace Go.Proofs.Ph
open Go Go.RowKit
theorem hands_row {w : World} {vs vq : Value} (o0 : ∃ s,W25 s ∧ RdS w T0 vs s) (o1 : ∃ l,l.length ≤ 9223372036854775807 ∧ Byt l ∧ RdF kb w T0 vq l) : Calls Try.prog 9 #[vs,vq] w fun e w' => e = .returned (.bool true) ∧ Below w.heap.size w w' := by
  obtain ⟨s, hs, rs⟩ := o0
  obtain ⟨q, -, hb, rq⟩ := o1
  exact hands_walk rs (fun x hx => (hs.f7.2 x hx).2.1) rq hb
end Go.Proofs.Ph
