/- Part 31 of the proof of DiagHands, for every input: FactsHands0. No condition. -/
import Derived.Test.YthjnlggommennaaRows
import Derived.JoinedOf
import Derived.KernelRfl
import Derived.WalkKit
import Derived.ProofKit
set_option linter.unusedVariables false
set_option linter.unusedSimpArgs false
set_option linter.unusedSectionVars false
/- The closed facts of the row of DiagHands, each for itself, part 1. No condition. -/
namespace Go.Proofs.Ythjnlggommennaa.diagHands
theorem k0 : (Rows.diagHandsRow.wf (OpenSpec.ofChange Rows.diagHandsSpec)) = true := by kernel_rfl
theorem k1 : (laidOutB Try.prog) = true := by kernel_rfl
theorem k2 : (mapsRowed Try.prog) = true := by kernel_rfl
theorem k3 : (Try.f9.params.all (Try.prog.readableRec ·)) = true := by kernel_rfl
theorem k4 : (namedTie Try.prog Rows.diagHandsRow.named Rows.diagHandsSpec.vars) = true := by kernel_rfl
theorem k5 : ((Rows.diagHandsRow.stops == [])) = true := by kernel_rfl
theorem k6 : ((Try.prog.stops == [])) = true := by kernel_rfl
theorem k7 : ((Rows.diagHandsRow.knobs == [])) = true := by kernel_rfl
theorem k8 : ((Try.prog.stopKnobs == [])) = true := by kernel_rfl
theorem k9 : ((Rows.diagHandsRow.inPlace == Try.prog.inPlace 9)) = true := by kernel_rfl
theorem k10 : ((Rows.diagHandsRow.unfollowed == Try.prog.unfollowed 9)) = true := by kernel_rfl
theorem k11 : ((Rows.diagHandsRow.recurses == Try.prog.recurses 9)) = true := by kernel_rfl
theorem k12 : ((Rows.diagHandsRow.named == Try.prog.varsNamed 9)) = true := by kernel_rfl
theorem k13 : ((Rows.diagHandsRow.maps == (Try.f9.params.toList ++ Rows.diagHandsSpec.plain.varTypes Try.prog).any (Try.prog.mapsRec ·))) = true := by kernel_rfl
theorem k27 : ((Try.prog.make == some Rows.diagHandsRow.make)) = true := by kernel_rfl
end Go.Proofs.Ythjnlggommennaa.diagHands
