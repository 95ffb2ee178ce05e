/- Part 4 of the proof of DiagQuiet, for every input: FactsQuiet0. No condition. -/
import Derived.Test.YthjnlggommennaaRows
import Derived.JoinedOf
import Derived.KernelRfl
import Derived.WalkKit
import Derived.ProofKit
set_option linter.unusedVariables false
set_option linter.unusedSimpArgs false
set_option linter.unusedSectionVars false
/- The closed facts of the row of DiagQuiet, each for itself, part 1. No condition. -/
namespace Go.Proofs.Ythjnlggommennaa.diagQuiet
theorem k0 : (Rows.diagQuietRow.wf (OpenSpec.ofChange Rows.diagQuietSpec)) = true := by kernel_rfl
theorem k1 : (laidOutB Try.prog) = true := by kernel_rfl
theorem k2 : (mapsRowed Try.prog) = true := by kernel_rfl
theorem k3 : (Try.f7.params.all (Try.prog.readableRec ·)) = true := by kernel_rfl
theorem k4 : (namedTie Try.prog Rows.diagQuietRow.named Rows.diagQuietSpec.vars) = true := by kernel_rfl
theorem k5 : ((Rows.diagQuietRow.stops == [])) = true := by kernel_rfl
theorem k6 : ((Try.prog.stops == [])) = true := by kernel_rfl
theorem k7 : ((Rows.diagQuietRow.knobs == [])) = true := by kernel_rfl
theorem k8 : ((Try.prog.stopKnobs == [])) = true := by kernel_rfl
theorem k9 : ((Rows.diagQuietRow.inPlace == Try.prog.inPlace 7)) = true := by kernel_rfl
theorem k10 : ((Rows.diagQuietRow.unfollowed == Try.prog.unfollowed 7)) = true := by kernel_rfl
theorem k11 : ((Rows.diagQuietRow.recurses == Try.prog.recurses 7)) = true := by kernel_rfl
theorem k12 : ((Rows.diagQuietRow.named == Try.prog.varsNamed 7)) = true := by kernel_rfl
theorem k13 : ((Rows.diagQuietRow.maps == (Try.f7.params.toList ++ Rows.diagQuietSpec.plain.varTypes Try.prog).any (Try.prog.mapsRec ·))) = true := by kernel_rfl
theorem k27 : ((Try.prog.make == some Rows.diagQuietRow.make)) = true := by kernel_rfl
end Go.Proofs.Ythjnlggommennaa.diagQuiet
