/- Part 5 of the proof of DiagQuiet, for every input: FactsQuiet. No condition. -/
import Derived.Test.YthjnlggommennaaRows
import Derived.JoinedOf
import Derived.KernelRfl
import Derived.WalkKit
import Derived.ProofKit
import Derived.Test.YthjnlggommennaaH29
import Derived.Test.YthjnlggommennaaHq3
set_option linter.unusedVariables false
set_option linter.unusedSimpArgs false
set_option linter.unusedSectionVars false
/- The closed facts of the row of DiagQuiet, each for itself, part 2. No condition. -/
namespace Go.Proofs.Ythjnlggommennaa.diagQuiet
theorem k14 : ((Rows.diagQuietRow.ifaces == (Try.f7.params.toList ++ Rows.diagQuietSpec.plain.varTypes Try.prog).any (Try.prog.ifacesRec ·))) = true := by kernel_rfl
theorem k15 : ((Rows.diagQuietRow.mapsOut == Try.prog.mapsAmong Try.f7.resultTypes.toList)) = true := by kernel_rfl
theorem k16 : ((Rows.diagQuietRow.loops == (Try.f7.params.toList ++ Rows.diagQuietSpec.plain.varTypes Try.prog).any (Try.prog.loopsFrom ·))) = true := by kernel_rfl
theorem k17 : ((Rows.diagQuietRow.wideKeys == (Try.f7.params.toList ++ Rows.diagQuietSpec.plain.varTypes Try.prog ++ Try.f7.resultTypes.toList).any (Try.prog.wideKeysFrom ·))) = true := by kernel_rfl
theorem k18 : (Rows.diagQuietSpec.vars.all (Try.prog.varReadable ·)) = true := by kernel_rfl
theorem k19 : (Try.f7.resultTypes.all (fun t => Try.prog.readableRec t && decide (t < Try.prog.types.size))) = true := by kernel_rfl
theorem k20 : ((Rows.diagQuietRow.ifacesOut == Try.f7.resultTypes.toList.any (Try.prog.ifacesRec ·))) = true := by kernel_rfl
theorem k21 : ((Rows.diagQuietRow.loopsOut == Try.f7.resultTypes.toList.any (Try.prog.loopsFrom ·))) = true := by kernel_rfl
theorem k22 : ((Rows.diagQuietRow.plainKeys == Try.prog.plainKeys)) = true := by kernel_rfl
theorem k23 : (Rows.diagQuietRow.shortTexts.isNone) = true := by kernel_rfl
theorem k24 : (Try.prog.stopsHeard) = true := by kernel_rfl
theorem k25 : (Try.prog.mayEnter) = true := cutWords.mayEnter
theorem k26 : ((Rows.diagQuietRow.lifted == Try.prog.liftsFinal)) = true := by
  rw [cutWords.liftsFinal]
  kernel_rfl
theorem k28 : ((Rows.diagQuietRow.kinds == (if Rows.diagQuietRow.domain.isEmpty then [] else Try.f7.params.toList.map fun t => match Try.prog.underlying t with | some (.int k) => some k | _ => none))) = true := by kernel_rfl
theorem k29 : ((Rows.diagQuietRow.pinned == Rows.diagQuietRow.pinnedBy)) = true := by kernel_rfl
theorem k30 : ((Rows.diagQuietRow.veiled == (Try.f7.params.toList ++ Rows.diagQuietSpec.plain.varTypes Try.prog ++ Try.f7.resultTypes.toList).any (Try.prog.veiledRec ·))) = true := by kernel_rfl
theorem k31 : (Rows.diagQuietRow.veiledFits Try.prog Try.f7.params.toList (Try.f7.params.toList ++ Rows.diagQuietSpec.plain.varTypes Try.prog ++ Try.f7.resultTypes.toList)) = true := by kernel_rfl
set_option maxRecDepth 100000 in
theorem facts : joinedFacts Try.prog 7 Try.f7 Rows.diagQuietSpec Rows.diagQuietRow = true := by
  unfold joinedFacts
  simp only [Bool.and_eq_true]
  exact ⟨⟨⟨⟨⟨⟨⟨⟨⟨⟨⟨⟨⟨⟨⟨⟨⟨⟨⟨⟨⟨⟨⟨⟨⟨⟨⟨⟨⟨⟨⟨k0, k1⟩, k2⟩, k3⟩, k4⟩, k5⟩, k6⟩, k7⟩, k8⟩, k9⟩, k10⟩, k11⟩, k12⟩, k13⟩, k14⟩, k15⟩, k16⟩, k17⟩, k18⟩, k19⟩, k20⟩, k21⟩, k22⟩, k23⟩, k24⟩, k25⟩, k26⟩, k27⟩, k28⟩, k29⟩, k30⟩, k31⟩
end Go.Proofs.Ythjnlggommennaa.diagQuiet
