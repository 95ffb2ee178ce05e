/- Part 3 of the proof of DiagQuiet, for every input: OpenArr, QuietRow. No condition. -/
import Derived.Test.YthjnlggommennaaH26
import Derived.Test.YthjnlggommennaaHq1
set_option linter.unusedVariables false
set_option linter.unusedSimpArgs false
set_option linter.unusedSectionVars false
/- Arrays that are read as data, opened. No condition. -/
namespace Go.Proofs.Ph
open Go Go.RowKit Go.ChangeShapes Go.WideShapes
theorem okWide_array {P : Program} {w : World} {r : Reach} {base n : Nat} {t e : TypeId} {v : Value} (ht : P.underlying t = some (.array n e)) (h : Value.okWide P w r base t v) : ∃ cs, v = .agg cs ∧ cs.size = P.cellsOf t := by
  simp only [Value.okWide, ht] at h
  obtain ⟨cs, h1, h2, _⟩ := h
  exact ⟨cs, h1, h2⟩
theorem cells53 : Try.prog.cellsOf 53 = 2 := by kernel_rfl
theorem cells5 : Try.prog.cellsOf 5 = 1 := by kernel_rfl
set_option maxRecDepth 20000 in
theorem open_pair {H : Type} {enc : TypeId × Value → H} {W : World} {r : Reach} {base b0 : Nat} {spare : Nat → Bool} {held : Bool} {v : Value} {d : DataW H} {ps : List MemPlace} (hval : Value.okWide Try.prog W r b0 53 v) (h : DataW.Trod enc Try.prog W base spare held 53 v d ps) : ∃ a b : Int, ((0 ≤ a ∧ a ≤ 255) ∧ 0 ≤ b ∧ b ≤ 255) ∧ v = .agg #[.int .u8 a, .int .u8 b] := by
  obtain ⟨cs, rfl, hsz⟩ := okWide_array Try.underlying53 hval
  rw [cells53] at hsz
  obtain ⟨l⟩ := cs
  obtain ⟨c0, c1, rfl⟩ : ∃ c0 c1, l = [c0, c1] := by
    match l, hsz with
    | [c0, c1], _ => exact ⟨c0, c1, rfl⟩
  obtain ⟨fuel, hf⟩ := h
  obtain ⟨xs, m, _, _, _, hlen, hel⟩ := DataW.trod_array Try.underlying53 hf
  have h0 := hel 0 (by decide)
  have h1 := hel 1 (by decide)
  rw [cells5] at h0 h1
  rw [List.getElem?_eq_getElem (by omega)] at h0 h1
  obtain ⟨a, ea, _, wa⟩ := DataW.trod_int Try.underlying5 h0
  obtain ⟨b, eb, _, wb⟩ := DataW.trod_int Try.underlying5 h1
  have ea' : c0 = .int .u8 a := (List.cons.inj (show [c0] = [Value.int .u8 a] from ea)).1
  have eb' : c1 = .int .u8 b := (List.cons.inj (show [c1] = [Value.int .u8 b] from eb)).1
  subst ea' eb'
  exact ⟨a, b, ⟨wf_u8 wa, wf_u8 wb⟩, rfl⟩
end Go.Proofs.Ph
/- DiagQuiet: its arguments opened. No condition. -/
namespace Go.Proofs.Ph
open Go Go.RowKit
theorem quiet_row {w : World} {vs vn vq : Value} (o0 : ∃ s, W25 s ∧ RdS w T0 vs s) (o1 : ∃ a b : Int, ((0 ≤ a ∧ a ≤ 255) ∧ 0 ≤ b ∧ b ≤ 255) ∧ vn = .agg #[.int .u8 a, .int .u8 b]) (o2 : ∃ l, l.length ≤ 9223372036854775807 ∧ Byt l ∧ RdF kb w T0 vq l) : Calls Try.prog 7 #[vs, vn, vq] w fun e w' => e = .returned (.bool true) ∧ Below w.heap.size w w' := by
  obtain ⟨s, hs, rs⟩ := o0
  obtain ⟨a, b, ⟨⟨h0, h1⟩, h2, h3⟩, rfl⟩ := o1
  obtain ⟨q, -, hb, rq⟩ := o2
  exact quiet_walk h0 h1 h2 h3 rs (fun x hx => (hs.f7.2 x hx).2.1) rq hb
end Go.Proofs.Ph
