/- Part 24 of the proof of DiagHands, for every input: HR. No condition. -/
import Derived.Test.YthjnlggommennaaH22
import Derived.Test.YthjnlggommennaaH9
set_option linter.unusedVariables false
set_option linter.unusedSimpArgs false
set_option linter.unusedSectionVars false
/- diag.Right of the head's servers. No condition. -/
namespace Go.Proofs.Ph
open Go Go.RowKit Go.Proofs.YthjnlggommennaaW.PrintWords
/-- diag.Right says yes. -/
theorem right_yes {w : World} {vs : Value} {s : S25} (hs : RdS w T0 vs s) (k : Nat) (h : Go.Proofs.Ph.Ri.diag_Right.f k s.f0 s.f1 s.f2 s.f3 s.f4 s.f5 s.f6 s.f7 s.f8 = some true) : Calls Try.prog 27 #[vs] w fun e w' => e = .returned (.bool true) ∧ Fr (fun _ => False) w w' := by
  obtain ⟨vi, vd, rfl, ⟨Ai, ci, rfl, hli, hi⟩, ⟨Ad, cd, rfl, hld, hd⟩⟩ := hs
  exact (Go.Proofs.Ph.Ri.diag_Right.calls k _ _ _ _ _ _ _ Ai ci _ Ad cd _ w (Kd.F_now hi) hli (Kd.F_now hd) hld h).mono fun e w' hh => ⟨hh.1,Fr.of_below hh.2 _⟩
theorem right_head : Go.Proofs.Ph.Ri.diag_Right.f 5 1 false (-1) 0 0 5 7 [⟨258, true, [1, 2]⟩] [] = some true := by decide +kernel
theorem within_zero (w : World) : Calls Try.prog 75 #[.int .i64 0,.int .i64 1,.int .i64 3] w fun e w' => e = .returned (.bool false) ∧ w = w' := (within_calls 0 1 3 w).mono fun e w' h => ⟨h.1.trans (by simp),h.2⟩
set_option maxRecDepth 100000 in
set_option maxHeartbeats 4000000 in
theorem right_zero (w : World) : Calls Try.prog 27 #[.agg #[.int .i64 0,.bool false,.int .i64 0,.int .i64 0,.int .i64 0,.int .i64 0,.int .i64 0,.slice none 0 0,.slice none 0 0]] w fun e w' => e = .returned (.bool false) ∧ Fr (fun _ => False) w w' := by
  go_enter Try.func27, Try.ntmps27
  go_wp2
  refine wp_loop_rounds 1 ?_
  rw [rounds_succ]
  go_wp2_with (go_at_call 75; refine (within_zero _).mono ?_; rintro e w' ⟨rfl, rfl⟩)
  go_ret
  exact ⟨rfl, (Fr.refl _ w).alloc _⟩
end Go.Proofs.Ph
