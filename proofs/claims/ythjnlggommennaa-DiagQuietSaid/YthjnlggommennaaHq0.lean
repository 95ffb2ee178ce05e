/- Part 1 of the proof of DiagQuiet, for every input: Quiet, LHx. No condition. -/
import Derived.Test.YthjnlggommennaaH9
import Derived.Test.YthjnlggommennaaH25
import Derived.Test.YthjnlggommennaaH26
import Derived.Test.YthjnlggommennaaH20
import Derived.Test.YthjnlggommennaaH8
import Derived.Test.YthjnlggommennaaH2
set_option linter.unusedVariables false
set_option linter.unusedSimpArgs false
set_option linter.unusedSectionVars false
/- Ticks taken together, and what is quiet: plain. No condition. -/
namespace Go.Proofs.Ph
open Go Go.RowKit
theorem ticks_add (s : S25) (a : Nat) : ∀ b : Nat, ticks b (ticks a s) = ticks (a + b) s
  | 0 => rfl
  | b + 1 => by
    show tick (ticks b (ticks a s)) = tick (ticks (a + b) s)
    rw [ticks_add s a b]
/-- Behind fifty and one ticks. -/
theorem ticks_shut {s : S25} (h0 : 0 ≤ s.f4 ∧ s.f4 ≤ 51) (h1 : 0 ≤ s.f3 ∧ s.f3 ≤ 12) {k : Nat} (hk : 50 < k) : (ticks k s).f0 = 1 ∧ (ticks k s).f1 = false ∧ (ticks k s).f2 = -1 := by
  cases k with
  | zero => omega
  | succ k =>
    refine tick_shut _ ?_
    rw [ticks_f4 h0 h1 k]
    omega
theorem tick_calm (s : S25) (h : 0 ≤ s.f4) (h' : s.f4 + 1 ≤ 50) : (tick s).f0 = s.f0 ∧ (tick s).f1 = s.f1 ∧ (tick s).f2 = s.f2 := by
  unfold tick tickC tickB tickA
  dsimp only
  repeat' split
  all_goals (try dsimp only at *)
  all_goals first | exact ⟨rfl, rfl, rfl⟩ | (exfalso; omega)
theorem ticks_calm {s : S25} (h0 : 0 ≤ s.f4 ∧ s.f4 ≤ 51) (h1 : 0 ≤ s.f3 ∧ s.f3 ≤ 12) : ∀ k : Nat, s.f4 + (k : Int) ≤ 50 → (ticks k s).f0 = s.f0 ∧ (ticks k s).f1 = s.f1 ∧ (ticks k s).f2 = s.f2
  | 0, _ => ⟨rfl, rfl, rfl⟩
  | k + 1, hk => by
    obtain ⟨i0, i1, i2⟩ := ticks_calm h0 h1 k (by omega)
    have h4 := ticks_f4 h0 h1 k
    obtain ⟨j0, j1, j2⟩ := tick_calm (ticks k s) (by omega) (by omega)
    exact ⟨j0.trans i0, j1.trans i1, j2.trans i2⟩
theorem do_f4 (F : Nat) (s : S25) (q : List Int) : (mDo F s q).1.f4 = s.f4 := by
  unfold mDo
  split
  · unfold mSeed; repeat' split
    all_goals rfl
  · unfold mKey; repeat' split
    all_goals rfl
  · unfold mHand; repeat' split
    all_goals rfl
  · unfold mSession; repeat' split
    all_goals rfl
  · unfold mRead; repeat' split
    all_goals rfl
  · unfold mWrite; repeat' split
    all_goals rfl
  · unfold mForget; repeat' split
    all_goals rfl
  · rfl
  · rfl
theorem answer_f4 (n : Int) (s : S25) (q : List Int) : (mAnswer n s q).1.f4 = s.f4 := by
  unfold mAnswer
  split
  · rfl
  · rename_i l F _
    split
    · have h := do_f4 F s q
      split <;> rename_i e <;> rw [e] at h <;> exact h
    · rfl
theorem ask_f4 (s : S25) (q : List Int) (h : 0 < q.length) : (mAsk s q).1.f4 = 0 := by
  unfold mAsk
  rw [if_neg (by omega)]
  split <;> exact answer_f4 _ _ _
theorem ask_nil (s : S25) (q : List Int) (h : q.length = 0) : (mAsk s q).1 = s := by
  unfold mAsk
  rw [if_pos h]
theorem tick_items (s : S25) : (tick s).f7 = s.f7 ∧ (tick s).f8 = s.f8 := by
  unfold tick tickC tickB tickA
  simp only []
  repeat' split
  all_goals exact ⟨rfl, rfl⟩
theorem ticks_f7 (s : S25) : ∀ k : Nat, (ticks k s).f7 = s.f7
  | 0 => rfl
  | k + 1 => (tick_items _).1.trans (ticks_f7 s k)
theorem ticks_f8 (s : S25) : ∀ k : Nat, (ticks k s).f8 = s.f8
  | 0 => rfl
  | k + 1 => (tick_items _).2.trans (ticks_f8 s k)
theorem ticks_fine {s : S25} {q : List Int} (h : Fine s q) (h0 : 0 ≤ s.f4 ∧ s.f4 ≤ 51) (h1 : 0 ≤ s.f3 ∧ s.f3 ≤ 12) (k : Nat) : Fine (ticks k s) q :=
  ⟨(ticks_range h0 h1 k).2.1, by rw [ticks_f7]; exact h.items, by rw [ticks_f7]; exact h.data, by rw [ticks_f8]; exact h.dtc, h.len, h.byt⟩
end Go.Proofs.Ph
/- Made's server is fine; a cut row. No condition. -/
namespace Go.Proofs.Ph
open Go Go.RowKit Go.Proofs.YthjnlggommennaaW.PrintWords Go.Proofs.YthjnlggommennaaW.PrintMore
theorem keep_len : ∀ (n : Nat) (last : Int) (l : List S47), (keep n last l).length ≤ n
  | 0, _, _ => by unfold keep; simp
  | n + 1, last, [] => by simp [keep]
  | n + 1, last, x :: l => by
    unfold keep
    split
    · rw [List.length_cons]; exact Nat.succ_le_succ (keep_len n _ l)
    · exact Nat.le_succ_of_le (keep_len n _ l)
theorem keep_data : ∀ (n : Nat) (last : Int) (l : List S47), ∀ y ∈ keep n last l, y.f2.length ≤ 64
  | 0, _, _, y, hy => by unfold keep at hy; cases hy
  | n + 1, last, [], y, hy => by simp [keep] at hy
  | n + 1, last, x :: l, y, hy => by
    unfold keep at hy
    split at hy
    · rcases List.mem_cons.mp hy with h | h
      · subst h
        show (x.f2.take 64).length ≤ 64
        rw [List.length_take]
        omega
      · exact keep_data n _ l y h
    · exact keep_data n _ l y hy
theorem made_fine (s : S25) (q : List Int) (hq : q.length ≤ 1000) (hB : Byt q) : Fine (mMade s) q := by
  refine ⟨?_, ?_, ?_, ?_, hq, hB⟩
  · show 0 ≤ s.f3 % 65536 % 13
    omega
  · have := keep_len 16 (-1) s.f7
    show (keep 16 (-1) s.f7).length ≤ 1000
    omega
  · intro x hx
    have := keep_data 16 (-1) s.f7 x hx
    omega
  · show (if rOk s.f8 = true then s.f8 else []).length ≤ 600
    split
    · rename_i h
      unfold rOk at h
      simp only [Bool.and_eq_true, decide_eq_true_eq] at h
      omega
    · simp
theorem run_cut {A : Option Addr} {n c ml : Nat} (hn : n ≤ c) (h1 : ml ≤ c) (W : World) : (Instr.slice 31 (.slice A n c) none (some (.int .i64 (ml : Int))) none).run Try.prog W = .ok (.slice A ml c) W := by
  have hu := Try.underlying31
  have h0 : (0 : Int) ≤ (ml : Int) := by omega
  have h2 : (ml : Int) ≤ (c : Int) := by omega
  cases A with
  | none => go_simp
  | some ad => go_simp
end Go.Proofs.Ph
