/- Part 3 of the proof of DiagKey, for every input: R8, StubR, Ri0, Ri1, Ri3, H0, HR, R4, R5, H1, KeyMath, LK. No condition. -/
import Derived.Test.YthjnlggommennaaK1
import Derived.Test.YthjnlggommennaaWLast
import Derived.Test.YthjnlggommennaaWGuard
import Derived.Test.YthjnlggommennaaProg
import Derived.Below
import Derived.Deep.Draws
import Derived.Deep.AppendLies
import Derived.Maps.AppendAt
import Derived.OwnWalk
import Derived.Laws.BytesArg
import Derived.Laws.MakeOwn
import Derived.Laws.OwnMore
import Derived.Deep.OwnRows
import Derived.Tactics
import Derived.Lib.ConvBytes
import Derived.Laws.Slices
import Derived.WalkKit
import Derived.KernelRfl
import Derived.RowKit3
import Derived.Deep.LoopGhost
import Derived.Deep.QuietTactic
import Derived.BigQuiet
import Derived.WideLaws
import Derived.Deep.DeepCutAuto
import Derived.Deep.CutBlock
import Derived.Deep.RegionHeld3
import Derived.Laws.Rows
import Derived.Lib.AppendStr
import Derived.ArgAppend
import Derived.Laws.IdiomCopy
import Derived.OrdersHeld
import Derived.Laws.BitsLemmas
import Derived.RowKit
import Derived.Test.YthjnlggommennaaWWords
import Derived.Test.YthjnlggommennaaWTab
import Derived.Test.YthjnlggommennaaWFour
import Derived.Test.YthjnlggommennaaWQPut
import Derived.Test.YthjnlggommennaaWApart
import Derived.Test.YthjnlggommennaaWArr
import Derived.Test.YthjnlggommennaaWZeros
import Derived.Test.YthjnlggommennaaWFoot
import Derived.Test.YthjnlggommennaaWKept
import Derived.Test.YthjnlggommennaaWShare
import Derived.Test.YthjnlggommennaaWN
import Derived.Test.YthjnlggommennaaWFootNe
import Derived.Test.YthjnlggommennaaWAt
import Derived.Test.YthjnlggommennaaWEqStruct
import Derived.Test.YthjnlggommennaaWRepsOne
import Derived.Test.YthjnlggommennaaWInv
import Derived.Test.YthjnlggommennaaWInvWords
import Derived.Test.YthjnlggommennaaWNEv
import Derived.Test.YthjnlggommennaaWMore
import Derived.Outline
import Derived.Test.YthjnlggommennaaK0
set_option linter.unusedVariables false
set_option linter.unusedSimpArgs false
/- dtc.Right, where it says yes. No condition. -/
namespace Go.Proofs.Ph
open Go Go.RowKit Go.Proofs.YthjnlggommennaaW.PrintWords Go.Proofs.YthjnlggommennaaW.PrintLast
/-- Do the numbers grow? -/
def grows : List S161 → Bool
  | [] => true
  | [_] => true
  | x :: y :: l => decide (x.f0 < y.f0) && grows (y :: l)
theorem grows_at : ∀ (l : List S161) (j : Nat), grows l = true → j + 1 < l.length → (l.getD j z161).f0 < (l.getD (j + 1) z161).f0
  | [], _, _, h => by simp at h
  | [_], j, _, h => by simp at h
  | x :: y :: l, 0, h, _ => by
    simp only [grows, Bool.and_eq_true, decide_eq_true_eq] at h
    simpa using h.1
  | x :: y :: l, j + 1, h, hj => by
    simp only [grows, Bool.and_eq_true, decide_eq_true_eq] at h
    have := grows_at (y :: l) j h.2 (by simpa using hj)
    simpa using this
/-- May troubles be so? -/
def dOk (l : List S161) : Bool := decide (l.length ≤ 16) && l.all tOk && grows l
theorem dOk_at {l : List S161} (h : dOk l = true) (j : Nat) (hj : j < l.length) : tOk (l.getD j z161) = true := by
  unfold dOk at h
  simp only [Bool.and_eq_true, List.all_eq_true] at h
  rw [List.getD_eq_getElem?_getD, List.getElem?_eq_getElem hj]
  exact h.1.2 _ (List.getElem_mem hj)
set_option maxRecDepth 100000 in
set_option maxHeartbeats 4000000 in
theorem dRight_yes {w : World} {A : Option Addr} {c : Nat} {xs : List S161} (hC : Kd.C k161 w A xs.length xs) (hc : xs.length ≤ c) (hy : dOk xs = true) : Calls Try.prog 76 #[.slice A xs.length c] w fun e w' => e = .returned (.bool true) ∧ Fr (fun _ => False) w w' := by
  have HC := Aside0.mk hC
  have hl : (xs.length : Int) ≤ 16 := by unfold dOk at hy; simp only [Bool.and_eq_true, decide_eq_true_eq] at hy; omega
  have hg : Aside0 (grows xs = true) := ⟨by unfold dOk at hy; simp only [Bool.and_eq_true] at hy; exact hy.2⟩
  have HY := Aside0.mk hy
  clear hC hy
  go_enter Try.func76, Try.ntmps76
  go_wp2
  go_loopw [6] (fun t wr => ∃ k : Nat, k ≤ xs.length ∧ t = .int .i64 k ∧ Aside0 (Fr (fun _ => False) w wr)) (fun t _ => xs.length - (intOf t).toNat)
  case atStart => exact ⟨0, Nat.zero_le _, rfl, ⟨Fr.refl _ _⟩⟩
  case round =>
    obtain ⟨k, hk, rfl, hD⟩ := hrel
    by_cases hlt : k < xs.length
    · have hok := dOk_at HY.out k hlt
      obtain ⟨ad, e1, x0, x1, x2, x3⟩ := at_T161 (Kd.C_below HC.out (Fr.below hD.out (fun _ h => h.elim))) (k : Int) (by omega) (by omega)
      subst e1
      have T : TC wr (ad.add (k * 4)) (xs.getD k z161) := ⟨x0, x1, x2, x3⟩
      clear x1 x2 x3
      have hlt' : (k : Int) < (xs.length : Int) := by omega
      rcases Nat.eq_zero_or_pos k with rfl | hpos
      · go_wp2
        refine start_ (n := 24) (S := fun w' => True) (ds := []) #[false, false, false, false, false, false, false, false, false, false, false, false, false, false, false, false, false, false, false, false, false, false, false, false] (by kernel_rfl) rfl rfl trivial (fun hHeld => ?_)
        refine pure_ (i := 0) (N := some 9) (v := ?_) (a' := ?_) #[true, false, false, false, false, false, false, false, false, false, false, false, false, false, false, false, false, false, false, false, false, false, false, false] rfl rfl (by kernel_rfl) (fun _ _ _ h => h) (Or.inl ⟨by rfl, ?_⟩) ?_ ?_
        rotate_left
        · intro w'
          go_simp
          with_reducible rfl
        rotate_left
        · simp only [Act.put, List.setIfInBounds_toArray, List.set_cons_zero, List.set_cons_succ, i64_w, i32_w]
          rfl
        refine pure_ (i := 1) (N := some 10) (v := ?_) (a' := ?_) #[true, true, false, false, false, false, false, false, false, false, false, false, false, false, false, false, false, false, false, false, false, false, false, false] rfl rfl (by kernel_rfl) (fun _ _ _ h => h) (Or.inl ⟨by rfl, ?_⟩) ?_ ?_
        rotate_left
        · intro w'
          go_simp
          with_reducible rfl
        rotate_left
        · simp only [Act.put, List.setIfInBounds_toArray, List.set_cons_zero, List.set_cons_succ, i64_w, i32_w]
          rfl
        refine pure_ (i := 2) (N := some 11) (v := ?_) (a' := ?_) #[true, true, true, false, false, false, false, false, false, false, false, false, false, false, false, false, false, false, false, false, false, false, false, false] rfl rfl (by kernel_rfl) (fun _ _ _ h => h) (Or.inl ⟨by rfl, ?_⟩) ?_ ?_
        rotate_left
        · intro w'
          go_simp
          with_reducible rfl
        rotate_left
        · simp only [Act.put, List.setIfInBounds_toArray, List.set_cons_zero, List.set_cons_succ, i64_w, i32_w]
          rfl
        refine pure_ (i := 3) (N := some 12) (v := undef) (a' := ?_) #[true, true, true, true, false, false, false, false, false, false, false, false, false, false, false, false, false, false, false, false, false, false, false, false] rfl rfl (by kernel_rfl) (fun _ _ _ h => h) (Or.inr ⟨by rfl, rfl⟩) ?_ ?_
        rotate_left
        · simp only [Act.put, List.setIfInBounds_toArray, List.set_cons_zero, List.set_cons_succ, i64_w, i32_w]
          rfl
        refine pure_ (i := 4) (N := some 13) (v := undef) (a' := ?_) #[true, true, true, true, true, false, false, false, false, false, false, false, false, false, false, false, false, false, false, false, false, false, false, false] rfl rfl (by kernel_rfl) (fun _ _ _ h => h) (Or.inr ⟨by rfl, rfl⟩) ?_ ?_
        rotate_left
        · simp only [Act.put, List.setIfInBounds_toArray, List.set_cons_zero, List.set_cons_succ, i64_w, i32_w]
          rfl
        refine pure_ (i := 5) (N := some 14) (v := undef) (a' := ?_) #[true, true, true, true, true, true, false, false, false, false, false, false, false, false, false, false, false, false, false, false, false, false, false, false] rfl rfl (by kernel_rfl) (fun _ _ _ h => h) (Or.inr ⟨by rfl, rfl⟩) ?_ ?_
        rotate_left
        · simp only [Act.put, List.setIfInBounds_toArray, List.set_cons_zero, List.set_cons_succ, i64_w, i32_w]
          rfl
        refine pure_ (i := 6) (N := some 15) (v := undef) (a' := ?_) #[true, true, true, true, true, true, true, false, false, false, false, false, false, false, false, false, false, false, false, false, false, false, false, false] rfl rfl (by kernel_rfl) (fun _ _ _ h => h) (Or.inr ⟨by rfl, rfl⟩) ?_ ?_
        rotate_left
        · simp only [Act.put, List.setIfInBounds_toArray, List.set_cons_zero, List.set_cons_succ, i64_w, i32_w]
          rfl
        refine pure_ (i := 7) (N := some 16) (v := undef) (a' := ?_) #[true, true, true, true, true, true, true, true, false, false, false, false, false, false, false, false, false, false, false, false, false, false, false, false] rfl rfl (by kernel_rfl) (fun _ _ _ h => h) (Or.inr ⟨by rfl, rfl⟩) ?_ ?_
        rotate_left
        · simp only [Act.put, List.setIfInBounds_toArray, List.set_cons_zero, List.set_cons_succ, i64_w, i32_w]
          rfl
        refine pure_ (i := 8) (N := some 17) (v := undef) (a' := ?_) #[true, true, true, true, true, true, true, true, true, false, false, false, false, false, false, false, false, false, false, false, false, false, false, false] rfl rfl (by kernel_rfl) (fun _ _ _ h => h) (Or.inr ⟨by rfl, rfl⟩) ?_ ?_
        rotate_left
        · simp only [Act.put, List.setIfInBounds_toArray, List.set_cons_zero, List.set_cons_succ, i64_w, i32_w]
          rfl
        refine pure_ (i := 9) (N := some 18) (v := undef) (a' := ?_) #[true, true, true, true, true, true, true, true, true, true, false, false, false, false, false, false, false, false, false, false, false, false, false, false] rfl rfl (by kernel_rfl) (fun _ _ _ h => h) (Or.inr ⟨by rfl, rfl⟩) ?_ ?_
        rotate_left
        · simp only [Act.put, List.setIfInBounds_toArray, List.set_cons_zero, List.set_cons_succ, i64_w, i32_w]
          rfl
        refine pure_ (i := 10) (N := some 19) (v := undef) (a' := ?_) #[true, true, true, true, true, true, true, true, true, true, true, false, false, false, false, false, false, false, false, false, false, false, false, false] rfl rfl (by kernel_rfl) (fun _ _ _ h => h) (Or.inr ⟨by rfl, rfl⟩) ?_ ?_
        rotate_left
        · simp only [Act.put, List.setIfInBounds_toArray, List.set_cons_zero, List.set_cons_succ, i64_w, i32_w]
          rfl
        refine pure_ (i := 11) (N := some 20) (v := undef) (a' := ?_) #[true, true, true, true, true, true, true, true, true, true, true, true, false, false, false, false, false, false, false, false, false, false, false, false] rfl rfl (by kernel_rfl) (fun _ _ _ h => h) (Or.inr ⟨by rfl, rfl⟩) ?_ ?_
        rotate_left
        · simp only [Act.put, List.setIfInBounds_toArray, List.set_cons_zero, List.set_cons_succ, i64_w, i32_w]
          rfl
        refine pure_ (i := 12) (N := some 21) (v := undef) (a' := ?_) #[true, true, true, true, true, true, true, true, true, true, true, true, true, false, false, false, false, false, false, false, false, false, false, false] rfl rfl (by kernel_rfl) (fun _ _ _ h => h) (Or.inr ⟨by rfl, rfl⟩) ?_ ?_
        rotate_left
        · simp only [Act.put, List.setIfInBounds_toArray, List.set_cons_zero, List.set_cons_succ, i64_w, i32_w]
          rfl
        refine pure_ (i := 13) (N := some 22) (v := undef) (a' := ?_) #[true, true, true, true, true, true, true, true, true, true, true, true, true, true, false, false, false, false, false, false, false, false, false, false] rfl rfl (by kernel_rfl) (fun _ _ _ h => h) (Or.inr ⟨by rfl, rfl⟩) ?_ ?_
        rotate_left
        · simp only [Act.put, List.setIfInBounds_toArray, List.set_cons_zero, List.set_cons_succ, i64_w, i32_w]
          rfl
        refine pure_ (i := 14) (N := some 23) (v := undef) (a' := ?_) #[true, true, true, true, true, true, true, true, true, true, true, true, true, true, true, false, false, false, false, false, false, false, false, false] rfl rfl (by kernel_rfl) (fun _ _ _ h => h) (Or.inr ⟨by rfl, rfl⟩) ?_ ?_
        rotate_left
        · simp only [Act.put, List.setIfInBounds_toArray, List.set_cons_zero, List.set_cons_succ, i64_w, i32_w]
          rfl
        refine pure_ (i := 15) (N := some 24) (v := ?_) (a' := ?_) #[true, true, true, true, true, true, true, true, true, true, true, true, true, true, true, true, false, false, false, false, false, false, false, false] rfl rfl (by kernel_rfl) (fun _ _ _ h => h) (Or.inl ⟨by rfl, ?_⟩) ?_ ?_
        rotate_left
        · intro w'
          go_simp
          with_reducible rfl
        rotate_left
        · simp only [Act.put, List.setIfInBounds_toArray, List.set_cons_zero, List.set_cons_succ, i64_w, i32_w]
          rfl
        refine pure_ (i := 16) (N := some 25) (v := ?_) (a' := ?_) #[true, true, true, true, true, true, true, true, true, true, true, true, true, true, true, true, true, false, false, false, false, false, false, false] rfl rfl (by kernel_rfl) (fun _ _ _ h => h) (Or.inl ⟨by rfl, ?_⟩) ?_ ?_
        rotate_left
        · intro w'
          go_simp
          with_reducible rfl
        rotate_left
        · simp only [Act.put, List.setIfInBounds_toArray, List.set_cons_zero, List.set_cons_succ, i64_w, i32_w]
          rfl
        refine pure_ (i := 17) (N := some 26) (v := ?_) (a' := ?_) #[true, true, true, true, true, true, true, true, true, true, true, true, true, true, true, true, true, true, false, false, false, false, false, false] rfl rfl (by kernel_rfl) (fun _ _ _ h => h) (Or.inl ⟨by rfl, ?_⟩) ?_ ?_
        rotate_left
        · intro w'
          go_simp
          with_reducible rfl
        rotate_left
        · simp only [Act.put, List.setIfInBounds_toArray, List.set_cons_zero, List.set_cons_succ, i64_w, i32_w]
          rfl
        refine pure_ (i := 18) (N := some 27) (v := ?_) (a' := ?_) #[true, true, true, true, true, true, true, true, true, true, true, true, true, true, true, true, true, true, true, false, false, false, false, false] rfl rfl (by kernel_rfl) (fun _ _ _ h => h) (Or.inl ⟨by rfl, ?_⟩) ?_ ?_
        rotate_left
        · intro w'
          go_simp
          with_reducible rfl
        rotate_left
        · simp only [Act.put, List.setIfInBounds_toArray, List.set_cons_zero, List.set_cons_succ, i64_w, i32_w]
          rfl
        refine pure_ (i := 19) (N := some 28) (v := ?_) (a' := ?_) #[true, true, true, true, true, true, true, true, true, true, true, true, true, true, true, true, true, true, true, true, false, false, false, false] rfl rfl (by kernel_rfl) (fun _ _ _ h => h) (Or.inl ⟨by rfl, ?_⟩) ?_ ?_
        rotate_left
        · intro w'
          go_simp
          with_reducible rfl
        rotate_left
        · simp only [Act.put, List.setIfInBounds_toArray, List.set_cons_zero, List.set_cons_succ, i64_w, i32_w]
          rfl
        refine pure_ (i := 20) (N := some 29) (v := ?_) (a' := ?_) #[true, true, true, true, true, true, true, true, true, true, true, true, true, true, true, true, true, true, true, true, true, false, false, false] rfl rfl (by kernel_rfl) (fun _ _ _ h => h) (Or.inl ⟨by rfl, ?_⟩) ?_ ?_
        rotate_left
        · intro w'
          go_simp
          with_reducible rfl
        rotate_left
        · simp only [Act.put, List.setIfInBounds_toArray, List.set_cons_zero, List.set_cons_succ, i64_w, i32_w]
          rfl
        refine one_ (i := 21) (N := some 30) #[true, true, true, true, true, true, true, true, true, true, true, true, true, true, true, true, true, true, true, true, true, true, false, false] rfl rfl (by kernel_rfl) (by decide) (fun K hK => ?_)
        refine goes_ Try.func119 (by kernel_rfl) rfl #[.agg #[.pointer (some (ad.add (0 * 4)))]] (by rfl) rfl rfl (by simp only [List.map_toArray, List.map_cons, List.map_nil]; rfl) ?_
        with_reducible refine ((tOk_yes (T.fr (Fr.drew (Fr.refl _ _))) hok)).mono ?_
        rintro e w3 ⟨rfl, hf3⟩
        refine ⟨_, rfl, ?_⟩
        refine hK.out _ _ trivial (fun hHeld => ?_)
        clear hK K
        refine norm_ (a' := ?_) ?_ ?_
        rotate_left
        · show Act.put _ (some 30) _ = _
          simp only [Act.put, List.setIfInBounds_toArray, List.set_cons_zero, List.set_cons_succ, i64_w, i32_w]
          rfl
        refine pure_ (i := 22) (N := some 31) (v := ?_) (a' := ?_) #[true, true, true, true, true, true, true, true, true, true, true, true, true, true, true, true, true, true, true, true, true, true, true, false] rfl rfl (by kernel_rfl) (fun _ _ _ h => h) (Or.inl ⟨by rfl, ?_⟩) ?_ ?_
        rotate_left
        · intro w'
          go_simp
          with_reducible rfl
        rotate_left
        · simp only [Act.put, List.setIfInBounds_toArray, List.set_cons_zero, List.set_cons_succ, i64_w, i32_w]
          rfl
        refine pure_ (i := 23) (N := some 32) (v := ?_) (a' := ?_) #[true, true, true, true, true, true, true, true, true, true, true, true, true, true, true, true, true, true, true, true, true, true, true, true] rfl rfl (by kernel_rfl) (fun _ _ _ h => h) (Or.inl ⟨by rfl, ?_⟩) ?_ ?_
        rotate_left
        · intro w'
          go_simp
          with_reducible rfl
        rotate_left
        · simp only [Act.put, List.setIfInBounds_toArray, List.set_cons_zero, List.set_cons_succ, i64_w, i32_w]
          rfl
        refine done_ (by kernel_rfl) ?_
  
        go_wp2
        go_roundw
        case rel => exact ⟨0 + 1, by omega, by go_num, ⟨(hD.out.drew).trans hf3 (fun _ h => .inl h)⟩⟩
        case measure => simp [intOf]; omega
      · obtain ⟨j, rfl⟩ : ∃ j, k = j + 1 := ⟨k - 1, by omega⟩
        obtain ⟨ad', e1', y0, -, -, -⟩ := at_T161 (Kd.C_below HC.out (Fr.below hD.out (fun _ h => h.elim))) (j : Int) (by omega) (by omega)
        injection e1' with e1'
        subst e1'
        have hgr := grows_at xs j hg.out hlt
        have hgt : decide ((0 : Int) < (j : Int) + 1) = true := decide_eq_true (by omega)
        have hle : decide ((rd_T161 xs ((j : Int) + 1)).f0 ≤ (rd_T161 xs (j : Int)).f0) = false := by
          rw [show ((j : Int) + 1) = ((j + 1 : Nat) : Int) by omega]
          have h1 : (rd_T161 xs ((j + 1 : Nat) : Int)).f0 = (xs.getD (j + 1) z161).f0 := rfl
          have h2 : (rd_T161 xs (j : Int)).f0 = (xs.getD j z161).f0 := rfl
          rw [h1, h2]
          simpa using hgr
        have hj0 : (0 : Int) ≤ (j : Int) := by omega
        have hjl : (j : Int) < (xs.length : Int) := by omega
        have hj1 : (0 : Int) ≤ (j : Int) + 1 := by omega
        have hjl1 : (j : Int) + 1 < (xs.length : Int) := by omega
        clear hgr
        rw [show ((j + 1 : Nat) : Int) = (j : Int) + 1 by omega] at x0
        have hwj : wrap64 (j : Int) = (j : Int) := by unfold wrap64; omega
        go_wp2
        refine start_ (n := 24) (S := fun w' => w'.cell? (ad.add ((j + 1) * 4)) = some (.int .i64 (rd_T161 xs ((j : Int) + 1)).f0) ∧ w'.cell? (ad.add (j * 4)) = some (.int .i64 (rd_T161 xs (j : Int)).f0)) (ds := []) #[false, false, false, false, false, false, false, false, false, false, false, false, false, false, false, false, false, false, false, false, false, false, false, false] (by kernel_rfl) rfl rfl ⟨x0, y0⟩ (fun hHeld => ?_)
        refine pure_ (i := 0) (N := some 9) (v := ?_) (a' := ?_) #[true, false, false, false, false, false, false, false, false, false, false, false, false, false, false, false, false, false, false, false, false, false, false, false] rfl rfl (by kernel_rfl) (fun _ _ _ h => h) (Or.inl ⟨by rfl, ?_⟩) ?_ ?_
        rotate_left
        · intro w'
          go_simp
          with_reducible rfl
        rotate_left
        · simp only [Act.put, List.setIfInBounds_toArray, List.set_cons_zero, List.set_cons_succ, i64_w, i32_w]
          rfl
        refine pure_ (i := 1) (N := some 10) (v := ?_) (a' := ?_) #[true, true, false, false, false, false, false, false, false, false, false, false, false, false, false, false, false, false, false, false, false, false, false, false] rfl rfl (by kernel_rfl) (fun _ _ _ h => h) (Or.inl ⟨by rfl, ?_⟩) ?_ ?_
        rotate_left
        · intro w'
          go_simp
          with_reducible rfl
        rotate_left
        · simp only [Act.put, List.setIfInBounds_toArray, List.set_cons_zero, List.set_cons_succ, i64_w, i32_w]
          rfl
        refine pure_ (i := 2) (N := some 11) (v := ?_) (a' := ?_) #[true, true, true, false, false, false, false, false, false, false, false, false, false, false, false, false, false, false, false, false, false, false, false, false] rfl rfl (by kernel_rfl) (fun _ _ _ h => h) (Or.inl ⟨by rfl, ?_⟩) ?_ ?_
        rotate_left
        · intro w'
          go_simp
          with_reducible rfl
        rotate_left
        · simp only [Act.put, List.setIfInBounds_toArray, List.set_cons_zero, List.set_cons_succ, i64_w, i32_w]
          rfl
        refine pure_ (i := 3) (N := some 12) (v := ?_) (a' := ?_) #[true, true, true, true, false, false, false, false, false, false, false, false, false, false, false, false, false, false, false, false, false, false, false, false] rfl rfl (by kernel_rfl) (fun _ _ _ h => h) (Or.inl ⟨by rfl, ?_⟩) ?_ ?_
        rotate_left
        · intro w'
          go_simp
          with_reducible rfl
        rotate_left
        · simp only [Act.put, List.setIfInBounds_toArray, List.set_cons_zero, List.set_cons_succ, i64_w, i32_w]
          rfl
        refine pure_ (i := 4) (N := some 13) (v := ?_) (a' := ?_) #[true, true, true, true, true, false, false, false, false, false, false, false, false, false, false, false, false, false, false, false, false, false, false, false] rfl rfl (by kernel_rfl) (fun _ _ _ h => h) (Or.inl ⟨by rfl, ?_⟩) ?_ ?_
        rotate_left
        · intro w'
          go_simp
          with_reducible rfl
        rotate_left
        · simp only [Act.put, List.setIfInBounds_toArray, List.set_cons_zero, List.set_cons_succ, i64_w, i32_w]
          rfl
        refine pure_ (i := 5) (N := some 14) (v := ?_) (a' := ?_) #[true, true, true, true, true, true, false, false, false, false, false, false, false, false, false, false, false, false, false, false, false, false, false, false] rfl rfl (by kernel_rfl) (fun _ _ _ h => h) (Or.inl ⟨by rfl, ?_⟩) ?_ ?_
        rotate_left
        · intro w'
          go_simp
          with_reducible rfl
        rotate_left
        · simp only [Act.put, List.setIfInBounds_toArray, List.set_cons_zero, List.set_cons_succ, i64_w, i32_w]
          rfl
        refine pure_ (i := 6) (N := some 15) (v := ?_) (a' := ?_) #[true, true, true, true, true, true, true, false, false, false, false, false, false, false, false, false, false, false, false, false, false, false, false, false] rfl rfl (by kernel_rfl) (fun _ _ _ h => h) (Or.inl ⟨by rfl, ?_⟩) ?_ ?_
        rotate_left
        · intro w'
          go_simp
          with_reducible rfl
        rotate_left
        · simp only [Act.put, List.setIfInBounds_toArray, List.set_cons_zero, List.set_cons_succ, i64_w, i32_w]
          rfl
        refine pure_ (i := 8) (N := some 17) (v := ?_) (a' := ?_) #[true, true, true, true, true, true, true, false, true, false, false, false, false, false, false, false, false, false, false, false, false, false, false, false] rfl rfl (by kernel_rfl) (fun _ _ _ h => h) (Or.inl ⟨by rfl, ?_⟩) ?_ ?_
        rotate_left
        · intro w'
          go_simp
          with_reducible rfl
        rotate_left
        · simp only [Act.put, List.setIfInBounds_toArray, List.set_cons_zero, List.set_cons_succ, i64_w, i32_w]
          rfl
        refine pure_ (i := 9) (N := some 18) (v := ?_) (a' := ?_) #[true, true, true, true, true, true, true, false, true, true, false, false, false, false, false, false, false, false, false, false, false, false, false, false] rfl rfl (by kernel_rfl) (fun _ _ _ h => h) (Or.inl ⟨by rfl, ?_⟩) ?_ ?_
        rotate_left
        · intro w'
          go_simp
          with_reducible rfl
        rotate_left
        · simp only [Act.put, List.setIfInBounds_toArray, List.set_cons_zero, List.set_cons_succ, i64_w, i32_w]
          rfl
        refine pure_ (i := 10) (N := some 19) (v := ?_) (a' := ?_) #[true, true, true, true, true, true, true, false, true, true, true, false, false, false, false, false, false, false, false, false, false, false, false, false] rfl rfl (by kernel_rfl) (fun _ _ _ h => h) (Or.inl ⟨by rfl, ?_⟩) ?_ ?_
        rotate_left
        · intro w'
          go_simp
          with_reducible rfl
        rotate_left
        · simp only [Act.put, List.setIfInBounds_toArray, List.set_cons_zero, List.set_cons_succ, i64_w, i32_w]
          rfl
        refine pure_ (i := 11) (N := some 20) (v := ?_) (a' := ?_) #[true, true, true, true, true, true, true, false, true, true, true, true, false, false, false, false, false, false, false, false, false, false, false, false] rfl rfl (by kernel_rfl) (fun _ _ _ h => h) (Or.inl ⟨by rfl, ?_⟩) ?_ ?_
        rotate_left
        · intro w'
          go_simp
          with_reducible rfl
        rotate_left
        · simp only [Act.put, List.setIfInBounds_toArray, List.set_cons_zero, List.set_cons_succ, i64_w, i32_w]
          rfl
        refine pure_ (i := 12) (N := some 21) (v := ?_) (a' := ?_) #[true, true, true, true, true, true, true, false, true, true, true, true, true, false, false, false, false, false, false, false, false, false, false, false] rfl rfl (by kernel_rfl) (fun _ _ _ h => h) (Or.inl ⟨by rfl, ?_⟩) ?_ ?_
        rotate_left
        · intro w'
          go_simp
          with_reducible rfl
        rotate_left
        · simp only [Act.put, List.setIfInBounds_toArray, List.set_cons_zero, List.set_cons_succ, i64_w, i32_w]
          rfl
        refine take_ (i := 7) (N := some 16) (v := ?_) (a' := ?_) #[true, true, true, true, true, true, true, true, true, true, true, true, true, false, false, false, false, false, false, false, false, false, false, false] rfl rfl (by kernel_rfl) (fun _ _ _ h => h) (Or.inl ⟨by rfl, ?_⟩) hHeld ?_ ?_
        rotate_left
        · rintro w' ⟨s0, s1⟩
          go_simp
          with_reducible rfl
        rotate_left
        · simp only [Act.put, List.setIfInBounds_toArray, List.set_cons_zero, List.set_cons_succ, i64_w, i32_w]
          rfl
        refine take_ (i := 13) (N := some 22) (v := ?_) (a' := ?_) #[true, true, true, true, true, true, true, true, true, true, true, true, true, true, false, false, false, false, false, false, false, false, false, false] rfl rfl (by kernel_rfl) (fun _ _ _ h => h) (Or.inl ⟨by rfl, ?_⟩) hHeld ?_ ?_
        rotate_left
        · rintro w' ⟨s0, s1⟩
          go_simp
          with_reducible rfl
        rotate_left
        · simp only [Act.put, List.setIfInBounds_toArray, List.set_cons_zero, List.set_cons_succ, i64_w, i32_w]
          rfl
        refine pure_ (i := 14) (N := some 23) (v := ?_) (a' := ?_) #[true, true, true, true, true, true, true, true, true, true, true, true, true, true, true, false, false, false, false, false, false, false, false, false] rfl rfl (by kernel_rfl) (fun _ _ _ h => h) (Or.inl ⟨by rfl, ?_⟩) ?_ ?_
        rotate_left
        · intro w'
          go_simp
          with_reducible rfl
        rotate_left
        · simp only [Act.put, List.setIfInBounds_toArray, List.set_cons_zero, List.set_cons_succ, i64_w, i32_w]
          rfl
        refine pure_ (i := 15) (N := some 24) (v := ?_) (a' := ?_) #[true, true, true, true, true, true, true, true, true, true, true, true, true, true, true, true, false, false, false, false, false, false, false, false] rfl rfl (by kernel_rfl) (fun _ _ _ h => h) (Or.inl ⟨by rfl, ?_⟩) ?_ ?_
        rotate_left
        · intro w'
          go_simp
          with_reducible rfl
        rotate_left
        · simp only [Act.put, List.setIfInBounds_toArray, List.set_cons_zero, List.set_cons_succ, i64_w, i32_w]
          rfl
        refine pure_ (i := 16) (N := some 25) (v := ?_) (a' := ?_) #[true, true, true, true, true, true, true, true, true, true, true, true, true, true, true, true, true, false, false, false, false, false, false, false] rfl rfl (by kernel_rfl) (fun _ _ _ h => h) (Or.inl ⟨by rfl, ?_⟩) ?_ ?_
        rotate_left
        · intro w'
          go_simp
          with_reducible rfl
        rotate_left
        · simp only [Act.put, List.setIfInBounds_toArray, List.set_cons_zero, List.set_cons_succ, i64_w, i32_w]
          rfl
        refine pure_ (i := 17) (N := some 26) (v := ?_) (a' := ?_) #[true, true, true, true, true, true, true, true, true, true, true, true, true, true, true, true, true, true, false, false, false, false, false, false] rfl rfl (by kernel_rfl) (fun _ _ _ h => h) (Or.inl ⟨by rfl, ?_⟩) ?_ ?_
        rotate_left
        · intro w'
          go_simp
          with_reducible rfl
        rotate_left
        · simp only [Act.put, List.setIfInBounds_toArray, List.set_cons_zero, List.set_cons_succ, i64_w, i32_w]
          rfl
        refine pure_ (i := 18) (N := some 27) (v := ?_) (a' := ?_) #[true, true, true, true, true, true, true, true, true, true, true, true, true, true, true, true, true, true, true, false, false, false, false, false] rfl rfl (by kernel_rfl) (fun _ _ _ h => h) (Or.inl ⟨by rfl, ?_⟩) ?_ ?_
        rotate_left
        · intro w'
          go_simp
          with_reducible rfl
        rotate_left
        · simp only [Act.put, List.setIfInBounds_toArray, List.set_cons_zero, List.set_cons_succ, i64_w, i32_w]
          rfl
        refine pure_ (i := 19) (N := some 28) (v := ?_) (a' := ?_) #[true, true, true, true, true, true, true, true, true, true, true, true, true, true, true, true, true, true, true, true, false, false, false, false] rfl rfl (by kernel_rfl) (fun _ _ _ h => h) (Or.inl ⟨by rfl, ?_⟩) ?_ ?_
        rotate_left
        · intro w'
          go_simp
          with_reducible rfl
        rotate_left
        · simp only [Act.put, List.setIfInBounds_toArray, List.set_cons_zero, List.set_cons_succ, i64_w, i32_w]
          rfl
        refine pure_ (i := 20) (N := some 29) (v := ?_) (a' := ?_) #[true, true, true, true, true, true, true, true, true, true, true, true, true, true, true, true, true, true, true, true, true, false, false, false] rfl rfl (by kernel_rfl) (fun _ _ _ h => h) (Or.inl ⟨by rfl, ?_⟩) ?_ ?_
        rotate_left
        · intro w'
          go_simp
          with_reducible rfl
        rotate_left
        · simp only [Act.put, List.setIfInBounds_toArray, List.set_cons_zero, List.set_cons_succ, i64_w, i32_w]
          rfl
        refine one_ (i := 21) (N := some 30) #[true, true, true, true, true, true, true, true, true, true, true, true, true, true, true, true, true, true, true, true, true, true, false, false] rfl rfl (by kernel_rfl) (by decide) (fun K hK => ?_)
        refine goes_ Try.func119 (by kernel_rfl) rfl #[.agg #[.pointer (some (ad.add ((j + 1) * 4)))]] (by rfl) rfl rfl (by simp only [List.map_toArray, List.map_cons, List.map_nil]; rfl) ?_
        with_reducible refine ((tOk_yes (T.fr (Fr.drew (Fr.refl _ _))) hok)).mono ?_
        rintro e w3 ⟨rfl, hf3⟩
        refine ⟨_, rfl, ?_⟩
        refine hK.out _ _ ⟨(hf3.cellA hHeld.1), (hf3.cellA hHeld.2)⟩ (fun hHeld => ?_)
        clear hK K
        refine norm_ (a' := ?_) ?_ ?_
        rotate_left
        · show Act.put _ (some 30) _ = _
          simp only [Act.put, List.setIfInBounds_toArray, List.set_cons_zero, List.set_cons_succ, i64_w, i32_w]
          rfl
        refine pure_ (i := 22) (N := some 31) (v := ?_) (a' := ?_) #[true, true, true, true, true, true, true, true, true, true, true, true, true, true, true, true, true, true, true, true, true, true, true, false] rfl rfl (by kernel_rfl) (fun _ _ _ h => h) (Or.inl ⟨by rfl, ?_⟩) ?_ ?_
        rotate_left
        · intro w'
          go_simp
          with_reducible rfl
        rotate_left
        · simp only [Act.put, List.setIfInBounds_toArray, List.set_cons_zero, List.set_cons_succ, i64_w, i32_w]
          rfl
        refine pure_ (i := 23) (N := some 32) (v := ?_) (a' := ?_) #[true, true, true, true, true, true, true, true, true, true, true, true, true, true, true, true, true, true, true, true, true, true, true, true] rfl rfl (by kernel_rfl) (fun _ _ _ h => h) (Or.inl ⟨by rfl, ?_⟩) ?_ ?_
        rotate_left
        · intro w'
          go_simp
          with_reducible rfl
        rotate_left
        · simp only [Act.put, List.setIfInBounds_toArray, List.set_cons_zero, List.set_cons_succ, i64_w, i32_w]
          rfl
        refine done_ (by kernel_rfl) ?_
  
        go_wp2
        go_roundw
        case rel => exact ⟨j + 1 + 1, by omega, by go_num, ⟨(hD.out.drew).trans hf3 (fun _ h => .inl h)⟩⟩
        case measure => simp [intOf]; omega
    · have hke : k = xs.length := by omega
      subst hke
      go_wp2
      go_ret
      exact ⟨rfl, hD.out⟩
end Go.Proofs.Ph
/- dtc.Right as the print's callers take it. No condition. -/
namespace Go.Proofs.Ph
open Go Go.RowKit Go.Proofs.YthjnlggommennaaW.PrintWords
def dtc_Right.f (l0 : List S161) : Option Bool := if dOk l0 = true then some true else none
theorem dtc_Right.calls (A0 : Option Addr) (c0 : Nat) (l0 : List S161) (r : Bool) (w : World) (hr0 : Kd.C k161 w A0 l0.length l0) (hc0 : l0.length ≤ c0) (h : dtc_Right.f l0 = some r) :
    Calls Try.prog 76 #[.slice A0 l0.length c0] w fun e w' => e = .returned (.bool r) ∧ Below w.heap.size w w' := by
  unfold dtc_Right.f at h
  split at h
  · rename_i hd
    obtain rfl := Option.some.inj h
    exact (dRight_yes hr0 hc0 hd).mono fun e w' hh => ⟨hh.1, hh.2.below (fun _ h => h.elim)⟩
  · cases h
end Go.Proofs.Ph
namespace Go.Proofs.Ph.Ri
open Go.Proofs.Ph Go.RowKit Go.Proofs.YthjnlggommennaaW.PrintWords Go.Proofs.YthjnlggommennaaW.PrintLast Go.Proofs.YthjnlggommennaaW.PrintMore
attribute [local go_sem] max2_int min2_int max_two min_two max_three min_three max_four min_four   -- for this text's walks alone



def errW : Option Int → Value
  | none => .nilIface
  | some c => .iface 0 (.int .i64 c)
theorem errW_none : errW none = .nilIface := rfl
theorem errW_some (c : Int) : errW (some c) = .iface 0 (.int .i64 c) := rfl

end Go.Proofs.Ph.Ri
namespace Go.Proofs.Ph.Ri
open Go.Proofs.Ph Go.RowKit Go.Proofs.YthjnlggommennaaW.PrintWords Go.Proofs.YthjnlggommennaaW.PrintLast Go.Proofs.YthjnlggommennaaW.PrintMore
attribute [local go_sem] max2_int min2_int max_two min_two max_three min_three max_four min_four   -- for this text's walks alone

/-! ### diag_within: function 75 -/
def diag_within.f (a0 : Int) (a1 : Int) (a2 : Int) : Option (Bool) := if a0 ≥ a1 then (some (decide (a0 ≤ a2))) else (some false)
set_option maxHeartbeats 8000000 in
set_option maxRecDepth 100000 in
theorem diag_within.calls (a0 : Int) (a1 : Int) (a2 : Int) (r : Bool) (w : World) (h : diag_within.f a0 a1 a2 = some r) :
    Calls Try.prog 75 #[.int .i64 a0, .int .i64 a1, .int .i64 a2] w fun e w' => e = .returned (.bool r) ∧ Drawn0 w w' := by
  have H : (if a0 ≥ a1 then (some (decide (a0 ≤ a2))) else (some false)) = some r := h
  clear h
  by_cases c4 : a0 ≥ a1
  · rw [if_pos c4] at H
    have c4b0 : decide (a1 ≤ a0) = true := decide_eq_true c4
    clear c4
    obtain rfl := Option.some.inj H
    go_enter Try.func75, Try.ntmps75
    go_wp2
    go_ret
    exact ⟨by first | rfl | (simp; done) | (simp [*]; done), by repeat (first | exact Drawn0.refl _ | apply Drawn0.step)⟩
  · rw [if_neg c4] at H
    have c4b0 : decide (a1 ≤ a0) = false := decide_eq_false c4
    clear c4
    obtain rfl := Option.some.inj H
    go_enter Try.func75, Try.ntmps75
    go_wp2
    go_ret
    exact ⟨by first | rfl | (simp; done) | (simp [*]; done), by repeat (first | exact Drawn0.refl _ | apply Drawn0.step)⟩

end Go.Proofs.Ph.Ri
namespace Go.Proofs.Ph.Ri
open Go.Proofs.Ph Go.RowKit Go.Proofs.YthjnlggommennaaW.PrintWords Go.Proofs.YthjnlggommennaaW.PrintLast Go.Proofs.YthjnlggommennaaW.PrintMore
attribute [local go_sem] max2_int min2_int max_two min_two max_three min_three max_four min_four   -- for this text's walks alone

/-! ### diag_Right: function 27 -/
def diag_Right.l0 : Nat → List (S47) → Int → Int → Int → Bool → Int → Int → Int → Int → Int → List (S47) → List (S161) → Option (Bool)
  | 0, _, _, _, _, _, _, _, _, _, _, _, _ => none
  | k + 1, x6, x7, x8, x102000, x102001, x102002, x102003, x102004, x102005, x102006, x102007, x102008 => if x8 < x7 then (if 0 ≤ x8 then (if x8 < (x6.length : Int) then ((diag_within.f ((rd_T47 x6 x8).f0) 0 65535).bind fun t104 => (if t104 = true then (if x8 > 0 then (if 0 ≤ (wrap64 (x8 - 1)) then (if (wrap64 (x8 - 1)) < (x102007.length : Int) then (if ((rd_T47 x102007 (wrap64 (x8 - 1))).f0) ≥ ((rd_T47 x6 x8).f0) then (some false) else ((diag_within.f (((rd_T47 x6 x8).f2).length : Int) 1 64).bind fun t106 => (if t106 = true then (diag_Right.l0 k x6 x7 (wrap64 (x8 + 1)) x102000 x102001 x102002 x102003 x102004 x102005 x102006 x102007 x102008) else (some false)))) else (none)) else (none)) else ((diag_within.f (((rd_T47 x6 x8).f2).length : Int) 1 64).bind fun t107 => (if t107 = true then (diag_Right.l0 k x6 x7 (wrap64 (x8 + 1)) x102000 x102001 x102002 x102003 x102004 x102005 x102006 x102007 x102008) else (some false)))) else (some false))) else (none)) else (none)) else ((diag_within.f x102000 1 3).bind fun t108 => (if t108 = true then ((diag_within.f x102002 (-1) 4294967295).bind fun t109 => (if t109 = true then ((diag_within.f x102003 0 12).bind fun t110 => (if t110 = true then ((diag_within.f x102004 0 51).bind fun t111 => (if t111 = true then ((diag_within.f x102005 0 4294967295).bind fun t112 => (if t112 = true then ((diag_within.f x102006 0 4294967295).bind fun t113 => (if t113 = true then (if (x102007.length : Int) ≤ 16 then ((dtc_Right.f x102008).bind fun t114 => (some t114)) else (some false)) else (some false))) else (some false))) else (some false))) else (some false))) else (some false))) else (some false)))
def diag_Right.f (k : Nat) (a0_0 : Int) (a0_1 : Bool) (a0_2 : Int) (a0_3 : Int) (a0_4 : Int) (a0_5 : Int) (a0_6 : Int) (l0_7 : List (S47)) (l0_8 : List (S161)) : Option (Bool) := diag_Right.l0 k l0_7 (l0_7.length : Int) 0 a0_0 a0_1 a0_2 a0_3 a0_4 a0_5 a0_6 l0_7 l0_8
theorem diag_Right.mono_l : ∀ k, (∀ y0 y1 y2 y3 y4 y5 y6 y7 y8 y9 y10 y11, LeO (diag_Right.l0 k y0 y1 y2 y3 y4 y5 y6 y7 y8 y9 y10 y11) (diag_Right.l0 (k + 1) y0 y1 y2 y3 y4 y5 y6 y7 y8 y9 y10 y11))
  | 0 => fun _ _ _ _ _ _ _ _ _ _ _ _ r h => by simp [diag_Right.l0] at h
  | k + 1 => by
    have ih0 := diag_Right.mono_l k
    · intro y0 y1 y2 y3 y4 y5 y6 y7 y8 y9 y10 y11
      unfold diag_Right.l0
      repeat' first
      | (with_reducible exact ih0 _ _ _ _ _ _ _ _ _ _ _ _)
      | (with_reducible exact LeO.refl _)
      | (with_reducible exact LeO.none _)
      | (with_reducible refine LeO.ite ?_ ?_)
      | (with_reducible refine LeO.bind ?_ (fun _ => ?_))
      | exact ih0 _ _ _ _ _ _ _ _ _ _ _ _
      | exact LeO.none _
      | refine LeO.ite ?_ ?_
      | refine LeO.bind ?_ (fun _ => ?_)
theorem diag_Right.mono : ∀ a0 a1 a2 a3 a4 a5 a6 a7 a8 k, LeO (diag_Right.f k a0 a1 a2 a3 a4 a5 a6 a7 a8) (diag_Right.f (k + 1) a0 a1 a2 a3 a4 a5 a6 a7 a8) := by
  intro a0 a1 a2 a3 a4 a5 a6 a7 a8 k
  have ih0 := diag_Right.mono_l k
  unfold diag_Right.f
  repeat' first
      | (with_reducible exact ih0 _ _ _ _ _ _ _ _ _ _ _ _)
      | (with_reducible exact LeO.refl _)
      | (with_reducible exact LeO.none _)
      | (with_reducible refine LeO.ite ?_ ?_)
      | (with_reducible refine LeO.bind ?_ (fun _ => ?_))
      | exact ih0 _ _ _ _ _ _ _ _ _ _ _ _
      | exact LeO.none _
      | refine LeO.ite ?_ ?_
      | refine LeO.bind ?_ (fun _ => ?_)
set_option maxHeartbeats 8000000 in
set_option maxRecDepth 100000 in
theorem diag_Right.calls (k : Nat) (a0_0 : Int) (a0_1 : Bool) (a0_2 : Int) (a0_3 : Int) (a0_4 : Int) (a0_5 : Int) (a0_6 : Int) (A0_7 : Option Addr) (c0_7 : Nat) (l0_7 : List (S47)) (A0_8 : Option Addr) (c0_8 : Nat) (l0_8 : List (S161)) (w : World) (hr0_7 : Kd.C k47 w A0_7 l0_7.length l0_7) (hc0_7 : l0_7.length ≤ c0_7) (hr0_8 : Kd.C k161 w A0_8 l0_8.length l0_8) (hc0_8 : l0_8.length ≤ c0_8) (h : diag_Right.f k a0_0 a0_1 a0_2 a0_3 a0_4 a0_5 a0_6 l0_7 l0_8 = some true) :
    Calls Try.prog 27 #[.agg #[.int .i64 a0_0, .bool a0_1, .int .i64 a0_2, .int .i64 a0_3, .int .i64 a0_4, .int .i64 a0_5, .int .i64 a0_6, .slice A0_7 l0_7.length c0_7, .slice A0_8 l0_8.length c0_8]] w fun e w' => e = .returned (.bool true) ∧ Below w.heap.size w w' := by
  have hu25 := Try.underlying25
  have hu47 := Try.underlying47
  have HR0_7 := Aside0.mk hr0_7
  have HC0_7 := Aside0.mk hc0_7
  clear hr0_7 hc0_7
  have HR0_8 := Aside0.mk hr0_8
  have HC0_8 := Aside0.mk hc0_8
  clear hr0_8 hc0_8
  have HB := Aside0.mk (Below.refl w.heap.size w)
  have H : (diag_Right.l0 k l0_7 (l0_7.length : Int) 0 a0_0 a0_1 a0_2 a0_3 a0_4 a0_5 a0_6 l0_7 l0_8) = some true := h
  clear h
  have H' := Aside0.mk H
  clear H
  go_enter Try.func27, Try.ntmps27
  go_wp2_with (first | ((with_reducible refine gate_dst (N := 1) rfl ?_); refine box_event ?hg (N := 1) ?hd (cs := #[.int .i64 a0_0, .bool a0_1, .int .i64 a0_2, .int .i64 a0_3, .int .i64 a0_4, .int .i64 a0_5, .int .i64 a0_6, .slice A0_7 l0_7.length c0_7, .slice A0_8 l0_8.length c0_8]) (t := 25) ?hr ?_; (case hd => rfl); (case hg => rfl); (case hr => first | (go_simp; done) | (go_simp; rfl)); intro gb101 hg w2 hbox hb; have n0_ := Aside0.mk (below_step (by repeat (first | (with_reducible first | exact HB.out | apply below_alloc | apply pw_below_drewN | apply below_drew1) | exact HB.out)) hb); have n1_ := Aside0.mk (hbox); have n2_ := Aside0.mk ((by rw [hg]; exact (below_size (by repeat (first | (with_reducible first | exact HB.out | apply below_alloc | apply pw_below_drewN | apply below_drew1) | exact HB.out))) : w.heap.size ≤ gb101)); have n3_ := Aside0.mk ((by rw [hg]; exact (below_size (by repeat (first | (with_reducible first | exact HB.out | apply below_alloc | apply pw_below_drewN | apply below_drew1) | exact HB.out))) : w.heap.size ≤ gb101)); clear HB; have HB := n0_; have BK101 := n1_; have GW101 := n2_; have GE101 := n3_; clear n0_ n1_ n2_ n3_; clear hb hbox hg; have hcz3_0 : w2.cell? ⟨gb101, 0, none⟩ = some (.int .i64 a0_0) := (blk_cell BK101.out 0).trans rfl; have hcz3_1 : w2.cell? ⟨gb101, 1, none⟩ = some (.bool a0_1) := (blk_cell BK101.out 1).trans rfl; have hcz3_2 : w2.cell? ⟨gb101, 2, none⟩ = some (.int .i64 a0_2) := (blk_cell BK101.out 2).trans rfl; have hcz3_3 : w2.cell? ⟨gb101, 3, none⟩ = some (.int .i64 a0_3) := (blk_cell BK101.out 3).trans rfl; have hcz3_4 : w2.cell? ⟨gb101, 4, none⟩ = some (.int .i64 a0_4) := (blk_cell BK101.out 4).trans rfl; have hcz3_5 : w2.cell? ⟨gb101, 5, none⟩ = some (.int .i64 a0_5) := (blk_cell BK101.out 5).trans rfl; have hcz3_6 : w2.cell? ⟨gb101, 6, none⟩ = some (.int .i64 a0_6) := (blk_cell BK101.out 6).trans rfl; have hcz3_7 : w2.cell? ⟨gb101, 7, none⟩ = some (.slice A0_7 l0_7.length c0_7) := (blk_cell BK101.out 7).trans rfl; have hcz3_8 : w2.cell? ⟨gb101, 8, none⟩ = some (.slice A0_8 l0_8.length c0_8) := (blk_cell BK101.out 8).trans rfl; have hfz3_0 := blk_frozen BK101.out 0; have hfz3_1 := blk_frozen BK101.out 1; have hfz3_2 := blk_frozen BK101.out 2; have hfz3_3 := blk_frozen BK101.out 3; have hfz3_4 := blk_frozen BK101.out 4; have hfz3_5 := blk_frozen BK101.out 5; have hfz3_6 := blk_frozen BK101.out 6; have hfz3_7 := blk_frozen BK101.out 7; have hfz3_8 := blk_frozen BK101.out 8))
  repeat (go_quiet (first | ((with_reducible refine gate_dst (N := 1) rfl ?_); refine box_event ?hg (N := 1) ?hd (cs := #[.int .i64 a0_0, .bool a0_1, .int .i64 a0_2, .int .i64 a0_3, .int .i64 a0_4, .int .i64 a0_5, .int .i64 a0_6, .slice A0_7 l0_7.length c0_7, .slice A0_8 l0_8.length c0_8]) (t := 25) ?hr ?_; (case hd => rfl); (case hg => rfl); (case hr => first | (go_simp; done) | (go_simp; rfl)); intro gb101 hg w2 hbox hb; have n0_ := Aside0.mk (below_step (by repeat (first | (with_reducible first | exact HB.out | apply below_alloc | apply pw_below_drewN | apply below_drew1) | exact HB.out)) hb); have n1_ := Aside0.mk (hbox); have n2_ := Aside0.mk ((by rw [hg]; exact (below_size (by repeat (first | (with_reducible first | exact HB.out | apply below_alloc | apply pw_below_drewN | apply below_drew1) | exact HB.out))) : w.heap.size ≤ gb101)); have n3_ := Aside0.mk ((by rw [hg]; exact (below_size (by repeat (first | (with_reducible first | exact HB.out | apply below_alloc | apply pw_below_drewN | apply below_drew1) | exact HB.out))) : w.heap.size ≤ gb101)); clear HB; have HB := n0_; have BK101 := n1_; have GW101 := n2_; have GE101 := n3_; clear n0_ n1_ n2_ n3_; clear hb hbox hg; have hcz3_0 : w2.cell? ⟨gb101, 0, none⟩ = some (.int .i64 a0_0) := (blk_cell BK101.out 0).trans rfl; have hcz3_1 : w2.cell? ⟨gb101, 1, none⟩ = some (.bool a0_1) := (blk_cell BK101.out 1).trans rfl; have hcz3_2 : w2.cell? ⟨gb101, 2, none⟩ = some (.int .i64 a0_2) := (blk_cell BK101.out 2).trans rfl; have hcz3_3 : w2.cell? ⟨gb101, 3, none⟩ = some (.int .i64 a0_3) := (blk_cell BK101.out 3).trans rfl; have hcz3_4 : w2.cell? ⟨gb101, 4, none⟩ = some (.int .i64 a0_4) := (blk_cell BK101.out 4).trans rfl; have hcz3_5 : w2.cell? ⟨gb101, 5, none⟩ = some (.int .i64 a0_5) := (blk_cell BK101.out 5).trans rfl; have hcz3_6 : w2.cell? ⟨gb101, 6, none⟩ = some (.int .i64 a0_6) := (blk_cell BK101.out 6).trans rfl; have hcz3_7 : w2.cell? ⟨gb101, 7, none⟩ = some (.slice A0_7 l0_7.length c0_7) := (blk_cell BK101.out 7).trans rfl; have hcz3_8 : w2.cell? ⟨gb101, 8, none⟩ = some (.slice A0_8 l0_8.length c0_8) := (blk_cell BK101.out 8).trans rfl; have hfz3_0 := blk_frozen BK101.out 0; have hfz3_1 := blk_frozen BK101.out 1; have hfz3_2 := blk_frozen BK101.out 2; have hfz3_3 := blk_frozen BK101.out 3; have hfz3_4 := blk_frozen BK101.out 4; have hfz3_5 := blk_frozen BK101.out 5; have hfz3_6 := blk_frozen BK101.out 6; have hfz3_7 := blk_frozen BK101.out 7; have hfz3_8 := blk_frozen BK101.out 8)); try go_wp2_with (first | ((with_reducible refine gate_dst (N := 1) rfl ?_); refine box_event ?hg (N := 1) ?hd (cs := #[.int .i64 a0_0, .bool a0_1, .int .i64 a0_2, .int .i64 a0_3, .int .i64 a0_4, .int .i64 a0_5, .int .i64 a0_6, .slice A0_7 l0_7.length c0_7, .slice A0_8 l0_8.length c0_8]) (t := 25) ?hr ?_; (case hd => rfl); (case hg => rfl); (case hr => first | (go_simp; done) | (go_simp; rfl)); intro gb101 hg w2 hbox hb; have n0_ := Aside0.mk (below_step (by repeat (first | (with_reducible first | exact HB.out | apply below_alloc | apply pw_below_drewN | apply below_drew1) | exact HB.out)) hb); have n1_ := Aside0.mk (hbox); have n2_ := Aside0.mk ((by rw [hg]; exact (below_size (by repeat (first | (with_reducible first | exact HB.out | apply below_alloc | apply pw_below_drewN | apply below_drew1) | exact HB.out))) : w.heap.size ≤ gb101)); have n3_ := Aside0.mk ((by rw [hg]; exact (below_size (by repeat (first | (with_reducible first | exact HB.out | apply below_alloc | apply pw_below_drewN | apply below_drew1) | exact HB.out))) : w.heap.size ≤ gb101)); clear HB; have HB := n0_; have BK101 := n1_; have GW101 := n2_; have GE101 := n3_; clear n0_ n1_ n2_ n3_; clear hb hbox hg; have hcz3_0 : w2.cell? ⟨gb101, 0, none⟩ = some (.int .i64 a0_0) := (blk_cell BK101.out 0).trans rfl; have hcz3_1 : w2.cell? ⟨gb101, 1, none⟩ = some (.bool a0_1) := (blk_cell BK101.out 1).trans rfl; have hcz3_2 : w2.cell? ⟨gb101, 2, none⟩ = some (.int .i64 a0_2) := (blk_cell BK101.out 2).trans rfl; have hcz3_3 : w2.cell? ⟨gb101, 3, none⟩ = some (.int .i64 a0_3) := (blk_cell BK101.out 3).trans rfl; have hcz3_4 : w2.cell? ⟨gb101, 4, none⟩ = some (.int .i64 a0_4) := (blk_cell BK101.out 4).trans rfl; have hcz3_5 : w2.cell? ⟨gb101, 5, none⟩ = some (.int .i64 a0_5) := (blk_cell BK101.out 5).trans rfl; have hcz3_6 : w2.cell? ⟨gb101, 6, none⟩ = some (.int .i64 a0_6) := (blk_cell BK101.out 6).trans rfl; have hcz3_7 : w2.cell? ⟨gb101, 7, none⟩ = some (.slice A0_7 l0_7.length c0_7) := (blk_cell BK101.out 7).trans rfl; have hcz3_8 : w2.cell? ⟨gb101, 8, none⟩ = some (.slice A0_8 l0_8.length c0_8) := (blk_cell BK101.out 8).trans rfl; have hfz3_0 := blk_frozen BK101.out 0; have hfz3_1 := blk_frozen BK101.out 1; have hfz3_2 := blk_frozen BK101.out 2; have hfz3_3 := blk_frozen BK101.out 3; have hfz3_4 := blk_frozen BK101.out 4; have hfz3_5 := blk_frozen BK101.out 5; have hfz3_6 := blk_frozen BK101.out 6; have hfz3_7 := blk_frozen BK101.out 7; have hfz3_8 := blk_frozen BK101.out 8)))
  go_loopg [8] k (fun kq v8 w' => ∃ (x8_1 : Int), v8 = .int .i64 x8_1 ∧ Aside0 (diag_Right.l0 kq l0_7 (l0_7.length : Int) x8_1 a0_0 a0_1 a0_2 a0_3 a0_4 a0_5 a0_6 l0_7 l0_8 = some true) ∧ Aside0 (kq ≤ k) ∧ Aside0 (w'.heap[gb101]? = some (.cells #[.int .i64 a0_0, .bool a0_1, .int .i64 a0_2, .int .i64 a0_3, .int .i64 a0_4, .int .i64 a0_5, .int .i64 a0_6, (.slice A0_7 l0_7.length c0_7), (.slice A0_8 l0_8.length c0_8)] 25 (0, 0))) ∧ Aside0 (Below w.heap.size w w'))
  case atStart => exact ⟨(0), (by first | rfl | (simp; done) | (simp [*]; done)), H', ⟨Nat.le_refl _⟩, ⟨by (with_reducible repeat (first | refine blk_drewN ?_ _ | refine blk_drew ?_ | refine blk_alloc ?_ _)); exact BK101.out⟩, ⟨by repeat (first | (with_reducible first | exact HB.out | apply below_alloc | apply pw_below_drewN | apply below_drew1 | refine below_set ?_ GE101.out) | exact HB.out)⟩⟩
  case round =>
    clear H'
    try clear c2
    try clear p2
    try clear hcz3_0
    try clear hcz3_1
    try clear hcz3_2
    try clear hcz3_3
    try clear hcz3_4
    try clear hcz3_5
    try clear hcz3_6
    try clear hcz3_7
    try clear hcz3_8
    try clear hfz3_0
    try clear hfz3_1
    try clear hfz3_2
    try clear hfz3_3
    try clear hfz3_4
    try clear hfz3_5
    try clear hfz3_6
    try clear hfz3_7
    try clear hfz3_8
    obtain ⟨x8_1, rfl, HA, HK1, BK101, HB⟩ := hrel
    cases gk with
    | zero => exact absurd HA.out (by simp [diag_Right.l0])
    | succ k1 =>
      have H := HA.out
      clear HA
      simp only [diag_Right.l0] at H
      by_cases c4 : x8_1 < (l0_7.length : Int)
      · rw [if_pos c4] at H
        have c4b0 : decide (x8_1 < (l0_7.length : Int)) = true := decide_eq_true c4
        clear c4
        by_cases c5 : 0 ≤ x8_1
        · rw [if_pos c5] at H
          have c5b0 : decide (0 ≤ x8_1) = true := decide_eq_true c5
          clear c5
          by_cases c6 : x8_1 < (l0_7.length : Int)
          · rw [if_pos c6] at H
            have c6b0 : decide (x8_1 < (l0_7.length : Int)) = true := decide_eq_true c6
            clear c6
            replace H := Option.bind_eq_some_iff.mp H
            obtain ⟨t104, A70, H⟩ := H
            replace H : (if t104 = true then (if x8_1 > 0 then (if 0 ≤ (wrap64 (x8_1 - 1)) then (if (wrap64 (x8_1 - 1)) < (l0_7.length : Int) then (if ((rd_T47 l0_7 (wrap64 (x8_1 - 1))).f0) ≥ ((rd_T47 l0_7 x8_1).f0) then (some false) else ((diag_within.f (((rd_T47 l0_7 x8_1).f2).length : Int) 1 64).bind fun t106 => (if t106 = true then (diag_Right.l0 k1 l0_7 (l0_7.length : Int) (wrap64 (x8_1 + 1)) a0_0 a0_1 a0_2 a0_3 a0_4 a0_5 a0_6 l0_7 l0_8) else (some false)))) else (none)) else (none)) else ((diag_within.f (((rd_T47 l0_7 x8_1).f2).length : Int) 1 64).bind fun t107 => (if t107 = true then (diag_Right.l0 k1 l0_7 (l0_7.length : Int) (wrap64 (x8_1 + 1)) a0_0 a0_1 a0_2 a0_3 a0_4 a0_5 a0_6 l0_7 l0_8) else (some false)))) else (some false)) = some true := H
            have A7 := Aside0.mk A70
            clear A70
            by_cases c8 : t104 = true
            · subst c8
              have H1 : (if x8_1 > 0 then (if 0 ≤ (wrap64 (x8_1 - 1)) then (if (wrap64 (x8_1 - 1)) < (l0_7.length : Int) then (if ((rd_T47 l0_7 (wrap64 (x8_1 - 1))).f0) ≥ ((rd_T47 l0_7 x8_1).f0) then (some false) else ((diag_within.f (((rd_T47 l0_7 x8_1).f2).length : Int) 1 64).bind fun t106 => (if t106 = true then (diag_Right.l0 k1 l0_7 (l0_7.length : Int) (wrap64 (x8_1 + 1)) a0_0 a0_1 a0_2 a0_3 a0_4 a0_5 a0_6 l0_7 l0_8) else (some false)))) else (none)) else (none)) else ((diag_within.f (((rd_T47 l0_7 x8_1).f2).length : Int) 1 64).bind fun t107 => (if t107 = true then (diag_Right.l0 k1 l0_7 (l0_7.length : Int) (wrap64 (x8_1 + 1)) a0_0 a0_1 a0_2 a0_3 a0_4 a0_5 a0_6 l0_7 l0_8) else (some false)))) = some true := by rw [if_pos rfl] at H; exact H
              clear H
              have H := H1
              clear H1
              by_cases c9 : x8_1 > 0
              · rw [if_pos c9] at H
                have c9b0 : decide (0 < x8_1) = true := decide_eq_true c9
                clear c9
                obtain ⟨ji10, hji10⟩ : ∃ j_ : Int, (wrap64 (x8_1 - 1)) = j_ := ⟨_, rfl⟩
                replace H : (if 0 ≤ (ji10) then (if (ji10) < (l0_7.length : Int) then (if ((rd_T47 l0_7 (ji10)).f0) ≥ ((rd_T47 l0_7 x8_1).f0) then (some false) else ((diag_within.f (((rd_T47 l0_7 x8_1).f2).length : Int) 1 64).bind fun t106 => (if t106 = true then (diag_Right.l0 k1 l0_7 (l0_7.length : Int) (wrap64 (x8_1 + 1)) a0_0 a0_1 a0_2 a0_3 a0_4 a0_5 a0_6 l0_7 l0_8) else (some false)))) else (none)) else (none)) = some true := by first | (rw [hji10] at H; exact H) | (simp only [hji10] at H ⊢; exact H)
                (try rw [hji10] at A7)
                have hji10w : (IntKind.i64.wrap (x8_1 - 1)) = ji10 := (i64_w _).trans hji10
                by_cases c11 : 0 ≤ (ji10)
                · rw [if_pos c11] at H
                  have c11b0 : decide (0 ≤ (ji10)) = true := decide_eq_true c11
                  clear c11
                  by_cases c12 : (ji10) < (l0_7.length : Int)
                  · rw [if_pos c12] at H
                    have c12b0 : decide ((ji10) < (l0_7.length : Int)) = true := decide_eq_true c12
                    clear c12
                    by_cases c13 : ((rd_T47 l0_7 (ji10)).f0) ≥ ((rd_T47 l0_7 x8_1).f0)
                    · rw [if_pos c13] at H
                      have c13b0 : decide (((rd_T47 l0_7 x8_1).f0) ≤ ((rd_T47 l0_7 (ji10)).f0)) = true := decide_eq_true c13
                      clear c13
                      exact absurd H (by simp)
                    · rw [if_neg c13] at H
                      have c13b0 : decide (((rd_T47 l0_7 x8_1).f0) ≤ ((rd_T47 l0_7 (ji10)).f0)) = false := decide_eq_false c13
                      clear c13
                      replace H := Option.bind_eq_some_iff.mp H
                      obtain ⟨t106, A140, H⟩ := H
                      replace H : (if t106 = true then (diag_Right.l0 k1 l0_7 (l0_7.length : Int) (wrap64 (x8_1 + 1)) a0_0 a0_1 a0_2 a0_3 a0_4 a0_5 a0_6 l0_7 l0_8) else (some false)) = some true := H
                      have A14 := Aside0.mk A140
                      clear A140
                      by_cases c15 : t106 = true
                      · subst c15
                        have H1 : (diag_Right.l0 k1 l0_7 (l0_7.length : Int) (wrap64 (x8_1 + 1)) a0_0 a0_1 a0_2 a0_3 a0_4 a0_5 a0_6 l0_7 l0_8) = some true := by rw [if_pos rfl] at H; exact H
                        clear H
                        have H := H1
                        clear H1
                        have H' := Aside0.mk H
                        clear H
                        have p102 : 0 ≤ (x8_1 : Int) := of_decide_eq_true (by first | (with_reducible assumption) | assumption)
                        have q102 : x8_1 < (l0_7.length : Int) := of_decide_eq_true (by first | (with_reducible assumption) | assumption)
                        obtain ⟨ad102, A102_2, c102_2, e102, hx102_0, hx102_1, hx102_2, hl102_2, hi102_2⟩ := at_T47 HR0_7.out x8_1 p102 q102
                        cases e102
                        replace hx102_0 := (HB.out.cell (World.block_lt_of_cell? w _ hx102_0)).trans hx102_0
                        replace hx102_1 := (HB.out.cell (World.block_lt_of_cell? w _ hx102_1)).trans hx102_1
                        replace hx102_2 := (HB.out.cell (World.block_lt_of_cell? w _ hx102_2)).trans hx102_2
                        have HR102_2 := Aside0.mk hi102_2
                        have HC102_2 := Aside0.mk hl102_2
                        clear hi102_2 hl102_2
                        replace p102 := eq_true p102
                        replace q102 := eq_true q102
                        go_wp2_with (first | ((with_reducible refine gate_dst (N := 4) rfl ?_); refine box_event ?hg (N := 4) ?hd (cs := #[.int .i64 0, .bool false, .slice none 0 0]) (t := 47) ?hr ?_; (case hd => rfl); (case hg => rfl); (case hr => first | (go_simp; done) | (go_simp; rfl)); intro gb103 hg w16 hbox hb; have n0_ := Aside0.mk (blk_below (g := gb101) (o := .cells #[.int .i64 a0_0, .bool a0_1, .int .i64 a0_2, .int .i64 a0_3, .int .i64 a0_4, .int .i64 a0_5, .int .i64 a0_6, .slice (some ad102) l0_7.length c0_7, .slice A0_8 l0_8.length c0_8] 25 (0, 0)) (by (with_reducible repeat (first | refine blk_drewN ?_ _ | refine blk_drew ?_ | refine blk_alloc ?_ _)); exact BK101.out) hb); have n1_ := Aside0.mk (below_step (by repeat (first | (with_reducible first | exact HB.out | apply below_alloc | apply pw_below_drewN | apply below_drew1 | refine below_set ?_ GE101.out) | exact HB.out)) hb); have n2_ := Aside0.mk (hbox); have n3_ := Aside0.mk ((by rw [hg]; exact (below_size (by repeat (first | (with_reducible first | exact HB.out | apply below_alloc | apply pw_below_drewN | apply below_drew1 | refine below_set ?_ GE101.out) | exact HB.out))) : w.heap.size ≤ gb103)); have n4_ := Aside0.mk ((by rw [hg]; exact (below_size (by repeat (first | (with_reducible first | exact HB.out | apply below_alloc | apply pw_below_drewN | apply below_drew1 | refine below_set ?_ GE101.out) | exact HB.out))) : w.heap.size ≤ gb103)); have n5_ := Aside0.mk ((by rw [hg]; exact Nat.ne_of_lt (blk_lt (g := gb101) (o := .cells #[.int .i64 a0_0, .bool a0_1, .int .i64 a0_2, .int .i64 a0_3, .int .i64 a0_4, .int .i64 a0_5, .int .i64 a0_6, .slice (some ad102) l0_7.length c0_7, .slice A0_8 l0_8.length c0_8] 25 (0, 0)) (by (with_reducible repeat (first | refine blk_drewN ?_ _ | refine blk_drew ?_ | refine blk_alloc ?_ _)); exact BK101.out)) : gb101 ≠ gb103)); have n6_ := Aside0.mk ((by rw [hg]; exact Nat.ne_of_gt (blk_lt (g := gb101) (o := .cells #[.int .i64 a0_0, .bool a0_1, .int .i64 a0_2, .int .i64 a0_3, .int .i64 a0_4, .int .i64 a0_5, .int .i64 a0_6, .slice (some ad102) l0_7.length c0_7, .slice A0_8 l0_8.length c0_8] 25 (0, 0)) (by (with_reducible repeat (first | refine blk_drewN ?_ _ | refine blk_drew ?_ | refine blk_alloc ?_ _)); exact BK101.out)) : gb103 ≠ gb101)); clear BK101; clear HB; have BK101 := n0_; have HB := n1_; have BK103 := n2_; have GW103 := n3_; have GE103 := n4_; have NB101_103 := n5_; have NB103_101 := n6_; clear n0_ n1_ n2_ n3_ n4_ n5_ n6_; clear hb hbox hg; have hnb17 := NB103_101.out; have hnc17 := NB101_103.out; have hcz18_0 : w16.cell? ⟨gb103, 0, none⟩ = some (.int .i64 0) := (blk_cell BK103.out 0).trans rfl; have hcz18_1 : w16.cell? ⟨gb103, 1, none⟩ = some (.bool false) := (blk_cell BK103.out 1).trans rfl; have hcz18_2 : w16.cell? ⟨gb103, 2, none⟩ = some (.slice none 0 0) := (blk_cell BK103.out 2).trans rfl; have hfz18_0 := blk_frozen BK103.out 0; have hfz18_1 := blk_frozen BK103.out 1; have hfz18_2 := blk_frozen BK103.out 2) | (go_at_call 75; (with_reducible refine (diag_within.calls ((rd_T47 l0_7 x8_1).f0) 0 65535 true _ A7.out).mono ?_); rintro e w' ⟨rfl, ⟨nd, rfl⟩⟩; (try first | exact ⟨rfl, _, World.drewN_drewN _ _ _⟩ | exact ⟨rfl, _, Eq.trans (World.drewN_drewN _ _ _) (congrArg (World.drewN _) (Nat.add_assoc _ _ _))⟩); have hcz19_0 : w16.cell? ⟨gb101, 0, none⟩ = some (.int .i64 a0_0) := (blk_cell BK101.out 0).trans rfl; have hcz19_1 : w16.cell? ⟨gb101, 1, none⟩ = some (.bool a0_1) := (blk_cell BK101.out 1).trans rfl; have hcz19_2 : w16.cell? ⟨gb101, 2, none⟩ = some (.int .i64 a0_2) := (blk_cell BK101.out 2).trans rfl; have hcz19_3 : w16.cell? ⟨gb101, 3, none⟩ = some (.int .i64 a0_3) := (blk_cell BK101.out 3).trans rfl; have hcz19_4 : w16.cell? ⟨gb101, 4, none⟩ = some (.int .i64 a0_4) := (blk_cell BK101.out 4).trans rfl; have hcz19_5 : w16.cell? ⟨gb101, 5, none⟩ = some (.int .i64 a0_5) := (blk_cell BK101.out 5).trans rfl; have hcz19_6 : w16.cell? ⟨gb101, 6, none⟩ = some (.int .i64 a0_6) := (blk_cell BK101.out 6).trans rfl; have hcz19_7 : w16.cell? ⟨gb101, 7, none⟩ = some (.slice (some ad102) l0_7.length c0_7) := (blk_cell BK101.out 7).trans rfl; have hcz19_8 : w16.cell? ⟨gb101, 8, none⟩ = some (.slice A0_8 l0_8.length c0_8) := (blk_cell BK101.out 8).trans rfl; have hfz19_0 := blk_frozen BK101.out 0; have hfz19_1 := blk_frozen BK101.out 1; have hfz19_2 := blk_frozen BK101.out 2; have hfz19_3 := blk_frozen BK101.out 3; have hfz19_4 := blk_frozen BK101.out 4; have hfz19_5 := blk_frozen BK101.out 5; have hfz19_6 := blk_frozen BK101.out 6; have hfz19_7 := blk_frozen BK101.out 7; have hfz19_8 := blk_frozen BK101.out 8; have p105 : 0 ≤ ((ji10) : Int) := of_decide_eq_true (by first | (with_reducible assumption) | assumption); have q105 : (ji10) < (l0_7.length : Int) := of_decide_eq_true (by first | (with_reducible assumption) | assumption); obtain ⟨ad105, A105_2, c105_2, e105, hx105_0, hx105_1, hx105_2, hl105_2, hi105_2⟩ := at_T47 HR0_7.out (ji10) p105 q105; obtain rfl : ad102 = ad105 := (by injection e105); have hn105_0 : ad102.block ≠ gb103 := Nat.ne_of_lt (Nat.lt_of_lt_of_le (by have := World.block_lt_of_cell? _ _ hx105_0; first | rwa [add_block] at this | exact this) GW103.out); have hn105_1 : ad102.block ≠ gb103 := Nat.ne_of_lt (Nat.lt_of_lt_of_le (by have := World.block_lt_of_cell? _ _ hx105_0; first | rwa [add_block] at this | exact this) GW103.out); have hn105_2 : ad102.block ≠ gb103 := Nat.ne_of_lt (Nat.lt_of_lt_of_le (by have := World.block_lt_of_cell? _ _ hx105_0; first | rwa [add_block] at this | exact this) GW103.out); replace hx105_0 := (HB.out.cell (World.block_lt_of_cell? w _ hx105_0)).trans hx105_0; replace hx105_1 := (HB.out.cell (World.block_lt_of_cell? w _ hx105_1)).trans hx105_1; replace hx105_2 := (HB.out.cell (World.block_lt_of_cell? w _ hx105_2)).trans hx105_2; have HR105_2 := Aside0.mk hi105_2; have HC105_2 := Aside0.mk hl105_2; clear hi105_2 hl105_2; replace hx105_0 := (cell_far (p := ⟨gb103, 0, none⟩) (by first | (rw [add_block]; exact hn105_0) | (show (Addr.add _ _).block ≠ _; rw [add_block]; exact hn105_0) | exact hn105_0) (.int .i64 ((rd_T47 l0_7 x8_1).f0))).trans hx105_0; replace hx105_1 := (cell_far (p := ⟨gb103, 0, none⟩) (by first | (rw [add_block]; exact hn105_0) | (show (Addr.add _ _).block ≠ _; rw [add_block]; exact hn105_0) | exact hn105_0) (.int .i64 ((rd_T47 l0_7 x8_1).f0))).trans hx105_1; replace hx105_2 := (cell_far (p := ⟨gb103, 0, none⟩) (by first | (rw [add_block]; exact hn105_0) | (show (Addr.add _ _).block ≠ _; rw [add_block]; exact hn105_0) | exact hn105_0) (.int .i64 ((rd_T47 l0_7 x8_1).f0))).trans hx105_2; replace hx105_0 := (cell_far (p := ⟨gb103, 1, none⟩) (by first | (rw [add_block]; exact hn105_1) | (show (Addr.add _ _).block ≠ _; rw [add_block]; exact hn105_1) | exact hn105_1) (.bool ((rd_T47 l0_7 x8_1).f1))).trans hx105_0; replace hx105_1 := (cell_far (p := ⟨gb103, 1, none⟩) (by first | (rw [add_block]; exact hn105_1) | (show (Addr.add _ _).block ≠ _; rw [add_block]; exact hn105_1) | exact hn105_1) (.bool ((rd_T47 l0_7 x8_1).f1))).trans hx105_1; replace hx105_2 := (cell_far (p := ⟨gb103, 1, none⟩) (by first | (rw [add_block]; exact hn105_1) | (show (Addr.add _ _).block ≠ _; rw [add_block]; exact hn105_1) | exact hn105_1) (.bool ((rd_T47 l0_7 x8_1).f1))).trans hx105_2; replace hx105_0 := (cell_far (p := ⟨gb103, 2, none⟩) (by first | (rw [add_block]; exact hn105_2) | (show (Addr.add _ _).block ≠ _; rw [add_block]; exact hn105_2) | exact hn105_2) (.slice A102_2 ((rd_T47 l0_7 x8_1).f2).length c102_2)).trans hx105_0; replace hx105_1 := (cell_far (p := ⟨gb103, 2, none⟩) (by first | (rw [add_block]; exact hn105_2) | (show (Addr.add _ _).block ≠ _; rw [add_block]; exact hn105_2) | exact hn105_2) (.slice A102_2 ((rd_T47 l0_7 x8_1).f2).length c102_2)).trans hx105_1; replace hx105_2 := (cell_far (p := ⟨gb103, 2, none⟩) (by first | (rw [add_block]; exact hn105_2) | (show (Addr.add _ _).block ≠ _; rw [add_block]; exact hn105_2) | exact hn105_2) (.slice A102_2 ((rd_T47 l0_7 x8_1).f2).length c102_2)).trans hx105_2; (try have hy105_0 := fun (n_ : Nat) => (show (((((w16.drewN n_).setCell ⟨gb103, 0, none⟩ (.int .i64 ((rd_T47 l0_7 x8_1).f0))).setCell ⟨gb103, 1, none⟩ (.bool ((rd_T47 l0_7 x8_1).f1))).setCell ⟨gb103, 2, none⟩ (.slice A102_2 ((rd_T47 l0_7 x8_1).f2).length c102_2))).cell? _ = some _ from hx105_0)); (try have hy105_1 := fun (n_ : Nat) => (show (((((w16.drewN n_).setCell ⟨gb103, 0, none⟩ (.int .i64 ((rd_T47 l0_7 x8_1).f0))).setCell ⟨gb103, 1, none⟩ (.bool ((rd_T47 l0_7 x8_1).f1))).setCell ⟨gb103, 2, none⟩ (.slice A102_2 ((rd_T47 l0_7 x8_1).f2).length c102_2))).cell? _ = some _ from hx105_1)); (try have hy105_2 := fun (n_ : Nat) => (show (((((w16.drewN n_).setCell ⟨gb103, 0, none⟩ (.int .i64 ((rd_T47 l0_7 x8_1).f0))).setCell ⟨gb103, 1, none⟩ (.bool ((rd_T47 l0_7 x8_1).f1))).setCell ⟨gb103, 2, none⟩ (.slice A102_2 ((rd_T47 l0_7 x8_1).f2).length c102_2))).cell? _ = some _ from hx105_2)); clear hn105_0; clear hn105_1; clear hn105_2; replace p105 := eq_true p105; replace q105 := eq_true q105) | (go_at_call 75; (with_reducible refine (diag_within.calls (((rd_T47 l0_7 x8_1).f2).length : Int) 1 64 true _ A14.out).mono ?_); rintro e w' ⟨rfl, ⟨nd, rfl⟩⟩; (try first | exact ⟨rfl, _, World.drewN_drewN _ _ _⟩ | exact ⟨rfl, _, Eq.trans (World.drewN_drewN _ _ _) (congrArg (World.drewN _) (Nat.add_assoc _ _ _))⟩)))
                        repeat (go_quiet (first | ((with_reducible refine gate_dst (N := 4) rfl ?_); refine box_event ?hg (N := 4) ?hd (cs := #[.int .i64 0, .bool false, .slice none 0 0]) (t := 47) ?hr ?_; (case hd => rfl); (case hg => rfl); (case hr => first | (go_simp; done) | (go_simp; rfl)); intro gb103 hg w16 hbox hb; have n0_ := Aside0.mk (blk_below (g := gb101) (o := .cells #[.int .i64 a0_0, .bool a0_1, .int .i64 a0_2, .int .i64 a0_3, .int .i64 a0_4, .int .i64 a0_5, .int .i64 a0_6, .slice (some ad102) l0_7.length c0_7, .slice A0_8 l0_8.length c0_8] 25 (0, 0)) (by (with_reducible repeat (first | refine blk_drewN ?_ _ | refine blk_drew ?_ | refine blk_alloc ?_ _)); exact BK101.out) hb); have n1_ := Aside0.mk (below_step (by repeat (first | (with_reducible first | exact HB.out | apply below_alloc | apply pw_below_drewN | apply below_drew1 | refine below_set ?_ GE101.out) | exact HB.out)) hb); have n2_ := Aside0.mk (hbox); have n3_ := Aside0.mk ((by rw [hg]; exact (below_size (by repeat (first | (with_reducible first | exact HB.out | apply below_alloc | apply pw_below_drewN | apply below_drew1 | refine below_set ?_ GE101.out) | exact HB.out))) : w.heap.size ≤ gb103)); have n4_ := Aside0.mk ((by rw [hg]; exact (below_size (by repeat (first | (with_reducible first | exact HB.out | apply below_alloc | apply pw_below_drewN | apply below_drew1 | refine below_set ?_ GE101.out) | exact HB.out))) : w.heap.size ≤ gb103)); have n5_ := Aside0.mk ((by rw [hg]; exact Nat.ne_of_lt (blk_lt (g := gb101) (o := .cells #[.int .i64 a0_0, .bool a0_1, .int .i64 a0_2, .int .i64 a0_3, .int .i64 a0_4, .int .i64 a0_5, .int .i64 a0_6, .slice (some ad102) l0_7.length c0_7, .slice A0_8 l0_8.length c0_8] 25 (0, 0)) (by (with_reducible repeat (first | refine blk_drewN ?_ _ | refine blk_drew ?_ | refine blk_alloc ?_ _)); exact BK101.out)) : gb101 ≠ gb103)); have n6_ := Aside0.mk ((by rw [hg]; exact Nat.ne_of_gt (blk_lt (g := gb101) (o := .cells #[.int .i64 a0_0, .bool a0_1, .int .i64 a0_2, .int .i64 a0_3, .int .i64 a0_4, .int .i64 a0_5, .int .i64 a0_6, .slice (some ad102) l0_7.length c0_7, .slice A0_8 l0_8.length c0_8] 25 (0, 0)) (by (with_reducible repeat (first | refine blk_drewN ?_ _ | refine blk_drew ?_ | refine blk_alloc ?_ _)); exact BK101.out)) : gb103 ≠ gb101)); clear BK101; clear HB; have BK101 := n0_; have HB := n1_; have BK103 := n2_; have GW103 := n3_; have GE103 := n4_; have NB101_103 := n5_; have NB103_101 := n6_; clear n0_ n1_ n2_ n3_ n4_ n5_ n6_; clear hb hbox hg; have hnb17 := NB103_101.out; have hnc17 := NB101_103.out; have hcz18_0 : w16.cell? ⟨gb103, 0, none⟩ = some (.int .i64 0) := (blk_cell BK103.out 0).trans rfl; have hcz18_1 : w16.cell? ⟨gb103, 1, none⟩ = some (.bool false) := (blk_cell BK103.out 1).trans rfl; have hcz18_2 : w16.cell? ⟨gb103, 2, none⟩ = some (.slice none 0 0) := (blk_cell BK103.out 2).trans rfl; have hfz18_0 := blk_frozen BK103.out 0; have hfz18_1 := blk_frozen BK103.out 1; have hfz18_2 := blk_frozen BK103.out 2) | (go_at_call 75; (with_reducible refine (diag_within.calls ((rd_T47 l0_7 x8_1).f0) 0 65535 true _ A7.out).mono ?_); rintro e w' ⟨rfl, ⟨nd, rfl⟩⟩; (try first | exact ⟨rfl, _, World.drewN_drewN _ _ _⟩ | exact ⟨rfl, _, Eq.trans (World.drewN_drewN _ _ _) (congrArg (World.drewN _) (Nat.add_assoc _ _ _))⟩); have hcz19_0 : w16.cell? ⟨gb101, 0, none⟩ = some (.int .i64 a0_0) := (blk_cell BK101.out 0).trans rfl; have hcz19_1 : w16.cell? ⟨gb101, 1, none⟩ = some (.bool a0_1) := (blk_cell BK101.out 1).trans rfl; have hcz19_2 : w16.cell? ⟨gb101, 2, none⟩ = some (.int .i64 a0_2) := (blk_cell BK101.out 2).trans rfl; have hcz19_3 : w16.cell? ⟨gb101, 3, none⟩ = some (.int .i64 a0_3) := (blk_cell BK101.out 3).trans rfl; have hcz19_4 : w16.cell? ⟨gb101, 4, none⟩ = some (.int .i64 a0_4) := (blk_cell BK101.out 4).trans rfl; have hcz19_5 : w16.cell? ⟨gb101, 5, none⟩ = some (.int .i64 a0_5) := (blk_cell BK101.out 5).trans rfl; have hcz19_6 : w16.cell? ⟨gb101, 6, none⟩ = some (.int .i64 a0_6) := (blk_cell BK101.out 6).trans rfl; have hcz19_7 : w16.cell? ⟨gb101, 7, none⟩ = some (.slice (some ad102) l0_7.length c0_7) := (blk_cell BK101.out 7).trans rfl; have hcz19_8 : w16.cell? ⟨gb101, 8, none⟩ = some (.slice A0_8 l0_8.length c0_8) := (blk_cell BK101.out 8).trans rfl; have hfz19_0 := blk_frozen BK101.out 0; have hfz19_1 := blk_frozen BK101.out 1; have hfz19_2 := blk_frozen BK101.out 2; have hfz19_3 := blk_frozen BK101.out 3; have hfz19_4 := blk_frozen BK101.out 4; have hfz19_5 := blk_frozen BK101.out 5; have hfz19_6 := blk_frozen BK101.out 6; have hfz19_7 := blk_frozen BK101.out 7; have hfz19_8 := blk_frozen BK101.out 8; have p105 : 0 ≤ ((ji10) : Int) := of_decide_eq_true (by first | (with_reducible assumption) | assumption); have q105 : (ji10) < (l0_7.length : Int) := of_decide_eq_true (by first | (with_reducible assumption) | assumption); obtain ⟨ad105, A105_2, c105_2, e105, hx105_0, hx105_1, hx105_2, hl105_2, hi105_2⟩ := at_T47 HR0_7.out (ji10) p105 q105; obtain rfl : ad102 = ad105 := (by injection e105); have hn105_0 : ad102.block ≠ gb103 := Nat.ne_of_lt (Nat.lt_of_lt_of_le (by have := World.block_lt_of_cell? _ _ hx105_0; first | rwa [add_block] at this | exact this) GW103.out); have hn105_1 : ad102.block ≠ gb103 := Nat.ne_of_lt (Nat.lt_of_lt_of_le (by have := World.block_lt_of_cell? _ _ hx105_0; first | rwa [add_block] at this | exact this) GW103.out); have hn105_2 : ad102.block ≠ gb103 := Nat.ne_of_lt (Nat.lt_of_lt_of_le (by have := World.block_lt_of_cell? _ _ hx105_0; first | rwa [add_block] at this | exact this) GW103.out); replace hx105_0 := (HB.out.cell (World.block_lt_of_cell? w _ hx105_0)).trans hx105_0; replace hx105_1 := (HB.out.cell (World.block_lt_of_cell? w _ hx105_1)).trans hx105_1; replace hx105_2 := (HB.out.cell (World.block_lt_of_cell? w _ hx105_2)).trans hx105_2; have HR105_2 := Aside0.mk hi105_2; have HC105_2 := Aside0.mk hl105_2; clear hi105_2 hl105_2; replace hx105_0 := (cell_far (p := ⟨gb103, 0, none⟩) (by first | (rw [add_block]; exact hn105_0) | (show (Addr.add _ _).block ≠ _; rw [add_block]; exact hn105_0) | exact hn105_0) (.int .i64 ((rd_T47 l0_7 x8_1).f0))).trans hx105_0; replace hx105_1 := (cell_far (p := ⟨gb103, 0, none⟩) (by first | (rw [add_block]; exact hn105_0) | (show (Addr.add _ _).block ≠ _; rw [add_block]; exact hn105_0) | exact hn105_0) (.int .i64 ((rd_T47 l0_7 x8_1).f0))).trans hx105_1; replace hx105_2 := (cell_far (p := ⟨gb103, 0, none⟩) (by first | (rw [add_block]; exact hn105_0) | (show (Addr.add _ _).block ≠ _; rw [add_block]; exact hn105_0) | exact hn105_0) (.int .i64 ((rd_T47 l0_7 x8_1).f0))).trans hx105_2; replace hx105_0 := (cell_far (p := ⟨gb103, 1, none⟩) (by first | (rw [add_block]; exact hn105_1) | (show (Addr.add _ _).block ≠ _; rw [add_block]; exact hn105_1) | exact hn105_1) (.bool ((rd_T47 l0_7 x8_1).f1))).trans hx105_0; replace hx105_1 := (cell_far (p := ⟨gb103, 1, none⟩) (by first | (rw [add_block]; exact hn105_1) | (show (Addr.add _ _).block ≠ _; rw [add_block]; exact hn105_1) | exact hn105_1) (.bool ((rd_T47 l0_7 x8_1).f1))).trans hx105_1; replace hx105_2 := (cell_far (p := ⟨gb103, 1, none⟩) (by first | (rw [add_block]; exact hn105_1) | (show (Addr.add _ _).block ≠ _; rw [add_block]; exact hn105_1) | exact hn105_1) (.bool ((rd_T47 l0_7 x8_1).f1))).trans hx105_2; replace hx105_0 := (cell_far (p := ⟨gb103, 2, none⟩) (by first | (rw [add_block]; exact hn105_2) | (show (Addr.add _ _).block ≠ _; rw [add_block]; exact hn105_2) | exact hn105_2) (.slice A102_2 ((rd_T47 l0_7 x8_1).f2).length c102_2)).trans hx105_0; replace hx105_1 := (cell_far (p := ⟨gb103, 2, none⟩) (by first | (rw [add_block]; exact hn105_2) | (show (Addr.add _ _).block ≠ _; rw [add_block]; exact hn105_2) | exact hn105_2) (.slice A102_2 ((rd_T47 l0_7 x8_1).f2).length c102_2)).trans hx105_1; replace hx105_2 := (cell_far (p := ⟨gb103, 2, none⟩) (by first | (rw [add_block]; exact hn105_2) | (show (Addr.add _ _).block ≠ _; rw [add_block]; exact hn105_2) | exact hn105_2) (.slice A102_2 ((rd_T47 l0_7 x8_1).f2).length c102_2)).trans hx105_2; (try have hy105_0 := fun (n_ : Nat) => (show (((((w16.drewN n_).setCell ⟨gb103, 0, none⟩ (.int .i64 ((rd_T47 l0_7 x8_1).f0))).setCell ⟨gb103, 1, none⟩ (.bool ((rd_T47 l0_7 x8_1).f1))).setCell ⟨gb103, 2, none⟩ (.slice A102_2 ((rd_T47 l0_7 x8_1).f2).length c102_2))).cell? _ = some _ from hx105_0)); (try have hy105_1 := fun (n_ : Nat) => (show (((((w16.drewN n_).setCell ⟨gb103, 0, none⟩ (.int .i64 ((rd_T47 l0_7 x8_1).f0))).setCell ⟨gb103, 1, none⟩ (.bool ((rd_T47 l0_7 x8_1).f1))).setCell ⟨gb103, 2, none⟩ (.slice A102_2 ((rd_T47 l0_7 x8_1).f2).length c102_2))).cell? _ = some _ from hx105_1)); (try have hy105_2 := fun (n_ : Nat) => (show (((((w16.drewN n_).setCell ⟨gb103, 0, none⟩ (.int .i64 ((rd_T47 l0_7 x8_1).f0))).setCell ⟨gb103, 1, none⟩ (.bool ((rd_T47 l0_7 x8_1).f1))).setCell ⟨gb103, 2, none⟩ (.slice A102_2 ((rd_T47 l0_7 x8_1).f2).length c102_2))).cell? _ = some _ from hx105_2)); clear hn105_0; clear hn105_1; clear hn105_2; replace p105 := eq_true p105; replace q105 := eq_true q105) | (go_at_call 75; (with_reducible refine (diag_within.calls (((rd_T47 l0_7 x8_1).f2).length : Int) 1 64 true _ A14.out).mono ?_); rintro e w' ⟨rfl, ⟨nd, rfl⟩⟩; (try first | exact ⟨rfl, _, World.drewN_drewN _ _ _⟩ | exact ⟨rfl, _, Eq.trans (World.drewN_drewN _ _ _) (congrArg (World.drewN _) (Nat.add_assoc _ _ _))⟩))); try go_wp2_with (first | ((with_reducible refine gate_dst (N := 4) rfl ?_); refine box_event ?hg (N := 4) ?hd (cs := #[.int .i64 0, .bool false, .slice none 0 0]) (t := 47) ?hr ?_; (case hd => rfl); (case hg => rfl); (case hr => first | (go_simp; done) | (go_simp; rfl)); intro gb103 hg w16 hbox hb; have n0_ := Aside0.mk (blk_below (g := gb101) (o := .cells #[.int .i64 a0_0, .bool a0_1, .int .i64 a0_2, .int .i64 a0_3, .int .i64 a0_4, .int .i64 a0_5, .int .i64 a0_6, .slice (some ad102) l0_7.length c0_7, .slice A0_8 l0_8.length c0_8] 25 (0, 0)) (by (with_reducible repeat (first | refine blk_drewN ?_ _ | refine blk_drew ?_ | refine blk_alloc ?_ _)); exact BK101.out) hb); have n1_ := Aside0.mk (below_step (by repeat (first | (with_reducible first | exact HB.out | apply below_alloc | apply pw_below_drewN | apply below_drew1 | refine below_set ?_ GE101.out) | exact HB.out)) hb); have n2_ := Aside0.mk (hbox); have n3_ := Aside0.mk ((by rw [hg]; exact (below_size (by repeat (first | (with_reducible first | exact HB.out | apply below_alloc | apply pw_below_drewN | apply below_drew1 | refine below_set ?_ GE101.out) | exact HB.out))) : w.heap.size ≤ gb103)); have n4_ := Aside0.mk ((by rw [hg]; exact (below_size (by repeat (first | (with_reducible first | exact HB.out | apply below_alloc | apply pw_below_drewN | apply below_drew1 | refine below_set ?_ GE101.out) | exact HB.out))) : w.heap.size ≤ gb103)); have n5_ := Aside0.mk ((by rw [hg]; exact Nat.ne_of_lt (blk_lt (g := gb101) (o := .cells #[.int .i64 a0_0, .bool a0_1, .int .i64 a0_2, .int .i64 a0_3, .int .i64 a0_4, .int .i64 a0_5, .int .i64 a0_6, .slice (some ad102) l0_7.length c0_7, .slice A0_8 l0_8.length c0_8] 25 (0, 0)) (by (with_reducible repeat (first | refine blk_drewN ?_ _ | refine blk_drew ?_ | refine blk_alloc ?_ _)); exact BK101.out)) : gb101 ≠ gb103)); have n6_ := Aside0.mk ((by rw [hg]; exact Nat.ne_of_gt (blk_lt (g := gb101) (o := .cells #[.int .i64 a0_0, .bool a0_1, .int .i64 a0_2, .int .i64 a0_3, .int .i64 a0_4, .int .i64 a0_5, .int .i64 a0_6, .slice (some ad102) l0_7.length c0_7, .slice A0_8 l0_8.length c0_8] 25 (0, 0)) (by (with_reducible repeat (first | refine blk_drewN ?_ _ | refine blk_drew ?_ | refine blk_alloc ?_ _)); exact BK101.out)) : gb103 ≠ gb101)); clear BK101; clear HB; have BK101 := n0_; have HB := n1_; have BK103 := n2_; have GW103 := n3_; have GE103 := n4_; have NB101_103 := n5_; have NB103_101 := n6_; clear n0_ n1_ n2_ n3_ n4_ n5_ n6_; clear hb hbox hg; have hnb17 := NB103_101.out; have hnc17 := NB101_103.out; have hcz18_0 : w16.cell? ⟨gb103, 0, none⟩ = some (.int .i64 0) := (blk_cell BK103.out 0).trans rfl; have hcz18_1 : w16.cell? ⟨gb103, 1, none⟩ = some (.bool false) := (blk_cell BK103.out 1).trans rfl; have hcz18_2 : w16.cell? ⟨gb103, 2, none⟩ = some (.slice none 0 0) := (blk_cell BK103.out 2).trans rfl; have hfz18_0 := blk_frozen BK103.out 0; have hfz18_1 := blk_frozen BK103.out 1; have hfz18_2 := blk_frozen BK103.out 2) | (go_at_call 75; (with_reducible refine (diag_within.calls ((rd_T47 l0_7 x8_1).f0) 0 65535 true _ A7.out).mono ?_); rintro e w' ⟨rfl, ⟨nd, rfl⟩⟩; (try first | exact ⟨rfl, _, World.drewN_drewN _ _ _⟩ | exact ⟨rfl, _, Eq.trans (World.drewN_drewN _ _ _) (congrArg (World.drewN _) (Nat.add_assoc _ _ _))⟩); have hcz19_0 : w16.cell? ⟨gb101, 0, none⟩ = some (.int .i64 a0_0) := (blk_cell BK101.out 0).trans rfl; have hcz19_1 : w16.cell? ⟨gb101, 1, none⟩ = some (.bool a0_1) := (blk_cell BK101.out 1).trans rfl; have hcz19_2 : w16.cell? ⟨gb101, 2, none⟩ = some (.int .i64 a0_2) := (blk_cell BK101.out 2).trans rfl; have hcz19_3 : w16.cell? ⟨gb101, 3, none⟩ = some (.int .i64 a0_3) := (blk_cell BK101.out 3).trans rfl; have hcz19_4 : w16.cell? ⟨gb101, 4, none⟩ = some (.int .i64 a0_4) := (blk_cell BK101.out 4).trans rfl; have hcz19_5 : w16.cell? ⟨gb101, 5, none⟩ = some (.int .i64 a0_5) := (blk_cell BK101.out 5).trans rfl; have hcz19_6 : w16.cell? ⟨gb101, 6, none⟩ = some (.int .i64 a0_6) := (blk_cell BK101.out 6).trans rfl; have hcz19_7 : w16.cell? ⟨gb101, 7, none⟩ = some (.slice (some ad102) l0_7.length c0_7) := (blk_cell BK101.out 7).trans rfl; have hcz19_8 : w16.cell? ⟨gb101, 8, none⟩ = some (.slice A0_8 l0_8.length c0_8) := (blk_cell BK101.out 8).trans rfl; have hfz19_0 := blk_frozen BK101.out 0; have hfz19_1 := blk_frozen BK101.out 1; have hfz19_2 := blk_frozen BK101.out 2; have hfz19_3 := blk_frozen BK101.out 3; have hfz19_4 := blk_frozen BK101.out 4; have hfz19_5 := blk_frozen BK101.out 5; have hfz19_6 := blk_frozen BK101.out 6; have hfz19_7 := blk_frozen BK101.out 7; have hfz19_8 := blk_frozen BK101.out 8; have p105 : 0 ≤ ((ji10) : Int) := of_decide_eq_true (by first | (with_reducible assumption) | assumption); have q105 : (ji10) < (l0_7.length : Int) := of_decide_eq_true (by first | (with_reducible assumption) | assumption); obtain ⟨ad105, A105_2, c105_2, e105, hx105_0, hx105_1, hx105_2, hl105_2, hi105_2⟩ := at_T47 HR0_7.out (ji10) p105 q105; obtain rfl : ad102 = ad105 := (by injection e105); have hn105_0 : ad102.block ≠ gb103 := Nat.ne_of_lt (Nat.lt_of_lt_of_le (by have := World.block_lt_of_cell? _ _ hx105_0; first | rwa [add_block] at this | exact this) GW103.out); have hn105_1 : ad102.block ≠ gb103 := Nat.ne_of_lt (Nat.lt_of_lt_of_le (by have := World.block_lt_of_cell? _ _ hx105_0; first | rwa [add_block] at this | exact this) GW103.out); have hn105_2 : ad102.block ≠ gb103 := Nat.ne_of_lt (Nat.lt_of_lt_of_le (by have := World.block_lt_of_cell? _ _ hx105_0; first | rwa [add_block] at this | exact this) GW103.out); replace hx105_0 := (HB.out.cell (World.block_lt_of_cell? w _ hx105_0)).trans hx105_0; replace hx105_1 := (HB.out.cell (World.block_lt_of_cell? w _ hx105_1)).trans hx105_1; replace hx105_2 := (HB.out.cell (World.block_lt_of_cell? w _ hx105_2)).trans hx105_2; have HR105_2 := Aside0.mk hi105_2; have HC105_2 := Aside0.mk hl105_2; clear hi105_2 hl105_2; replace hx105_0 := (cell_far (p := ⟨gb103, 0, none⟩) (by first | (rw [add_block]; exact hn105_0) | (show (Addr.add _ _).block ≠ _; rw [add_block]; exact hn105_0) | exact hn105_0) (.int .i64 ((rd_T47 l0_7 x8_1).f0))).trans hx105_0; replace hx105_1 := (cell_far (p := ⟨gb103, 0, none⟩) (by first | (rw [add_block]; exact hn105_0) | (show (Addr.add _ _).block ≠ _; rw [add_block]; exact hn105_0) | exact hn105_0) (.int .i64 ((rd_T47 l0_7 x8_1).f0))).trans hx105_1; replace hx105_2 := (cell_far (p := ⟨gb103, 0, none⟩) (by first | (rw [add_block]; exact hn105_0) | (show (Addr.add _ _).block ≠ _; rw [add_block]; exact hn105_0) | exact hn105_0) (.int .i64 ((rd_T47 l0_7 x8_1).f0))).trans hx105_2; replace hx105_0 := (cell_far (p := ⟨gb103, 1, none⟩) (by first | (rw [add_block]; exact hn105_1) | (show (Addr.add _ _).block ≠ _; rw [add_block]; exact hn105_1) | exact hn105_1) (.bool ((rd_T47 l0_7 x8_1).f1))).trans hx105_0; replace hx105_1 := (cell_far (p := ⟨gb103, 1, none⟩) (by first | (rw [add_block]; exact hn105_1) | (show (Addr.add _ _).block ≠ _; rw [add_block]; exact hn105_1) | exact hn105_1) (.bool ((rd_T47 l0_7 x8_1).f1))).trans hx105_1; replace hx105_2 := (cell_far (p := ⟨gb103, 1, none⟩) (by first | (rw [add_block]; exact hn105_1) | (show (Addr.add _ _).block ≠ _; rw [add_block]; exact hn105_1) | exact hn105_1) (.bool ((rd_T47 l0_7 x8_1).f1))).trans hx105_2; replace hx105_0 := (cell_far (p := ⟨gb103, 2, none⟩) (by first | (rw [add_block]; exact hn105_2) | (show (Addr.add _ _).block ≠ _; rw [add_block]; exact hn105_2) | exact hn105_2) (.slice A102_2 ((rd_T47 l0_7 x8_1).f2).length c102_2)).trans hx105_0; replace hx105_1 := (cell_far (p := ⟨gb103, 2, none⟩) (by first | (rw [add_block]; exact hn105_2) | (show (Addr.add _ _).block ≠ _; rw [add_block]; exact hn105_2) | exact hn105_2) (.slice A102_2 ((rd_T47 l0_7 x8_1).f2).length c102_2)).trans hx105_1; replace hx105_2 := (cell_far (p := ⟨gb103, 2, none⟩) (by first | (rw [add_block]; exact hn105_2) | (show (Addr.add _ _).block ≠ _; rw [add_block]; exact hn105_2) | exact hn105_2) (.slice A102_2 ((rd_T47 l0_7 x8_1).f2).length c102_2)).trans hx105_2; (try have hy105_0 := fun (n_ : Nat) => (show (((((w16.drewN n_).setCell ⟨gb103, 0, none⟩ (.int .i64 ((rd_T47 l0_7 x8_1).f0))).setCell ⟨gb103, 1, none⟩ (.bool ((rd_T47 l0_7 x8_1).f1))).setCell ⟨gb103, 2, none⟩ (.slice A102_2 ((rd_T47 l0_7 x8_1).f2).length c102_2))).cell? _ = some _ from hx105_0)); (try have hy105_1 := fun (n_ : Nat) => (show (((((w16.drewN n_).setCell ⟨gb103, 0, none⟩ (.int .i64 ((rd_T47 l0_7 x8_1).f0))).setCell ⟨gb103, 1, none⟩ (.bool ((rd_T47 l0_7 x8_1).f1))).setCell ⟨gb103, 2, none⟩ (.slice A102_2 ((rd_T47 l0_7 x8_1).f2).length c102_2))).cell? _ = some _ from hx105_1)); (try have hy105_2 := fun (n_ : Nat) => (show (((((w16.drewN n_).setCell ⟨gb103, 0, none⟩ (.int .i64 ((rd_T47 l0_7 x8_1).f0))).setCell ⟨gb103, 1, none⟩ (.bool ((rd_T47 l0_7 x8_1).f1))).setCell ⟨gb103, 2, none⟩ (.slice A102_2 ((rd_T47 l0_7 x8_1).f2).length c102_2))).cell? _ = some _ from hx105_2)); clear hn105_0; clear hn105_1; clear hn105_2; replace p105 := eq_true p105; replace q105 := eq_true q105) | (go_at_call 75; (with_reducible refine (diag_within.calls (((rd_T47 l0_7 x8_1).f2).length : Int) 1 64 true _ A14.out).mono ?_); rintro e w' ⟨rfl, ⟨nd, rfl⟩⟩; (try first | exact ⟨rfl, _, World.drewN_drewN _ _ _⟩ | exact ⟨rfl, _, Eq.trans (World.drewN_drewN _ _ _) (congrArg (World.drewN _) (Nat.add_assoc _ _ _))⟩))))
                        go_roundg k1
                        case measure => have := HK1.out; omega
                        case rel => exact ⟨(wrap64 (x8_1 + 1)), (by first | rfl | (simp; done) | (simp [*]; done)), H', ⟨by have := HK1.out; omega⟩, ⟨by (with_reducible repeat (first | refine blk_drewN ?_ _ | refine blk_drew ?_ | refine blk_alloc ?_ _)); refine blk_far ?_ NB101_103.out _; (with_reducible repeat (first | refine blk_drewN ?_ _ | refine blk_drew ?_ | refine blk_alloc ?_ _)); refine blk_far ?_ NB101_103.out _; (with_reducible repeat (first | refine blk_drewN ?_ _ | refine blk_drew ?_ | refine blk_alloc ?_ _)); refine blk_far ?_ NB101_103.out _; (with_reducible repeat (first | refine blk_drewN ?_ _ | refine blk_drew ?_ | refine blk_alloc ?_ _)); exact BK101.out⟩, ⟨by repeat (first | (with_reducible first | exact HB.out | apply below_alloc | apply pw_below_drewN | apply below_drew1 | refine below_set ?_ GE101.out | refine below_set ?_ GE103.out) | exact HB.out)⟩⟩
                      · replace c15 := Bool.eq_false_iff.mpr c15
                        subst c15
                        have H1 : (some false) = some true := by rw [if_neg (show ¬ (false = true) by decide)] at H; exact H
                        clear H
                        have H := H1
                        clear H1
                        exact absurd H (by simp)
                  · rw [if_neg c12] at H
                    exact absurd H (by simp)
                · rw [if_neg c11] at H
                  exact absurd H (by simp)
              · rw [if_neg c9] at H
                have c9b0 : decide (0 < x8_1) = false := decide_eq_false c9
                clear c9
                replace H := Option.bind_eq_some_iff.mp H
                obtain ⟨t107, A200, H⟩ := H
                replace H : (if t107 = true then (diag_Right.l0 k1 l0_7 (l0_7.length : Int) (wrap64 (x8_1 + 1)) a0_0 a0_1 a0_2 a0_3 a0_4 a0_5 a0_6 l0_7 l0_8) else (some false)) = some true := H
                have A20 := Aside0.mk A200
                clear A200
                by_cases c21 : t107 = true
                · subst c21
                  have H1 : (diag_Right.l0 k1 l0_7 (l0_7.length : Int) (wrap64 (x8_1 + 1)) a0_0 a0_1 a0_2 a0_3 a0_4 a0_5 a0_6 l0_7 l0_8) = some true := by rw [if_pos rfl] at H; exact H
                  clear H
                  have H := H1
                  clear H1
                  have H' := Aside0.mk H
                  clear H
                  have p102 : 0 ≤ (x8_1 : Int) := of_decide_eq_true (by first | (with_reducible assumption) | assumption)
                  have q102 : x8_1 < (l0_7.length : Int) := of_decide_eq_true (by first | (with_reducible assumption) | assumption)
                  obtain ⟨ad102, A102_2, c102_2, e102, hx102_0, hx102_1, hx102_2, hl102_2, hi102_2⟩ := at_T47 HR0_7.out x8_1 p102 q102
                  cases e102
                  replace hx102_0 := (HB.out.cell (World.block_lt_of_cell? w _ hx102_0)).trans hx102_0
                  replace hx102_1 := (HB.out.cell (World.block_lt_of_cell? w _ hx102_1)).trans hx102_1
                  replace hx102_2 := (HB.out.cell (World.block_lt_of_cell? w _ hx102_2)).trans hx102_2
                  have HR102_2 := Aside0.mk hi102_2
                  have HC102_2 := Aside0.mk hl102_2
                  clear hi102_2 hl102_2
                  replace p102 := eq_true p102
                  replace q102 := eq_true q102
                  go_wp2_with (first | ((with_reducible refine gate_dst (N := 4) rfl ?_); refine box_event ?hg (N := 4) ?hd (cs := #[.int .i64 0, .bool false, .slice none 0 0]) (t := 47) ?hr ?_; (case hd => rfl); (case hg => rfl); (case hr => first | (go_simp; done) | (go_simp; rfl)); intro gb103 hg w22 hbox hb; have n0_ := Aside0.mk (blk_below (g := gb101) (o := .cells #[.int .i64 a0_0, .bool a0_1, .int .i64 a0_2, .int .i64 a0_3, .int .i64 a0_4, .int .i64 a0_5, .int .i64 a0_6, .slice (some ad102) l0_7.length c0_7, .slice A0_8 l0_8.length c0_8] 25 (0, 0)) (by (with_reducible repeat (first | refine blk_drewN ?_ _ | refine blk_drew ?_ | refine blk_alloc ?_ _)); exact BK101.out) hb); have n1_ := Aside0.mk (below_step (by repeat (first | (with_reducible first | exact HB.out | apply below_alloc | apply pw_below_drewN | apply below_drew1 | refine below_set ?_ GE101.out) | exact HB.out)) hb); have n2_ := Aside0.mk (hbox); have n3_ := Aside0.mk ((by rw [hg]; exact (below_size (by repeat (first | (with_reducible first | exact HB.out | apply below_alloc | apply pw_below_drewN | apply below_drew1 | refine below_set ?_ GE101.out) | exact HB.out))) : w.heap.size ≤ gb103)); have n4_ := Aside0.mk ((by rw [hg]; exact (below_size (by repeat (first | (with_reducible first | exact HB.out | apply below_alloc | apply pw_below_drewN | apply below_drew1 | refine below_set ?_ GE101.out) | exact HB.out))) : w.heap.size ≤ gb103)); have n5_ := Aside0.mk ((by rw [hg]; exact Nat.ne_of_lt (blk_lt (g := gb101) (o := .cells #[.int .i64 a0_0, .bool a0_1, .int .i64 a0_2, .int .i64 a0_3, .int .i64 a0_4, .int .i64 a0_5, .int .i64 a0_6, .slice (some ad102) l0_7.length c0_7, .slice A0_8 l0_8.length c0_8] 25 (0, 0)) (by (with_reducible repeat (first | refine blk_drewN ?_ _ | refine blk_drew ?_ | refine blk_alloc ?_ _)); exact BK101.out)) : gb101 ≠ gb103)); have n6_ := Aside0.mk ((by rw [hg]; exact Nat.ne_of_gt (blk_lt (g := gb101) (o := .cells #[.int .i64 a0_0, .bool a0_1, .int .i64 a0_2, .int .i64 a0_3, .int .i64 a0_4, .int .i64 a0_5, .int .i64 a0_6, .slice (some ad102) l0_7.length c0_7, .slice A0_8 l0_8.length c0_8] 25 (0, 0)) (by (with_reducible repeat (first | refine blk_drewN ?_ _ | refine blk_drew ?_ | refine blk_alloc ?_ _)); exact BK101.out)) : gb103 ≠ gb101)); clear BK101; clear HB; have BK101 := n0_; have HB := n1_; have BK103 := n2_; have GW103 := n3_; have GE103 := n4_; have NB101_103 := n5_; have NB103_101 := n6_; clear n0_ n1_ n2_ n3_ n4_ n5_ n6_; clear hb hbox hg; have hnb23 := NB103_101.out; have hnc23 := NB101_103.out; have hcz24_0 : w22.cell? ⟨gb103, 0, none⟩ = some (.int .i64 0) := (blk_cell BK103.out 0).trans rfl; have hcz24_1 : w22.cell? ⟨gb103, 1, none⟩ = some (.bool false) := (blk_cell BK103.out 1).trans rfl; have hcz24_2 : w22.cell? ⟨gb103, 2, none⟩ = some (.slice none 0 0) := (blk_cell BK103.out 2).trans rfl; have hfz24_0 := blk_frozen BK103.out 0; have hfz24_1 := blk_frozen BK103.out 1; have hfz24_2 := blk_frozen BK103.out 2) | (go_at_call 75; (with_reducible refine (diag_within.calls ((rd_T47 l0_7 x8_1).f0) 0 65535 true _ A7.out).mono ?_); rintro e w' ⟨rfl, ⟨nd, rfl⟩⟩; (try first | exact ⟨rfl, _, World.drewN_drewN _ _ _⟩ | exact ⟨rfl, _, Eq.trans (World.drewN_drewN _ _ _) (congrArg (World.drewN _) (Nat.add_assoc _ _ _))⟩)) | (go_at_call 75; (with_reducible refine (diag_within.calls (((rd_T47 l0_7 x8_1).f2).length : Int) 1 64 true _ A20.out).mono ?_); rintro e w' ⟨rfl, ⟨nd, rfl⟩⟩; (try first | exact ⟨rfl, _, World.drewN_drewN _ _ _⟩ | exact ⟨rfl, _, Eq.trans (World.drewN_drewN _ _ _) (congrArg (World.drewN _) (Nat.add_assoc _ _ _))⟩)))
                  repeat (go_quiet (first | ((with_reducible refine gate_dst (N := 4) rfl ?_); refine box_event ?hg (N := 4) ?hd (cs := #[.int .i64 0, .bool false, .slice none 0 0]) (t := 47) ?hr ?_; (case hd => rfl); (case hg => rfl); (case hr => first | (go_simp; done) | (go_simp; rfl)); intro gb103 hg w22 hbox hb; have n0_ := Aside0.mk (blk_below (g := gb101) (o := .cells #[.int .i64 a0_0, .bool a0_1, .int .i64 a0_2, .int .i64 a0_3, .int .i64 a0_4, .int .i64 a0_5, .int .i64 a0_6, .slice (some ad102) l0_7.length c0_7, .slice A0_8 l0_8.length c0_8] 25 (0, 0)) (by (with_reducible repeat (first | refine blk_drewN ?_ _ | refine blk_drew ?_ | refine blk_alloc ?_ _)); exact BK101.out) hb); have n1_ := Aside0.mk (below_step (by repeat (first | (with_reducible first | exact HB.out | apply below_alloc | apply pw_below_drewN | apply below_drew1 | refine below_set ?_ GE101.out) | exact HB.out)) hb); have n2_ := Aside0.mk (hbox); have n3_ := Aside0.mk ((by rw [hg]; exact (below_size (by repeat (first | (with_reducible first | exact HB.out | apply below_alloc | apply pw_below_drewN | apply below_drew1 | refine below_set ?_ GE101.out) | exact HB.out))) : w.heap.size ≤ gb103)); have n4_ := Aside0.mk ((by rw [hg]; exact (below_size (by repeat (first | (with_reducible first | exact HB.out | apply below_alloc | apply pw_below_drewN | apply below_drew1 | refine below_set ?_ GE101.out) | exact HB.out))) : w.heap.size ≤ gb103)); have n5_ := Aside0.mk ((by rw [hg]; exact Nat.ne_of_lt (blk_lt (g := gb101) (o := .cells #[.int .i64 a0_0, .bool a0_1, .int .i64 a0_2, .int .i64 a0_3, .int .i64 a0_4, .int .i64 a0_5, .int .i64 a0_6, .slice (some ad102) l0_7.length c0_7, .slice A0_8 l0_8.length c0_8] 25 (0, 0)) (by (with_reducible repeat (first | refine blk_drewN ?_ _ | refine blk_drew ?_ | refine blk_alloc ?_ _)); exact BK101.out)) : gb101 ≠ gb103)); have n6_ := Aside0.mk ((by rw [hg]; exact Nat.ne_of_gt (blk_lt (g := gb101) (o := .cells #[.int .i64 a0_0, .bool a0_1, .int .i64 a0_2, .int .i64 a0_3, .int .i64 a0_4, .int .i64 a0_5, .int .i64 a0_6, .slice (some ad102) l0_7.length c0_7, .slice A0_8 l0_8.length c0_8] 25 (0, 0)) (by (with_reducible repeat (first | refine blk_drewN ?_ _ | refine blk_drew ?_ | refine blk_alloc ?_ _)); exact BK101.out)) : gb103 ≠ gb101)); clear BK101; clear HB; have BK101 := n0_; have HB := n1_; have BK103 := n2_; have GW103 := n3_; have GE103 := n4_; have NB101_103 := n5_; have NB103_101 := n6_; clear n0_ n1_ n2_ n3_ n4_ n5_ n6_; clear hb hbox hg; have hnb23 := NB103_101.out; have hnc23 := NB101_103.out; have hcz24_0 : w22.cell? ⟨gb103, 0, none⟩ = some (.int .i64 0) := (blk_cell BK103.out 0).trans rfl; have hcz24_1 : w22.cell? ⟨gb103, 1, none⟩ = some (.bool false) := (blk_cell BK103.out 1).trans rfl; have hcz24_2 : w22.cell? ⟨gb103, 2, none⟩ = some (.slice none 0 0) := (blk_cell BK103.out 2).trans rfl; have hfz24_0 := blk_frozen BK103.out 0; have hfz24_1 := blk_frozen BK103.out 1; have hfz24_2 := blk_frozen BK103.out 2) | (go_at_call 75; (with_reducible refine (diag_within.calls ((rd_T47 l0_7 x8_1).f0) 0 65535 true _ A7.out).mono ?_); rintro e w' ⟨rfl, ⟨nd, rfl⟩⟩; (try first | exact ⟨rfl, _, World.drewN_drewN _ _ _⟩ | exact ⟨rfl, _, Eq.trans (World.drewN_drewN _ _ _) (congrArg (World.drewN _) (Nat.add_assoc _ _ _))⟩)) | (go_at_call 75; (with_reducible refine (diag_within.calls (((rd_T47 l0_7 x8_1).f2).length : Int) 1 64 true _ A20.out).mono ?_); rintro e w' ⟨rfl, ⟨nd, rfl⟩⟩; (try first | exact ⟨rfl, _, World.drewN_drewN _ _ _⟩ | exact ⟨rfl, _, Eq.trans (World.drewN_drewN _ _ _) (congrArg (World.drewN _) (Nat.add_assoc _ _ _))⟩))); try go_wp2_with (first | ((with_reducible refine gate_dst (N := 4) rfl ?_); refine box_event ?hg (N := 4) ?hd (cs := #[.int .i64 0, .bool false, .slice none 0 0]) (t := 47) ?hr ?_; (case hd => rfl); (case hg => rfl); (case hr => first | (go_simp; done) | (go_simp; rfl)); intro gb103 hg w22 hbox hb; have n0_ := Aside0.mk (blk_below (g := gb101) (o := .cells #[.int .i64 a0_0, .bool a0_1, .int .i64 a0_2, .int .i64 a0_3, .int .i64 a0_4, .int .i64 a0_5, .int .i64 a0_6, .slice (some ad102) l0_7.length c0_7, .slice A0_8 l0_8.length c0_8] 25 (0, 0)) (by (with_reducible repeat (first | refine blk_drewN ?_ _ | refine blk_drew ?_ | refine blk_alloc ?_ _)); exact BK101.out) hb); have n1_ := Aside0.mk (below_step (by repeat (first | (with_reducible first | exact HB.out | apply below_alloc | apply pw_below_drewN | apply below_drew1 | refine below_set ?_ GE101.out) | exact HB.out)) hb); have n2_ := Aside0.mk (hbox); have n3_ := Aside0.mk ((by rw [hg]; exact (below_size (by repeat (first | (with_reducible first | exact HB.out | apply below_alloc | apply pw_below_drewN | apply below_drew1 | refine below_set ?_ GE101.out) | exact HB.out))) : w.heap.size ≤ gb103)); have n4_ := Aside0.mk ((by rw [hg]; exact (below_size (by repeat (first | (with_reducible first | exact HB.out | apply below_alloc | apply pw_below_drewN | apply below_drew1 | refine below_set ?_ GE101.out) | exact HB.out))) : w.heap.size ≤ gb103)); have n5_ := Aside0.mk ((by rw [hg]; exact Nat.ne_of_lt (blk_lt (g := gb101) (o := .cells #[.int .i64 a0_0, .bool a0_1, .int .i64 a0_2, .int .i64 a0_3, .int .i64 a0_4, .int .i64 a0_5, .int .i64 a0_6, .slice (some ad102) l0_7.length c0_7, .slice A0_8 l0_8.length c0_8] 25 (0, 0)) (by (with_reducible repeat (first | refine blk_drewN ?_ _ | refine blk_drew ?_ | refine blk_alloc ?_ _)); exact BK101.out)) : gb101 ≠ gb103)); have n6_ := Aside0.mk ((by rw [hg]; exact Nat.ne_of_gt (blk_lt (g := gb101) (o := .cells #[.int .i64 a0_0, .bool a0_1, .int .i64 a0_2, .int .i64 a0_3, .int .i64 a0_4, .int .i64 a0_5, .int .i64 a0_6, .slice (some ad102) l0_7.length c0_7, .slice A0_8 l0_8.length c0_8] 25 (0, 0)) (by (with_reducible repeat (first | refine blk_drewN ?_ _ | refine blk_drew ?_ | refine blk_alloc ?_ _)); exact BK101.out)) : gb103 ≠ gb101)); clear BK101; clear HB; have BK101 := n0_; have HB := n1_; have BK103 := n2_; have GW103 := n3_; have GE103 := n4_; have NB101_103 := n5_; have NB103_101 := n6_; clear n0_ n1_ n2_ n3_ n4_ n5_ n6_; clear hb hbox hg; have hnb23 := NB103_101.out; have hnc23 := NB101_103.out; have hcz24_0 : w22.cell? ⟨gb103, 0, none⟩ = some (.int .i64 0) := (blk_cell BK103.out 0).trans rfl; have hcz24_1 : w22.cell? ⟨gb103, 1, none⟩ = some (.bool false) := (blk_cell BK103.out 1).trans rfl; have hcz24_2 : w22.cell? ⟨gb103, 2, none⟩ = some (.slice none 0 0) := (blk_cell BK103.out 2).trans rfl; have hfz24_0 := blk_frozen BK103.out 0; have hfz24_1 := blk_frozen BK103.out 1; have hfz24_2 := blk_frozen BK103.out 2) | (go_at_call 75; (with_reducible refine (diag_within.calls ((rd_T47 l0_7 x8_1).f0) 0 65535 true _ A7.out).mono ?_); rintro e w' ⟨rfl, ⟨nd, rfl⟩⟩; (try first | exact ⟨rfl, _, World.drewN_drewN _ _ _⟩ | exact ⟨rfl, _, Eq.trans (World.drewN_drewN _ _ _) (congrArg (World.drewN _) (Nat.add_assoc _ _ _))⟩)) | (go_at_call 75; (with_reducible refine (diag_within.calls (((rd_T47 l0_7 x8_1).f2).length : Int) 1 64 true _ A20.out).mono ?_); rintro e w' ⟨rfl, ⟨nd, rfl⟩⟩; (try first | exact ⟨rfl, _, World.drewN_drewN _ _ _⟩ | exact ⟨rfl, _, Eq.trans (World.drewN_drewN _ _ _) (congrArg (World.drewN _) (Nat.add_assoc _ _ _))⟩))))
                  go_roundg k1
                  case measure => have := HK1.out; omega
                  case rel => exact ⟨(wrap64 (x8_1 + 1)), (by first | rfl | (simp; done) | (simp [*]; done)), H', ⟨by have := HK1.out; omega⟩, ⟨by (with_reducible repeat (first | refine blk_drewN ?_ _ | refine blk_drew ?_ | refine blk_alloc ?_ _)); refine blk_far ?_ NB101_103.out _; (with_reducible repeat (first | refine blk_drewN ?_ _ | refine blk_drew ?_ | refine blk_alloc ?_ _)); refine blk_far ?_ NB101_103.out _; (with_reducible repeat (first | refine blk_drewN ?_ _ | refine blk_drew ?_ | refine blk_alloc ?_ _)); refine blk_far ?_ NB101_103.out _; (with_reducible repeat (first | refine blk_drewN ?_ _ | refine blk_drew ?_ | refine blk_alloc ?_ _)); exact BK101.out⟩, ⟨by repeat (first | (with_reducible first | exact HB.out | apply below_alloc | apply pw_below_drewN | apply below_drew1 | refine below_set ?_ GE101.out | refine below_set ?_ GE103.out) | exact HB.out)⟩⟩
                · replace c21 := Bool.eq_false_iff.mpr c21
                  subst c21
                  have H1 : (some false) = some true := by rw [if_neg (show ¬ (false = true) by decide)] at H; exact H
                  clear H
                  have H := H1
                  clear H1
                  exact absurd H (by simp)
            · replace c8 := Bool.eq_false_iff.mpr c8
              subst c8
              have H1 : (some false) = some true := by rw [if_neg (show ¬ (false = true) by decide)] at H; exact H
              clear H
              have H := H1
              clear H1
              exact absurd H (by simp)
          · rw [if_neg c6] at H
            exact absurd H (by simp)
        · rw [if_neg c5] at H
          exact absurd H (by simp)
      · rw [if_neg c4] at H
        have c4b0 : decide (x8_1 < (l0_7.length : Int)) = false := decide_eq_false c4
        clear c4
        replace H := Option.bind_eq_some_iff.mp H
        obtain ⟨t108, A250, H⟩ := H
        replace H : (if t108 = true then ((diag_within.f a0_2 (-1) 4294967295).bind fun t109 => (if t109 = true then ((diag_within.f a0_3 0 12).bind fun t110 => (if t110 = true then ((diag_within.f a0_4 0 51).bind fun t111 => (if t111 = true then ((diag_within.f a0_5 0 4294967295).bind fun t112 => (if t112 = true then ((diag_within.f a0_6 0 4294967295).bind fun t113 => (if t113 = true then (if (l0_7.length : Int) ≤ 16 then ((dtc_Right.f l0_8).bind fun t114 => (some t114)) else (some false)) else (some false))) else (some false))) else (some false))) else (some false))) else (some false))) else (some false)) = some true := H
        have A25 := Aside0.mk A250
        clear A250
        by_cases c26 : t108 = true
        · subst c26
          have H1 : ((diag_within.f a0_2 (-1) 4294967295).bind fun t109 => (if t109 = true then ((diag_within.f a0_3 0 12).bind fun t110 => (if t110 = true then ((diag_within.f a0_4 0 51).bind fun t111 => (if t111 = true then ((diag_within.f a0_5 0 4294967295).bind fun t112 => (if t112 = true then ((diag_within.f a0_6 0 4294967295).bind fun t113 => (if t113 = true then (if (l0_7.length : Int) ≤ 16 then ((dtc_Right.f l0_8).bind fun t114 => (some t114)) else (some false)) else (some false))) else (some false))) else (some false))) else (some false))) else (some false))) = some true := by rw [if_pos rfl] at H; exact H
          clear H
          have H := H1
          clear H1
          replace H := Option.bind_eq_some_iff.mp H
          obtain ⟨t109, A270, H⟩ := H
          replace H : (if t109 = true then ((diag_within.f a0_3 0 12).bind fun t110 => (if t110 = true then ((diag_within.f a0_4 0 51).bind fun t111 => (if t111 = true then ((diag_within.f a0_5 0 4294967295).bind fun t112 => (if t112 = true then ((diag_within.f a0_6 0 4294967295).bind fun t113 => (if t113 = true then (if (l0_7.length : Int) ≤ 16 then ((dtc_Right.f l0_8).bind fun t114 => (some t114)) else (some false)) else (some false))) else (some false))) else (some false))) else (some false))) else (some false)) = some true := H
          have A27 := Aside0.mk A270
          clear A270
          by_cases c28 : t109 = true
          · subst c28
            have H1 : ((diag_within.f a0_3 0 12).bind fun t110 => (if t110 = true then ((diag_within.f a0_4 0 51).bind fun t111 => (if t111 = true then ((diag_within.f a0_5 0 4294967295).bind fun t112 => (if t112 = true then ((diag_within.f a0_6 0 4294967295).bind fun t113 => (if t113 = true then (if (l0_7.length : Int) ≤ 16 then ((dtc_Right.f l0_8).bind fun t114 => (some t114)) else (some false)) else (some false))) else (some false))) else (some false))) else (some false))) = some true := by rw [if_pos rfl] at H; exact H
            clear H
            have H := H1
            clear H1
            replace H := Option.bind_eq_some_iff.mp H
            obtain ⟨t110, A290, H⟩ := H
            replace H : (if t110 = true then ((diag_within.f a0_4 0 51).bind fun t111 => (if t111 = true then ((diag_within.f a0_5 0 4294967295).bind fun t112 => (if t112 = true then ((diag_within.f a0_6 0 4294967295).bind fun t113 => (if t113 = true then (if (l0_7.length : Int) ≤ 16 then ((dtc_Right.f l0_8).bind fun t114 => (some t114)) else (some false)) else (some false))) else (some false))) else (some false))) else (some false)) = some true := H
            have A29 := Aside0.mk A290
            clear A290
            by_cases c30 : t110 = true
            · subst c30
              have H1 : ((diag_within.f a0_4 0 51).bind fun t111 => (if t111 = true then ((diag_within.f a0_5 0 4294967295).bind fun t112 => (if t112 = true then ((diag_within.f a0_6 0 4294967295).bind fun t113 => (if t113 = true then (if (l0_7.length : Int) ≤ 16 then ((dtc_Right.f l0_8).bind fun t114 => (some t114)) else (some false)) else (some false))) else (some false))) else (some false))) = some true := by rw [if_pos rfl] at H; exact H
              clear H
              have H := H1
              clear H1
              replace H := Option.bind_eq_some_iff.mp H
              obtain ⟨t111, A310, H⟩ := H
              replace H : (if t111 = true then ((diag_within.f a0_5 0 4294967295).bind fun t112 => (if t112 = true then ((diag_within.f a0_6 0 4294967295).bind fun t113 => (if t113 = true then (if (l0_7.length : Int) ≤ 16 then ((dtc_Right.f l0_8).bind fun t114 => (some t114)) else (some false)) else (some false))) else (some false))) else (some false)) = some true := H
              have A31 := Aside0.mk A310
              clear A310
              by_cases c32 : t111 = true
              · subst c32
                have H1 : ((diag_within.f a0_5 0 4294967295).bind fun t112 => (if t112 = true then ((diag_within.f a0_6 0 4294967295).bind fun t113 => (if t113 = true then (if (l0_7.length : Int) ≤ 16 then ((dtc_Right.f l0_8).bind fun t114 => (some t114)) else (some false)) else (some false))) else (some false))) = some true := by rw [if_pos rfl] at H; exact H
                clear H
                have H := H1
                clear H1
                replace H := Option.bind_eq_some_iff.mp H
                obtain ⟨t112, A330, H⟩ := H
                replace H : (if t112 = true then ((diag_within.f a0_6 0 4294967295).bind fun t113 => (if t113 = true then (if (l0_7.length : Int) ≤ 16 then ((dtc_Right.f l0_8).bind fun t114 => (some t114)) else (some false)) else (some false))) else (some false)) = some true := H
                have A33 := Aside0.mk A330
                clear A330
                by_cases c34 : t112 = true
                · subst c34
                  have H1 : ((diag_within.f a0_6 0 4294967295).bind fun t113 => (if t113 = true then (if (l0_7.length : Int) ≤ 16 then ((dtc_Right.f l0_8).bind fun t114 => (some t114)) else (some false)) else (some false))) = some true := by rw [if_pos rfl] at H; exact H
                  clear H
                  have H := H1
                  clear H1
                  replace H := Option.bind_eq_some_iff.mp H
                  obtain ⟨t113, A350, H⟩ := H
                  replace H : (if t113 = true then (if (l0_7.length : Int) ≤ 16 then ((dtc_Right.f l0_8).bind fun t114 => (some t114)) else (some false)) else (some false)) = some true := H
                  have A35 := Aside0.mk A350
                  clear A350
                  by_cases c36 : t113 = true
                  · subst c36
                    have H1 : (if (l0_7.length : Int) ≤ 16 then ((dtc_Right.f l0_8).bind fun t114 => (some t114)) else (some false)) = some true := by rw [if_pos rfl] at H; exact H
                    clear H
                    have H := H1
                    clear H1
                    by_cases c37 : (l0_7.length : Int) ≤ 16
                    · rw [if_pos c37] at H
                      have c37b0 : decide ((l0_7.length : Int) ≤ 16) = true := decide_eq_true c37
                      have c37b1 : decide (l0_7.length ≤ 16) = true := decide_eq_true (by omega)
                      clear c37
                      replace H := Option.bind_eq_some_iff.mp H
                      obtain ⟨t114, A380, H⟩ := H
                      replace H : (some t114) = some true := H
                      have A38 := Aside0.mk A380
                      clear A380
                      have HT := Option.some.inj H
                      clear H
                      have hcz39_0 : wr.cell? ⟨gb101, 0, none⟩ = some (.int .i64 a0_0) := (blk_cell BK101.out 0).trans rfl
                      have hcz39_1 : wr.cell? ⟨gb101, 1, none⟩ = some (.bool a0_1) := (blk_cell BK101.out 1).trans rfl
                      have hcz39_2 : wr.cell? ⟨gb101, 2, none⟩ = some (.int .i64 a0_2) := (blk_cell BK101.out 2).trans rfl
                      have hcz39_3 : wr.cell? ⟨gb101, 3, none⟩ = some (.int .i64 a0_3) := (blk_cell BK101.out 3).trans rfl
                      have hcz39_4 : wr.cell? ⟨gb101, 4, none⟩ = some (.int .i64 a0_4) := (blk_cell BK101.out 4).trans rfl
                      have hcz39_5 : wr.cell? ⟨gb101, 5, none⟩ = some (.int .i64 a0_5) := (blk_cell BK101.out 5).trans rfl
                      have hcz39_6 : wr.cell? ⟨gb101, 6, none⟩ = some (.int .i64 a0_6) := (blk_cell BK101.out 6).trans rfl
                      have hcz39_7 : wr.cell? ⟨gb101, 7, none⟩ = some (.slice A0_7 l0_7.length c0_7) := (blk_cell BK101.out 7).trans rfl
                      have hcz39_8 : wr.cell? ⟨gb101, 8, none⟩ = some (.slice A0_8 l0_8.length c0_8) := (blk_cell BK101.out 8).trans rfl
                      have hfz39_0 := blk_frozen BK101.out 0
                      have hfz39_1 := blk_frozen BK101.out 1
                      have hfz39_2 := blk_frozen BK101.out 2
                      have hfz39_3 := blk_frozen BK101.out 3
                      have hfz39_4 := blk_frozen BK101.out 4
                      have hfz39_5 := blk_frozen BK101.out 5
                      have hfz39_6 := blk_frozen BK101.out 6
                      have hfz39_7 := blk_frozen BK101.out 7
                      have hfz39_8 := blk_frozen BK101.out 8
                      go_wp2_with (first | (go_at_call 75; (with_reducible refine (diag_within.calls a0_0 1 3 true _ A25.out).mono ?_); rintro e w' ⟨rfl, ⟨nd, rfl⟩⟩; (try first | exact ⟨rfl, _, World.drewN_drewN _ _ _⟩ | exact ⟨rfl, _, Eq.trans (World.drewN_drewN _ _ _) (congrArg (World.drewN _) (Nat.add_assoc _ _ _))⟩)) | (go_at_call 75; (with_reducible refine (diag_within.calls a0_2 (-1) 4294967295 true _ A27.out).mono ?_); rintro e w' ⟨rfl, ⟨nd, rfl⟩⟩; (try first | exact ⟨rfl, _, World.drewN_drewN _ _ _⟩ | exact ⟨rfl, _, Eq.trans (World.drewN_drewN _ _ _) (congrArg (World.drewN _) (Nat.add_assoc _ _ _))⟩)) | (go_at_call 75; (with_reducible refine (diag_within.calls a0_3 0 12 true _ A29.out).mono ?_); rintro e w' ⟨rfl, ⟨nd, rfl⟩⟩; (try first | exact ⟨rfl, _, World.drewN_drewN _ _ _⟩ | exact ⟨rfl, _, Eq.trans (World.drewN_drewN _ _ _) (congrArg (World.drewN _) (Nat.add_assoc _ _ _))⟩)) | (go_at_call 75; (with_reducible refine (diag_within.calls a0_4 0 51 true _ A31.out).mono ?_); rintro e w' ⟨rfl, ⟨nd, rfl⟩⟩; (try first | exact ⟨rfl, _, World.drewN_drewN _ _ _⟩ | exact ⟨rfl, _, Eq.trans (World.drewN_drewN _ _ _) (congrArg (World.drewN _) (Nat.add_assoc _ _ _))⟩)) | (go_at_call 75; (with_reducible refine (diag_within.calls a0_5 0 4294967295 true _ A33.out).mono ?_); rintro e w' ⟨rfl, ⟨nd, rfl⟩⟩; (try first | exact ⟨rfl, _, World.drewN_drewN _ _ _⟩ | exact ⟨rfl, _, Eq.trans (World.drewN_drewN _ _ _) (congrArg (World.drewN _) (Nat.add_assoc _ _ _))⟩)) | (go_at_call 75; (with_reducible refine (diag_within.calls a0_6 0 4294967295 true _ A35.out).mono ?_); rintro e w' ⟨rfl, ⟨nd, rfl⟩⟩; (try first | exact ⟨rfl, _, World.drewN_drewN _ _ _⟩ | exact ⟨rfl, _, Eq.trans (World.drewN_drewN _ _ _) (congrArg (World.drewN _) (Nat.add_assoc _ _ _))⟩)) | (go_at_call 76; (with_reducible refine (dtc_Right.calls _ _ l0_8 t114 _ ?side1 ?side2 A38.out).mono ?_); (case side1 => repeat (first | exact (Kd.C_below HR0_8.out (by repeat (first | (with_reducible first | exact HB.out | apply below_alloc | apply pw_below_drewN | apply below_drew1 | refine below_set ?_ GE101.out) | exact HB.out))) | (with_reducible refine Kd.C_alloc ?_ _) | (with_reducible refine Kd.C_drewN ?_ _) | (with_reducible refine Kd.C_drew ?_))); (case side2 => exact HC0_8.out); rintro e w40 ⟨rfl, hb⟩; have n0_ := Aside0.mk (blk_below (g := gb101) (o := .cells #[.int .i64 a0_0, .bool a0_1, .int .i64 a0_2, .int .i64 a0_3, .int .i64 a0_4, .int .i64 a0_5, .int .i64 a0_6, .slice A0_7 l0_7.length c0_7, .slice A0_8 l0_8.length c0_8] 25 (0, 0)) (by (with_reducible repeat (first | refine blk_drewN ?_ _ | refine blk_drew ?_ | refine blk_alloc ?_ _)); exact BK101.out) hb); have n1_ := Aside0.mk (below_step (by repeat (first | (with_reducible first | exact HB.out | apply below_alloc | apply pw_below_drewN | apply below_drew1 | refine below_set ?_ GE101.out) | exact HB.out)) hb); clear BK101; clear HB; have BK101 := n0_; have HB := n1_; clear n0_ n1_; (try clear hb); (try clear hb2); (try clear hk); (try clear hi)))
                      repeat (go_quiet (first | (go_at_call 75; (with_reducible refine (diag_within.calls a0_0 1 3 true _ A25.out).mono ?_); rintro e w' ⟨rfl, ⟨nd, rfl⟩⟩; (try first | exact ⟨rfl, _, World.drewN_drewN _ _ _⟩ | exact ⟨rfl, _, Eq.trans (World.drewN_drewN _ _ _) (congrArg (World.drewN _) (Nat.add_assoc _ _ _))⟩)) | (go_at_call 75; (with_reducible refine (diag_within.calls a0_2 (-1) 4294967295 true _ A27.out).mono ?_); rintro e w' ⟨rfl, ⟨nd, rfl⟩⟩; (try first | exact ⟨rfl, _, World.drewN_drewN _ _ _⟩ | exact ⟨rfl, _, Eq.trans (World.drewN_drewN _ _ _) (congrArg (World.drewN _) (Nat.add_assoc _ _ _))⟩)) | (go_at_call 75; (with_reducible refine (diag_within.calls a0_3 0 12 true _ A29.out).mono ?_); rintro e w' ⟨rfl, ⟨nd, rfl⟩⟩; (try first | exact ⟨rfl, _, World.drewN_drewN _ _ _⟩ | exact ⟨rfl, _, Eq.trans (World.drewN_drewN _ _ _) (congrArg (World.drewN _) (Nat.add_assoc _ _ _))⟩)) | (go_at_call 75; (with_reducible refine (diag_within.calls a0_4 0 51 true _ A31.out).mono ?_); rintro e w' ⟨rfl, ⟨nd, rfl⟩⟩; (try first | exact ⟨rfl, _, World.drewN_drewN _ _ _⟩ | exact ⟨rfl, _, Eq.trans (World.drewN_drewN _ _ _) (congrArg (World.drewN _) (Nat.add_assoc _ _ _))⟩)) | (go_at_call 75; (with_reducible refine (diag_within.calls a0_5 0 4294967295 true _ A33.out).mono ?_); rintro e w' ⟨rfl, ⟨nd, rfl⟩⟩; (try first | exact ⟨rfl, _, World.drewN_drewN _ _ _⟩ | exact ⟨rfl, _, Eq.trans (World.drewN_drewN _ _ _) (congrArg (World.drewN _) (Nat.add_assoc _ _ _))⟩)) | (go_at_call 75; (with_reducible refine (diag_within.calls a0_6 0 4294967295 true _ A35.out).mono ?_); rintro e w' ⟨rfl, ⟨nd, rfl⟩⟩; (try first | exact ⟨rfl, _, World.drewN_drewN _ _ _⟩ | exact ⟨rfl, _, Eq.trans (World.drewN_drewN _ _ _) (congrArg (World.drewN _) (Nat.add_assoc _ _ _))⟩)) | (go_at_call 76; (with_reducible refine (dtc_Right.calls _ _ l0_8 t114 _ ?side1 ?side2 A38.out).mono ?_); (case side1 => repeat (first | exact (Kd.C_below HR0_8.out (by repeat (first | (with_reducible first | exact HB.out | apply below_alloc | apply pw_below_drewN | apply below_drew1 | refine below_set ?_ GE101.out) | exact HB.out))) | (with_reducible refine Kd.C_alloc ?_ _) | (with_reducible refine Kd.C_drewN ?_ _) | (with_reducible refine Kd.C_drew ?_))); (case side2 => exact HC0_8.out); rintro e w40 ⟨rfl, hb⟩; have n0_ := Aside0.mk (blk_below (g := gb101) (o := .cells #[.int .i64 a0_0, .bool a0_1, .int .i64 a0_2, .int .i64 a0_3, .int .i64 a0_4, .int .i64 a0_5, .int .i64 a0_6, .slice A0_7 l0_7.length c0_7, .slice A0_8 l0_8.length c0_8] 25 (0, 0)) (by (with_reducible repeat (first | refine blk_drewN ?_ _ | refine blk_drew ?_ | refine blk_alloc ?_ _)); exact BK101.out) hb); have n1_ := Aside0.mk (below_step (by repeat (first | (with_reducible first | exact HB.out | apply below_alloc | apply pw_below_drewN | apply below_drew1 | refine below_set ?_ GE101.out) | exact HB.out)) hb); clear BK101; clear HB; have BK101 := n0_; have HB := n1_; clear n0_ n1_; (try clear hb); (try clear hb2); (try clear hk); (try clear hi))); try go_wp2_with (first | (go_at_call 75; (with_reducible refine (diag_within.calls a0_0 1 3 true _ A25.out).mono ?_); rintro e w' ⟨rfl, ⟨nd, rfl⟩⟩; (try first | exact ⟨rfl, _, World.drewN_drewN _ _ _⟩ | exact ⟨rfl, _, Eq.trans (World.drewN_drewN _ _ _) (congrArg (World.drewN _) (Nat.add_assoc _ _ _))⟩)) | (go_at_call 75; (with_reducible refine (diag_within.calls a0_2 (-1) 4294967295 true _ A27.out).mono ?_); rintro e w' ⟨rfl, ⟨nd, rfl⟩⟩; (try first | exact ⟨rfl, _, World.drewN_drewN _ _ _⟩ | exact ⟨rfl, _, Eq.trans (World.drewN_drewN _ _ _) (congrArg (World.drewN _) (Nat.add_assoc _ _ _))⟩)) | (go_at_call 75; (with_reducible refine (diag_within.calls a0_3 0 12 true _ A29.out).mono ?_); rintro e w' ⟨rfl, ⟨nd, rfl⟩⟩; (try first | exact ⟨rfl, _, World.drewN_drewN _ _ _⟩ | exact ⟨rfl, _, Eq.trans (World.drewN_drewN _ _ _) (congrArg (World.drewN _) (Nat.add_assoc _ _ _))⟩)) | (go_at_call 75; (with_reducible refine (diag_within.calls a0_4 0 51 true _ A31.out).mono ?_); rintro e w' ⟨rfl, ⟨nd, rfl⟩⟩; (try first | exact ⟨rfl, _, World.drewN_drewN _ _ _⟩ | exact ⟨rfl, _, Eq.trans (World.drewN_drewN _ _ _) (congrArg (World.drewN _) (Nat.add_assoc _ _ _))⟩)) | (go_at_call 75; (with_reducible refine (diag_within.calls a0_5 0 4294967295 true _ A33.out).mono ?_); rintro e w' ⟨rfl, ⟨nd, rfl⟩⟩; (try first | exact ⟨rfl, _, World.drewN_drewN _ _ _⟩ | exact ⟨rfl, _, Eq.trans (World.drewN_drewN _ _ _) (congrArg (World.drewN _) (Nat.add_assoc _ _ _))⟩)) | (go_at_call 75; (with_reducible refine (diag_within.calls a0_6 0 4294967295 true _ A35.out).mono ?_); rintro e w' ⟨rfl, ⟨nd, rfl⟩⟩; (try first | exact ⟨rfl, _, World.drewN_drewN _ _ _⟩ | exact ⟨rfl, _, Eq.trans (World.drewN_drewN _ _ _) (congrArg (World.drewN _) (Nat.add_assoc _ _ _))⟩)) | (go_at_call 76; (with_reducible refine (dtc_Right.calls _ _ l0_8 t114 _ ?side1 ?side2 A38.out).mono ?_); (case side1 => repeat (first | exact (Kd.C_below HR0_8.out (by repeat (first | (with_reducible first | exact HB.out | apply below_alloc | apply pw_below_drewN | apply below_drew1 | refine below_set ?_ GE101.out) | exact HB.out))) | (with_reducible refine Kd.C_alloc ?_ _) | (with_reducible refine Kd.C_drewN ?_ _) | (with_reducible refine Kd.C_drew ?_))); (case side2 => exact HC0_8.out); rintro e w40 ⟨rfl, hb⟩; have n0_ := Aside0.mk (blk_below (g := gb101) (o := .cells #[.int .i64 a0_0, .bool a0_1, .int .i64 a0_2, .int .i64 a0_3, .int .i64 a0_4, .int .i64 a0_5, .int .i64 a0_6, .slice A0_7 l0_7.length c0_7, .slice A0_8 l0_8.length c0_8] 25 (0, 0)) (by (with_reducible repeat (first | refine blk_drewN ?_ _ | refine blk_drew ?_ | refine blk_alloc ?_ _)); exact BK101.out) hb); have n1_ := Aside0.mk (below_step (by repeat (first | (with_reducible first | exact HB.out | apply below_alloc | apply pw_below_drewN | apply below_drew1 | refine below_set ?_ GE101.out) | exact HB.out)) hb); clear BK101; clear HB; have BK101 := n0_; have HB := n1_; clear n0_ n1_; (try clear hb); (try clear hb2); (try clear hk); (try clear hi))))
                      go_ret
                      exact ⟨by first | rfl | (simp [errW_none, errW_some] <;> rfl) | (simp [*, errW_none, errW_some] <;> rfl), by repeat (first | (with_reducible first | exact HB.out | apply below_alloc | apply pw_below_drewN | apply below_drew1 | refine below_set ?_ GE101.out) | exact HB.out)⟩
                    · rw [if_neg c37] at H
                      have c37b0 : decide ((l0_7.length : Int) ≤ 16) = false := decide_eq_false c37
                      have c37b1 : decide (l0_7.length ≤ 16) = false := decide_eq_false (by omega)
                      clear c37
                      exact absurd H (by simp)
                  · replace c36 := Bool.eq_false_iff.mpr c36
                    subst c36
                    have H1 : (some false) = some true := by rw [if_neg (show ¬ (false = true) by decide)] at H; exact H
                    clear H
                    have H := H1
                    clear H1
                    exact absurd H (by simp)
                · replace c34 := Bool.eq_false_iff.mpr c34
                  subst c34
                  have H1 : (some false) = some true := by rw [if_neg (show ¬ (false = true) by decide)] at H; exact H
                  clear H
                  have H := H1
                  clear H1
                  exact absurd H (by simp)
              · replace c32 := Bool.eq_false_iff.mpr c32
                subst c32
                have H1 : (some false) = some true := by rw [if_neg (show ¬ (false = true) by decide)] at H; exact H
                clear H
                have H := H1
                clear H1
                exact absurd H (by simp)
            · replace c30 := Bool.eq_false_iff.mpr c30
              subst c30
              have H1 : (some false) = some true := by rw [if_neg (show ¬ (false = true) by decide)] at H; exact H
              clear H
              have H := H1
              clear H1
              exact absurd H (by simp)
          · replace c28 := Bool.eq_false_iff.mpr c28
            subst c28
            have H1 : (some false) = some true := by rw [if_neg (show ¬ (false = true) by decide)] at H; exact H
            clear H
            have H := H1
            clear H1
            exact absurd H (by simp)
        · replace c26 := Bool.eq_false_iff.mpr c26
          subst c26
          have H1 : (some false) = some true := by rw [if_neg (show ¬ (false = true) by decide)] at H; exact H
          clear H
          have H := H1
          clear H1
          exact absurd H (by simp)

end Go.Proofs.Ph.Ri
/- Words for laws' walks. No condition. -/
namespace Go.Proofs.Ph
open Go Go.RowKit Go.Proofs.YthjnlggommennaaW.PrintWords
abbrev T0 : Nat → Prop := fun _ => True
theorem RdF.go {α : Type} {d : Kd α} {w w1 : World} {v : Value} {xs : List α} (h : RdF d w T0 v xs) (hf : Fr (fun _ => False) w w1) : RdF d w1 T0 v xs := h.fr hf (fun _ _ _ h => h)
theorem RdF.top {α : Type} {d : Kd α} {w : World} {ok : Nat → Prop} {v : Value} {xs : List α} (h : RdF d w ok v xs) : RdF d w T0 v xs := h.mono (fun _ _ => trivial)
theorem RdS.go {w w1 : World} {v : Value} {s : S25} (h : RdS w T0 v s) (hf : Fr (fun _ => False) w w1) : RdS w1 T0 v s := by
  obtain ⟨vi, vd, e, hi, hd⟩ := h
  exact ⟨vi, vd, e, hi.go hf, hd.go hf⟩
theorem RdS.top {w : World} {ok : Nat → Prop} {v : Value} {s : S25} (h : RdS w ok v s) : RdS w T0 v s := by
  obtain ⟨vi, vd, e, hi, hd⟩ := h
  exact ⟨vi, vd, e, hi.top, hd.top⟩
theorem Fr.go {w w1 w2 : World} (h : Fr (fun _ => False) w w1) (k : Fr (fun _ => False) w1 w2) : Fr (fun _ => False) w w2 := h.trans k (fun _ h => .inl h)
theorem lit_rd {w : World} {g n : Nat} {cs : Array Value} {xs : List Int} (h : w.heap[g]? = some (.cells cs 5 (0, 0))) (hc : cs.toList = nums .u8 xs) (hn : xs.length = n) (hm : n ≤ 9223372036854775807) : RdF kb w T0 (.slice (some ⟨g, 0, none⟩) n n) xs :=
  (own_rdF (own_lit' g h hc (Nat.le_refl _) hn hm)).top
/-- A row of one item. -/
theorem items1 {w : World} {g1 g2 n : Nat} {id : Int} {b : Bool} {l : List Int} {cs : Array Value} (h1 : w.heap[g1]? = some (.cells cs 5 (0, 0))) (hc : cs.toList = nums .u8 l) (hn : l.length = n) (hm : n ≤ 9223372036854775807)
    (h2 : w.heap[g2]? = some (.cells #[.int .i64 id, .bool b, .slice (some ⟨g1, 0, none⟩) n n] 47 (0, 0))) : RdF k47 w T0 (.slice (some ⟨g2, 0, none⟩) 1 1) [⟨id, b, l⟩] := by
  subst hn
  refine ⟨some ⟨g2, 0, none⟩, 1, rfl, Nat.le_refl _, fun W' hW => ?_⟩
  have k1 := (hW g1 trivial (blk_lt h1)).trans h1
  have k2 := (hW g2 trivial (blk_lt h2)).trans h2
  refine ⟨rfl, by simp, fun _ => ⟨⟨g2, 0, none⟩, rfl, fun j p hj => ?_⟩⟩
  have hj0 : j = 0 := by
    have := (List.getElem?_eq_some_iff.1 hj).1
    simp at this
    exact this
  subst hj0
  obtain rfl := Option.some.inj hj
  obtain ⟨A, c, e, hl, hC⟩ := (lit_rd k1 hc rfl hm).now
  injection e with e1 e2 e3
  subst e1 e3
  refine ⟨_, ?_, k47_mk W' ⟨id, b, l⟩ (Nat.le_refl _) hC, fun i u hu => ?_⟩
  · rfl
  · rw [Nat.zero_mul, Nat.zero_add, Addr.add_lit, Nat.zero_add, blk_cell k2]
    simpa using hu
/-- A server in a variable. -/
def InB (w : World) (g : Nat) (s : S25) (vi vd : Value) : Prop := w.heap[g]? = some (.cells #[.int .i64 s.f0, .bool s.f1, .int .i64 s.f2, .int .i64 s.f3, .int .i64 s.f4, .int .i64 s.f5, .int .i64 s.f6, vi, vd] 25 (0, 0))
theorem InB.go {w w1 : World} {g : Nat} {s : S25} {vi vd : Value} (h : InB w g s vi vd) (hf : Fr (fun _ => False) w w1) : InB w1 g s vi vd := hf.blk h (fun h => h)
/-- What the answer to a question is, in a world that only grew. -/
theorem ask_go {w : World} {vs vq : Value} {s : S25} {q : List Int} {r : S25 × List Int × Bool} (hs : RdS w T0 vs s) (hq : RdF kb w T0 vq q) (hF : Fine s q) (hr : mAsk s q = r) :
    Calls Try.prog 41 #[vs, vq] w fun e w' => ∃ Ai ci Ad cd Ab cb, e = .returned (.tuple #[srv r.1 (.slice Ai r.1.f7.length ci) (.slice Ad r.1.f8.length cd), .slice Ab r.2.1.length cb, .bool r.2.2]) ∧ Aside0 (RdS w' T0 (srv r.1 (.slice Ai r.1.f7.length ci) (.slice Ad r.1.f8.length cd)) r.1) ∧ Aside0 (RdF kb w' T0 (.slice Ab r.2.1.length cb) r.2.1) ∧ Aside0 (Fr (fun _ => False) w w') := by
  subst hr
  refine (ask_calls hs hq hF).mono fun e w' ⟨vs', vb, he, h1, h2, hf⟩ => ?_
  obtain ⟨vi, vd, e1, hi, hd⟩ := h1
  have H1 : RdS w' T0 vs' (mAsk s q).1 := ⟨vi, vd, e1, hi.top, hd.top⟩
  have H2 := h2.top
  obtain ⟨Ai, ci, ei, -, -⟩ := hi
  obtain ⟨Ad, cd, ed, -, -⟩ := hd
  obtain ⟨Ab, cb, eb, -, -⟩ := h2
  subst ei ed eb e1
  exact ⟨Ai, ci, Ad, cd, Ab, cb, he, ⟨H1⟩, ⟨H2⟩, ⟨hf⟩⟩
end Go.Proofs.Ph
/- diag.Right of the head's servers. No condition. -/
namespace Go.Proofs.Ph
open Go Go.RowKit Go.Proofs.YthjnlggommennaaW.PrintWords
/-- diag.Right says yes. -/
theorem right_yes {w : World} {vs : Value} {s : S25} (hs : RdS w T0 vs s) (k : Nat) (h : Go.Proofs.Ph.Ri.diag_Right.f k s.f0 s.f1 s.f2 s.f3 s.f4 s.f5 s.f6 s.f7 s.f8 = some true) : Calls Try.prog 27 #[vs] w fun e w' => e = .returned (.bool true) ∧ Fr (fun _ => False) w w' := by
  obtain ⟨vi, vd, rfl, ⟨Ai, ci, rfl, hli, hi⟩, ⟨Ad, cd, rfl, hld, hd⟩⟩ := hs
  exact (Go.Proofs.Ph.Ri.diag_Right.calls k _ _ _ _ _ _ _ Ai ci _ Ad cd _ w (Kd.F_now hi) hli (Kd.F_now hd) hld h).mono fun e w' hh => ⟨hh.1, Fr.of_below hh.2 _⟩
theorem right_head : Go.Proofs.Ph.Ri.diag_Right.f 5 1 false (-1) 0 0 5 7 [⟨258, true, [1, 2]⟩] [] = some true := by decide +kernel
theorem within_zero (w : World) : Calls Try.prog 75 #[.int .i64 0, .int .i64 1, .int .i64 3] w fun e w' => e = .returned (.bool false) ∧ w = w' := (within_calls 0 1 3 w).mono fun e w' h => ⟨h.1.trans (by simp), h.2⟩
set_option maxRecDepth 100000 in
set_option maxHeartbeats 4000000 in
theorem right_zero (w : World) : Calls Try.prog 27 #[.agg #[.int .i64 0, .bool false, .int .i64 0, .int .i64 0, .int .i64 0, .int .i64 0, .int .i64 0, .slice none 0 0, .slice none 0 0]] w fun e w' => e = .returned (.bool false) ∧ Fr (fun _ => False) w w' := by
  go_enter Try.func27, Try.ntmps27
  go_wp2
  refine wp_loop_rounds 1 ?_
  rw [rounds_succ]
  go_wp2_with (go_at_call 75; refine (within_zero _).mono ?_; rintro e w' ⟨rfl, rfl⟩)
  go_ret
  exact ⟨rfl, (Fr.refl _ w).alloc _⟩
end Go.Proofs.Ph
/- diag.Tick. No condition. -/
namespace Go.Proofs.Ph
open Go Go.RowKit Go.Proofs.YthjnlggommennaaW.PrintWords
section
variable {w : World} {P : Nat → Prop}
set_option maxRecDepth 100000 in
set_option maxHeartbeats 4000000 in
theorem dTick_few {s : S25} {vs : Value} {n : Int} (hs : RdS w P vs s) (h0 : 0 ≤ s.f4 ∧ s.f4 ≤ 51) (h1 : 0 ≤ s.f3 ∧ s.f3 ≤ 12) (hn : n ≤ 60) : Calls Try.prog 38 #[vs, .int .i64 n] w (RetP w P (ticks (n.toNat) s)) := by
  obtain ⟨vi, vd, rfl, hi, hd⟩ := hs
  have HI := Aside0.mk hi.bound
  have HD := Aside0.mk hd.bound
  obtain ⟨Ai, ci, ei, -, -⟩ := hi
  obtain ⟨Ad, cd, ed, -, -⟩ := hd
  subst ei ed
  have H0 := Aside0.mk h0
  have H1 := Aside0.mk h1
  unfold srv
  obtain ⟨r, er⟩ : ∃ r, r = ticks (n.toNat) s := ⟨_, rfl⟩
  rw [← er]
  have ER := Aside0.mk er
  clear h0 h1 er
  go_enter Try.func38, Try.ntmps38
  go_wp2
  generalize hw2 : World.alloc _ _ = w2
  have hf2 : Fr (fun _ => False) w w2 := by subst hw2; exact ((Fr.refl _ w).alloc _).alloc _
  have hb1 : SB w2 (fun k => P k ∧ k < w.heap.size) w.heap.size s := by subst hw2; exact ⟨_, _, blk_alloc (blk_new w _) _, HI.out.step (fun k hk hlt => (((Fr.refl (fun _ => False) w).alloc _).alloc _).block k hlt (fun h => h)), HD.out.step (fun k hk hlt => (((Fr.refl (fun _ => False) w).alloc _).alloc _).block k hlt (fun h => h))⟩
  have hb2 : w2.heap[w.heap.size + 1]? = some (.cells #[.int .i64 0, .bool false, .int .i64 0, .int .i64 0, .int .i64 0, .int .i64 0, .int .i64 0, .slice none 0 0, .slice none 0 0] 25 (0, 0)) := by subst hw2; exact blk_new' (by show _ = (Array.push _ _).size; rw [Array.size_push])
  have hlt2 := blk_lt hb2
  have HB1 := Aside0.mk hb1
  have HB2 := Aside0.mk hb2
  clear hw2 hb1 hb2
  go_loopw [7] (fun t wr => ∃ k : Nat, k ≤ 60 ∧ (k ≤ n.toNat) ∧ t = .int .i64 k ∧ Aside0 (SB wr (fun k => P k ∧ k < w.heap.size) w.heap.size (ticks k s)) ∧ Aside0 (Fr (fun i => i = w.heap.size) w2 wr)) (fun t _ => 60 - (intOf t).toNat)
  case atStart => exact ⟨0, by omega, by omega, rfl, HB1, ⟨Fr.refl _ _⟩⟩
  case round =>
    obtain ⟨k, hk, hkn, rfl, hS, hD⟩ := hrel
    obtain ⟨s5, es5⟩ : ∃ s5, s5 = ticks k s := ⟨_, rfl⟩
    have hr5 := ticks_range H0.out H1.out k
    rw [← es5] at hS hr5
    have ES5 := Aside0.mk es5
    obtain ⟨vi5, vd5, hb5, hi5, hd5⟩ := hS.out
    have HI5 := Aside0.mk hi5
    have HD5 := Aside0.mk hd5
    obtain ⟨Ai5, ci5, ei5, -, -⟩ := hi5
    obtain ⟨Ad5, cd5, ed5, -, -⟩ := hd5
    subst ei5 ed5
    have HB5 := Aside0.mk hb5
    have hlt5 := blk_lt hb5
    have hb2r := hD.out.blk HB2.out (by show ¬ _ = w.heap.size; omega)
    have HB2r := Aside0.mk hb2r
    obtain ⟨f0, f1, f2, f3, f4, f5, f6, f7, f8⟩ := s5
    dsimp only at hr5 hb5 HI5 HD5 HB5
    clear es5 hS hb2r
    obtain ⟨⟨h0a, h0b⟩, h1a, h1b⟩ := hr5
    by_cases hlt : (k : Int) < n
    · have hcase : (f4 ≤ 49 ∧ f3 ≤ 2) ∨ (f4 ≤ 49 ∧ f3 = 3) ∨ (f4 ≤ 49 ∧ 3 < f3) ∨ (f4 = 50 ∧ f3 ≤ 2) ∨ (f4 = 50 ∧ f3 = 3) ∨ (f4 = 50 ∧ 3 < f3) ∨ (f4 = 51 ∧ f3 ≤ 2) ∨ (f4 = 51 ∧ f3 = 3) ∨ (f4 = 51 ∧ 3 < f3) := by omega
      rcases hcase with ⟨ha, hb⟩ | ⟨ha, rfl⟩ | ⟨ha, hb⟩ | ⟨rfl, hb⟩ | ⟨rfl, rfl⟩ | ⟨rfl, hb⟩ | ⟨rfl, hb⟩ | ⟨rfl, rfl⟩ | ⟨rfl, hb⟩
      all_goals
        have d0 : wr.cell? ⟨w.heap.size, 0, none⟩ = _ := (blk_cell hb5 0).trans rfl
        have x0 := blk_frozen hb5 0
        have d1 : wr.cell? ⟨w.heap.size, 1, none⟩ = _ := (blk_cell hb5 1).trans rfl
        have x1 := blk_frozen hb5 1
        have d2 : wr.cell? ⟨w.heap.size, 2, none⟩ = _ := (blk_cell hb5 2).trans rfl
        have x2 := blk_frozen hb5 2
        have d3 : wr.cell? ⟨w.heap.size, 3, none⟩ = _ := (blk_cell hb5 3).trans rfl
        have x3 := blk_frozen hb5 3
        have d4 : wr.cell? ⟨w.heap.size, 4, none⟩ = _ := (blk_cell hb5 4).trans rfl
        have x4 := blk_frozen hb5 4
        have d5 : wr.cell? ⟨w.heap.size, 5, none⟩ = _ := (blk_cell hb5 5).trans rfl
        have x5 := blk_frozen hb5 5
        have d6 : wr.cell? ⟨w.heap.size, 6, none⟩ = _ := (blk_cell hb5 6).trans rfl
        have x6 := blk_frozen hb5 6
        have d7 : wr.cell? ⟨w.heap.size, 7, none⟩ = _ := (blk_cell hb5 7).trans rfl
        have x7 := blk_frozen hb5 7
        have d8 : wr.cell? ⟨w.heap.size, 8, none⟩ = _ := (blk_cell hb5 8).trans rfl
        have x8 := blk_frozen hb5 8
        clear hb5
      · go_wp2
        generalize hW : World.setCell _ _ _ = W
        have hfW : Fr (fun i => i = w.heap.size) wr W := by subst hW; exact ((Fr.refl (fun i => i = w.heap.size) wr).setG 4 _)
        have hbW : W.heap[w.heap.size]? = some (.cells #[.int .i64 f0, .bool f1, .int .i64 f2, .int .i64 f3, .int .i64 (f4 + 1), .int .i64 f5, .int .i64 f6, .slice Ai5 f7.length ci5, .slice Ad5 f8.length cd5] 25 (0, 0)) := by
          subst hW
          have h := HB5.out
          replace h := blk_set h 4 (.int .i64 (f4 + 1))
          simp only [List.setIfInBounds_toArray, List.set_cons_zero, List.set_cons_succ] at h
          exact h
        have ht : tick ⟨f0, f1, f2, f3, f4, f5, f6, f7, f8⟩ = ⟨f0, f1, f2, f3, (f4 + 1), f5, f6, f7, f8⟩ := by
          clear hfW hbW hW
          unfold tick tickC tickB tickA
          dsimp only
          repeat' split
          all_goals (try dsimp only at *)
          all_goals first | (exfalso; omega) | rfl
        clear hW
        go_roundw
        case rel => exact ⟨k + 1, by omega, by omega, by go_num, ⟨by show SB W _ _ (tick (ticks k s)); rw [← ES5.out, ht]; exact ⟨_, _, hbW, HI5.out.fr hfW (fun k hk _ e => by have := hk.2; omega), HD5.out.fr hfW (fun k hk _ e => by have := hk.2; omega)⟩⟩, ⟨hD.out.trans hfW (fun _ h => .inl h)⟩⟩
        case measure => simp [intOf]; omega
      · go_wp2
        generalize hW : World.setCell _ _ _ = W
        have hfW : Fr (fun i => i = w.heap.size) wr W := by subst hW; exact ((((Fr.refl (fun i => i = w.heap.size) wr).setG 4 _).setG 3 _).setG 3 _)
        have hbW : W.heap[w.heap.size]? = some (.cells #[.int .i64 f0, .bool f1, .int .i64 f2, .int .i64 0, .int .i64 (f4 + 1), .int .i64 f5, .int .i64 f6, .slice Ai5 f7.length ci5, .slice Ad5 f8.length cd5] 25 (0, 0)) := by
          subst hW
          have h := HB5.out
          replace h := blk_set h 4 (.int .i64 (f4 + 1))
          simp only [List.setIfInBounds_toArray, List.set_cons_zero, List.set_cons_succ] at h
          replace h := blk_set h 3 (.int .i64 2)
          simp only [List.setIfInBounds_toArray, List.set_cons_zero, List.set_cons_succ] at h
          replace h := blk_set h 3 (.int .i64 0)
          simp only [List.setIfInBounds_toArray, List.set_cons_zero, List.set_cons_succ] at h
          exact h
        have ht : tick ⟨f0, f1, f2, 3, f4, f5, f6, f7, f8⟩ = ⟨f0, f1, f2, 0, (f4 + 1), f5, f6, f7, f8⟩ := by
          clear hfW hbW hW
          unfold tick tickC tickB tickA
          dsimp only
          repeat' split
          all_goals (try dsimp only at *)
          all_goals first | (exfalso; omega) | rfl
        clear hW
        go_roundw
        case rel => exact ⟨k + 1, by omega, by omega, by go_num, ⟨by show SB W _ _ (tick (ticks k s)); rw [← ES5.out, ht]; exact ⟨_, _, hbW, HI5.out.fr hfW (fun k hk _ e => by have := hk.2; omega), HD5.out.fr hfW (fun k hk _ e => by have := hk.2; omega)⟩⟩, ⟨hD.out.trans hfW (fun _ h => .inl h)⟩⟩
        case measure => simp [intOf]; omega
      · go_wp2
        generalize hW : World.setCell _ _ _ = W
        have hfW : Fr (fun i => i = w.heap.size) wr W := by subst hW; exact (((Fr.refl (fun i => i = w.heap.size) wr).setG 4 _).setG 3 _)
        have hbW : W.heap[w.heap.size]? = some (.cells #[.int .i64 f0, .bool f1, .int .i64 f2, .int .i64 (f3 - 1), .int .i64 (f4 + 1), .int .i64 f5, .int .i64 f6, .slice Ai5 f7.length ci5, .slice Ad5 f8.length cd5] 25 (0, 0)) := by
          subst hW
          have h := HB5.out
          replace h := blk_set h 4 (.int .i64 (f4 + 1))
          simp only [List.setIfInBounds_toArray, List.set_cons_zero, List.set_cons_succ] at h
          replace h := blk_set h 3 (.int .i64 (f3 - 1))
          simp only [List.setIfInBounds_toArray, List.set_cons_zero, List.set_cons_succ] at h
          exact h
        have ht : tick ⟨f0, f1, f2, f3, f4, f5, f6, f7, f8⟩ = ⟨f0, f1, f2, (f3 - 1), (f4 + 1), f5, f6, f7, f8⟩ := by
          clear hfW hbW hW
          unfold tick tickC tickB tickA
          dsimp only
          repeat' split
          all_goals (try dsimp only at *)
          all_goals first | (exfalso; omega) | rfl
        clear hW
        go_roundw
        case rel => exact ⟨k + 1, by omega, by omega, by go_num, ⟨by show SB W _ _ (tick (ticks k s)); rw [← ES5.out, ht]; exact ⟨_, _, hbW, HI5.out.fr hfW (fun k hk _ e => by have := hk.2; omega), HD5.out.fr hfW (fun k hk _ e => by have := hk.2; omega)⟩⟩, ⟨hD.out.trans hfW (fun _ h => .inl h)⟩⟩
        case measure => simp [intOf]; omega
      · go_wp2
        generalize hW : World.setCell _ _ _ = W
        have hfW : Fr (fun i => i = w.heap.size) wr W := by subst hW; exact (((((Fr.refl (fun i => i = w.heap.size) wr).setG 4 _).setG 0 _).setG 1 _).setG 2 _)
        have hbW : W.heap[w.heap.size]? = some (.cells #[.int .i64 1, .bool false, .int .i64 (-1), .int .i64 f3, .int .i64 51, .int .i64 f5, .int .i64 f6, .slice Ai5 f7.length ci5, .slice Ad5 f8.length cd5] 25 (0, 0)) := by
          subst hW
          have h := HB5.out
          replace h := blk_set h 4 (.int .i64 51)
          simp only [List.setIfInBounds_toArray, List.set_cons_zero, List.set_cons_succ] at h
          replace h := blk_set h 0 (.int .i64 1)
          simp only [List.setIfInBounds_toArray, List.set_cons_zero, List.set_cons_succ] at h
          replace h := blk_set h 1 (.bool false)
          simp only [List.setIfInBounds_toArray, List.set_cons_zero, List.set_cons_succ] at h
          replace h := blk_set h 2 (.int .i64 (-1))
          simp only [List.setIfInBounds_toArray, List.set_cons_zero, List.set_cons_succ] at h
          exact h
        have ht : tick ⟨f0, f1, f2, f3, 50, f5, f6, f7, f8⟩ = ⟨1, false, (-1), f3, 51, f5, f6, f7, f8⟩ := by
          clear hfW hbW hW
          unfold tick tickC tickB tickA
          dsimp only
          repeat' split
          all_goals (try dsimp only at *)
          all_goals first | (exfalso; omega) | rfl
        clear hW
        go_roundw
        case rel => exact ⟨k + 1, by omega, by omega, by go_num, ⟨by show SB W _ _ (tick (ticks k s)); rw [← ES5.out, ht]; exact ⟨_, _, hbW, HI5.out.fr hfW (fun k hk _ e => by have := hk.2; omega), HD5.out.fr hfW (fun k hk _ e => by have := hk.2; omega)⟩⟩, ⟨hD.out.trans hfW (fun _ h => .inl h)⟩⟩
        case measure => simp [intOf]; omega
      · go_wp2
        generalize hW : World.setCell _ _ _ = W
        have hfW : Fr (fun i => i = w.heap.size) wr W := by subst hW; exact (((((((Fr.refl (fun i => i = w.heap.size) wr).setG 4 _).setG 0 _).setG 1 _).setG 2 _).setG 3 _).setG 3 _)
        have hbW : W.heap[w.heap.size]? = some (.cells #[.int .i64 1, .bool false, .int .i64 (-1), .int .i64 0, .int .i64 51, .int .i64 f5, .int .i64 f6, .slice Ai5 f7.length ci5, .slice Ad5 f8.length cd5] 25 (0, 0)) := by
          subst hW
          have h := HB5.out
          replace h := blk_set h 4 (.int .i64 51)
          simp only [List.setIfInBounds_toArray, List.set_cons_zero, List.set_cons_succ] at h
          replace h := blk_set h 0 (.int .i64 1)
          simp only [List.setIfInBounds_toArray, List.set_cons_zero, List.set_cons_succ] at h
          replace h := blk_set h 1 (.bool false)
          simp only [List.setIfInBounds_toArray, List.set_cons_zero, List.set_cons_succ] at h
          replace h := blk_set h 2 (.int .i64 (-1))
          simp only [List.setIfInBounds_toArray, List.set_cons_zero, List.set_cons_succ] at h
          replace h := blk_set h 3 (.int .i64 2)
          simp only [List.setIfInBounds_toArray, List.set_cons_zero, List.set_cons_succ] at h
          replace h := blk_set h 3 (.int .i64 0)
          simp only [List.setIfInBounds_toArray, List.set_cons_zero, List.set_cons_succ] at h
          exact h
        have ht : tick ⟨f0, f1, f2, 3, 50, f5, f6, f7, f8⟩ = ⟨1, false, (-1), 0, 51, f5, f6, f7, f8⟩ := by
          clear hfW hbW hW
          unfold tick tickC tickB tickA
          dsimp only
          repeat' split
          all_goals (try dsimp only at *)
          all_goals first | (exfalso; omega) | rfl
        clear hW
        go_roundw
        case rel => exact ⟨k + 1, by omega, by omega, by go_num, ⟨by show SB W _ _ (tick (ticks k s)); rw [← ES5.out, ht]; exact ⟨_, _, hbW, HI5.out.fr hfW (fun k hk _ e => by have := hk.2; omega), HD5.out.fr hfW (fun k hk _ e => by have := hk.2; omega)⟩⟩, ⟨hD.out.trans hfW (fun _ h => .inl h)⟩⟩
        case measure => simp [intOf]; omega
      · go_wp2
        generalize hW : World.setCell _ _ _ = W
        have hfW : Fr (fun i => i = w.heap.size) wr W := by subst hW; exact ((((((Fr.refl (fun i => i = w.heap.size) wr).setG 4 _).setG 0 _).setG 1 _).setG 2 _).setG 3 _)
        have hbW : W.heap[w.heap.size]? = some (.cells #[.int .i64 1, .bool false, .int .i64 (-1), .int .i64 (f3 - 1), .int .i64 51, .int .i64 f5, .int .i64 f6, .slice Ai5 f7.length ci5, .slice Ad5 f8.length cd5] 25 (0, 0)) := by
          subst hW
          have h := HB5.out
          replace h := blk_set h 4 (.int .i64 51)
          simp only [List.setIfInBounds_toArray, List.set_cons_zero, List.set_cons_succ] at h
          replace h := blk_set h 0 (.int .i64 1)
          simp only [List.setIfInBounds_toArray, List.set_cons_zero, List.set_cons_succ] at h
          replace h := blk_set h 1 (.bool false)
          simp only [List.setIfInBounds_toArray, List.set_cons_zero, List.set_cons_succ] at h
          replace h := blk_set h 2 (.int .i64 (-1))
          simp only [List.setIfInBounds_toArray, List.set_cons_zero, List.set_cons_succ] at h
          replace h := blk_set h 3 (.int .i64 (f3 - 1))
          simp only [List.setIfInBounds_toArray, List.set_cons_zero, List.set_cons_succ] at h
          exact h
        have ht : tick ⟨f0, f1, f2, f3, 50, f5, f6, f7, f8⟩ = ⟨1, false, (-1), (f3 - 1), 51, f5, f6, f7, f8⟩ := by
          clear hfW hbW hW
          unfold tick tickC tickB tickA
          dsimp only
          repeat' split
          all_goals (try dsimp only at *)
          all_goals first | (exfalso; omega) | rfl
        clear hW
        go_roundw
        case rel => exact ⟨k + 1, by omega, by omega, by go_num, ⟨by show SB W _ _ (tick (ticks k s)); rw [← ES5.out, ht]; exact ⟨_, _, hbW, HI5.out.fr hfW (fun k hk _ e => by have := hk.2; omega), HD5.out.fr hfW (fun k hk _ e => by have := hk.2; omega)⟩⟩, ⟨hD.out.trans hfW (fun _ h => .inl h)⟩⟩
        case measure => simp [intOf]; omega
      · go_wp2
        generalize hW : World.setCell _ _ _ = W
        have hfW : Fr (fun i => i = w.heap.size) wr W := by subst hW; exact (((((Fr.refl (fun i => i = w.heap.size) wr).setG 4 _).setG 0 _).setG 1 _).setG 2 _)
        have hbW : W.heap[w.heap.size]? = some (.cells #[.int .i64 1, .bool false, .int .i64 (-1), .int .i64 f3, .int .i64 51, .int .i64 f5, .int .i64 f6, .slice Ai5 f7.length ci5, .slice Ad5 f8.length cd5] 25 (0, 0)) := by
          subst hW
          have h := HB5.out
          replace h := blk_set h 4 (.int .i64 51)
          simp only [List.setIfInBounds_toArray, List.set_cons_zero, List.set_cons_succ] at h
          replace h := blk_set h 0 (.int .i64 1)
          simp only [List.setIfInBounds_toArray, List.set_cons_zero, List.set_cons_succ] at h
          replace h := blk_set h 1 (.bool false)
          simp only [List.setIfInBounds_toArray, List.set_cons_zero, List.set_cons_succ] at h
          replace h := blk_set h 2 (.int .i64 (-1))
          simp only [List.setIfInBounds_toArray, List.set_cons_zero, List.set_cons_succ] at h
          exact h
        have ht : tick ⟨f0, f1, f2, f3, 51, f5, f6, f7, f8⟩ = ⟨1, false, (-1), f3, 51, f5, f6, f7, f8⟩ := by
          clear hfW hbW hW
          unfold tick tickC tickB tickA
          dsimp only
          repeat' split
          all_goals (try dsimp only at *)
          all_goals first | (exfalso; omega) | rfl
        clear hW
        go_roundw
        case rel => exact ⟨k + 1, by omega, by omega, by go_num, ⟨by show SB W _ _ (tick (ticks k s)); rw [← ES5.out, ht]; exact ⟨_, _, hbW, HI5.out.fr hfW (fun k hk _ e => by have := hk.2; omega), HD5.out.fr hfW (fun k hk _ e => by have := hk.2; omega)⟩⟩, ⟨hD.out.trans hfW (fun _ h => .inl h)⟩⟩
        case measure => simp [intOf]; omega
      · go_wp2
        generalize hW : World.setCell _ _ _ = W
        have hfW : Fr (fun i => i = w.heap.size) wr W := by subst hW; exact (((((((Fr.refl (fun i => i = w.heap.size) wr).setG 4 _).setG 0 _).setG 1 _).setG 2 _).setG 3 _).setG 3 _)
        have hbW : W.heap[w.heap.size]? = some (.cells #[.int .i64 1, .bool false, .int .i64 (-1), .int .i64 0, .int .i64 51, .int .i64 f5, .int .i64 f6, .slice Ai5 f7.length ci5, .slice Ad5 f8.length cd5] 25 (0, 0)) := by
          subst hW
          have h := HB5.out
          replace h := blk_set h 4 (.int .i64 51)
          simp only [List.setIfInBounds_toArray, List.set_cons_zero, List.set_cons_succ] at h
          replace h := blk_set h 0 (.int .i64 1)
          simp only [List.setIfInBounds_toArray, List.set_cons_zero, List.set_cons_succ] at h
          replace h := blk_set h 1 (.bool false)
          simp only [List.setIfInBounds_toArray, List.set_cons_zero, List.set_cons_succ] at h
          replace h := blk_set h 2 (.int .i64 (-1))
          simp only [List.setIfInBounds_toArray, List.set_cons_zero, List.set_cons_succ] at h
          replace h := blk_set h 3 (.int .i64 2)
          simp only [List.setIfInBounds_toArray, List.set_cons_zero, List.set_cons_succ] at h
          replace h := blk_set h 3 (.int .i64 0)
          simp only [List.setIfInBounds_toArray, List.set_cons_zero, List.set_cons_succ] at h
          exact h
        have ht : tick ⟨f0, f1, f2, 3, 51, f5, f6, f7, f8⟩ = ⟨1, false, (-1), 0, 51, f5, f6, f7, f8⟩ := by
          clear hfW hbW hW
          unfold tick tickC tickB tickA
          dsimp only
          repeat' split
          all_goals (try dsimp only at *)
          all_goals first | (exfalso; omega) | rfl
        clear hW
        go_roundw
        case rel => exact ⟨k + 1, by omega, by omega, by go_num, ⟨by show SB W _ _ (tick (ticks k s)); rw [← ES5.out, ht]; exact ⟨_, _, hbW, HI5.out.fr hfW (fun k hk _ e => by have := hk.2; omega), HD5.out.fr hfW (fun k hk _ e => by have := hk.2; omega)⟩⟩, ⟨hD.out.trans hfW (fun _ h => .inl h)⟩⟩
        case measure => simp [intOf]; omega
      · go_wp2
        generalize hW : World.setCell _ _ _ = W
        have hfW : Fr (fun i => i = w.heap.size) wr W := by subst hW; exact ((((((Fr.refl (fun i => i = w.heap.size) wr).setG 4 _).setG 0 _).setG 1 _).setG 2 _).setG 3 _)
        have hbW : W.heap[w.heap.size]? = some (.cells #[.int .i64 1, .bool false, .int .i64 (-1), .int .i64 (f3 - 1), .int .i64 51, .int .i64 f5, .int .i64 f6, .slice Ai5 f7.length ci5, .slice Ad5 f8.length cd5] 25 (0, 0)) := by
          subst hW
          have h := HB5.out
          replace h := blk_set h 4 (.int .i64 51)
          simp only [List.setIfInBounds_toArray, List.set_cons_zero, List.set_cons_succ] at h
          replace h := blk_set h 0 (.int .i64 1)
          simp only [List.setIfInBounds_toArray, List.set_cons_zero, List.set_cons_succ] at h
          replace h := blk_set h 1 (.bool false)
          simp only [List.setIfInBounds_toArray, List.set_cons_zero, List.set_cons_succ] at h
          replace h := blk_set h 2 (.int .i64 (-1))
          simp only [List.setIfInBounds_toArray, List.set_cons_zero, List.set_cons_succ] at h
          replace h := blk_set h 3 (.int .i64 (f3 - 1))
          simp only [List.setIfInBounds_toArray, List.set_cons_zero, List.set_cons_succ] at h
          exact h
        have ht : tick ⟨f0, f1, f2, f3, 51, f5, f6, f7, f8⟩ = ⟨1, false, (-1), (f3 - 1), 51, f5, f6, f7, f8⟩ := by
          clear hfW hbW hW
          unfold tick tickC tickB tickA
          dsimp only
          repeat' split
          all_goals (try dsimp only at *)
          all_goals first | (exfalso; omega) | rfl
        clear hW
        go_roundw
        case rel => exact ⟨k + 1, by omega, by omega, by go_num, ⟨by show SB W _ _ (tick (ticks k s)); rw [← ES5.out, ht]; exact ⟨_, _, hbW, HI5.out.fr hfW (fun k hk _ e => by have := hk.2; omega), HD5.out.fr hfW (fun k hk _ e => by have := hk.2; omega)⟩⟩, ⟨hD.out.trans hfW (fun _ h => .inl h)⟩⟩
        case measure => simp [intOf]; omega

    · have hrr := Aside0.mk (show r = ⟨f0, f1, f2, f3, f4, f5, f6, f7, f8⟩ by rw [ER.out, ES5.out]; congr 1; omega)
      have d0 : wr.cell? ⟨w.heap.size, 0, none⟩ = some (.int .i64 f0) := (blk_cell hb5 0).trans rfl
      have d1 : wr.cell? ⟨w.heap.size, 1, none⟩ = some (.bool f1) := (blk_cell hb5 1).trans rfl
      have d2 : wr.cell? ⟨w.heap.size, 2, none⟩ = some (.int .i64 f2) := (blk_cell hb5 2).trans rfl
      have d3 : wr.cell? ⟨w.heap.size, 3, none⟩ = some (.int .i64 f3) := (blk_cell hb5 3).trans rfl
      have d4 : wr.cell? ⟨w.heap.size, 4, none⟩ = some (.int .i64 f4) := (blk_cell hb5 4).trans rfl
      have d5 : wr.cell? ⟨w.heap.size, 5, none⟩ = some (.int .i64 f5) := (blk_cell hb5 5).trans rfl
      have d6 : wr.cell? ⟨w.heap.size, 6, none⟩ = some (.int .i64 f6) := (blk_cell hb5 6).trans rfl
      have d7 : wr.cell? ⟨w.heap.size, 7, none⟩ = some (.slice Ai5 f7.length ci5) := (blk_cell hb5 7).trans rfl
      have d8 : wr.cell? ⟨w.heap.size, 8, none⟩ = some (.slice Ad5 f8.length cd5) := (blk_cell hb5 8).trans rfl
      clear hb5
      have y0 : wr.cell? ⟨w.heap.size + 1, 0, none⟩ = some (.int .i64 0) := (blk_cell HB2r.out 0).trans rfl
      have z0 := blk_frozen HB2r.out 0
      have y1 : wr.cell? ⟨w.heap.size + 1, 1, none⟩ = some (.bool false) := (blk_cell HB2r.out 1).trans rfl
      have z1 := blk_frozen HB2r.out 1
      have y2 : wr.cell? ⟨w.heap.size + 1, 2, none⟩ = some (.int .i64 0) := (blk_cell HB2r.out 2).trans rfl
      have z2 := blk_frozen HB2r.out 2
      have y3 : wr.cell? ⟨w.heap.size + 1, 3, none⟩ = some (.int .i64 0) := (blk_cell HB2r.out 3).trans rfl
      have z3 := blk_frozen HB2r.out 3
      have y4 : wr.cell? ⟨w.heap.size + 1, 4, none⟩ = some (.int .i64 0) := (blk_cell HB2r.out 4).trans rfl
      have z4 := blk_frozen HB2r.out 4
      have y5 : wr.cell? ⟨w.heap.size + 1, 5, none⟩ = some (.int .i64 0) := (blk_cell HB2r.out 5).trans rfl
      have z5 := blk_frozen HB2r.out 5
      have y6 : wr.cell? ⟨w.heap.size + 1, 6, none⟩ = some (.int .i64 0) := (blk_cell HB2r.out 6).trans rfl
      have z6 := blk_frozen HB2r.out 6
      have y7 : wr.cell? ⟨w.heap.size + 1, 7, none⟩ = some (.slice none 0 0) := (blk_cell HB2r.out 7).trans rfl
      have z7 := blk_frozen HB2r.out 7
      have y8 : wr.cell? ⟨w.heap.size + 1, 8, none⟩ = some (.slice none 0 0) := (blk_cell HB2r.out 8).trans rfl
      have z8 := blk_frozen HB2r.out 8
      go_wp2
      generalize hW : World.setCell _ _ _ = W
      have hfW : Fr (fun i => i = w.heap.size + 1) wr W := by subst hW; exact ((((((((((Fr.refl (fun i => i = w.heap.size + 1) wr).setG 0 _).setG 1 _).setG 2 _).setG 3 _).setG 4 _).setG 5 _).setG 6 _).setG 7 _).setG 8 _)
      have hbW : W.heap[w.heap.size + 1]? = some (.cells #[.int .i64 f0, .bool f1, .int .i64 f2, .int .i64 f3, .int .i64 f4, .int .i64 f5, .int .i64 f6, .slice Ai5 f7.length ci5, .slice Ad5 f8.length cd5] 25 (0, 0)) := by subst hW; exact put9 HB2r.out
      refine bodyPost_ret (results_cell_row rfl _ _ (w.heap.size + 1) 25 _ (0, 0) _ rfl hbW Try.underlying25 rfl (by kernel_rfl)) rfl ?_
      rw [hrr.out]
      exact ⟨_, rfl, ⟨_, _, rfl, (HI5.out.fr hfW (fun k hk _ e => by have := hk.2; omega)).mono (fun k hk => hk.1), (HD5.out.fr hfW (fun k hk _ e => by have := hk.2; omega)).mono (fun k hk => hk.1)⟩, Fr.trans (S := fun _ => False) (Fr.trans (S := fun _ => False) hf2 hD.out (fun i hi => .inr (by omega))) hfW (fun i hi => .inr (by omega))⟩
set_option maxRecDepth 100000 in
set_option maxHeartbeats 4000000 in
theorem dTick_many {s : S25} {vs : Value} {n : Int} (hs : RdS w P vs s) (h0 : 0 ≤ s.f4 ∧ s.f4 ≤ 51) (h1 : 0 ≤ s.f3 ∧ s.f3 ≤ 12) (hn : 60 < n) : Calls Try.prog 38 #[vs, .int .i64 n] w (RetP w P (ticks (60) s)) := by
  obtain ⟨vi, vd, rfl, hi, hd⟩ := hs
  have HI := Aside0.mk hi.bound
  have HD := Aside0.mk hd.bound
  obtain ⟨Ai, ci, ei, -, -⟩ := hi
  obtain ⟨Ad, cd, ed, -, -⟩ := hd
  subst ei ed
  have H0 := Aside0.mk h0
  have H1 := Aside0.mk h1
  unfold srv
  obtain ⟨r, er⟩ : ∃ r, r = ticks (60) s := ⟨_, rfl⟩
  rw [← er]
  have ER := Aside0.mk er
  clear h0 h1 er
  go_enter Try.func38, Try.ntmps38
  go_wp2
  generalize hw2 : World.alloc _ _ = w2
  have hf2 : Fr (fun _ => False) w w2 := by subst hw2; exact ((Fr.refl _ w).alloc _).alloc _
  have hb1 : SB w2 (fun k => P k ∧ k < w.heap.size) w.heap.size s := by subst hw2; exact ⟨_, _, blk_alloc (blk_new w _) _, HI.out.step (fun k hk hlt => (((Fr.refl (fun _ => False) w).alloc _).alloc _).block k hlt (fun h => h)), HD.out.step (fun k hk hlt => (((Fr.refl (fun _ => False) w).alloc _).alloc _).block k hlt (fun h => h))⟩
  have hb2 : w2.heap[w.heap.size + 1]? = some (.cells #[.int .i64 0, .bool false, .int .i64 0, .int .i64 0, .int .i64 0, .int .i64 0, .int .i64 0, .slice none 0 0, .slice none 0 0] 25 (0, 0)) := by subst hw2; exact blk_new' (by show _ = (Array.push _ _).size; rw [Array.size_push])
  have hlt2 := blk_lt hb2
  have HB1 := Aside0.mk hb1
  have HB2 := Aside0.mk hb2
  clear hw2 hb1 hb2
  go_loopw [7] (fun t wr => ∃ k : Nat, k ≤ 60 ∧ (k ≤ 60) ∧ t = .int .i64 k ∧ Aside0 (SB wr (fun k => P k ∧ k < w.heap.size) w.heap.size (ticks k s)) ∧ Aside0 (Fr (fun i => i = w.heap.size) w2 wr)) (fun t _ => 60 - (intOf t).toNat)
  case atStart => exact ⟨0, by omega, by omega, rfl, HB1, ⟨Fr.refl _ _⟩⟩
  case round =>
    obtain ⟨k, hk, hkn, rfl, hS, hD⟩ := hrel
    obtain ⟨s5, es5⟩ : ∃ s5, s5 = ticks k s := ⟨_, rfl⟩
    have hr5 := ticks_range H0.out H1.out k
    rw [← es5] at hS hr5
    have ES5 := Aside0.mk es5
    obtain ⟨vi5, vd5, hb5, hi5, hd5⟩ := hS.out
    have HI5 := Aside0.mk hi5
    have HD5 := Aside0.mk hd5
    obtain ⟨Ai5, ci5, ei5, -, -⟩ := hi5
    obtain ⟨Ad5, cd5, ed5, -, -⟩ := hd5
    subst ei5 ed5
    have HB5 := Aside0.mk hb5
    have hlt5 := blk_lt hb5
    have hb2r := hD.out.blk HB2.out (by show ¬ _ = w.heap.size; omega)
    have HB2r := Aside0.mk hb2r
    obtain ⟨f0, f1, f2, f3, f4, f5, f6, f7, f8⟩ := s5
    dsimp only at hr5 hb5 HI5 HD5 HB5
    clear es5 hS hb2r
    obtain ⟨⟨h0a, h0b⟩, h1a, h1b⟩ := hr5
    by_cases hlt : (k : Int) < 60
    · have hcase : (f4 ≤ 49 ∧ f3 ≤ 2) ∨ (f4 ≤ 49 ∧ f3 = 3) ∨ (f4 ≤ 49 ∧ 3 < f3) ∨ (f4 = 50 ∧ f3 ≤ 2) ∨ (f4 = 50 ∧ f3 = 3) ∨ (f4 = 50 ∧ 3 < f3) ∨ (f4 = 51 ∧ f3 ≤ 2) ∨ (f4 = 51 ∧ f3 = 3) ∨ (f4 = 51 ∧ 3 < f3) := by omega
      rcases hcase with ⟨ha, hb⟩ | ⟨ha, rfl⟩ | ⟨ha, hb⟩ | ⟨rfl, hb⟩ | ⟨rfl, rfl⟩ | ⟨rfl, hb⟩ | ⟨rfl, hb⟩ | ⟨rfl, rfl⟩ | ⟨rfl, hb⟩
      all_goals
        have d0 : wr.cell? ⟨w.heap.size, 0, none⟩ = _ := (blk_cell hb5 0).trans rfl
        have x0 := blk_frozen hb5 0
        have d1 : wr.cell? ⟨w.heap.size, 1, none⟩ = _ := (blk_cell hb5 1).trans rfl
        have x1 := blk_frozen hb5 1
        have d2 : wr.cell? ⟨w.heap.size, 2, none⟩ = _ := (blk_cell hb5 2).trans rfl
        have x2 := blk_frozen hb5 2
        have d3 : wr.cell? ⟨w.heap.size, 3, none⟩ = _ := (blk_cell hb5 3).trans rfl
        have x3 := blk_frozen hb5 3
        have d4 : wr.cell? ⟨w.heap.size, 4, none⟩ = _ := (blk_cell hb5 4).trans rfl
        have x4 := blk_frozen hb5 4
        have d5 : wr.cell? ⟨w.heap.size, 5, none⟩ = _ := (blk_cell hb5 5).trans rfl
        have x5 := blk_frozen hb5 5
        have d6 : wr.cell? ⟨w.heap.size, 6, none⟩ = _ := (blk_cell hb5 6).trans rfl
        have x6 := blk_frozen hb5 6
        have d7 : wr.cell? ⟨w.heap.size, 7, none⟩ = _ := (blk_cell hb5 7).trans rfl
        have x7 := blk_frozen hb5 7
        have d8 : wr.cell? ⟨w.heap.size, 8, none⟩ = _ := (blk_cell hb5 8).trans rfl
        have x8 := blk_frozen hb5 8
        clear hb5
      · go_wp2
        generalize hW : World.setCell _ _ _ = W
        have hfW : Fr (fun i => i = w.heap.size) wr W := by subst hW; exact ((Fr.refl (fun i => i = w.heap.size) wr).setG 4 _)
        have hbW : W.heap[w.heap.size]? = some (.cells #[.int .i64 f0, .bool f1, .int .i64 f2, .int .i64 f3, .int .i64 (f4 + 1), .int .i64 f5, .int .i64 f6, .slice Ai5 f7.length ci5, .slice Ad5 f8.length cd5] 25 (0, 0)) := by
          subst hW
          have h := HB5.out
          replace h := blk_set h 4 (.int .i64 (f4 + 1))
          simp only [List.setIfInBounds_toArray, List.set_cons_zero, List.set_cons_succ] at h
          exact h
        have ht : tick ⟨f0, f1, f2, f3, f4, f5, f6, f7, f8⟩ = ⟨f0, f1, f2, f3, (f4 + 1), f5, f6, f7, f8⟩ := by
          clear hfW hbW hW
          unfold tick tickC tickB tickA
          dsimp only
          repeat' split
          all_goals (try dsimp only at *)
          all_goals first | (exfalso; omega) | rfl
        clear hW
        go_roundw
        case rel => exact ⟨k + 1, by omega, by omega, by go_num, ⟨by show SB W _ _ (tick (ticks k s)); rw [← ES5.out, ht]; exact ⟨_, _, hbW, HI5.out.fr hfW (fun k hk _ e => by have := hk.2; omega), HD5.out.fr hfW (fun k hk _ e => by have := hk.2; omega)⟩⟩, ⟨hD.out.trans hfW (fun _ h => .inl h)⟩⟩
        case measure => simp [intOf]; omega
      · go_wp2
        generalize hW : World.setCell _ _ _ = W
        have hfW : Fr (fun i => i = w.heap.size) wr W := by subst hW; exact ((((Fr.refl (fun i => i = w.heap.size) wr).setG 4 _).setG 3 _).setG 3 _)
        have hbW : W.heap[w.heap.size]? = some (.cells #[.int .i64 f0, .bool f1, .int .i64 f2, .int .i64 0, .int .i64 (f4 + 1), .int .i64 f5, .int .i64 f6, .slice Ai5 f7.length ci5, .slice Ad5 f8.length cd5] 25 (0, 0)) := by
          subst hW
          have h := HB5.out
          replace h := blk_set h 4 (.int .i64 (f4 + 1))
          simp only [List.setIfInBounds_toArray, List.set_cons_zero, List.set_cons_succ] at h
          replace h := blk_set h 3 (.int .i64 2)
          simp only [List.setIfInBounds_toArray, List.set_cons_zero, List.set_cons_succ] at h
          replace h := blk_set h 3 (.int .i64 0)
          simp only [List.setIfInBounds_toArray, List.set_cons_zero, List.set_cons_succ] at h
          exact h
        have ht : tick ⟨f0, f1, f2, 3, f4, f5, f6, f7, f8⟩ = ⟨f0, f1, f2, 0, (f4 + 1), f5, f6, f7, f8⟩ := by
          clear hfW hbW hW
          unfold tick tickC tickB tickA
          dsimp only
          repeat' split
          all_goals (try dsimp only at *)
          all_goals first | (exfalso; omega) | rfl
        clear hW
        go_roundw
        case rel => exact ⟨k + 1, by omega, by omega, by go_num, ⟨by show SB W _ _ (tick (ticks k s)); rw [← ES5.out, ht]; exact ⟨_, _, hbW, HI5.out.fr hfW (fun k hk _ e => by have := hk.2; omega), HD5.out.fr hfW (fun k hk _ e => by have := hk.2; omega)⟩⟩, ⟨hD.out.trans hfW (fun _ h => .inl h)⟩⟩
        case measure => simp [intOf]; omega
      · go_wp2
        generalize hW : World.setCell _ _ _ = W
        have hfW : Fr (fun i => i = w.heap.size) wr W := by subst hW; exact (((Fr.refl (fun i => i = w.heap.size) wr).setG 4 _).setG 3 _)
        have hbW : W.heap[w.heap.size]? = some (.cells #[.int .i64 f0, .bool f1, .int .i64 f2, .int .i64 (f3 - 1), .int .i64 (f4 + 1), .int .i64 f5, .int .i64 f6, .slice Ai5 f7.length ci5, .slice Ad5 f8.length cd5] 25 (0, 0)) := by
          subst hW
          have h := HB5.out
          replace h := blk_set h 4 (.int .i64 (f4 + 1))
          simp only [List.setIfInBounds_toArray, List.set_cons_zero, List.set_cons_succ] at h
          replace h := blk_set h 3 (.int .i64 (f3 - 1))
          simp only [List.setIfInBounds_toArray, List.set_cons_zero, List.set_cons_succ] at h
          exact h
        have ht : tick ⟨f0, f1, f2, f3, f4, f5, f6, f7, f8⟩ = ⟨f0, f1, f2, (f3 - 1), (f4 + 1), f5, f6, f7, f8⟩ := by
          clear hfW hbW hW
          unfold tick tickC tickB tickA
          dsimp only
          repeat' split
          all_goals (try dsimp only at *)
          all_goals first | (exfalso; omega) | rfl
        clear hW
        go_roundw
        case rel => exact ⟨k + 1, by omega, by omega, by go_num, ⟨by show SB W _ _ (tick (ticks k s)); rw [← ES5.out, ht]; exact ⟨_, _, hbW, HI5.out.fr hfW (fun k hk _ e => by have := hk.2; omega), HD5.out.fr hfW (fun k hk _ e => by have := hk.2; omega)⟩⟩, ⟨hD.out.trans hfW (fun _ h => .inl h)⟩⟩
        case measure => simp [intOf]; omega
      · go_wp2
        generalize hW : World.setCell _ _ _ = W
        have hfW : Fr (fun i => i = w.heap.size) wr W := by subst hW; exact (((((Fr.refl (fun i => i = w.heap.size) wr).setG 4 _).setG 0 _).setG 1 _).setG 2 _)
        have hbW : W.heap[w.heap.size]? = some (.cells #[.int .i64 1, .bool false, .int .i64 (-1), .int .i64 f3, .int .i64 51, .int .i64 f5, .int .i64 f6, .slice Ai5 f7.length ci5, .slice Ad5 f8.length cd5] 25 (0, 0)) := by
          subst hW
          have h := HB5.out
          replace h := blk_set h 4 (.int .i64 51)
          simp only [List.setIfInBounds_toArray, List.set_cons_zero, List.set_cons_succ] at h
          replace h := blk_set h 0 (.int .i64 1)
          simp only [List.setIfInBounds_toArray, List.set_cons_zero, List.set_cons_succ] at h
          replace h := blk_set h 1 (.bool false)
          simp only [List.setIfInBounds_toArray, List.set_cons_zero, List.set_cons_succ] at h
          replace h := blk_set h 2 (.int .i64 (-1))
          simp only [List.setIfInBounds_toArray, List.set_cons_zero, List.set_cons_succ] at h
          exact h
        have ht : tick ⟨f0, f1, f2, f3, 50, f5, f6, f7, f8⟩ = ⟨1, false, (-1), f3, 51, f5, f6, f7, f8⟩ := by
          clear hfW hbW hW
          unfold tick tickC tickB tickA
          dsimp only
          repeat' split
          all_goals (try dsimp only at *)
          all_goals first | (exfalso; omega) | rfl
        clear hW
        go_roundw
        case rel => exact ⟨k + 1, by omega, by omega, by go_num, ⟨by show SB W _ _ (tick (ticks k s)); rw [← ES5.out, ht]; exact ⟨_, _, hbW, HI5.out.fr hfW (fun k hk _ e => by have := hk.2; omega), HD5.out.fr hfW (fun k hk _ e => by have := hk.2; omega)⟩⟩, ⟨hD.out.trans hfW (fun _ h => .inl h)⟩⟩
        case measure => simp [intOf]; omega
      · go_wp2
        generalize hW : World.setCell _ _ _ = W
        have hfW : Fr (fun i => i = w.heap.size) wr W := by subst hW; exact (((((((Fr.refl (fun i => i = w.heap.size) wr).setG 4 _).setG 0 _).setG 1 _).setG 2 _).setG 3 _).setG 3 _)
        have hbW : W.heap[w.heap.size]? = some (.cells #[.int .i64 1, .bool false, .int .i64 (-1), .int .i64 0, .int .i64 51, .int .i64 f5, .int .i64 f6, .slice Ai5 f7.length ci5, .slice Ad5 f8.length cd5] 25 (0, 0)) := by
          subst hW
          have h := HB5.out
          replace h := blk_set h 4 (.int .i64 51)
          simp only [List.setIfInBounds_toArray, List.set_cons_zero, List.set_cons_succ] at h
          replace h := blk_set h 0 (.int .i64 1)
          simp only [List.setIfInBounds_toArray, List.set_cons_zero, List.set_cons_succ] at h
          replace h := blk_set h 1 (.bool false)
          simp only [List.setIfInBounds_toArray, List.set_cons_zero, List.set_cons_succ] at h
          replace h := blk_set h 2 (.int .i64 (-1))
          simp only [List.setIfInBounds_toArray, List.set_cons_zero, List.set_cons_succ] at h
          replace h := blk_set h 3 (.int .i64 2)
          simp only [List.setIfInBounds_toArray, List.set_cons_zero, List.set_cons_succ] at h
          replace h := blk_set h 3 (.int .i64 0)
          simp only [List.setIfInBounds_toArray, List.set_cons_zero, List.set_cons_succ] at h
          exact h
        have ht : tick ⟨f0, f1, f2, 3, 50, f5, f6, f7, f8⟩ = ⟨1, false, (-1), 0, 51, f5, f6, f7, f8⟩ := by
          clear hfW hbW hW
          unfold tick tickC tickB tickA
          dsimp only
          repeat' split
          all_goals (try dsimp only at *)
          all_goals first | (exfalso; omega) | rfl
        clear hW
        go_roundw
        case rel => exact ⟨k + 1, by omega, by omega, by go_num, ⟨by show SB W _ _ (tick (ticks k s)); rw [← ES5.out, ht]; exact ⟨_, _, hbW, HI5.out.fr hfW (fun k hk _ e => by have := hk.2; omega), HD5.out.fr hfW (fun k hk _ e => by have := hk.2; omega)⟩⟩, ⟨hD.out.trans hfW (fun _ h => .inl h)⟩⟩
        case measure => simp [intOf]; omega
      · go_wp2
        generalize hW : World.setCell _ _ _ = W
        have hfW : Fr (fun i => i = w.heap.size) wr W := by subst hW; exact ((((((Fr.refl (fun i => i = w.heap.size) wr).setG 4 _).setG 0 _).setG 1 _).setG 2 _).setG 3 _)
        have hbW : W.heap[w.heap.size]? = some (.cells #[.int .i64 1, .bool false, .int .i64 (-1), .int .i64 (f3 - 1), .int .i64 51, .int .i64 f5, .int .i64 f6, .slice Ai5 f7.length ci5, .slice Ad5 f8.length cd5] 25 (0, 0)) := by
          subst hW
          have h := HB5.out
          replace h := blk_set h 4 (.int .i64 51)
          simp only [List.setIfInBounds_toArray, List.set_cons_zero, List.set_cons_succ] at h
          replace h := blk_set h 0 (.int .i64 1)
          simp only [List.setIfInBounds_toArray, List.set_cons_zero, List.set_cons_succ] at h
          replace h := blk_set h 1 (.bool false)
          simp only [List.setIfInBounds_toArray, List.set_cons_zero, List.set_cons_succ] at h
          replace h := blk_set h 2 (.int .i64 (-1))
          simp only [List.setIfInBounds_toArray, List.set_cons_zero, List.set_cons_succ] at h
          replace h := blk_set h 3 (.int .i64 (f3 - 1))
          simp only [List.setIfInBounds_toArray, List.set_cons_zero, List.set_cons_succ] at h
          exact h
        have ht : tick ⟨f0, f1, f2, f3, 50, f5, f6, f7, f8⟩ = ⟨1, false, (-1), (f3 - 1), 51, f5, f6, f7, f8⟩ := by
          clear hfW hbW hW
          unfold tick tickC tickB tickA
          dsimp only
          repeat' split
          all_goals (try dsimp only at *)
          all_goals first | (exfalso; omega) | rfl
        clear hW
        go_roundw
        case rel => exact ⟨k + 1, by omega, by omega, by go_num, ⟨by show SB W _ _ (tick (ticks k s)); rw [← ES5.out, ht]; exact ⟨_, _, hbW, HI5.out.fr hfW (fun k hk _ e => by have := hk.2; omega), HD5.out.fr hfW (fun k hk _ e => by have := hk.2; omega)⟩⟩, ⟨hD.out.trans hfW (fun _ h => .inl h)⟩⟩
        case measure => simp [intOf]; omega
      · go_wp2
        generalize hW : World.setCell _ _ _ = W
        have hfW : Fr (fun i => i = w.heap.size) wr W := by subst hW; exact (((((Fr.refl (fun i => i = w.heap.size) wr).setG 4 _).setG 0 _).setG 1 _).setG 2 _)
        have hbW : W.heap[w.heap.size]? = some (.cells #[.int .i64 1, .bool false, .int .i64 (-1), .int .i64 f3, .int .i64 51, .int .i64 f5, .int .i64 f6, .slice Ai5 f7.length ci5, .slice Ad5 f8.length cd5] 25 (0, 0)) := by
          subst hW
          have h := HB5.out
          replace h := blk_set h 4 (.int .i64 51)
          simp only [List.setIfInBounds_toArray, List.set_cons_zero, List.set_cons_succ] at h
          replace h := blk_set h 0 (.int .i64 1)
          simp only [List.setIfInBounds_toArray, List.set_cons_zero, List.set_cons_succ] at h
          replace h := blk_set h 1 (.bool false)
          simp only [List.setIfInBounds_toArray, List.set_cons_zero, List.set_cons_succ] at h
          replace h := blk_set h 2 (.int .i64 (-1))
          simp only [List.setIfInBounds_toArray, List.set_cons_zero, List.set_cons_succ] at h
          exact h
        have ht : tick ⟨f0, f1, f2, f3, 51, f5, f6, f7, f8⟩ = ⟨1, false, (-1), f3, 51, f5, f6, f7, f8⟩ := by
          clear hfW hbW hW
          unfold tick tickC tickB tickA
          dsimp only
          repeat' split
          all_goals (try dsimp only at *)
          all_goals first | (exfalso; omega) | rfl
        clear hW
        go_roundw
        case rel => exact ⟨k + 1, by omega, by omega, by go_num, ⟨by show SB W _ _ (tick (ticks k s)); rw [← ES5.out, ht]; exact ⟨_, _, hbW, HI5.out.fr hfW (fun k hk _ e => by have := hk.2; omega), HD5.out.fr hfW (fun k hk _ e => by have := hk.2; omega)⟩⟩, ⟨hD.out.trans hfW (fun _ h => .inl h)⟩⟩
        case measure => simp [intOf]; omega
      · go_wp2
        generalize hW : World.setCell _ _ _ = W
        have hfW : Fr (fun i => i = w.heap.size) wr W := by subst hW; exact (((((((Fr.refl (fun i => i = w.heap.size) wr).setG 4 _).setG 0 _).setG 1 _).setG 2 _).setG 3 _).setG 3 _)
        have hbW : W.heap[w.heap.size]? = some (.cells #[.int .i64 1, .bool false, .int .i64 (-1), .int .i64 0, .int .i64 51, .int .i64 f5, .int .i64 f6, .slice Ai5 f7.length ci5, .slice Ad5 f8.length cd5] 25 (0, 0)) := by
          subst hW
          have h := HB5.out
          replace h := blk_set h 4 (.int .i64 51)
          simp only [List.setIfInBounds_toArray, List.set_cons_zero, List.set_cons_succ] at h
          replace h := blk_set h 0 (.int .i64 1)
          simp only [List.setIfInBounds_toArray, List.set_cons_zero, List.set_cons_succ] at h
          replace h := blk_set h 1 (.bool false)
          simp only [List.setIfInBounds_toArray, List.set_cons_zero, List.set_cons_succ] at h
          replace h := blk_set h 2 (.int .i64 (-1))
          simp only [List.setIfInBounds_toArray, List.set_cons_zero, List.set_cons_succ] at h
          replace h := blk_set h 3 (.int .i64 2)
          simp only [List.setIfInBounds_toArray, List.set_cons_zero, List.set_cons_succ] at h
          replace h := blk_set h 3 (.int .i64 0)
          simp only [List.setIfInBounds_toArray, List.set_cons_zero, List.set_cons_succ] at h
          exact h
        have ht : tick ⟨f0, f1, f2, 3, 51, f5, f6, f7, f8⟩ = ⟨1, false, (-1), 0, 51, f5, f6, f7, f8⟩ := by
          clear hfW hbW hW
          unfold tick tickC tickB tickA
          dsimp only
          repeat' split
          all_goals (try dsimp only at *)
          all_goals first | (exfalso; omega) | rfl
        clear hW
        go_roundw
        case rel => exact ⟨k + 1, by omega, by omega, by go_num, ⟨by show SB W _ _ (tick (ticks k s)); rw [← ES5.out, ht]; exact ⟨_, _, hbW, HI5.out.fr hfW (fun k hk _ e => by have := hk.2; omega), HD5.out.fr hfW (fun k hk _ e => by have := hk.2; omega)⟩⟩, ⟨hD.out.trans hfW (fun _ h => .inl h)⟩⟩
        case measure => simp [intOf]; omega
      · go_wp2
        generalize hW : World.setCell _ _ _ = W
        have hfW : Fr (fun i => i = w.heap.size) wr W := by subst hW; exact ((((((Fr.refl (fun i => i = w.heap.size) wr).setG 4 _).setG 0 _).setG 1 _).setG 2 _).setG 3 _)
        have hbW : W.heap[w.heap.size]? = some (.cells #[.int .i64 1, .bool false, .int .i64 (-1), .int .i64 (f3 - 1), .int .i64 51, .int .i64 f5, .int .i64 f6, .slice Ai5 f7.length ci5, .slice Ad5 f8.length cd5] 25 (0, 0)) := by
          subst hW
          have h := HB5.out
          replace h := blk_set h 4 (.int .i64 51)
          simp only [List.setIfInBounds_toArray, List.set_cons_zero, List.set_cons_succ] at h
          replace h := blk_set h 0 (.int .i64 1)
          simp only [List.setIfInBounds_toArray, List.set_cons_zero, List.set_cons_succ] at h
          replace h := blk_set h 1 (.bool false)
          simp only [List.setIfInBounds_toArray, List.set_cons_zero, List.set_cons_succ] at h
          replace h := blk_set h 2 (.int .i64 (-1))
          simp only [List.setIfInBounds_toArray, List.set_cons_zero, List.set_cons_succ] at h
          replace h := blk_set h 3 (.int .i64 (f3 - 1))
          simp only [List.setIfInBounds_toArray, List.set_cons_zero, List.set_cons_succ] at h
          exact h
        have ht : tick ⟨f0, f1, f2, f3, 51, f5, f6, f7, f8⟩ = ⟨1, false, (-1), (f3 - 1), 51, f5, f6, f7, f8⟩ := by
          clear hfW hbW hW
          unfold tick tickC tickB tickA
          dsimp only
          repeat' split
          all_goals (try dsimp only at *)
          all_goals first | (exfalso; omega) | rfl
        clear hW
        go_roundw
        case rel => exact ⟨k + 1, by omega, by omega, by go_num, ⟨by show SB W _ _ (tick (ticks k s)); rw [← ES5.out, ht]; exact ⟨_, _, hbW, HI5.out.fr hfW (fun k hk _ e => by have := hk.2; omega), HD5.out.fr hfW (fun k hk _ e => by have := hk.2; omega)⟩⟩, ⟨hD.out.trans hfW (fun _ h => .inl h)⟩⟩
        case measure => simp [intOf]; omega

    · have hrr := Aside0.mk (show r = ⟨f0, f1, f2, f3, f4, f5, f6, f7, f8⟩ by rw [ER.out, ES5.out]; congr 1; omega)
      have d0 : wr.cell? ⟨w.heap.size, 0, none⟩ = some (.int .i64 f0) := (blk_cell hb5 0).trans rfl
      have d1 : wr.cell? ⟨w.heap.size, 1, none⟩ = some (.bool f1) := (blk_cell hb5 1).trans rfl
      have d2 : wr.cell? ⟨w.heap.size, 2, none⟩ = some (.int .i64 f2) := (blk_cell hb5 2).trans rfl
      have d3 : wr.cell? ⟨w.heap.size, 3, none⟩ = some (.int .i64 f3) := (blk_cell hb5 3).trans rfl
      have d4 : wr.cell? ⟨w.heap.size, 4, none⟩ = some (.int .i64 f4) := (blk_cell hb5 4).trans rfl
      have d5 : wr.cell? ⟨w.heap.size, 5, none⟩ = some (.int .i64 f5) := (blk_cell hb5 5).trans rfl
      have d6 : wr.cell? ⟨w.heap.size, 6, none⟩ = some (.int .i64 f6) := (blk_cell hb5 6).trans rfl
      have d7 : wr.cell? ⟨w.heap.size, 7, none⟩ = some (.slice Ai5 f7.length ci5) := (blk_cell hb5 7).trans rfl
      have d8 : wr.cell? ⟨w.heap.size, 8, none⟩ = some (.slice Ad5 f8.length cd5) := (blk_cell hb5 8).trans rfl
      clear hb5
      have y0 : wr.cell? ⟨w.heap.size + 1, 0, none⟩ = some (.int .i64 0) := (blk_cell HB2r.out 0).trans rfl
      have z0 := blk_frozen HB2r.out 0
      have y1 : wr.cell? ⟨w.heap.size + 1, 1, none⟩ = some (.bool false) := (blk_cell HB2r.out 1).trans rfl
      have z1 := blk_frozen HB2r.out 1
      have y2 : wr.cell? ⟨w.heap.size + 1, 2, none⟩ = some (.int .i64 0) := (blk_cell HB2r.out 2).trans rfl
      have z2 := blk_frozen HB2r.out 2
      have y3 : wr.cell? ⟨w.heap.size + 1, 3, none⟩ = some (.int .i64 0) := (blk_cell HB2r.out 3).trans rfl
      have z3 := blk_frozen HB2r.out 3
      have y4 : wr.cell? ⟨w.heap.size + 1, 4, none⟩ = some (.int .i64 0) := (blk_cell HB2r.out 4).trans rfl
      have z4 := blk_frozen HB2r.out 4
      have y5 : wr.cell? ⟨w.heap.size + 1, 5, none⟩ = some (.int .i64 0) := (blk_cell HB2r.out 5).trans rfl
      have z5 := blk_frozen HB2r.out 5
      have y6 : wr.cell? ⟨w.heap.size + 1, 6, none⟩ = some (.int .i64 0) := (blk_cell HB2r.out 6).trans rfl
      have z6 := blk_frozen HB2r.out 6
      have y7 : wr.cell? ⟨w.heap.size + 1, 7, none⟩ = some (.slice none 0 0) := (blk_cell HB2r.out 7).trans rfl
      have z7 := blk_frozen HB2r.out 7
      have y8 : wr.cell? ⟨w.heap.size + 1, 8, none⟩ = some (.slice none 0 0) := (blk_cell HB2r.out 8).trans rfl
      have z8 := blk_frozen HB2r.out 8
      go_wp2
      generalize hW : World.setCell _ _ _ = W
      have hfW : Fr (fun i => i = w.heap.size + 1) wr W := by subst hW; exact ((((((((((Fr.refl (fun i => i = w.heap.size + 1) wr).setG 0 _).setG 1 _).setG 2 _).setG 3 _).setG 4 _).setG 5 _).setG 6 _).setG 7 _).setG 8 _)
      have hbW : W.heap[w.heap.size + 1]? = some (.cells #[.int .i64 f0, .bool f1, .int .i64 f2, .int .i64 f3, .int .i64 f4, .int .i64 f5, .int .i64 f6, .slice Ai5 f7.length ci5, .slice Ad5 f8.length cd5] 25 (0, 0)) := by subst hW; exact put9 HB2r.out
      refine bodyPost_ret (results_cell_row rfl _ _ (w.heap.size + 1) 25 _ (0, 0) _ rfl hbW Try.underlying25 rfl (by kernel_rfl)) rfl ?_
      rw [hrr.out]
      exact ⟨_, rfl, ⟨_, _, rfl, (HI5.out.fr hfW (fun k hk _ e => by have := hk.2; omega)).mono (fun k hk => hk.1), (HD5.out.fr hfW (fun k hk _ e => by have := hk.2; omega)).mono (fun k hk => hk.1)⟩, Fr.trans (S := fun _ => False) (Fr.trans (S := fun _ => False) hf2 hD.out (fun i hi => .inr (by omega))) hfW (fun i hi => .inr (by omega))⟩
end
end Go.Proofs.Ph
/- Ticks: sixty are as good as seventy. No condition. -/
namespace Go.Proofs.Ph
open Go Go.RowKit Go.Proofs.YthjnlggommennaaW.PrintWords
/-- Nothing that a tick would change. -/
def Still (s : S25) : Prop := s.f4 = 51 ∧ s.f3 ≤ 2 ∧ s.f0 = 1 ∧ s.f1 = false ∧ s.f2 = -1
theorem tick_still {s : S25} (h : Still s) : tick s = s := by
  obtain ⟨f0, f1, f2, f3, f4, f5, f6, f7, f8⟩ := s
  obtain ⟨h4, h3, h0, h1, h2⟩ := h
  dsimp only at h4 h3 h0 h1 h2
  subst h4 h0 h1 h2
  unfold tick tickC tickB tickA
  dsimp only
  repeat' split
  all_goals (try dsimp only at *)
  all_goals first | (exfalso; omega) | rfl
theorem tick_f4 (s : S25) (h : 0 ≤ s.f4 ∧ s.f4 ≤ 51) : (tick s).f4 = min 51 (s.f4 + 1) := by
  unfold tick tickC tickB tickA
  dsimp only
  repeat' split
  all_goals (try dsimp only at *)
  all_goals omega
theorem tick_f3 (s : S25) : (tick s).f3 = if 2 < s.f3 then if s.f3 = 3 then 0 else s.f3 - 1 else s.f3 := by
  unfold tick tickC tickB tickA
  dsimp only
  repeat' split
  all_goals (try dsimp only at *)
  all_goals omega
theorem tick_shut (s : S25) (h : 50 ≤ s.f4) : (tick s).f0 = 1 ∧ (tick s).f1 = false ∧ (tick s).f2 = -1 := by
  unfold tick tickC tickB tickA
  dsimp only
  repeat' split
  all_goals (try dsimp only at *)
  all_goals first | (exfalso; omega) | exact ⟨rfl, rfl, rfl⟩
section
variable {s : S25} (h0 : 0 ≤ s.f4 ∧ s.f4 ≤ 51) (h1 : 0 ≤ s.f3 ∧ s.f3 ≤ 12)
include h0 h1
theorem ticks_f4 : ∀ k : Nat, (ticks k s).f4 = min 51 (s.f4 + k)
  | 0 => by show s.f4 = _; omega
  | k + 1 => by
    show (tick (ticks k s)).f4 = _
    rw [tick_f4 _ (ticks_range h0 h1 k).1, ticks_f4 k]
    omega
theorem ticks_f3 : ∀ k : Nat, (ticks k s).f3 ≤ 2 ∨ (ticks k s).f3 + k ≤ 12
  | 0 => .inr (by have _h := h0; show s.f3 + _ ≤ _; omega)
  | k + 1 => by
    show (tick (ticks k s)).f3 ≤ 2 ∨ (tick (ticks k s)).f3 + _ ≤ _
    rw [tick_f3]
    have := ticks_f3 k
    repeat' split
    all_goals omega
theorem ticks_still {k : Nat} (hk : 60 ≤ k) : Still (ticks k s) := by
  obtain ⟨j, rfl⟩ : ∃ j, k = j + 1 := ⟨k - 1, by omega⟩
  have h4 := ticks_f4 h0 h1 j
  have h5 := ticks_f4 h0 h1 (j + 1)
  have h3 := ticks_f3 h0 h1 (j + 1)
  have hs := tick_shut (ticks j s) (by omega)
  refine ⟨by omega, by have := (ticks_range h0 h1 (j + 1)).2.1; omega, hs⟩
theorem ticks_sat {k : Nat} (hk : 60 ≤ k) : ticks k s = ticks 60 s := by
  obtain ⟨j, rfl⟩ : ∃ j, k = 60 + j := ⟨k - 60, by omega⟩
  clear hk
  induction j with
  | zero => rfl
  | succ j ih =>
    show tick (ticks (60 + j) s) = _
    rw [tick_still (ticks_still h0 h1 (by omega)), ih]
theorem ticks_min (n : Int) : ticks (min n.toNat 60) s = ticks n.toNat s ∧ ticks (min n.toNat 70) s = ticks n.toNat s := by
  rcases Nat.lt_or_ge n.toNat 60 with h | h
  · rw [Nat.min_eq_left (by omega), Nat.min_eq_left (by omega)]
    exact ⟨rfl, rfl⟩
  · rw [ticks_sat h0 h1 h, Nat.min_eq_right h]
    exact ⟨rfl, ticks_sat h0 h1 (by omega)⟩
end
theorem dTick_calls {w : World} {P : Nat → Prop} {s : S25} {vs : Value} {n : Int} (hs : RdS w P vs s) (h0 : 0 ≤ s.f4 ∧ s.f4 ≤ 51) (h1 : 0 ≤ s.f3 ∧ s.f3 ≤ 12) : Calls Try.prog 38 #[vs, .int .i64 n] w (RetP w P (ticks n.toNat s)) := by
  have hm := (ticks_min h0 h1 n).1
  by_cases hn : n ≤ 60
  · exact dTick_few hs h0 h1 hn
  · rw [← hm, Nat.min_eq_right (by omega)]
    exact dTick_many hs h0 h1 (by omega)
theorem rTick_calls' {w : World} {P : Nat → Prop} {s : S25} {vs : Value} {n : Int} (hs : RdS w P vs s) (h0 : 0 ≤ s.f4 ∧ s.f4 ≤ 51) (h1 : 0 ≤ s.f3 ∧ s.f3 ≤ 12) : Calls Try.prog 40 #[vs, .int .i64 n] w (RetP w P (ticks n.toNat s)) := by
  rw [← (ticks_min h0 h1 n).2]
  exact rTick_calls hs h0 h1
end Go.Proofs.Ph
/- The head of the laws of diag is true. No condition. -/
namespace Go.Proofs.Ph
open Go Go.RowKit Go.Proofs.YthjnlggommennaaW.PrintWords
def hi0 : List S47 := [⟨258, true, [1, 2]⟩]
def hs0 : S25 := ⟨1, false, -1, 0, 0, 5, 7, hi0, []⟩
def hs1 : S25 := ⟨2, false, -1, 0, 0, 5, 7, hi0, []⟩
def hs2 : S25 := ⟨2, false, 5, 0, 0, 1022226848, 7, hi0, []⟩
theorem field25_4 {v0 v1 v2 v3 v5 v6 v7 v8 : Value} {n : Int} (W : World) : (Instr.field 25 (.agg #[v0, v1, v2, v3, .int .i64 n, v5, v6, v7, v8]) 4).run Try.prog W = .ok (.int .i64 n) W := by kernel_rfl
theorem hnew : mNew 7 5 hi0 = hs0 := by rfl
theorem hask0 : mAsk hs0 [62] = (hs0, [126], false) := by kernel_rfl
theorem hfine0 : Fine hs0 [62] := ⟨by decide, by decide, by decide, by decide, by decide, by unfold Byt; decide⟩
theorem hstep0 {w : World} {vs vq : Value} (hs : RdS w T0 vs hs0) (hq : RdF kb w T0 vq [62]) : Calls Try.prog 41 #[vs, vq] w fun e w' => ∃ Ai ci Ad cd Ab cb, e = .returned (.tuple #[.agg #[.int .i64 1, .bool false, .int .i64 (-1), .int .i64 0, .int .i64 0, .int .i64 5, .int .i64 7, .slice Ai 1 ci, .slice Ad 0 cd], .slice Ab 1 cb, .bool false]) ∧ Aside0 (RdS w' T0 (.agg #[.int .i64 1, .bool false, .int .i64 (-1), .int .i64 0, .int .i64 0, .int .i64 5, .int .i64 7, .slice Ai 1 ci, .slice Ad 0 cd]) hs0) ∧ Aside0 (RdF kb w' T0 (.slice Ab 1 cb) [126]) ∧ Aside0 (Fr (fun _ => False) w w') :=
  (ask_go hs hq hfine0 hask0).mono fun e w' ⟨Ai, ci, Ad, cd, Ab, cb, h⟩ => ⟨Ai, ci, Ad, cd, Ab, cb, h⟩
theorem hask1 : mAsk hs0 [16, 2] = (hs1, [80, 2], false) := by kernel_rfl
theorem hfine1 : Fine hs0 [16, 2] := ⟨by decide, by decide, by decide, by decide, by decide, by unfold Byt; decide⟩
theorem hstep1 {w : World} {vs vq : Value} (hs : RdS w T0 vs hs0) (hq : RdF kb w T0 vq [16, 2]) : Calls Try.prog 41 #[vs, vq] w fun e w' => ∃ Ai ci Ad cd Ab cb, e = .returned (.tuple #[.agg #[.int .i64 2, .bool false, .int .i64 (-1), .int .i64 0, .int .i64 0, .int .i64 5, .int .i64 7, .slice Ai 1 ci, .slice Ad 0 cd], .slice Ab 2 cb, .bool false]) ∧ Aside0 (RdS w' T0 (.agg #[.int .i64 2, .bool false, .int .i64 (-1), .int .i64 0, .int .i64 0, .int .i64 5, .int .i64 7, .slice Ai 1 ci, .slice Ad 0 cd]) hs1) ∧ Aside0 (RdF kb w' T0 (.slice Ab 2 cb) [80, 2]) ∧ Aside0 (Fr (fun _ => False) w w') :=
  (ask_go hs hq hfine1 hask1).mono fun e w' ⟨Ai, ci, Ad, cd, Ab, cb, h⟩ => ⟨Ai, ci, Ad, cd, Ab, cb, h⟩
theorem hask2 : mAsk hs0 [39, 1] = (hs0, [127, 39, 34], false) := by kernel_rfl
theorem hfine2 : Fine hs0 [39, 1] := ⟨by decide, by decide, by decide, by decide, by decide, by unfold Byt; decide⟩
theorem hstep2 {w : World} {vs vq : Value} (hs : RdS w T0 vs hs0) (hq : RdF kb w T0 vq [39, 1]) : Calls Try.prog 41 #[vs, vq] w fun e w' => ∃ Ai ci Ad cd Ab cb, e = .returned (.tuple #[.agg #[.int .i64 1, .bool false, .int .i64 (-1), .int .i64 0, .int .i64 0, .int .i64 5, .int .i64 7, .slice Ai 1 ci, .slice Ad 0 cd], .slice Ab 3 cb, .bool false]) ∧ Aside0 (RdS w' T0 (.agg #[.int .i64 1, .bool false, .int .i64 (-1), .int .i64 0, .int .i64 0, .int .i64 5, .int .i64 7, .slice Ai 1 ci, .slice Ad 0 cd]) hs0) ∧ Aside0 (RdF kb w' T0 (.slice Ab 3 cb) [127, 39, 34]) ∧ Aside0 (Fr (fun _ => False) w w') :=
  (ask_go hs hq hfine2 hask2).mono fun e w' ⟨Ai, ci, Ad, cd, Ab, cb, h⟩ => ⟨Ai, ci, Ad, cd, Ab, cb, h⟩
theorem hask3 : mAsk hs0 [52] = (hs0, [127, 52, 34], false) := by kernel_rfl
theorem hfine3 : Fine hs0 [52] := ⟨by decide, by decide, by decide, by decide, by decide, by unfold Byt; decide⟩
theorem hstep3 {w : World} {vs vq : Value} (hs : RdS w T0 vs hs0) (hq : RdF kb w T0 vq [52]) : Calls Try.prog 41 #[vs, vq] w fun e w' => ∃ Ai ci Ad cd Ab cb, e = .returned (.tuple #[.agg #[.int .i64 1, .bool false, .int .i64 (-1), .int .i64 0, .int .i64 0, .int .i64 5, .int .i64 7, .slice Ai 1 ci, .slice Ad 0 cd], .slice Ab 3 cb, .bool false]) ∧ Aside0 (RdS w' T0 (.agg #[.int .i64 1, .bool false, .int .i64 (-1), .int .i64 0, .int .i64 0, .int .i64 5, .int .i64 7, .slice Ai 1 ci, .slice Ad 0 cd]) hs0) ∧ Aside0 (RdF kb w' T0 (.slice Ab 3 cb) [127, 52, 34]) ∧ Aside0 (Fr (fun _ => False) w w') :=
  (ask_go hs hq hfine3 hask3).mono fun e w' ⟨Ai, ci, Ad, cd, Ab, cb, h⟩ => ⟨Ai, ci, Ad, cd, Ab, cb, h⟩
theorem hask4 : mAsk hs0 [153, 1] = (hs0, [127, 153, 17], false) := by kernel_rfl
theorem hfine4 : Fine hs0 [153, 1] := ⟨by decide, by decide, by decide, by decide, by decide, by unfold Byt; decide⟩
theorem hstep4 {w : World} {vs vq : Value} (hs : RdS w T0 vs hs0) (hq : RdF kb w T0 vq [153, 1]) : Calls Try.prog 41 #[vs, vq] w fun e w' => ∃ Ai ci Ad cd Ab cb, e = .returned (.tuple #[.agg #[.int .i64 1, .bool false, .int .i64 (-1), .int .i64 0, .int .i64 0, .int .i64 5, .int .i64 7, .slice Ai 1 ci, .slice Ad 0 cd], .slice Ab 3 cb, .bool false]) ∧ Aside0 (RdS w' T0 (.agg #[.int .i64 1, .bool false, .int .i64 (-1), .int .i64 0, .int .i64 0, .int .i64 5, .int .i64 7, .slice Ai 1 ci, .slice Ad 0 cd]) hs0) ∧ Aside0 (RdF kb w' T0 (.slice Ab 3 cb) [127, 153, 17]) ∧ Aside0 (Fr (fun _ => False) w w') :=
  (ask_go hs hq hfine4 hask4).mono fun e w' ⟨Ai, ci, Ad, cd, Ab, cb, h⟩ => ⟨Ai, ci, Ad, cd, Ab, cb, h⟩
theorem hask5 : mAsk hs0 [34, 1, 2] = (hs0, [98, 1, 2, 1, 2], false) := by kernel_rfl
theorem hfine5 : Fine hs0 [34, 1, 2] := ⟨by decide, by decide, by decide, by decide, by decide, by unfold Byt; decide⟩
theorem hstep5 {w : World} {vs vq : Value} (hs : RdS w T0 vs hs0) (hq : RdF kb w T0 vq [34, 1, 2]) : Calls Try.prog 41 #[vs, vq] w fun e w' => ∃ Ai ci Ad cd Ab cb, e = .returned (.tuple #[.agg #[.int .i64 1, .bool false, .int .i64 (-1), .int .i64 0, .int .i64 0, .int .i64 5, .int .i64 7, .slice Ai 1 ci, .slice Ad 0 cd], .slice Ab 5 cb, .bool false]) ∧ Aside0 (RdS w' T0 (.agg #[.int .i64 1, .bool false, .int .i64 (-1), .int .i64 0, .int .i64 0, .int .i64 5, .int .i64 7, .slice Ai 1 ci, .slice Ad 0 cd]) hs0) ∧ Aside0 (RdF kb w' T0 (.slice Ab 5 cb) [98, 1, 2, 1, 2]) ∧ Aside0 (Fr (fun _ => False) w w') :=
  (ask_go hs hq hfine5 hask5).mono fun e w' ⟨Ai, ci, Ad, cd, Ab, cb, h⟩ => ⟨Ai, ci, Ad, cd, Ab, cb, h⟩
theorem hask6 : mAsk hs0 [16] = (hs0, [127, 16, 19], false) := by kernel_rfl
theorem hfine6 : Fine hs0 [16] := ⟨by decide, by decide, by decide, by decide, by decide, by unfold Byt; decide⟩
theorem hstep6 {w : World} {vs vq : Value} (hs : RdS w T0 vs hs0) (hq : RdF kb w T0 vq [16]) : Calls Try.prog 41 #[vs, vq] w fun e w' => ∃ Ai ci Ad cd Ab cb, e = .returned (.tuple #[.agg #[.int .i64 1, .bool false, .int .i64 (-1), .int .i64 0, .int .i64 0, .int .i64 5, .int .i64 7, .slice Ai 1 ci, .slice Ad 0 cd], .slice Ab 3 cb, .bool false]) ∧ Aside0 (RdS w' T0 (.agg #[.int .i64 1, .bool false, .int .i64 (-1), .int .i64 0, .int .i64 0, .int .i64 5, .int .i64 7, .slice Ai 1 ci, .slice Ad 0 cd]) hs0) ∧ Aside0 (RdF kb w' T0 (.slice Ab 3 cb) [127, 16, 19]) ∧ Aside0 (Fr (fun _ => False) w w') :=
  (ask_go hs hq hfine6 hask6).mono fun e w' ⟨Ai, ci, Ad, cd, Ab, cb, h⟩ => ⟨Ai, ci, Ad, cd, Ab, cb, h⟩
theorem hask7 : mAsk hs0 [39, 3, 9] = (hs0, [127, 39, 49], false) := by kernel_rfl
theorem hfine7 : Fine hs0 [39, 3, 9] := ⟨by decide, by decide, by decide, by decide, by decide, by unfold Byt; decide⟩
theorem hstep7 {w : World} {vs vq : Value} (hs : RdS w T0 vs hs0) (hq : RdF kb w T0 vq [39, 3, 9]) : Calls Try.prog 41 #[vs, vq] w fun e w' => ∃ Ai ci Ad cd Ab cb, e = .returned (.tuple #[.agg #[.int .i64 1, .bool false, .int .i64 (-1), .int .i64 0, .int .i64 0, .int .i64 5, .int .i64 7, .slice Ai 1 ci, .slice Ad 0 cd], .slice Ab 3 cb, .bool false]) ∧ Aside0 (RdS w' T0 (.agg #[.int .i64 1, .bool false, .int .i64 (-1), .int .i64 0, .int .i64 0, .int .i64 5, .int .i64 7, .slice Ai 1 ci, .slice Ad 0 cd]) hs0) ∧ Aside0 (RdF kb w' T0 (.slice Ab 3 cb) [127, 39, 49]) ∧ Aside0 (Fr (fun _ => False) w w') :=
  (ask_go hs hq hfine7 hask7).mono fun e w' ⟨Ai, ci, Ad, cd, Ab, cb, h⟩ => ⟨Ai, ci, Ad, cd, Ab, cb, h⟩
theorem hask8 : mAsk hs1 [39, 1] = (hs2, [103, 1, 0, 0, 0, 5], false) := by kernel_rfl
theorem hfine8 : Fine hs1 [39, 1] := ⟨by decide, by decide, by decide, by decide, by decide, by unfold Byt; decide⟩
theorem hstep8 {w : World} {vs vq : Value} (hs : RdS w T0 vs hs1) (hq : RdF kb w T0 vq [39, 1]) : Calls Try.prog 41 #[vs, vq] w fun e w' => ∃ Ai ci Ad cd Ab cb, e = .returned (.tuple #[.agg #[.int .i64 2, .bool false, .int .i64 5, .int .i64 0, .int .i64 0, .int .i64 1022226848, .int .i64 7, .slice Ai 1 ci, .slice Ad 0 cd], .slice Ab 6 cb, .bool false]) ∧ Aside0 (RdS w' T0 (.agg #[.int .i64 2, .bool false, .int .i64 5, .int .i64 0, .int .i64 0, .int .i64 1022226848, .int .i64 7, .slice Ai 1 ci, .slice Ad 0 cd]) hs2) ∧ Aside0 (RdF kb w' T0 (.slice Ab 6 cb) [103, 1, 0, 0, 0, 5]) ∧ Aside0 (Fr (fun _ => False) w w') :=
  (ask_go hs hq hfine8 hask8).mono fun e w' ⟨Ai, ci, Ad, cd, Ab, cb, h⟩ => ⟨Ai, ci, Ad, cd, Ab, cb, h⟩
theorem hask9 : mAsk hs0 [] = (hs0, [], false) := by kernel_rfl
theorem hfine9 : Fine hs0 [] := ⟨by decide, by decide, by decide, by decide, by decide, by unfold Byt; decide⟩
theorem hstep9 {w : World} {vs vq : Value} (hs : RdS w T0 vs hs0) (hq : RdF kb w T0 vq []) : Calls Try.prog 41 #[vs, vq] w fun e w' => ∃ Ai ci Ad cd Ab cb, e = .returned (.tuple #[.agg #[.int .i64 1, .bool false, .int .i64 (-1), .int .i64 0, .int .i64 0, .int .i64 5, .int .i64 7, .slice Ai 1 ci, .slice Ad 0 cd], .slice Ab 0 cb, .bool false]) ∧ Aside0 (RdS w' T0 (.agg #[.int .i64 1, .bool false, .int .i64 (-1), .int .i64 0, .int .i64 0, .int .i64 5, .int .i64 7, .slice Ai 1 ci, .slice Ad 0 cd]) hs0) ∧ Aside0 (RdF kb w' T0 (.slice Ab 0 cb) []) ∧ Aside0 (Fr (fun _ => False) w w') :=
  (ask_go hs hq hfine9 hask9).mono fun e w' ⟨Ai, ci, Ad, cd, Ab, cb, h⟩ => ⟨Ai, ci, Ad, cd, Ab, cb, h⟩
set_option maxRecDepth 100000 in
set_option maxHeartbeats 16000000 in
theorem head_calls (w : World) : Calls Try.prog 26 #[] w fun e w' => e = .returned (.bool true) ∧ Fr (fun _ => False) w w' := by
  go_enter Try.func26, Try.ntmps26
  go_wp2_with fail
  generalize hw1 : World.alloc _ _ = w1
  have hf1 : Fr (fun _ => False) w w1 := by subst hw1; exact ((Fr.refl _ w).alloc _).alloc _
  have hi1 : RdF k47 w1 T0 (.slice (some ⟨w.heap.size + 1, 0, none⟩) 1 1) hi0 := by
    subst hw1
    exact items1 (g1 := w.heap.size) (blk_alloc (blk_new w _) _) rfl rfl (by decide) (blk_new' (by show _ = (Array.push _ _).size; rw [Array.size_push]))
  have A := new_calls 7 5 hi1
  rw [hnew] at A
  refine A.mono ?_
  rintro e u ⟨v, rfl, ⟨vi, vd, rfl, hi, hd⟩, hf2⟩
  have hi := hi.top
  have hd := hd.top
  obtain ⟨Ai, ci, rfl, ki, kfi⟩ := hi
  obtain ⟨Ad, cd, rfl, kd, kfd⟩ := hd
  have HS : Aside0 (RdS u T0 (.agg #[.int .i64 1, .bool false, .int .i64 (-1), .int .i64 0, .int .i64 0, .int .i64 5, .int .i64 7, .slice Ai 1 ci, .slice Ad 0 cd]) hs0) := ⟨⟨_, _, rfl, ⟨Ai, ci, rfl, ki, kfi⟩, ⟨Ad, cd, rfl, kd, kfd⟩⟩⟩
  have HF := Aside0.mk (hf1.go hf2)
  clear A hw1 hf1 hi1 hf2 ki kfi kd kfd
  unfold srv hs0 hi0
  dsimp only [List.length]
  go_wp2_with fail
  generalize hw0 : World.alloc _ _ = x0
  have hf0 : Fr (fun _ => False) u x0 := by subst hw0; exact ((Fr.refl _ u).alloc _).alloc _
  have hq0 : RdF kb x0 T0 (.slice (some ⟨u.heap.size + 1, 0, none⟩) 1 1) [62] := by subst hw0; exact lit_rd (blk_new' (by show _ = (Array.push _ _).size; rw [Array.size_push])) rfl rfl (by decide)
  have hb0 : x0.heap[u.heap.size]? = some (.cells #[.int .i64 1, .bool false, .int .i64 (-1), .int .i64 0, .int .i64 0, .int .i64 5, .int .i64 7, .slice Ai 1 ci, .slice Ad 0 cd] 25 (0, 0)) := by subst hw0; exact blk_alloc (blk_new u _) _
  have A := hstep0 (HS.out.go hf0) hq0
  refine A.mono ?_
  rintro e u0 ⟨Ai0, ci0, Ad0, cd0, Ab0, cb0, rfl, HR0, HQ0, HG0⟩
  have HBs := Aside0.mk (HG0.out.blk hb0 (fun h => h))
  clear hb0
  generalize u.heap.size = bs at *
  replace HS := Aside0.mk ((HS.out.go hf0).go HG0.out)
  replace HF := Aside0.mk ((HF.out.go hf0).go HG0.out)
  have HA_ := HR0
  clear A hw0 hf0 hq0 HG0
  have s0 : u0.cell? ⟨bs, 0, none⟩ = some (.int .i64 1) := (blk_cell HBs.out 0).trans rfl
  have s1 : u0.cell? ⟨bs, 1, none⟩ = some (.bool false) := (blk_cell HBs.out 1).trans rfl
  have s2 : u0.cell? ⟨bs, 2, none⟩ = some (.int .i64 (-1)) := (blk_cell HBs.out 2).trans rfl
  have s3 : u0.cell? ⟨bs, 3, none⟩ = some (.int .i64 0) := (blk_cell HBs.out 3).trans rfl
  have s4 : u0.cell? ⟨bs, 4, none⟩ = some (.int .i64 0) := (blk_cell HBs.out 4).trans rfl
  have s5 : u0.cell? ⟨bs, 5, none⟩ = some (.int .i64 5) := (blk_cell HBs.out 5).trans rfl
  have s6 : u0.cell? ⟨bs, 6, none⟩ = some (.int .i64 7) := (blk_cell HBs.out 6).trans rfl
  have s7 : u0.cell? ⟨bs, 7, none⟩ = some (.slice Ai 1 ci) := (blk_cell HBs.out 7).trans rfl
  have s8 : u0.cell? ⟨bs, 8, none⟩ = some (.slice Ad 0 cd) := (blk_cell HBs.out 8).trans rfl
  have hlts := blk_lt HBs.out
  go_wp2_with fail
  generalize hw1 : World.alloc _ _ = x1
  have hf1 : Fr (fun _ => False) u0 x1 := by subst hw1; exact ((Fr.refl _ u0).alloc _).alloc _
  have hq1 : RdF kb x1 T0 (.slice (some ⟨u0.heap.size + 1, 0, none⟩) 2 2) [16, 2] := by subst hw1; exact lit_rd (blk_new' (by show _ = (Array.push _ _).size; rw [Array.size_push])) rfl rfl (by decide)
  have hb1 : x1.heap[u0.heap.size]? = some (.cells #[.int .i64 1, .bool false, .int .i64 (-1), .int .i64 0, .int .i64 0, .int .i64 5, .int .i64 7, .slice Ai0 1 ci0, .slice Ad0 0 cd0] 25 (0, 0)) := by subst hw1; exact blk_alloc (blk_new u0 _) _
  replace HBs := Aside0.mk (hf1.blk HBs.out (fun h => h))
  have A := hstep1 (HS.out.go hf1) hq1
  refine A.mono ?_
  rintro e u1 ⟨Ai1, ci1, Ad1, cd1, Ab1, cb1, rfl, HR1, HQ1, HG1⟩
  replace HBs := Aside0.mk (HG1.out.blk HBs.out (fun h => h))
  have HBa := Aside0.mk (HG1.out.blk hb1 (fun h => h))
  clear hb1
  generalize u0.heap.size = ba at *
  replace HS := Aside0.mk ((HS.out.go hf1).go HG1.out)
  replace HF := Aside0.mk ((HF.out.go hf1).go HG1.out)
  have HD_ := HR1
  replace HA_ := Aside0.mk ((HA_.out.go hf1).go HG1.out)
  replace HQ0 := Aside0.mk ((HQ0.out.go hf1).go HG1.out)
  clear A hw1 hf1 hq1 HG1 s0 s1 s2 s3 s4 s5 s6 s7 s8 hlts
  have s0 : u1.cell? ⟨bs, 0, none⟩ = some (.int .i64 1) := (blk_cell HBs.out 0).trans rfl
  have s1 : u1.cell? ⟨bs, 1, none⟩ = some (.bool false) := (blk_cell HBs.out 1).trans rfl
  have s2 : u1.cell? ⟨bs, 2, none⟩ = some (.int .i64 (-1)) := (blk_cell HBs.out 2).trans rfl
  have s3 : u1.cell? ⟨bs, 3, none⟩ = some (.int .i64 0) := (blk_cell HBs.out 3).trans rfl
  have s4 : u1.cell? ⟨bs, 4, none⟩ = some (.int .i64 0) := (blk_cell HBs.out 4).trans rfl
  have s5 : u1.cell? ⟨bs, 5, none⟩ = some (.int .i64 5) := (blk_cell HBs.out 5).trans rfl
  have s6 : u1.cell? ⟨bs, 6, none⟩ = some (.int .i64 7) := (blk_cell HBs.out 6).trans rfl
  have s7 : u1.cell? ⟨bs, 7, none⟩ = some (.slice Ai 1 ci) := (blk_cell HBs.out 7).trans rfl
  have s8 : u1.cell? ⟨bs, 8, none⟩ = some (.slice Ad 0 cd) := (blk_cell HBs.out 8).trans rfl
  have hlts := blk_lt HBs.out
  go_wp2_with fail
  generalize hw2 : World.alloc _ _ = x2
  have hf2 : Fr (fun _ => False) u1 x2 := by subst hw2; exact ((Fr.refl _ u1).alloc _).alloc _
  have hq2 : RdF kb x2 T0 (.slice (some ⟨u1.heap.size + 1, 0, none⟩) 2 2) [39, 1] := by subst hw2; exact lit_rd (blk_new' (by show _ = (Array.push _ _).size; rw [Array.size_push])) rfl rfl (by decide)
  have hb2 : x2.heap[u1.heap.size]? = some (.cells #[.int .i64 2, .bool false, .int .i64 (-1), .int .i64 0, .int .i64 0, .int .i64 5, .int .i64 7, .slice Ai1 1 ci1, .slice Ad1 0 cd1] 25 (0, 0)) := by subst hw2; exact blk_alloc (blk_new u1 _) _
  replace HBs := Aside0.mk (hf2.blk HBs.out (fun h => h))
  replace HBa := Aside0.mk (hf2.blk HBa.out (fun h => h))
  have A := hstep2 (HS.out.go hf2) hq2
  refine A.mono ?_
  rintro e u2 ⟨Ai2, ci2, Ad2, cd2, Ab2, cb2, rfl, HR2, HQ2, HG2⟩
  replace HBs := Aside0.mk (HG2.out.blk HBs.out (fun h => h))
  replace HBa := Aside0.mk (HG2.out.blk HBa.out (fun h => h))
  have HBd := Aside0.mk (HG2.out.blk hb2 (fun h => h))
  clear hb2
  generalize u1.heap.size = bd at *
  replace HS := Aside0.mk ((HS.out.go hf2).go HG2.out)
  replace HF := Aside0.mk ((HF.out.go hf2).go HG2.out)
  replace HD_ := Aside0.mk ((HD_.out.go hf2).go HG2.out)
  replace HA_ := Aside0.mk ((HA_.out.go hf2).go HG2.out)
  replace HQ0 := Aside0.mk ((HQ0.out.go hf2).go HG2.out)
  replace HQ1 := Aside0.mk ((HQ1.out.go hf2).go HG2.out)
  clear A hw2 hf2 hq2 HG2 s0 s1 s2 s3 s4 s5 s6 s7 s8 hlts
  have s0 : u2.cell? ⟨bs, 0, none⟩ = some (.int .i64 1) := (blk_cell HBs.out 0).trans rfl
  have s1 : u2.cell? ⟨bs, 1, none⟩ = some (.bool false) := (blk_cell HBs.out 1).trans rfl
  have s2 : u2.cell? ⟨bs, 2, none⟩ = some (.int .i64 (-1)) := (blk_cell HBs.out 2).trans rfl
  have s3 : u2.cell? ⟨bs, 3, none⟩ = some (.int .i64 0) := (blk_cell HBs.out 3).trans rfl
  have s4 : u2.cell? ⟨bs, 4, none⟩ = some (.int .i64 0) := (blk_cell HBs.out 4).trans rfl
  have s5 : u2.cell? ⟨bs, 5, none⟩ = some (.int .i64 5) := (blk_cell HBs.out 5).trans rfl
  have s6 : u2.cell? ⟨bs, 6, none⟩ = some (.int .i64 7) := (blk_cell HBs.out 6).trans rfl
  have s7 : u2.cell? ⟨bs, 7, none⟩ = some (.slice Ai 1 ci) := (blk_cell HBs.out 7).trans rfl
  have s8 : u2.cell? ⟨bs, 8, none⟩ = some (.slice Ad 0 cd) := (blk_cell HBs.out 8).trans rfl
  have hlts := blk_lt HBs.out
  go_wp2_with fail
  generalize hw3 : World.alloc _ _ = x3
  have hf3 : Fr (fun _ => False) u2 x3 := by subst hw3; exact ((Fr.refl _ u2).alloc _).alloc _
  have hq3 : RdF kb x3 T0 (.slice (some ⟨u2.heap.size + 1, 0, none⟩) 1 1) [52] := by subst hw3; exact lit_rd (blk_new' (by show _ = (Array.push _ _).size; rw [Array.size_push])) rfl rfl (by decide)
  replace HBs := Aside0.mk (hf3.blk HBs.out (fun h => h))
  replace HBa := Aside0.mk (hf3.blk HBa.out (fun h => h))
  replace HBd := Aside0.mk (hf3.blk HBd.out (fun h => h))
  have A := hstep3 (HS.out.go hf3) hq3
  refine A.mono ?_
  rintro e u3 ⟨Ai3, ci3, Ad3, cd3, Ab3, cb3, rfl, HR3, HQ3, HG3⟩
  replace HBs := Aside0.mk (HG3.out.blk HBs.out (fun h => h))
  replace HBa := Aside0.mk (HG3.out.blk HBa.out (fun h => h))
  replace HBd := Aside0.mk (HG3.out.blk HBd.out (fun h => h))
  replace HS := Aside0.mk ((HS.out.go hf3).go HG3.out)
  replace HF := Aside0.mk ((HF.out.go hf3).go HG3.out)
  replace HD_ := Aside0.mk ((HD_.out.go hf3).go HG3.out)
  replace HA_ := Aside0.mk ((HA_.out.go hf3).go HG3.out)
  replace HQ0 := Aside0.mk ((HQ0.out.go hf3).go HG3.out)
  replace HQ1 := Aside0.mk ((HQ1.out.go hf3).go HG3.out)
  replace HQ2 := Aside0.mk ((HQ2.out.go hf3).go HG3.out)
  clear A hw3 hf3 hq3 HG3 s0 s1 s2 s3 s4 s5 s6 s7 s8 hlts
  have s0 : u3.cell? ⟨bs, 0, none⟩ = some (.int .i64 1) := (blk_cell HBs.out 0).trans rfl
  have s1 : u3.cell? ⟨bs, 1, none⟩ = some (.bool false) := (blk_cell HBs.out 1).trans rfl
  have s2 : u3.cell? ⟨bs, 2, none⟩ = some (.int .i64 (-1)) := (blk_cell HBs.out 2).trans rfl
  have s3 : u3.cell? ⟨bs, 3, none⟩ = some (.int .i64 0) := (blk_cell HBs.out 3).trans rfl
  have s4 : u3.cell? ⟨bs, 4, none⟩ = some (.int .i64 0) := (blk_cell HBs.out 4).trans rfl
  have s5 : u3.cell? ⟨bs, 5, none⟩ = some (.int .i64 5) := (blk_cell HBs.out 5).trans rfl
  have s6 : u3.cell? ⟨bs, 6, none⟩ = some (.int .i64 7) := (blk_cell HBs.out 6).trans rfl
  have s7 : u3.cell? ⟨bs, 7, none⟩ = some (.slice Ai 1 ci) := (blk_cell HBs.out 7).trans rfl
  have s8 : u3.cell? ⟨bs, 8, none⟩ = some (.slice Ad 0 cd) := (blk_cell HBs.out 8).trans rfl
  have hlts := blk_lt HBs.out
  go_wp2_with fail
  generalize hw4 : World.alloc _ _ = x4
  have hf4 : Fr (fun _ => False) u3 x4 := by subst hw4; exact ((Fr.refl _ u3).alloc _).alloc _
  have hq4 : RdF kb x4 T0 (.slice (some ⟨u3.heap.size + 1, 0, none⟩) 2 2) [153, 1] := by subst hw4; exact lit_rd (blk_new' (by show _ = (Array.push _ _).size; rw [Array.size_push])) rfl rfl (by decide)
  replace HBs := Aside0.mk (hf4.blk HBs.out (fun h => h))
  replace HBa := Aside0.mk (hf4.blk HBa.out (fun h => h))
  replace HBd := Aside0.mk (hf4.blk HBd.out (fun h => h))
  have A := hstep4 (HS.out.go hf4) hq4
  refine A.mono ?_
  rintro e u4 ⟨Ai4, ci4, Ad4, cd4, Ab4, cb4, rfl, HR4, HQ4, HG4⟩
  replace HBs := Aside0.mk (HG4.out.blk HBs.out (fun h => h))
  replace HBa := Aside0.mk (HG4.out.blk HBa.out (fun h => h))
  replace HBd := Aside0.mk (HG4.out.blk HBd.out (fun h => h))
  replace HS := Aside0.mk ((HS.out.go hf4).go HG4.out)
  replace HF := Aside0.mk ((HF.out.go hf4).go HG4.out)
  replace HD_ := Aside0.mk ((HD_.out.go hf4).go HG4.out)
  replace HA_ := Aside0.mk ((HA_.out.go hf4).go HG4.out)
  replace HQ0 := Aside0.mk ((HQ0.out.go hf4).go HG4.out)
  replace HQ1 := Aside0.mk ((HQ1.out.go hf4).go HG4.out)
  replace HQ2 := Aside0.mk ((HQ2.out.go hf4).go HG4.out)
  replace HQ3 := Aside0.mk ((HQ3.out.go hf4).go HG4.out)
  clear A hw4 hf4 hq4 HG4 s0 s1 s2 s3 s4 s5 s6 s7 s8 hlts
  have s0 : u4.cell? ⟨bs, 0, none⟩ = some (.int .i64 1) := (blk_cell HBs.out 0).trans rfl
  have s1 : u4.cell? ⟨bs, 1, none⟩ = some (.bool false) := (blk_cell HBs.out 1).trans rfl
  have s2 : u4.cell? ⟨bs, 2, none⟩ = some (.int .i64 (-1)) := (blk_cell HBs.out 2).trans rfl
  have s3 : u4.cell? ⟨bs, 3, none⟩ = some (.int .i64 0) := (blk_cell HBs.out 3).trans rfl
  have s4 : u4.cell? ⟨bs, 4, none⟩ = some (.int .i64 0) := (blk_cell HBs.out 4).trans rfl
  have s5 : u4.cell? ⟨bs, 5, none⟩ = some (.int .i64 5) := (blk_cell HBs.out 5).trans rfl
  have s6 : u4.cell? ⟨bs, 6, none⟩ = some (.int .i64 7) := (blk_cell HBs.out 6).trans rfl
  have s7 : u4.cell? ⟨bs, 7, none⟩ = some (.slice Ai 1 ci) := (blk_cell HBs.out 7).trans rfl
  have s8 : u4.cell? ⟨bs, 8, none⟩ = some (.slice Ad 0 cd) := (blk_cell HBs.out 8).trans rfl
  have hlts := blk_lt HBs.out
  go_wp2_with fail
  generalize hw5 : World.alloc _ _ = x5
  have hf5 : Fr (fun _ => False) u4 x5 := by subst hw5; exact ((Fr.refl _ u4).alloc _).alloc _
  have hq5 : RdF kb x5 T0 (.slice (some ⟨u4.heap.size + 1, 0, none⟩) 3 3) [34, 1, 2] := by subst hw5; exact lit_rd (blk_new' (by show _ = (Array.push _ _).size; rw [Array.size_push])) rfl rfl (by decide)
  replace HBs := Aside0.mk (hf5.blk HBs.out (fun h => h))
  replace HBa := Aside0.mk (hf5.blk HBa.out (fun h => h))
  replace HBd := Aside0.mk (hf5.blk HBd.out (fun h => h))
  have A := hstep5 (HS.out.go hf5) hq5
  refine A.mono ?_
  rintro e u5 ⟨Ai5, ci5, Ad5, cd5, Ab5, cb5, rfl, HR5, HQ5, HG5⟩
  replace HBs := Aside0.mk (HG5.out.blk HBs.out (fun h => h))
  replace HBa := Aside0.mk (HG5.out.blk HBa.out (fun h => h))
  replace HBd := Aside0.mk (HG5.out.blk HBd.out (fun h => h))
  replace HS := Aside0.mk ((HS.out.go hf5).go HG5.out)
  replace HF := Aside0.mk ((HF.out.go hf5).go HG5.out)
  replace HD_ := Aside0.mk ((HD_.out.go hf5).go HG5.out)
  replace HA_ := Aside0.mk ((HA_.out.go hf5).go HG5.out)
  replace HQ0 := Aside0.mk ((HQ0.out.go hf5).go HG5.out)
  replace HQ1 := Aside0.mk ((HQ1.out.go hf5).go HG5.out)
  replace HQ2 := Aside0.mk ((HQ2.out.go hf5).go HG5.out)
  replace HQ3 := Aside0.mk ((HQ3.out.go hf5).go HG5.out)
  replace HQ4 := Aside0.mk ((HQ4.out.go hf5).go HG5.out)
  clear A hw5 hf5 hq5 HG5 s0 s1 s2 s3 s4 s5 s6 s7 s8 hlts
  have s0 : u5.cell? ⟨bs, 0, none⟩ = some (.int .i64 1) := (blk_cell HBs.out 0).trans rfl
  have s1 : u5.cell? ⟨bs, 1, none⟩ = some (.bool false) := (blk_cell HBs.out 1).trans rfl
  have s2 : u5.cell? ⟨bs, 2, none⟩ = some (.int .i64 (-1)) := (blk_cell HBs.out 2).trans rfl
  have s3 : u5.cell? ⟨bs, 3, none⟩ = some (.int .i64 0) := (blk_cell HBs.out 3).trans rfl
  have s4 : u5.cell? ⟨bs, 4, none⟩ = some (.int .i64 0) := (blk_cell HBs.out 4).trans rfl
  have s5 : u5.cell? ⟨bs, 5, none⟩ = some (.int .i64 5) := (blk_cell HBs.out 5).trans rfl
  have s6 : u5.cell? ⟨bs, 6, none⟩ = some (.int .i64 7) := (blk_cell HBs.out 6).trans rfl
  have s7 : u5.cell? ⟨bs, 7, none⟩ = some (.slice Ai 1 ci) := (blk_cell HBs.out 7).trans rfl
  have s8 : u5.cell? ⟨bs, 8, none⟩ = some (.slice Ad 0 cd) := (blk_cell HBs.out 8).trans rfl
  have hlts := blk_lt HBs.out
  go_wp2_with fail
  generalize hw6 : World.alloc _ _ = x6
  have hf6 : Fr (fun _ => False) u5 x6 := by subst hw6; exact ((Fr.refl _ u5).alloc _).alloc _
  have hq6 : RdF kb x6 T0 (.slice (some ⟨u5.heap.size + 1, 0, none⟩) 1 1) [16] := by subst hw6; exact lit_rd (blk_new' (by show _ = (Array.push _ _).size; rw [Array.size_push])) rfl rfl (by decide)
  replace HBs := Aside0.mk (hf6.blk HBs.out (fun h => h))
  replace HBa := Aside0.mk (hf6.blk HBa.out (fun h => h))
  replace HBd := Aside0.mk (hf6.blk HBd.out (fun h => h))
  have A := hstep6 (HS.out.go hf6) hq6
  refine A.mono ?_
  rintro e u6 ⟨Ai6, ci6, Ad6, cd6, Ab6, cb6, rfl, HR6, HQ6, HG6⟩
  replace HBs := Aside0.mk (HG6.out.blk HBs.out (fun h => h))
  replace HBa := Aside0.mk (HG6.out.blk HBa.out (fun h => h))
  replace HBd := Aside0.mk (HG6.out.blk HBd.out (fun h => h))
  replace HS := Aside0.mk ((HS.out.go hf6).go HG6.out)
  replace HF := Aside0.mk ((HF.out.go hf6).go HG6.out)
  replace HD_ := Aside0.mk ((HD_.out.go hf6).go HG6.out)
  replace HA_ := Aside0.mk ((HA_.out.go hf6).go HG6.out)
  replace HQ0 := Aside0.mk ((HQ0.out.go hf6).go HG6.out)
  replace HQ1 := Aside0.mk ((HQ1.out.go hf6).go HG6.out)
  replace HQ2 := Aside0.mk ((HQ2.out.go hf6).go HG6.out)
  replace HQ3 := Aside0.mk ((HQ3.out.go hf6).go HG6.out)
  replace HQ4 := Aside0.mk ((HQ4.out.go hf6).go HG6.out)
  replace HQ5 := Aside0.mk ((HQ5.out.go hf6).go HG6.out)
  clear A hw6 hf6 hq6 HG6 s0 s1 s2 s3 s4 s5 s6 s7 s8 hlts
  have s0 : u6.cell? ⟨bs, 0, none⟩ = some (.int .i64 1) := (blk_cell HBs.out 0).trans rfl
  have s1 : u6.cell? ⟨bs, 1, none⟩ = some (.bool false) := (blk_cell HBs.out 1).trans rfl
  have s2 : u6.cell? ⟨bs, 2, none⟩ = some (.int .i64 (-1)) := (blk_cell HBs.out 2).trans rfl
  have s3 : u6.cell? ⟨bs, 3, none⟩ = some (.int .i64 0) := (blk_cell HBs.out 3).trans rfl
  have s4 : u6.cell? ⟨bs, 4, none⟩ = some (.int .i64 0) := (blk_cell HBs.out 4).trans rfl
  have s5 : u6.cell? ⟨bs, 5, none⟩ = some (.int .i64 5) := (blk_cell HBs.out 5).trans rfl
  have s6 : u6.cell? ⟨bs, 6, none⟩ = some (.int .i64 7) := (blk_cell HBs.out 6).trans rfl
  have s7 : u6.cell? ⟨bs, 7, none⟩ = some (.slice Ai 1 ci) := (blk_cell HBs.out 7).trans rfl
  have s8 : u6.cell? ⟨bs, 8, none⟩ = some (.slice Ad 0 cd) := (blk_cell HBs.out 8).trans rfl
  have hlts := blk_lt HBs.out
  go_wp2_with fail
  generalize hw7 : World.alloc _ _ = x7
  have hf7 : Fr (fun _ => False) u6 x7 := by subst hw7; exact ((Fr.refl _ u6).alloc _).alloc _
  have hq7 : RdF kb x7 T0 (.slice (some ⟨u6.heap.size + 1, 0, none⟩) 3 3) [39, 3, 9] := by subst hw7; exact lit_rd (blk_new' (by show _ = (Array.push _ _).size; rw [Array.size_push])) rfl rfl (by decide)
  replace HBs := Aside0.mk (hf7.blk HBs.out (fun h => h))
  replace HBa := Aside0.mk (hf7.blk HBa.out (fun h => h))
  replace HBd := Aside0.mk (hf7.blk HBd.out (fun h => h))
  have A := hstep7 (HS.out.go hf7) hq7
  refine A.mono ?_
  rintro e u7 ⟨Ai7, ci7, Ad7, cd7, Ab7, cb7, rfl, HR7, HQ7, HG7⟩
  replace HBs := Aside0.mk (HG7.out.blk HBs.out (fun h => h))
  replace HBa := Aside0.mk (HG7.out.blk HBa.out (fun h => h))
  replace HBd := Aside0.mk (HG7.out.blk HBd.out (fun h => h))
  replace HS := Aside0.mk ((HS.out.go hf7).go HG7.out)
  replace HF := Aside0.mk ((HF.out.go hf7).go HG7.out)
  replace HD_ := Aside0.mk ((HD_.out.go hf7).go HG7.out)
  replace HA_ := Aside0.mk ((HA_.out.go hf7).go HG7.out)
  replace HQ0 := Aside0.mk ((HQ0.out.go hf7).go HG7.out)
  replace HQ1 := Aside0.mk ((HQ1.out.go hf7).go HG7.out)
  replace HQ2 := Aside0.mk ((HQ2.out.go hf7).go HG7.out)
  replace HQ3 := Aside0.mk ((HQ3.out.go hf7).go HG7.out)
  replace HQ4 := Aside0.mk ((HQ4.out.go hf7).go HG7.out)
  replace HQ5 := Aside0.mk ((HQ5.out.go hf7).go HG7.out)
  replace HQ6 := Aside0.mk ((HQ6.out.go hf7).go HG7.out)
  clear A hw7 hf7 hq7 HG7 s0 s1 s2 s3 s4 s5 s6 s7 s8 hlts
  have d0 : u7.cell? ⟨bd, 0, none⟩ = some (.int .i64 2) := (blk_cell HBd.out 0).trans rfl
  have d1 : u7.cell? ⟨bd, 1, none⟩ = some (.bool false) := (blk_cell HBd.out 1).trans rfl
  have d2 : u7.cell? ⟨bd, 2, none⟩ = some (.int .i64 (-1)) := (blk_cell HBd.out 2).trans rfl
  have d3 : u7.cell? ⟨bd, 3, none⟩ = some (.int .i64 0) := (blk_cell HBd.out 3).trans rfl
  have d4 : u7.cell? ⟨bd, 4, none⟩ = some (.int .i64 0) := (blk_cell HBd.out 4).trans rfl
  have d5 : u7.cell? ⟨bd, 5, none⟩ = some (.int .i64 5) := (blk_cell HBd.out 5).trans rfl
  have d6 : u7.cell? ⟨bd, 6, none⟩ = some (.int .i64 7) := (blk_cell HBd.out 6).trans rfl
  have d7 : u7.cell? ⟨bd, 7, none⟩ = some (.slice Ai1 1 ci1) := (blk_cell HBd.out 7).trans rfl
  have d8 : u7.cell? ⟨bd, 8, none⟩ = some (.slice Ad1 0 cd1) := (blk_cell HBd.out 8).trans rfl
  have hltd := blk_lt HBd.out
  go_wp2_with fail
  generalize hw8 : World.alloc _ _ = x8
  have hf8 : Fr (fun _ => False) u7 x8 := by subst hw8; exact ((Fr.refl _ u7).alloc _).alloc _
  have hq8 : RdF kb x8 T0 (.slice (some ⟨u7.heap.size + 1, 0, none⟩) 2 2) [39, 1] := by subst hw8; exact lit_rd (blk_new' (by show _ = (Array.push _ _).size; rw [Array.size_push])) rfl rfl (by decide)
  replace HBs := Aside0.mk (hf8.blk HBs.out (fun h => h))
  replace HBa := Aside0.mk (hf8.blk HBa.out (fun h => h))
  replace HBd := Aside0.mk (hf8.blk HBd.out (fun h => h))
  have A := hstep8 (HD_.out.go hf8) hq8
  refine A.mono ?_
  rintro e u8 ⟨Ai8, ci8, Ad8, cd8, Ab8, cb8, rfl, HR8, HQ8, HG8⟩
  replace HBs := Aside0.mk (HG8.out.blk HBs.out (fun h => h))
  replace HBa := Aside0.mk (HG8.out.blk HBa.out (fun h => h))
  replace HBd := Aside0.mk (HG8.out.blk HBd.out (fun h => h))
  replace HS := Aside0.mk ((HS.out.go hf8).go HG8.out)
  replace HF := Aside0.mk ((HF.out.go hf8).go HG8.out)
  replace HD_ := Aside0.mk ((HD_.out.go hf8).go HG8.out)
  replace HA_ := Aside0.mk ((HA_.out.go hf8).go HG8.out)
  replace HQ0 := Aside0.mk ((HQ0.out.go hf8).go HG8.out)
  replace HQ1 := Aside0.mk ((HQ1.out.go hf8).go HG8.out)
  replace HQ2 := Aside0.mk ((HQ2.out.go hf8).go HG8.out)
  replace HQ3 := Aside0.mk ((HQ3.out.go hf8).go HG8.out)
  replace HQ4 := Aside0.mk ((HQ4.out.go hf8).go HG8.out)
  replace HQ5 := Aside0.mk ((HQ5.out.go hf8).go HG8.out)
  replace HQ6 := Aside0.mk ((HQ6.out.go hf8).go HG8.out)
  replace HQ7 := Aside0.mk ((HQ7.out.go hf8).go HG8.out)
  clear A hw8 hf8 hq8 HG8 d0 d1 d2 d3 d4 d5 d6 d7 d8 hltd
  have s0 : u8.cell? ⟨bs, 0, none⟩ = some (.int .i64 1) := (blk_cell HBs.out 0).trans rfl
  have s1 : u8.cell? ⟨bs, 1, none⟩ = some (.bool false) := (blk_cell HBs.out 1).trans rfl
  have s2 : u8.cell? ⟨bs, 2, none⟩ = some (.int .i64 (-1)) := (blk_cell HBs.out 2).trans rfl
  have s3 : u8.cell? ⟨bs, 3, none⟩ = some (.int .i64 0) := (blk_cell HBs.out 3).trans rfl
  have s4 : u8.cell? ⟨bs, 4, none⟩ = some (.int .i64 0) := (blk_cell HBs.out 4).trans rfl
  have s5 : u8.cell? ⟨bs, 5, none⟩ = some (.int .i64 5) := (blk_cell HBs.out 5).trans rfl
  have s6 : u8.cell? ⟨bs, 6, none⟩ = some (.int .i64 7) := (blk_cell HBs.out 6).trans rfl
  have s7 : u8.cell? ⟨bs, 7, none⟩ = some (.slice Ai 1 ci) := (blk_cell HBs.out 7).trans rfl
  have s8 : u8.cell? ⟨bs, 8, none⟩ = some (.slice Ad 0 cd) := (blk_cell HBs.out 8).trans rfl
  have hlts := blk_lt HBs.out
  go_wp2_with fail
  generalize hw9 : World.alloc _ _ = x9
  have hf9 : Fr (fun _ => False) u8 x9 := by subst hw9; exact (Fr.refl _ u8).alloc _
  have hq9 : RdF kb x9 T0 (.slice none 0 0) [] := RdF.nil _ _ _
  have hb9 : x9.heap[u8.heap.size]? = some (.cells #[.int .i64 2, .bool false, .int .i64 5, .int .i64 0, .int .i64 0, .int .i64 1022226848, .int .i64 7, .slice Ai8 1 ci8, .slice Ad8 0 cd8] 25 (0, 0)) := by subst hw9; exact blk_new u8 _
  replace HBs := Aside0.mk (hf9.blk HBs.out (fun h => h))
  replace HBa := Aside0.mk (hf9.blk HBa.out (fun h => h))
  replace HBd := Aside0.mk (hf9.blk HBd.out (fun h => h))
  have A := hstep9 (HS.out.go hf9) hq9
  refine A.mono ?_
  rintro e u9 ⟨Ai9, ci9, Ad9, cd9, Ab9, cb9, rfl, HR9, HQ9, HG9⟩
  replace HBs := Aside0.mk (HG9.out.blk HBs.out (fun h => h))
  replace HBa := Aside0.mk (HG9.out.blk HBa.out (fun h => h))
  replace HBd := Aside0.mk (HG9.out.blk HBd.out (fun h => h))
  have HBn := Aside0.mk (HG9.out.blk hb9 (fun h => h))
  clear hb9
  generalize u8.heap.size = bn at *
  replace HS := Aside0.mk ((HS.out.go hf9).go HG9.out)
  replace HF := Aside0.mk ((HF.out.go hf9).go HG9.out)
  replace HD_ := Aside0.mk ((HD_.out.go hf9).go HG9.out)
  replace HA_ := Aside0.mk ((HA_.out.go hf9).go HG9.out)
  replace HQ0 := Aside0.mk ((HQ0.out.go hf9).go HG9.out)
  replace HQ1 := Aside0.mk ((HQ1.out.go hf9).go HG9.out)
  replace HQ2 := Aside0.mk ((HQ2.out.go hf9).go HG9.out)
  replace HQ3 := Aside0.mk ((HQ3.out.go hf9).go HG9.out)
  replace HQ4 := Aside0.mk ((HQ4.out.go hf9).go HG9.out)
  replace HQ5 := Aside0.mk ((HQ5.out.go hf9).go HG9.out)
  replace HQ6 := Aside0.mk ((HQ6.out.go hf9).go HG9.out)
  replace HQ7 := Aside0.mk ((HQ7.out.go hf9).go HG9.out)
  replace HQ8 := Aside0.mk ((HQ8.out.go hf9).go HG9.out)
  clear A hw9 hf9 hq9 HG9 s0 s1 s2 s3 s4 s5 s6 s7 s8 hlts
  go_upto_region 12 with (fail)
  generalize hw10 : World.alloc _ _ = x10
  have hf10 : Fr (fun _ => False) u9 x10 := by subst hw10; exact (Fr.refl _ u9).alloc _
  clear hw10
  replace HBs := Aside0.mk (hf10.blk HBs.out (fun h => h))
  replace HBa := Aside0.mk (hf10.blk HBa.out (fun h => h))
  replace HBd := Aside0.mk (hf10.blk HBd.out (fun h => h))
  replace HBn := Aside0.mk (hf10.blk HBn.out (fun h => h))
  replace HS := Aside0.mk (HS.out.go hf10)
  replace HF := Aside0.mk (HF.out.go hf10)
  replace HQ0 := Aside0.mk (HQ0.out.go hf10)
  replace HQ1 := Aside0.mk (HQ1.out.go hf10)
  replace HQ2 := Aside0.mk (HQ2.out.go hf10)
  replace HQ3 := Aside0.mk (HQ3.out.go hf10)
  replace HQ4 := Aside0.mk (HQ4.out.go hf10)
  replace HQ5 := Aside0.mk (HQ5.out.go hf10)
  replace HQ6 := Aside0.mk (HQ6.out.go hf10)
  replace HQ7 := Aside0.mk (HQ7.out.go hf10)
  replace HQ8 := Aside0.mk (HQ8.out.go hf10)
  replace HA_ := Aside0.mk (HA_.out.go hf10)
  have s0 : x10.cell? ⟨bs, 0, none⟩ = some (.int .i64 1) := (blk_cell HBs.out 0).trans rfl
  have s1 : x10.cell? ⟨bs, 1, none⟩ = some (.bool false) := (blk_cell HBs.out 1).trans rfl
  have s2 : x10.cell? ⟨bs, 2, none⟩ = some (.int .i64 (-1)) := (blk_cell HBs.out 2).trans rfl
  have s3 : x10.cell? ⟨bs, 3, none⟩ = some (.int .i64 0) := (blk_cell HBs.out 3).trans rfl
  have s4 : x10.cell? ⟨bs, 4, none⟩ = some (.int .i64 0) := (blk_cell HBs.out 4).trans rfl
  have s5 : x10.cell? ⟨bs, 5, none⟩ = some (.int .i64 5) := (blk_cell HBs.out 5).trans rfl
  have s6 : x10.cell? ⟨bs, 6, none⟩ = some (.int .i64 7) := (blk_cell HBs.out 6).trans rfl
  have s7 : x10.cell? ⟨bs, 7, none⟩ = some (.slice Ai 1 ci) := (blk_cell HBs.out 7).trans rfl
  have s8 : x10.cell? ⟨bs, 8, none⟩ = some (.slice Ad 0 cd) := (blk_cell HBs.out 8).trans rfl
  have a0 : x10.cell? ⟨ba, 0, none⟩ = some (.int .i64 1) := (blk_cell HBa.out 0).trans rfl
  have a1 : x10.cell? ⟨ba, 1, none⟩ = some (.bool false) := (blk_cell HBa.out 1).trans rfl
  have a2 : x10.cell? ⟨ba, 2, none⟩ = some (.int .i64 (-1)) := (blk_cell HBa.out 2).trans rfl
  have a3 : x10.cell? ⟨ba, 3, none⟩ = some (.int .i64 0) := (blk_cell HBa.out 3).trans rfl
  have a4 : x10.cell? ⟨ba, 4, none⟩ = some (.int .i64 0) := (blk_cell HBa.out 4).trans rfl
  have a5 : x10.cell? ⟨ba, 5, none⟩ = some (.int .i64 5) := (blk_cell HBa.out 5).trans rfl
  have a6 : x10.cell? ⟨ba, 6, none⟩ = some (.int .i64 7) := (blk_cell HBa.out 6).trans rfl
  have a7 : x10.cell? ⟨ba, 7, none⟩ = some (.slice Ai0 1 ci0) := (blk_cell HBa.out 7).trans rfl
  have a8 : x10.cell? ⟨ba, 8, none⟩ = some (.slice Ad0 0 cd0) := (blk_cell HBa.out 8).trans rfl
  have c0 : (convert 31 9 (.slice Ab0 1 cb0)).run Try.prog x10 = .ok (.string ⟨#[126]⟩) x10 := str_of HQ0.out.now
  go_wp2_with fail
  refine (same22_calls HA_.out HS.out).mono ?_
  rintro e y1 ⟨rfl, hg1⟩
  clear s0 s1 s2 s3 s4 s5 s6 s7 s8 a0 a1 a2 a3 a4 a5 a6 a7 a8 c0 hf10
  replace HBs := Aside0.mk (hg1.blk HBs.out (fun h => h))
  replace HBa := Aside0.mk (hg1.blk HBa.out (fun h => h))
  replace HBd := Aside0.mk (hg1.blk HBd.out (fun h => h))
  replace HBn := Aside0.mk (hg1.blk HBn.out (fun h => h))
  replace HS := Aside0.mk (HS.out.go hg1)
  replace HF := Aside0.mk (HF.out.go hg1)
  replace HQ0 := Aside0.mk (HQ0.out.go hg1)
  replace HQ1 := Aside0.mk (HQ1.out.go hg1)
  replace HQ2 := Aside0.mk (HQ2.out.go hg1)
  replace HQ3 := Aside0.mk (HQ3.out.go hg1)
  replace HQ4 := Aside0.mk (HQ4.out.go hg1)
  replace HQ5 := Aside0.mk (HQ5.out.go hg1)
  replace HQ6 := Aside0.mk (HQ6.out.go hg1)
  replace HQ7 := Aside0.mk (HQ7.out.go hg1)
  replace HQ8 := Aside0.mk (HQ8.out.go hg1)
  have s0 : y1.cell? ⟨bs, 0, none⟩ = some (.int .i64 1) := (blk_cell HBs.out 0).trans rfl
  have s1 : y1.cell? ⟨bs, 1, none⟩ = some (.bool false) := (blk_cell HBs.out 1).trans rfl
  have s2 : y1.cell? ⟨bs, 2, none⟩ = some (.int .i64 (-1)) := (blk_cell HBs.out 2).trans rfl
  have s3 : y1.cell? ⟨bs, 3, none⟩ = some (.int .i64 0) := (blk_cell HBs.out 3).trans rfl
  have s4 : y1.cell? ⟨bs, 4, none⟩ = some (.int .i64 0) := (blk_cell HBs.out 4).trans rfl
  have s5 : y1.cell? ⟨bs, 5, none⟩ = some (.int .i64 5) := (blk_cell HBs.out 5).trans rfl
  have s6 : y1.cell? ⟨bs, 6, none⟩ = some (.int .i64 7) := (blk_cell HBs.out 6).trans rfl
  have s7 : y1.cell? ⟨bs, 7, none⟩ = some (.slice Ai 1 ci) := (blk_cell HBs.out 7).trans rfl
  have s8 : y1.cell? ⟨bs, 8, none⟩ = some (.slice Ad 0 cd) := (blk_cell HBs.out 8).trans rfl
  have d0 : y1.cell? ⟨bd, 0, none⟩ = some (.int .i64 2) := (blk_cell HBd.out 0).trans rfl
  have n2 : y1.cell? ⟨bn, 2, none⟩ = some (.int .i64 5) := (blk_cell HBn.out 2).trans rfl
  have c1 : (convert 31 9 (.slice Ab1 2 cb1)).run Try.prog y1 = .ok (.string ⟨#[80, 2]⟩) y1 := str_of HQ1.out.now
  have c2 : (convert 31 9 (.slice Ab2 3 cb2)).run Try.prog y1 = .ok (.string ⟨#[127, 39, 34]⟩) y1 := str_of HQ2.out.now
  have c3 : (convert 31 9 (.slice Ab3 3 cb3)).run Try.prog y1 = .ok (.string ⟨#[127, 52, 34]⟩) y1 := str_of HQ3.out.now
  have c4 : (convert 31 9 (.slice Ab4 3 cb4)).run Try.prog y1 = .ok (.string ⟨#[127, 153, 17]⟩) y1 := str_of HQ4.out.now
  have c5 : (convert 31 9 (.slice Ab5 5 cb5)).run Try.prog y1 = .ok (.string ⟨#[98, 1, 2, 1, 2]⟩) y1 := str_of HQ5.out.now
  have c6 : (convert 31 9 (.slice Ab6 3 cb6)).run Try.prog y1 = .ok (.string ⟨#[127, 16, 19]⟩) y1 := str_of HQ6.out.now
  have c7 : (convert 31 9 (.slice Ab7 3 cb7)).run Try.prog y1 = .ok (.string ⟨#[127, 39, 49]⟩) y1 := str_of HQ7.out.now
  have c8 : (convert 31 9 (.slice Ab8 6 cb8)).run Try.prog y1 = .ok (.string ⟨#[103, 1, 0, 0, 0, 5]⟩) y1 := str_of HQ8.out.now
  go_wp2_with fail
  refine (right_yes (s := hs0) HS.out 5 right_head).mono ?_
  rintro e y2 ⟨rfl, hg2⟩
  clear s0 s1 s2 s3 s4 s5 s6 s7 s8 d0 n2 c1 c2 c3 c4 c5 c6 c7 c8 hg1
  replace HBs := Aside0.mk (hg2.blk HBs.out (fun h => h))
  replace HS := Aside0.mk (HS.out.go hg2)
  replace HF := Aside0.mk (HF.out.go hg2)
  go_wp2_with fail
  refine (right_zero _).mono ?_
  rintro e y3 ⟨rfl, hg3⟩
  replace HBs := Aside0.mk (hg3.blk HBs.out (fun h => h))
  replace HS := Aside0.mk (HS.out.go hg3)
  replace HF := Aside0.mk (HF.out.go hg3)
  go_wp2_with fail
  refine (deny_calls 308 34 _).mono ?_
  rintro e y4 ⟨v, rfl, hv, hg4⟩
  have hv := hv.top
  have c9 : (convert 31 9 v).run Try.prog y4 = .ok (.string ⟨#[127, 52, 34]⟩) y4 := str_of hv.now
  replace HBs := Aside0.mk (hg4.blk HBs.out (fun h => h))
  replace HS := Aside0.mk (HS.out.go hg4)
  replace HF := Aside0.mk (HF.out.go hg4)
  have s0 : y4.cell? ⟨bs, 0, none⟩ = some (.int .i64 1) := (blk_cell HBs.out 0).trans rfl
  have s1 : y4.cell? ⟨bs, 1, none⟩ = some (.bool false) := (blk_cell HBs.out 1).trans rfl
  have s2 : y4.cell? ⟨bs, 2, none⟩ = some (.int .i64 (-1)) := (blk_cell HBs.out 2).trans rfl
  have s3 : y4.cell? ⟨bs, 3, none⟩ = some (.int .i64 0) := (blk_cell HBs.out 3).trans rfl
  have s4 : y4.cell? ⟨bs, 4, none⟩ = some (.int .i64 0) := (blk_cell HBs.out 4).trans rfl
  have s5 : y4.cell? ⟨bs, 5, none⟩ = some (.int .i64 5) := (blk_cell HBs.out 5).trans rfl
  have s6 : y4.cell? ⟨bs, 6, none⟩ = some (.int .i64 7) := (blk_cell HBs.out 6).trans rfl
  have s7 : y4.cell? ⟨bs, 7, none⟩ = some (.slice Ai 1 ci) := (blk_cell HBs.out 7).trans rfl
  have s8 : y4.cell? ⟨bs, 8, none⟩ = some (.slice Ad 0 cd) := (blk_cell HBs.out 8).trans rfl
  go_wp2_with fail
  refine (key_calls 0 0 _).mono ?_
  rintro e y5 ⟨rfl, rfl⟩
  rw [show key 0 0 = 0 by decide +kernel]
  go_wp2_with fail
  refine (dTick_calls (n := 3) HS.out (by decide) (by decide)).mono ?_
  rintro e y6 ⟨v6, rfl, ⟨vi6, vd6, e6, hi6, hd6⟩, hg6⟩
  obtain ⟨Ai6, ci6, ei6, -, -⟩ := hi6
  obtain ⟨Ad6, cd6, ed6, -, -⟩ := hd6
  subst ei6 ed6
  have e7 : v6 = .agg #[.int .i64 1, .bool false, .int .i64 (-1), .int .i64 0, .int .i64 3, .int .i64 5, .int .i64 7, .slice Ai6 1 ci6, .slice Ad6 0 cd6] := by rw [e6, show ticks (3 : Int).toNat hs0 = ⟨1, false, -1, 0, 3, 5, 7, hi0, []⟩ by kernel_rfl]; rfl
  subst e7
  clear e6
  have hfld : ∀ W, (Instr.field 25 (.agg #[.int .i64 1, .bool false, .int .i64 (-1), .int .i64 0, .int .i64 3, .int .i64 5, .int .i64 7, .slice Ai6 1 ci6, .slice Ad6 0 cd6]) 4).run Try.prog W = .ok (.int .i64 3) W := fun W => field25_4 W
  go_wp2
  go_ret
  exact ⟨rfl, HF.out.go hg6⟩
end Go.Proofs.Ph
/- A key has 32 bits, and unlike seeds have unlike keys of one secret: plain numbers. No condition. -/
namespace Go.Proofs.Ph
open Go Go.RowKit
theorem xor32_nat (a b : Nat) (ha : a < 4294967296) (hb : b < 4294967296) : xor32 (a : Int) (b : Int) = ((a ^^^ b : Nat) : Int) := u32_xor_nat a b ha hb
theorem mix_back (y : Nat) (hy : y < 4294967296) : (y ^^^ y >>> 15) ^^^ (y ^^^ y >>> 15) >>> 15 ^^^ (y ^^^ y >>> 15) >>> 30 = y := by
  have h0 : y >>> 45 = 0 := by rw [Nat.shiftRight_eq_div_pow]; exact Nat.div_eq_of_lt (by omega)
  have h1 : (y >>> 15) >>> 15 = y >>> 30 := by rw [← Nat.shiftRight_add]
  have h2 : (y >>> 15) >>> 30 = y >>> 45 := by rw [← Nat.shiftRight_add]
  rw [Nat.shiftRight_xor_distrib, Nat.shiftRight_xor_distrib, h1, h2, h0]
  apply Nat.eq_of_testBit_eq
  intro i
  simp only [Nat.testBit_xor, Nat.zero_testBit]
  cases y.testBit i <;> cases (y >>> 15).testBit i <;> cases (y >>> 30).testBit i <;> rfl
theorem mix_inj {a b : Nat} (ha : a < 4294967296) (hb : b < 4294967296) (h : a ^^^ a >>> 15 = b ^^^ b >>> 15) : a = b := by
  rw [← mix_back a ha, ← mix_back b hb, h]
theorem xor_left_inj {a b c : Nat} (h : a ^^^ c = b ^^^ c) : a = b := by
  have := congrArg (· ^^^ c) h
  simpa [Nat.xor_assoc] using this
/-- A step, of numbers of 32 bits. -/
theorem keyStep_nat (s x : Int) : ∃ y : Nat, (y : Int) = (x * 2654435761 + s) % 4294967296 ∧ y < 4294967296 ∧ keyStep s x = ((y ^^^ y >>> 15 : Nat) : Int) := by
  obtain ⟨y, hy⟩ := Int.eq_ofNat_of_zero_le (show 0 ≤ (x * 2654435761 + s) % 4294967296 by omega)
  have hlt : y < 4294967296 := by omega
  refine ⟨y, hy.symm, hlt, ?_⟩
  unfold keyStep
  rw [hy]
  have hd : (y : Int) / (32768 : Int) = ((y >>> 15 : Nat) : Int) := by
    rw [Nat.shiftRight_eq_div_pow]
    show (y : Int) / (32768 : Int) = ((y / 32768 : Nat) : Int)
    omega
  rw [hd, xor32_nat y _ hlt (by rw [Nat.shiftRight_eq_div_pow]; omega)]
theorem bv_of {a b : Int} (h : a % 4294967296 = b % 4294967296) : BitVec.ofInt 32 a = BitVec.ofInt 32 b := by
  apply BitVec.eq_of_toNat_eq
  rw [BitVec.toNat_ofInt, BitVec.toNat_ofInt]
  exact congrArg Int.toNat h
theorem of_bv {a b : Int} (h : BitVec.ofInt 32 a = BitVec.ofInt 32 b) : a % 4294967296 = b % 4294967296 := by
  have h1 := congrArg BitVec.toNat h
  rw [BitVec.toNat_ofInt, BitVec.toNat_ofInt] at h1
  have ha : 0 ≤ a % 4294967296 := Int.emod_nonneg _ (by decide)
  have hb : 0 ≤ b % 4294967296 := Int.emod_nonneg _ (by decide)
  have h2 : (a % 4294967296).toNat = (b % 4294967296).toNat := h1
  have h3 : (((a % 4294967296).toNat : Nat) : Int) = (((b % 4294967296).toNat : Nat) : Int) := by rw [h2]
  rwa [Int.toNat_of_nonneg ha, Int.toNat_of_nonneg hb] at h3
theorem bv_mul_inj {a b c d s : BitVec 32} (hcd : c * d = 1#32) (h : a * c + s = b * c + s) : a = b := by
  have h1 : a * c = b * c := by
    have := congrArg (· - s) h
    simpa [BitVec.add_sub_cancel] using this
  have h2 := congrArg (· * d) h1
  simp only [BitVec.mul_assoc, hcd, BitVec.mul_one] at h2
  exact h2
theorem mul_inj {s x z : Int} (hx : 0 ≤ x ∧ x ≤ 4294967295) (hz : 0 ≤ z ∧ z ≤ 4294967295) (h : (x * 2654435761 + s) % 4294967296 = (z * 2654435761 + s) % 4294967296) : x = z := by
  have h1 := bv_of h
  rw [BitVec.ofInt_add, BitVec.ofInt_add, BitVec.ofInt_mul, BitVec.ofInt_mul] at h1
  have h2 := of_bv (bv_mul_inj (d := BitVec.ofInt 32 244002641) (by decide) h1)
  have hx2 : x < 4294967296 := Int.lt_of_le_of_lt hx.2 (by decide)
  have hz2 : z < 4294967296 := Int.lt_of_le_of_lt hz.2 (by decide)
  exact (Int.emod_eq_of_lt hx.1 hx2).symm.trans (h2.trans (Int.emod_eq_of_lt hz.1 hz2))
theorem keyStep_inj {s x z : Int} (hx : 0 ≤ x ∧ x ≤ 4294967295) (hz : 0 ≤ z ∧ z ≤ 4294967295) (h : keyStep s x = keyStep s z) : x = z := by
  obtain ⟨a, ha, hal, ea⟩ := keyStep_nat s x
  obtain ⟨b, hb, hbl, eb⟩ := keyStep_nat s z
  rw [ea, eb] at h
  have hab : a = b := mix_inj hal hbl (Int.natCast_inj.mp h)
  rw [hab] at ha
  exact mul_inj hx hz (ha.symm.trans hb)
theorem keyStep_mod (s x : Int) : keyStep (s % 4294967296) x = keyStep s x := by
  unfold keyStep
  rw [show (x * 2654435761 + s % 4294967296) % 4294967296 = (x * 2654435761 + s) % 4294967296 by omega]
theorem key_mod (n s : Int) : key (n % 4294967296) (s % 4294967296) = key n s := by
  unfold key
  simp only [keyStep_mod, Int.emod_emod_of_dvd n (Int.dvd_refl 4294967296), Int.emod_emod_of_dvd s (Int.dvd_refl 4294967296)]
theorem xor32_inj {a b c : Int} (ha : 0 ≤ a ∧ a ≤ 4294967295) (hb : 0 ≤ b ∧ b ≤ 4294967295) (hc : 0 ≤ c ∧ c ≤ 4294967295) (h : xor32 a c = xor32 b c) : a = b := by
  obtain ⟨A, rfl⟩ := Int.eq_ofNat_of_zero_le ha.1
  obtain ⟨B, rfl⟩ := Int.eq_ofNat_of_zero_le hb.1
  obtain ⟨C, rfl⟩ := Int.eq_ofNat_of_zero_le hc.1
  rw [xor32_nat A C (by omega) (by omega), xor32_nat B C (by omega) (by omega)] at h
  have h2 : A ^^^ C = B ^^^ C := Int.ofNat.inj h
  rw [xor_left_inj h2]
theorem key_inj {a b s : Int} (h : key a s = key b s) : a % 4294967296 = b % 4294967296 := by
  unfold key at h
  have h1 := keyStep_inj (keyStep_range _ _) (keyStep_range _ _) h
  have h2 := keyStep_inj (keyStep_range _ _) (keyStep_range _ _) h1
  have h3 := keyStep_inj (xor32_range _ _) (xor32_range _ _) h2
  exact xor32_inj (by omega) (by omega) (by omega) h3
end Go.Proofs.Ph
/- DiagKey: its walk. No condition. -/
namespace Go.Proofs.Ph
open Go Go.RowKit Go.Proofs.YthjnlggommennaaW.PrintWords
theorem low_mod (n : Int) : bits BinOp.and IntKind.i64 n 4294967295 = n % 4294967296 := by
  show IntKind.i64.wrap ((BitVec.ofInt 64 n &&& BitVec.ofInt 64 4294967295).toNat : Int) = _
  have h1 : (BitVec.ofInt 64 4294967295).toNat = 2 ^ 32 - 1 := by decide
  rw [BitVec.toNat_and, h1, Nat.and_two_pow_sub_one_eq_mod, BitVec.toNat_ofInt, IntKind.wrap_i64]
  have h2 : (n % ((2 ^ 64 : Nat) : Int)).toNat % 2 ^ 32 = (n % 4294967296).toNat := by
    show (n % (18446744073709551616 : Int)).toNat % 4294967296 = (n % 4294967296).toNat
    omega
  rw [h2]
  omega
set_option maxHeartbeats 2000000 in
theorem diagKey_walk (a b s : Int) (w : World) : Calls Try.prog 11 #[.int .i64 a, .int .i64 b, .int .i64 s] w fun e w' => e = .returned (.bool true) ∧ Below w.heap.size w w' := by
  obtain ⟨la, ela⟩ : ∃ x, x = bits BinOp.and IntKind.i64 a 4294967295 := ⟨_, rfl⟩
  obtain ⟨lb, elb⟩ : ∃ x, x = bits BinOp.and IntKind.i64 b 4294967295 := ⟨_, rfl⟩
  obtain ⟨ls, els⟩ : ∃ x, x = bits BinOp.and IntKind.i64 s 4294967295 := ⟨_, rfl⟩
  obtain ⟨x, ex⟩ : ∃ x, x = key a s := ⟨_, rfl⟩
  obtain ⟨y, ey⟩ : ∃ y, y = key b s := ⟨_, rfl⟩
  have hx := key_range a s
  rw [← ex] at hx
  have h1 : decide ((0 : Int) ≤ x) = true := decide_eq_true hx.1
  have h2 : decide (x ≤ (4294967295 : Int)) = true := decide_eq_true hx.2
  have h3 : ((x == y) == (la == lb)) = true := by
    rw [ex, ey, ela, elb, low_mod, low_mod]
    by_cases h : a % 4294967296 = b % 4294967296
    · have hk : key a s = key b s := by rw [← key_mod a s, ← key_mod b s, h]
      rw [hk, h]
      simp
    · have hk : key a s ≠ key b s := fun e => h (key_inj e)
      rw [beq_eq_false_iff_ne.mpr hk, beq_eq_false_iff_ne.mpr h]
      rfl
  have K1 : ∀ w, Calls Try.prog 29 #[.int .i64 a, .int .i64 s] w fun e w' => e = .returned (.int .i64 x) ∧ w = w' := fun w => by rw [ex]; exact key_calls a s w
  have K2 : ∀ w, Calls Try.prog 29 #[.int .i64 b, .int .i64 s] w fun e w' => e = .returned (.int .i64 y) ∧ w = w' := fun w => by rw [ey]; exact key_calls b s w
  have K3 : ∀ w, Calls Try.prog 29 #[.int .i64 la, .int .i64 ls] w fun e w' => e = .returned (.int .i64 x) ∧ w = w' := fun w => by
    rw [ex, ← key_mod a s, ela, els, low_mod, low_mod]
    exact key_calls _ _ w
  have HK1 := Aside0.mk K1
  have HK2 := Aside0.mk K2
  have HK3 := Aside0.mk K3
  have HLA := Aside0.mk ela.symm
  have HLB := Aside0.mk elb.symm
  have HLS := Aside0.mk els.symm
  clear ela elb els ex ey hx K1 K2 K3
  go_enter Try.func11, Try.ntmps11
  go_wp2_with fail
  refine (head_calls _).mono ?_
  rintro e w1 ⟨rfl, hf⟩
  have HF := Aside0.mk hf
  clear hf
  go_wp2_with fail
  refine (HK1.out _).mono ?_
  rintro e w2 ⟨rfl, rfl⟩
  go_wp2_with fail
  refine (HK2.out _).mono ?_
  rintro e w2 ⟨rfl, rfl⟩
  have e1 := HLA.out
  have e2 := HLB.out
  have e3 := HLS.out
  go_wp2_with fail
  refine (HK3.out _).mono ?_
  rintro e w2 ⟨rfl, rfl⟩
  go_wp2
  go_ret
  exact ⟨by first | rfl | simp, HF.out.below (fun _ h => h.elim)⟩
theorem diagKey_row (a : Int) (_ : (Lit.int .i64 a).wf = true) (b : Int) (_ : (Lit.int .i64 b).wf = true) (s : Int) (_ : (Lit.int .i64 s).wf = true) (w : World) : Calls Try.prog 11 #[.int .i64 a, .int .i64 b, .int .i64 s] w fun e w' => e = .returned (.bool true) ∧ Below w.heap.size w w' := diagKey_walk a b s w
end Go.Proofs.Ph
