/- Part 26 of the proof of DiagHands, for every input: R5, H1, KeyMath. No condition. -/
import Derived.Test.YthjnlggommennaaH24
import Derived.Test.YthjnlggommennaaH23
import Derived.Test.YthjnlggommennaaH20
import Derived.Outline
import Derived.Test.YthjnlggommennaaH3
set_option linter.unusedVariables false
set_option linter.unusedSimpArgs false
set_option linter.unusedSectionVars false
/- Ticks: sixty are as good as seventy. No condition. -/
namespace Go.Proofs.Ph
open Go Go.RowKit Go.Proofs.YthjnlggommennaaW.PrintWords
/-- Nothing that a tick would change. -/
def Still (s : S25) : Prop := s.f4 = 51 ∧ s.f3 ≤ 2 ∧ s.f0 = 1 ∧ s.f1 = false ∧ s.f2 = -1
theorem tick_still {s : S25} (h : Still s) : tick s = s := by
  obtain ⟨f0, f1, f2, f3, f4, f5, f6, f7, f8⟩ := s
  obtain ⟨h4, h3, h0, h1, h2⟩ := h
  dsimp only at h4 h3 h0 h1 h2
  subst h4 h0 h1 h2
  unfold tick tickC tickB tickA
  dsimp only
  repeat' split
  all_goals (try dsimp only at *)
  all_goals first | (exfalso; omega) | rfl
theorem tick_f4 (s : S25) (h : 0 ≤ s.f4 ∧ s.f4 ≤ 51) : (tick s).f4 = min 51 (s.f4 + 1) := by
  unfold tick tickC tickB tickA
  dsimp only
  repeat' split
  all_goals (try dsimp only at *)
  all_goals omega
theorem tick_f3 (s : S25) : (tick s).f3 = if 2 < s.f3 then if s.f3 = 3 then 0 else s.f3 - 1 else s.f3 := by
  unfold tick tickC tickB tickA
  dsimp only
  repeat' split
  all_goals (try dsimp only at *)
  all_goals omega
theorem tick_shut (s : S25) (h : 50 ≤ s.f4) : (tick s).f0 = 1 ∧ (tick s).f1 = false ∧ (tick s).f2 = -1 := by
  unfold tick tickC tickB tickA
  dsimp only
  repeat' split
  all_goals (try dsimp only at *)
  all_goals first | (exfalso; omega) | exact ⟨rfl, rfl, rfl⟩
section
variable {s : S25} (h0 : 0 ≤ s.f4 ∧ s.f4 ≤ 51) (h1 : 0 ≤ s.f3 ∧ s.f3 ≤ 12)
include h0 h1
theorem ticks_f4 : ∀ k : Nat, (ticks k s).f4 = min 51 (s.f4 + k)
  | 0 => by show s.f4 = _; omega
  | k + 1 => by
    show (tick (ticks k s)).f4 = _
    rw [tick_f4 _ (ticks_range h0 h1 k).1, ticks_f4 k]
    omega
theorem ticks_f3 : ∀ k : Nat, (ticks k s).f3 ≤ 2 ∨ (ticks k s).f3 + k ≤ 12
  | 0 => .inr (by have _h := h0; show s.f3 + _ ≤ _; omega)
  | k + 1 => by
    show (tick (ticks k s)).f3 ≤ 2 ∨ (tick (ticks k s)).f3 + _ ≤ _
    rw [tick_f3]
    have := ticks_f3 k
    repeat' split
    all_goals omega
theorem ticks_still {k : Nat} (hk : 60 ≤ k) : Still (ticks k s) := by
  obtain ⟨j, rfl⟩ : ∃ j, k = j + 1 := ⟨k - 1, by omega⟩
  have h4 := ticks_f4 h0 h1 j
  have h5 := ticks_f4 h0 h1 (j + 1)
  have h3 := ticks_f3 h0 h1 (j + 1)
  have hs := tick_shut (ticks j s) (by omega)
  refine ⟨by omega, by have := (ticks_range h0 h1 (j + 1)).2.1; omega, hs⟩
theorem ticks_sat {k : Nat} (hk : 60 ≤ k) : ticks k s = ticks 60 s := by
  obtain ⟨j, rfl⟩ : ∃ j, k = 60 + j := ⟨k - 60, by omega⟩
  clear hk
  induction j with
  | zero => rfl
  | succ j ih =>
    show tick (ticks (60 + j) s) = _
    rw [tick_still (ticks_still h0 h1 (by omega)), ih]
theorem ticks_min (n : Int) : ticks (min n.toNat 60) s = ticks n.toNat s ∧ ticks (min n.toNat 70) s = ticks n.toNat s := by
  rcases Nat.lt_or_ge n.toNat 60 with h | h
  · rw [Nat.min_eq_left (by omega), Nat.min_eq_left (by omega)]
    exact ⟨rfl, rfl⟩
  · rw [ticks_sat h0 h1 h, Nat.min_eq_right h]
    exact ⟨rfl, ticks_sat h0 h1 (by omega)⟩
end
theorem dTick_calls {w : World} {P : Nat → Prop} {s : S25} {vs : Value} {n : Int} (hs : RdS w P vs s) (h0 : 0 ≤ s.f4 ∧ s.f4 ≤ 51) (h1 : 0 ≤ s.f3 ∧ s.f3 ≤ 12) : Calls Try.prog 38 #[vs,.int .i64 n] w (RetP w P (ticks n.toNat s)) := by
  have hm := (ticks_min h0 h1 n).1
  by_cases hn : n ≤ 60
  · exact dTick_few hs h0 h1 hn
  · rw [← hm, Nat.min_eq_right (by omega)]
    exact dTick_many hs h0 h1 (by omega)
end Go.Proofs.Ph
/- The head of the laws of diag is true. No condition. -/
namespace Go.Proofs.Ph
open Go Go.RowKit Go.Proofs.YthjnlggommennaaW.PrintWords
def hi0 : List S47 := [⟨258, true, [1, 2]⟩]
def hs0 : S25 := ⟨1, false, -1, 0, 0, 5, 7, hi0, []⟩
def hs1 : S25 := ⟨2, false, -1, 0, 0, 5, 7, hi0, []⟩
def hs2 : S25 := ⟨2, false, 5, 0, 0, 1022226848, 7, hi0, []⟩
theorem field25_4 {v0 v1 v2 v3 v5 v6 v7 v8 : Value} {n : Int} (W : World) : (Instr.field 25 (.agg #[v0,v1,v2,v3,.int .i64 n,v5,v6,v7,v8]) 4).run Try.prog W = .ok (.int .i64 n) W := by kernel_rfl
theorem hnew : mNew 7 5 hi0 = hs0 := by rfl
theorem hask0 : mAsk hs0 [62] = (hs0, [126], false) := by kernel_rfl
theorem hfine0 : Fine hs0 [62] := ⟨by decide, by decide, by decide, by decide, by decide, by unfold Byt; decide⟩
theorem hstep0 {w : World} {vs vq : Value} (hs : RdS w T0 vs hs0) (hq : RdF kb w T0 vq [62]) : Calls Try.prog 41 #[vs,vq] w fun e w' => ∃ Ai ci Ad cd Ab cb,e = .returned (.tuple #[.agg #[.int .i64 1,.bool false,.int .i64 (-1),.int .i64 0,.int .i64 0,.int .i64 5,.int .i64 7,.slice Ai 1 ci,.slice Ad 0 cd],.slice Ab 1 cb,.bool false]) ∧ Aside0 (RdS w' T0 (.agg #[.int .i64 1,.bool false,.int .i64 (-1),.int .i64 0,.int .i64 0,.int .i64 5,.int .i64 7,.slice Ai 1 ci,.slice Ad 0 cd]) hs0) ∧ Aside0 (RdF kb w' T0 (.slice Ab 1 cb) [126]) ∧ Aside0 (Fr (fun _ => False) w w') :=
  (ask_go hs hq hfine0 hask0).mono fun e w' ⟨Ai, ci, Ad, cd, Ab, cb, h⟩ => ⟨Ai, ci, Ad, cd, Ab, cb, h⟩
theorem hask1 : mAsk hs0 [16, 2] = (hs1, [80, 2], false) := by kernel_rfl
theorem hfine1 : Fine hs0 [16, 2] := ⟨by decide, by decide, by decide, by decide, by decide, by unfold Byt; decide⟩
theorem hstep1 {w : World} {vs vq : Value} (hs : RdS w T0 vs hs0) (hq : RdF kb w T0 vq [16,2]) : Calls Try.prog 41 #[vs,vq] w fun e w' => ∃ Ai ci Ad cd Ab cb,e = .returned (.tuple #[.agg #[.int .i64 2,.bool false,.int .i64 (-1),.int .i64 0,.int .i64 0,.int .i64 5,.int .i64 7,.slice Ai 1 ci,.slice Ad 0 cd],.slice Ab 2 cb,.bool false]) ∧ Aside0 (RdS w' T0 (.agg #[.int .i64 2,.bool false,.int .i64 (-1),.int .i64 0,.int .i64 0,.int .i64 5,.int .i64 7,.slice Ai 1 ci,.slice Ad 0 cd]) hs1) ∧ Aside0 (RdF kb w' T0 (.slice Ab 2 cb) [80,2]) ∧ Aside0 (Fr (fun _ => False) w w') :=
  (ask_go hs hq hfine1 hask1).mono fun e w' ⟨Ai, ci, Ad, cd, Ab, cb, h⟩ => ⟨Ai, ci, Ad, cd, Ab, cb, h⟩
theorem hask2 : mAsk hs0 [39, 1] = (hs0, [127, 39, 34], false) := by kernel_rfl
theorem hfine2 : Fine hs0 [39, 1] := ⟨by decide, by decide, by decide, by decide, by decide, by unfold Byt; decide⟩
theorem hstep2 {w : World} {vs vq : Value} (hs : RdS w T0 vs hs0) (hq : RdF kb w T0 vq [39,1]) : Calls Try.prog 41 #[vs,vq] w fun e w' => ∃ Ai ci Ad cd Ab cb,e = .returned (.tuple #[.agg #[.int .i64 1,.bool false,.int .i64 (-1),.int .i64 0,.int .i64 0,.int .i64 5,.int .i64 7,.slice Ai 1 ci,.slice Ad 0 cd],.slice Ab 3 cb,.bool false]) ∧ Aside0 (RdS w' T0 (.agg #[.int .i64 1,.bool false,.int .i64 (-1),.int .i64 0,.int .i64 0,.int .i64 5,.int .i64 7,.slice Ai 1 ci,.slice Ad 0 cd]) hs0) ∧ Aside0 (RdF kb w' T0 (.slice Ab 3 cb) [127,39,34]) ∧ Aside0 (Fr (fun _ => False) w w') :=
  (ask_go hs hq hfine2 hask2).mono fun e w' ⟨Ai, ci, Ad, cd, Ab, cb, h⟩ => ⟨Ai, ci, Ad, cd, Ab, cb, h⟩
theorem hask3 : mAsk hs0 [52] = (hs0, [127, 52, 34], false) := by kernel_rfl
theorem hfine3 : Fine hs0 [52] := ⟨by decide, by decide, by decide, by decide, by decide, by unfold Byt; decide⟩
theorem hstep3 {w : World} {vs vq : Value} (hs : RdS w T0 vs hs0) (hq : RdF kb w T0 vq [52]) : Calls Try.prog 41 #[vs,vq] w fun e w' => ∃ Ai ci Ad cd Ab cb,e = .returned (.tuple #[.agg #[.int .i64 1,.bool false,.int .i64 (-1),.int .i64 0,.int .i64 0,.int .i64 5,.int .i64 7,.slice Ai 1 ci,.slice Ad 0 cd],.slice Ab 3 cb,.bool false]) ∧ Aside0 (RdS w' T0 (.agg #[.int .i64 1,.bool false,.int .i64 (-1),.int .i64 0,.int .i64 0,.int .i64 5,.int .i64 7,.slice Ai 1 ci,.slice Ad 0 cd]) hs0) ∧ Aside0 (RdF kb w' T0 (.slice Ab 3 cb) [127,52,34]) ∧ Aside0 (Fr (fun _ => False) w w') :=
  (ask_go hs hq hfine3 hask3).mono fun e w' ⟨Ai, ci, Ad, cd, Ab, cb, h⟩ => ⟨Ai, ci, Ad, cd, Ab, cb, h⟩
theorem hask4 : mAsk hs0 [153, 1] = (hs0, [127, 153, 17], false) := by kernel_rfl
theorem hfine4 : Fine hs0 [153, 1] := ⟨by decide, by decide, by decide, by decide, by decide, by unfold Byt; decide⟩
theorem hstep4 {w : World} {vs vq : Value} (hs : RdS w T0 vs hs0) (hq : RdF kb w T0 vq [153,1]) : Calls Try.prog 41 #[vs,vq] w fun e w' => ∃ Ai ci Ad cd Ab cb,e = .returned (.tuple #[.agg #[.int .i64 1,.bool false,.int .i64 (-1),.int .i64 0,.int .i64 0,.int .i64 5,.int .i64 7,.slice Ai 1 ci,.slice Ad 0 cd],.slice Ab 3 cb,.bool false]) ∧ Aside0 (RdS w' T0 (.agg #[.int .i64 1,.bool false,.int .i64 (-1),.int .i64 0,.int .i64 0,.int .i64 5,.int .i64 7,.slice Ai 1 ci,.slice Ad 0 cd]) hs0) ∧ Aside0 (RdF kb w' T0 (.slice Ab 3 cb) [127,153,17]) ∧ Aside0 (Fr (fun _ => False) w w') :=
  (ask_go hs hq hfine4 hask4).mono fun e w' ⟨Ai, ci, Ad, cd, Ab, cb, h⟩ => ⟨Ai, ci, Ad, cd, Ab, cb, h⟩
theorem hask5 : mAsk hs0 [34, 1, 2] = (hs0, [98, 1, 2, 1, 2], false) := by kernel_rfl
theorem hfine5 : Fine hs0 [34, 1, 2] := ⟨by decide, by decide, by decide, by decide, by decide, by unfold Byt; decide⟩
theorem hstep5 {w : World} {vs vq : Value} (hs : RdS w T0 vs hs0) (hq : RdF kb w T0 vq [34,1,2]) : Calls Try.prog 41 #[vs,vq] w fun e w' => ∃ Ai ci Ad cd Ab cb,e = .returned (.tuple #[.agg #[.int .i64 1,.bool false,.int .i64 (-1),.int .i64 0,.int .i64 0,.int .i64 5,.int .i64 7,.slice Ai 1 ci,.slice Ad 0 cd],.slice Ab 5 cb,.bool false]) ∧ Aside0 (RdS w' T0 (.agg #[.int .i64 1,.bool false,.int .i64 (-1),.int .i64 0,.int .i64 0,.int .i64 5,.int .i64 7,.slice Ai 1 ci,.slice Ad 0 cd]) hs0) ∧ Aside0 (RdF kb w' T0 (.slice Ab 5 cb) [98,1,2,1,2]) ∧ Aside0 (Fr (fun _ => False) w w') :=
  (ask_go hs hq hfine5 hask5).mono fun e w' ⟨Ai, ci, Ad, cd, Ab, cb, h⟩ => ⟨Ai, ci, Ad, cd, Ab, cb, h⟩
theorem hask6 : mAsk hs0 [16] = (hs0, [127, 16, 19], false) := by kernel_rfl
theorem hfine6 : Fine hs0 [16] := ⟨by decide, by decide, by decide, by decide, by decide, by unfold Byt; decide⟩
theorem hstep6 {w : World} {vs vq : Value} (hs : RdS w T0 vs hs0) (hq : RdF kb w T0 vq [16]) : Calls Try.prog 41 #[vs,vq] w fun e w' => ∃ Ai ci Ad cd Ab cb,e = .returned (.tuple #[.agg #[.int .i64 1,.bool false,.int .i64 (-1),.int .i64 0,.int .i64 0,.int .i64 5,.int .i64 7,.slice Ai 1 ci,.slice Ad 0 cd],.slice Ab 3 cb,.bool false]) ∧ Aside0 (RdS w' T0 (.agg #[.int .i64 1,.bool false,.int .i64 (-1),.int .i64 0,.int .i64 0,.int .i64 5,.int .i64 7,.slice Ai 1 ci,.slice Ad 0 cd]) hs0) ∧ Aside0 (RdF kb w' T0 (.slice Ab 3 cb) [127,16,19]) ∧ Aside0 (Fr (fun _ => False) w w') :=
  (ask_go hs hq hfine6 hask6).mono fun e w' ⟨Ai, ci, Ad, cd, Ab, cb, h⟩ => ⟨Ai, ci, Ad, cd, Ab, cb, h⟩
theorem hask7 : mAsk hs0 [39, 3, 9] = (hs0, [127, 39, 49], false) := by kernel_rfl
theorem hfine7 : Fine hs0 [39, 3, 9] := ⟨by decide, by decide, by decide, by decide, by decide, by unfold Byt; decide⟩
theorem hstep7 {w : World} {vs vq : Value} (hs : RdS w T0 vs hs0) (hq : RdF kb w T0 vq [39,3,9]) : Calls Try.prog 41 #[vs,vq] w fun e w' => ∃ Ai ci Ad cd Ab cb,e = .returned (.tuple #[.agg #[.int .i64 1,.bool false,.int .i64 (-1),.int .i64 0,.int .i64 0,.int .i64 5,.int .i64 7,.slice Ai 1 ci,.slice Ad 0 cd],.slice Ab 3 cb,.bool false]) ∧ Aside0 (RdS w' T0 (.agg #[.int .i64 1,.bool false,.int .i64 (-1),.int .i64 0,.int .i64 0,.int .i64 5,.int .i64 7,.slice Ai 1 ci,.slice Ad 0 cd]) hs0) ∧ Aside0 (RdF kb w' T0 (.slice Ab 3 cb) [127,39,49]) ∧ Aside0 (Fr (fun _ => False) w w') :=
  (ask_go hs hq hfine7 hask7).mono fun e w' ⟨Ai, ci, Ad, cd, Ab, cb, h⟩ => ⟨Ai, ci, Ad, cd, Ab, cb, h⟩
theorem hask8 : mAsk hs1 [39, 1] = (hs2, [103, 1, 0, 0, 0, 5], false) := by kernel_rfl
theorem hfine8 : Fine hs1 [39, 1] := ⟨by decide, by decide, by decide, by decide, by decide, by unfold Byt; decide⟩
theorem hstep8 {w : World} {vs vq : Value} (hs : RdS w T0 vs hs1) (hq : RdF kb w T0 vq [39,1]) : Calls Try.prog 41 #[vs,vq] w fun e w' => ∃ Ai ci Ad cd Ab cb,e = .returned (.tuple #[.agg #[.int .i64 2,.bool false,.int .i64 5,.int .i64 0,.int .i64 0,.int .i64 1022226848,.int .i64 7,.slice Ai 1 ci,.slice Ad 0 cd],.slice Ab 6 cb,.bool false]) ∧ Aside0 (RdS w' T0 (.agg #[.int .i64 2,.bool false,.int .i64 5,.int .i64 0,.int .i64 0,.int .i64 1022226848,.int .i64 7,.slice Ai 1 ci,.slice Ad 0 cd]) hs2) ∧ Aside0 (RdF kb w' T0 (.slice Ab 6 cb) [103,1,0,0,0,5]) ∧ Aside0 (Fr (fun _ => False) w w') :=
  (ask_go hs hq hfine8 hask8).mono fun e w' ⟨Ai, ci, Ad, cd, Ab, cb, h⟩ => ⟨Ai, ci, Ad, cd, Ab, cb, h⟩
theorem hask9 : mAsk hs0 [] = (hs0, [], false) := by kernel_rfl
theorem hfine9 : Fine hs0 [] := ⟨by decide, by decide, by decide, by decide, by decide, by unfold Byt; decide⟩
theorem hstep9 {w : World} {vs vq : Value} (hs : RdS w T0 vs hs0) (hq : RdF kb w T0 vq []) : Calls Try.prog 41 #[vs,vq] w fun e w' => ∃ Ai ci Ad cd Ab cb,e = .returned (.tuple #[.agg #[.int .i64 1,.bool false,.int .i64 (-1),.int .i64 0,.int .i64 0,.int .i64 5,.int .i64 7,.slice Ai 1 ci,.slice Ad 0 cd],.slice Ab 0 cb,.bool false]) ∧ Aside0 (RdS w' T0 (.agg #[.int .i64 1,.bool false,.int .i64 (-1),.int .i64 0,.int .i64 0,.int .i64 5,.int .i64 7,.slice Ai 1 ci,.slice Ad 0 cd]) hs0) ∧ Aside0 (RdF kb w' T0 (.slice Ab 0 cb) []) ∧ Aside0 (Fr (fun _ => False) w w') :=
  (ask_go hs hq hfine9 hask9).mono fun e w' ⟨Ai, ci, Ad, cd, Ab, cb, h⟩ => ⟨Ai, ci, Ad, cd, Ab, cb, h⟩
set_option maxRecDepth 100000 in
set_option maxHeartbeats 16000000 in
theorem head_calls (w : World) : Calls Try.prog 26 #[] w fun e w' => e = .returned (.bool true) ∧ Fr (fun _ => False) w w' := by
  go_enter Try.func26, Try.ntmps26
  go_wp2_with fail
  generalize hw1 : World.alloc _ _ = w1
  have hf1 : Fr (fun _ => False) w w1 := by subst hw1; exact ((Fr.refl _ w).alloc _).alloc _
  have hi1 : RdF k47 w1 T0 (.slice (some ⟨w.heap.size + 1, 0, none⟩) 1 1) hi0 := by
    subst hw1
    exact items1 (g1 := w.heap.size) (blk_alloc (blk_new w _) _) rfl rfl (by decide) (blk_new' (by show _ = (Array.push _ _).size; rw [Array.size_push]))
  have A := new_calls 7 5 hi1
  rw [hnew] at A
  refine A.mono ?_
  rintro e u ⟨v, rfl, ⟨vi, vd, rfl, hi, hd⟩, hf2⟩
  have hi := hi.top
  have hd := hd.top
  obtain ⟨Ai, ci, rfl, ki, kfi⟩ := hi
  obtain ⟨Ad, cd, rfl, kd, kfd⟩ := hd
  have HS : Aside0 (RdS u T0 (.agg #[.int .i64 1,.bool false,.int .i64 (-1),.int .i64 0,.int .i64 0,.int .i64 5,.int .i64 7,.slice Ai 1 ci,.slice Ad 0 cd]) hs0) := ⟨⟨_,_,rfl,⟨Ai,ci,rfl,ki,kfi⟩,⟨Ad,cd,rfl,kd,kfd⟩⟩⟩
  have HF := Aside0.mk (hf1.go hf2)
  clear A hw1 hf1 hi1 hf2 ki kfi kd kfd
  unfold srv hs0 hi0
  dsimp only [List.length]
  go_wp2_with fail
  generalize hw0 : World.alloc _ _ = x0
  have hf0 : Fr (fun _ => False) u x0 := by subst hw0; exact ((Fr.refl _ u).alloc _).alloc _
  have hq0 : RdF kb x0 T0 (.slice (some ⟨u.heap.size + 1,0,none⟩) 1 1) [62] := by subst hw0; exact lit_rd (blk_new' (by show _ = (Array.push _ _).size; rw [Array.size_push])) rfl rfl (by decide)
  have hb0 : x0.heap[u.heap.size]? = some (.cells #[.int .i64 1,.bool false,.int .i64 (-1),.int .i64 0,.int .i64 0,.int .i64 5,.int .i64 7,.slice Ai 1 ci,.slice Ad 0 cd] 25 (0,0)) := by subst hw0; exact blk_alloc (blk_new u _) _
  have A := hstep0 (HS.out.go hf0) hq0
  refine A.mono ?_
  rintro e u0 ⟨Ai0, ci0, Ad0, cd0, Ab0, cb0, rfl, HR0, HQ0, HG0⟩
  have HBs := Aside0.mk (HG0.out.blk hb0 (fun h => h))
  clear hb0
  generalize u.heap.size = bs at *
  replace HS := Aside0.mk ((HS.out.go hf0).go HG0.out)
  replace HF := Aside0.mk ((HF.out.go hf0).go HG0.out)
  have HA_ := HR0
  clear A hw0 hf0 hq0 HG0
  have s0 : u0.cell? ⟨bs, 0, none⟩ = some (.int .i64 1) := (blk_cell HBs.out 0).trans rfl
  have s1 : u0.cell? ⟨bs, 1, none⟩ = some (.bool false) := (blk_cell HBs.out 1).trans rfl
  have s2 : u0.cell? ⟨bs, 2, none⟩ = some (.int .i64 (-1)) := (blk_cell HBs.out 2).trans rfl
  have s3 : u0.cell? ⟨bs, 3, none⟩ = some (.int .i64 0) := (blk_cell HBs.out 3).trans rfl
  have s4 : u0.cell? ⟨bs, 4, none⟩ = some (.int .i64 0) := (blk_cell HBs.out 4).trans rfl
  have s5 : u0.cell? ⟨bs, 5, none⟩ = some (.int .i64 5) := (blk_cell HBs.out 5).trans rfl
  have s6 : u0.cell? ⟨bs, 6, none⟩ = some (.int .i64 7) := (blk_cell HBs.out 6).trans rfl
  have s7 : u0.cell? ⟨bs, 7, none⟩ = some (.slice Ai 1 ci) := (blk_cell HBs.out 7).trans rfl
  have s8 : u0.cell? ⟨bs, 8, none⟩ = some (.slice Ad 0 cd) := (blk_cell HBs.out 8).trans rfl
  have hlts := blk_lt HBs.out
  go_wp2_with fail
  generalize hw1 : World.alloc _ _ = x1
  have hf1 : Fr (fun _ => False) u0 x1 := by subst hw1; exact ((Fr.refl _ u0).alloc _).alloc _
  have hq1 : RdF kb x1 T0 (.slice (some ⟨u0.heap.size + 1,0,none⟩) 2 2) [16,2] := by subst hw1; exact lit_rd (blk_new' (by show _ = (Array.push _ _).size; rw [Array.size_push])) rfl rfl (by decide)
  have hb1 : x1.heap[u0.heap.size]? = some (.cells #[.int .i64 1,.bool false,.int .i64 (-1),.int .i64 0,.int .i64 0,.int .i64 5,.int .i64 7,.slice Ai0 1 ci0,.slice Ad0 0 cd0] 25 (0,0)) := by subst hw1; exact blk_alloc (blk_new u0 _) _
  replace HBs := Aside0.mk (hf1.blk HBs.out (fun h => h))
  have A := hstep1 (HS.out.go hf1) hq1
  refine A.mono ?_
  rintro e u1 ⟨Ai1, ci1, Ad1, cd1, Ab1, cb1, rfl, HR1, HQ1, HG1⟩
  replace HBs := Aside0.mk (HG1.out.blk HBs.out (fun h => h))
  have HBa := Aside0.mk (HG1.out.blk hb1 (fun h => h))
  clear hb1
  generalize u0.heap.size = ba at *
  replace HS := Aside0.mk ((HS.out.go hf1).go HG1.out)
  replace HF := Aside0.mk ((HF.out.go hf1).go HG1.out)
  have HD_ := HR1
  replace HA_ := Aside0.mk ((HA_.out.go hf1).go HG1.out)
  replace HQ0 := Aside0.mk ((HQ0.out.go hf1).go HG1.out)
  clear A hw1 hf1 hq1 HG1 s0 s1 s2 s3 s4 s5 s6 s7 s8 hlts
  have s0 : u1.cell? ⟨bs, 0, none⟩ = some (.int .i64 1) := (blk_cell HBs.out 0).trans rfl
  have s1 : u1.cell? ⟨bs, 1, none⟩ = some (.bool false) := (blk_cell HBs.out 1).trans rfl
  have s2 : u1.cell? ⟨bs, 2, none⟩ = some (.int .i64 (-1)) := (blk_cell HBs.out 2).trans rfl
  have s3 : u1.cell? ⟨bs, 3, none⟩ = some (.int .i64 0) := (blk_cell HBs.out 3).trans rfl
  have s4 : u1.cell? ⟨bs, 4, none⟩ = some (.int .i64 0) := (blk_cell HBs.out 4).trans rfl
  have s5 : u1.cell? ⟨bs, 5, none⟩ = some (.int .i64 5) := (blk_cell HBs.out 5).trans rfl
  have s6 : u1.cell? ⟨bs, 6, none⟩ = some (.int .i64 7) := (blk_cell HBs.out 6).trans rfl
  have s7 : u1.cell? ⟨bs, 7, none⟩ = some (.slice Ai 1 ci) := (blk_cell HBs.out 7).trans rfl
  have s8 : u1.cell? ⟨bs, 8, none⟩ = some (.slice Ad 0 cd) := (blk_cell HBs.out 8).trans rfl
  have hlts := blk_lt HBs.out
  go_wp2_with fail
  generalize hw2 : World.alloc _ _ = x2
  have hf2 : Fr (fun _ => False) u1 x2 := by subst hw2; exact ((Fr.refl _ u1).alloc _).alloc _
  have hq2 : RdF kb x2 T0 (.slice (some ⟨u1.heap.size + 1,0,none⟩) 2 2) [39,1] := by subst hw2; exact lit_rd (blk_new' (by show _ = (Array.push _ _).size; rw [Array.size_push])) rfl rfl (by decide)
  have hb2 : x2.heap[u1.heap.size]? = some (.cells #[.int .i64 2,.bool false,.int .i64 (-1),.int .i64 0,.int .i64 0,.int .i64 5,.int .i64 7,.slice Ai1 1 ci1,.slice Ad1 0 cd1] 25 (0,0)) := by subst hw2; exact blk_alloc (blk_new u1 _) _
  replace HBs := Aside0.mk (hf2.blk HBs.out (fun h => h))
  replace HBa := Aside0.mk (hf2.blk HBa.out (fun h => h))
  have A := hstep2 (HS.out.go hf2) hq2
  refine A.mono ?_
  rintro e u2 ⟨Ai2, ci2, Ad2, cd2, Ab2, cb2, rfl, HR2, HQ2, HG2⟩
  replace HBs := Aside0.mk (HG2.out.blk HBs.out (fun h => h))
  replace HBa := Aside0.mk (HG2.out.blk HBa.out (fun h => h))
  have HBd := Aside0.mk (HG2.out.blk hb2 (fun h => h))
  clear hb2
  generalize u1.heap.size = bd at *
  replace HS := Aside0.mk ((HS.out.go hf2).go HG2.out)
  replace HF := Aside0.mk ((HF.out.go hf2).go HG2.out)
  replace HD_ := Aside0.mk ((HD_.out.go hf2).go HG2.out)
  replace HA_ := Aside0.mk ((HA_.out.go hf2).go HG2.out)
  replace HQ0 := Aside0.mk ((HQ0.out.go hf2).go HG2.out)
  replace HQ1 := Aside0.mk ((HQ1.out.go hf2).go HG2.out)
  clear A hw2 hf2 hq2 HG2 s0 s1 s2 s3 s4 s5 s6 s7 s8 hlts
  have s0 : u2.cell? ⟨bs, 0, none⟩ = some (.int .i64 1) := (blk_cell HBs.out 0).trans rfl
  have s1 : u2.cell? ⟨bs, 1, none⟩ = some (.bool false) := (blk_cell HBs.out 1).trans rfl
  have s2 : u2.cell? ⟨bs, 2, none⟩ = some (.int .i64 (-1)) := (blk_cell HBs.out 2).trans rfl
  have s3 : u2.cell? ⟨bs, 3, none⟩ = some (.int .i64 0) := (blk_cell HBs.out 3).trans rfl
  have s4 : u2.cell? ⟨bs, 4, none⟩ = some (.int .i64 0) := (blk_cell HBs.out 4).trans rfl
  have s5 : u2.cell? ⟨bs, 5, none⟩ = some (.int .i64 5) := (blk_cell HBs.out 5).trans rfl
  have s6 : u2.cell? ⟨bs, 6, none⟩ = some (.int .i64 7) := (blk_cell HBs.out 6).trans rfl
  have s7 : u2.cell? ⟨bs, 7, none⟩ = some (.slice Ai 1 ci) := (blk_cell HBs.out 7).trans rfl
  have s8 : u2.cell? ⟨bs, 8, none⟩ = some (.slice Ad 0 cd) := (blk_cell HBs.out 8).trans rfl
  have hlts := blk_lt HBs.out
  go_wp2_with fail
  generalize hw3 : World.alloc _ _ = x3
  have hf3 : Fr (fun _ => False) u2 x3 := by subst hw3; exact ((Fr.refl _ u2).alloc _).alloc _
  have hq3 : RdF kb x3 T0 (.slice (some ⟨u2.heap.size + 1,0,none⟩) 1 1) [52] := by subst hw3; exact lit_rd (blk_new' (by show _ = (Array.push _ _).size; rw [Array.size_push])) rfl rfl (by decide)
  replace HBs := Aside0.mk (hf3.blk HBs.out (fun h => h))
  replace HBa := Aside0.mk (hf3.blk HBa.out (fun h => h))
  replace HBd := Aside0.mk (hf3.blk HBd.out (fun h => h))
  have A := hstep3 (HS.out.go hf3) hq3
  refine A.mono ?_
  rintro e u3 ⟨Ai3, ci3, Ad3, cd3, Ab3, cb3, rfl, HR3, HQ3, HG3⟩
  replace HBs := Aside0.mk (HG3.out.blk HBs.out (fun h => h))
  replace HBa := Aside0.mk (HG3.out.blk HBa.out (fun h => h))
  replace HBd := Aside0.mk (HG3.out.blk HBd.out (fun h => h))
  replace HS := Aside0.mk ((HS.out.go hf3).go HG3.out)
  replace HF := Aside0.mk ((HF.out.go hf3).go HG3.out)
  replace HD_ := Aside0.mk ((HD_.out.go hf3).go HG3.out)
  replace HA_ := Aside0.mk ((HA_.out.go hf3).go HG3.out)
  replace HQ0 := Aside0.mk ((HQ0.out.go hf3).go HG3.out)
  replace HQ1 := Aside0.mk ((HQ1.out.go hf3).go HG3.out)
  replace HQ2 := Aside0.mk ((HQ2.out.go hf3).go HG3.out)
  clear A hw3 hf3 hq3 HG3 s0 s1 s2 s3 s4 s5 s6 s7 s8 hlts
  have s0 : u3.cell? ⟨bs, 0, none⟩ = some (.int .i64 1) := (blk_cell HBs.out 0).trans rfl
  have s1 : u3.cell? ⟨bs, 1, none⟩ = some (.bool false) := (blk_cell HBs.out 1).trans rfl
  have s2 : u3.cell? ⟨bs, 2, none⟩ = some (.int .i64 (-1)) := (blk_cell HBs.out 2).trans rfl
  have s3 : u3.cell? ⟨bs, 3, none⟩ = some (.int .i64 0) := (blk_cell HBs.out 3).trans rfl
  have s4 : u3.cell? ⟨bs, 4, none⟩ = some (.int .i64 0) := (blk_cell HBs.out 4).trans rfl
  have s5 : u3.cell? ⟨bs, 5, none⟩ = some (.int .i64 5) := (blk_cell HBs.out 5).trans rfl
  have s6 : u3.cell? ⟨bs, 6, none⟩ = some (.int .i64 7) := (blk_cell HBs.out 6).trans rfl
  have s7 : u3.cell? ⟨bs, 7, none⟩ = some (.slice Ai 1 ci) := (blk_cell HBs.out 7).trans rfl
  have s8 : u3.cell? ⟨bs, 8, none⟩ = some (.slice Ad 0 cd) := (blk_cell HBs.out 8).trans rfl
  have hlts := blk_lt HBs.out
  go_wp2_with fail
  generalize hw4 : World.alloc _ _ = x4
  have hf4 : Fr (fun _ => False) u3 x4 := by subst hw4; exact ((Fr.refl _ u3).alloc _).alloc _
  have hq4 : RdF kb x4 T0 (.slice (some ⟨u3.heap.size + 1,0,none⟩) 2 2) [153,1] := by subst hw4; exact lit_rd (blk_new' (by show _ = (Array.push _ _).size; rw [Array.size_push])) rfl rfl (by decide)
  replace HBs := Aside0.mk (hf4.blk HBs.out (fun h => h))
  replace HBa := Aside0.mk (hf4.blk HBa.out (fun h => h))
  replace HBd := Aside0.mk (hf4.blk HBd.out (fun h => h))
  have A := hstep4 (HS.out.go hf4) hq4
  refine A.mono ?_
  rintro e u4 ⟨Ai4, ci4, Ad4, cd4, Ab4, cb4, rfl, HR4, HQ4, HG4⟩
  replace HBs := Aside0.mk (HG4.out.blk HBs.out (fun h => h))
  replace HBa := Aside0.mk (HG4.out.blk HBa.out (fun h => h))
  replace HBd := Aside0.mk (HG4.out.blk HBd.out (fun h => h))
  replace HS := Aside0.mk ((HS.out.go hf4).go HG4.out)
  replace HF := Aside0.mk ((HF.out.go hf4).go HG4.out)
  replace HD_ := Aside0.mk ((HD_.out.go hf4).go HG4.out)
  replace HA_ := Aside0.mk ((HA_.out.go hf4).go HG4.out)
  replace HQ0 := Aside0.mk ((HQ0.out.go hf4).go HG4.out)
  replace HQ1 := Aside0.mk ((HQ1.out.go hf4).go HG4.out)
  replace HQ2 := Aside0.mk ((HQ2.out.go hf4).go HG4.out)
  replace HQ3 := Aside0.mk ((HQ3.out.go hf4).go HG4.out)
  clear A hw4 hf4 hq4 HG4 s0 s1 s2 s3 s4 s5 s6 s7 s8 hlts
  have s0 : u4.cell? ⟨bs, 0, none⟩ = some (.int .i64 1) := (blk_cell HBs.out 0).trans rfl
  have s1 : u4.cell? ⟨bs, 1, none⟩ = some (.bool false) := (blk_cell HBs.out 1).trans rfl
  have s2 : u4.cell? ⟨bs, 2, none⟩ = some (.int .i64 (-1)) := (blk_cell HBs.out 2).trans rfl
  have s3 : u4.cell? ⟨bs, 3, none⟩ = some (.int .i64 0) := (blk_cell HBs.out 3).trans rfl
  have s4 : u4.cell? ⟨bs, 4, none⟩ = some (.int .i64 0) := (blk_cell HBs.out 4).trans rfl
  have s5 : u4.cell? ⟨bs, 5, none⟩ = some (.int .i64 5) := (blk_cell HBs.out 5).trans rfl
  have s6 : u4.cell? ⟨bs, 6, none⟩ = some (.int .i64 7) := (blk_cell HBs.out 6).trans rfl
  have s7 : u4.cell? ⟨bs, 7, none⟩ = some (.slice Ai 1 ci) := (blk_cell HBs.out 7).trans rfl
  have s8 : u4.cell? ⟨bs, 8, none⟩ = some (.slice Ad 0 cd) := (blk_cell HBs.out 8).trans rfl
  have hlts := blk_lt HBs.out
  go_wp2_with fail
  generalize hw5 : World.alloc _ _ = x5
  have hf5 : Fr (fun _ => False) u4 x5 := by subst hw5; exact ((Fr.refl _ u4).alloc _).alloc _
  have hq5 : RdF kb x5 T0 (.slice (some ⟨u4.heap.size + 1,0,none⟩) 3 3) [34,1,2] := by subst hw5; exact lit_rd (blk_new' (by show _ = (Array.push _ _).size; rw [Array.size_push])) rfl rfl (by decide)
  replace HBs := Aside0.mk (hf5.blk HBs.out (fun h => h))
  replace HBa := Aside0.mk (hf5.blk HBa.out (fun h => h))
  replace HBd := Aside0.mk (hf5.blk HBd.out (fun h => h))
  have A := hstep5 (HS.out.go hf5) hq5
  refine A.mono ?_
  rintro e u5 ⟨Ai5, ci5, Ad5, cd5, Ab5, cb5, rfl, HR5, HQ5, HG5⟩
  replace HBs := Aside0.mk (HG5.out.blk HBs.out (fun h => h))
  replace HBa := Aside0.mk (HG5.out.blk HBa.out (fun h => h))
  replace HBd := Aside0.mk (HG5.out.blk HBd.out (fun h => h))
  replace HS := Aside0.mk ((HS.out.go hf5).go HG5.out)
  replace HF := Aside0.mk ((HF.out.go hf5).go HG5.out)
  replace HD_ := Aside0.mk ((HD_.out.go hf5).go HG5.out)
  replace HA_ := Aside0.mk ((HA_.out.go hf5).go HG5.out)
  replace HQ0 := Aside0.mk ((HQ0.out.go hf5).go HG5.out)
  replace HQ1 := Aside0.mk ((HQ1.out.go hf5).go HG5.out)
  replace HQ2 := Aside0.mk ((HQ2.out.go hf5).go HG5.out)
  replace HQ3 := Aside0.mk ((HQ3.out.go hf5).go HG5.out)
  replace HQ4 := Aside0.mk ((HQ4.out.go hf5).go HG5.out)
  clear A hw5 hf5 hq5 HG5 s0 s1 s2 s3 s4 s5 s6 s7 s8 hlts
  have s0 : u5.cell? ⟨bs, 0, none⟩ = some (.int .i64 1) := (blk_cell HBs.out 0).trans rfl
  have s1 : u5.cell? ⟨bs, 1, none⟩ = some (.bool false) := (blk_cell HBs.out 1).trans rfl
  have s2 : u5.cell? ⟨bs, 2, none⟩ = some (.int .i64 (-1)) := (blk_cell HBs.out 2).trans rfl
  have s3 : u5.cell? ⟨bs, 3, none⟩ = some (.int .i64 0) := (blk_cell HBs.out 3).trans rfl
  have s4 : u5.cell? ⟨bs, 4, none⟩ = some (.int .i64 0) := (blk_cell HBs.out 4).trans rfl
  have s5 : u5.cell? ⟨bs, 5, none⟩ = some (.int .i64 5) := (blk_cell HBs.out 5).trans rfl
  have s6 : u5.cell? ⟨bs, 6, none⟩ = some (.int .i64 7) := (blk_cell HBs.out 6).trans rfl
  have s7 : u5.cell? ⟨bs, 7, none⟩ = some (.slice Ai 1 ci) := (blk_cell HBs.out 7).trans rfl
  have s8 : u5.cell? ⟨bs, 8, none⟩ = some (.slice Ad 0 cd) := (blk_cell HBs.out 8).trans rfl
  have hlts := blk_lt HBs.out
  go_wp2_with fail
  generalize hw6 : World.alloc _ _ = x6
  have hf6 : Fr (fun _ => False) u5 x6 := by subst hw6; exact ((Fr.refl _ u5).alloc _).alloc _
  have hq6 : RdF kb x6 T0 (.slice (some ⟨u5.heap.size + 1,0,none⟩) 1 1) [16] := by subst hw6; exact lit_rd (blk_new' (by show _ = (Array.push _ _).size; rw [Array.size_push])) rfl rfl (by decide)
  replace HBs := Aside0.mk (hf6.blk HBs.out (fun h => h))
  replace HBa := Aside0.mk (hf6.blk HBa.out (fun h => h))
  replace HBd := Aside0.mk (hf6.blk HBd.out (fun h => h))
  have A := hstep6 (HS.out.go hf6) hq6
  refine A.mono ?_
  rintro e u6 ⟨Ai6, ci6, Ad6, cd6, Ab6, cb6, rfl, HR6, HQ6, HG6⟩
  replace HBs := Aside0.mk (HG6.out.blk HBs.out (fun h => h))
  replace HBa := Aside0.mk (HG6.out.blk HBa.out (fun h => h))
  replace HBd := Aside0.mk (HG6.out.blk HBd.out (fun h => h))
  replace HS := Aside0.mk ((HS.out.go hf6).go HG6.out)
  replace HF := Aside0.mk ((HF.out.go hf6).go HG6.out)
  replace HD_ := Aside0.mk ((HD_.out.go hf6).go HG6.out)
  replace HA_ := Aside0.mk ((HA_.out.go hf6).go HG6.out)
  replace HQ0 := Aside0.mk ((HQ0.out.go hf6).go HG6.out)
  replace HQ1 := Aside0.mk ((HQ1.out.go hf6).go HG6.out)
  replace HQ2 := Aside0.mk ((HQ2.out.go hf6).go HG6.out)
  replace HQ3 := Aside0.mk ((HQ3.out.go hf6).go HG6.out)
  replace HQ4 := Aside0.mk ((HQ4.out.go hf6).go HG6.out)
  replace HQ5 := Aside0.mk ((HQ5.out.go hf6).go HG6.out)
  clear A hw6 hf6 hq6 HG6 s0 s1 s2 s3 s4 s5 s6 s7 s8 hlts
  have s0 : u6.cell? ⟨bs, 0, none⟩ = some (.int .i64 1) := (blk_cell HBs.out 0).trans rfl
  have s1 : u6.cell? ⟨bs, 1, none⟩ = some (.bool false) := (blk_cell HBs.out 1).trans rfl
  have s2 : u6.cell? ⟨bs, 2, none⟩ = some (.int .i64 (-1)) := (blk_cell HBs.out 2).trans rfl
  have s3 : u6.cell? ⟨bs, 3, none⟩ = some (.int .i64 0) := (blk_cell HBs.out 3).trans rfl
  have s4 : u6.cell? ⟨bs, 4, none⟩ = some (.int .i64 0) := (blk_cell HBs.out 4).trans rfl
  have s5 : u6.cell? ⟨bs, 5, none⟩ = some (.int .i64 5) := (blk_cell HBs.out 5).trans rfl
  have s6 : u6.cell? ⟨bs, 6, none⟩ = some (.int .i64 7) := (blk_cell HBs.out 6).trans rfl
  have s7 : u6.cell? ⟨bs, 7, none⟩ = some (.slice Ai 1 ci) := (blk_cell HBs.out 7).trans rfl
  have s8 : u6.cell? ⟨bs, 8, none⟩ = some (.slice Ad 0 cd) := (blk_cell HBs.out 8).trans rfl
  have hlts := blk_lt HBs.out
  go_wp2_with fail
  generalize hw7 : World.alloc _ _ = x7
  have hf7 : Fr (fun _ => False) u6 x7 := by subst hw7; exact ((Fr.refl _ u6).alloc _).alloc _
  have hq7 : RdF kb x7 T0 (.slice (some ⟨u6.heap.size + 1,0,none⟩) 3 3) [39,3,9] := by subst hw7; exact lit_rd (blk_new' (by show _ = (Array.push _ _).size; rw [Array.size_push])) rfl rfl (by decide)
  replace HBs := Aside0.mk (hf7.blk HBs.out (fun h => h))
  replace HBa := Aside0.mk (hf7.blk HBa.out (fun h => h))
  replace HBd := Aside0.mk (hf7.blk HBd.out (fun h => h))
  have A := hstep7 (HS.out.go hf7) hq7
  refine A.mono ?_
  rintro e u7 ⟨Ai7, ci7, Ad7, cd7, Ab7, cb7, rfl, HR7, HQ7, HG7⟩
  replace HBs := Aside0.mk (HG7.out.blk HBs.out (fun h => h))
  replace HBa := Aside0.mk (HG7.out.blk HBa.out (fun h => h))
  replace HBd := Aside0.mk (HG7.out.blk HBd.out (fun h => h))
  replace HS := Aside0.mk ((HS.out.go hf7).go HG7.out)
  replace HF := Aside0.mk ((HF.out.go hf7).go HG7.out)
  replace HD_ := Aside0.mk ((HD_.out.go hf7).go HG7.out)
  replace HA_ := Aside0.mk ((HA_.out.go hf7).go HG7.out)
  replace HQ0 := Aside0.mk ((HQ0.out.go hf7).go HG7.out)
  replace HQ1 := Aside0.mk ((HQ1.out.go hf7).go HG7.out)
  replace HQ2 := Aside0.mk ((HQ2.out.go hf7).go HG7.out)
  replace HQ3 := Aside0.mk ((HQ3.out.go hf7).go HG7.out)
  replace HQ4 := Aside0.mk ((HQ4.out.go hf7).go HG7.out)
  replace HQ5 := Aside0.mk ((HQ5.out.go hf7).go HG7.out)
  replace HQ6 := Aside0.mk ((HQ6.out.go hf7).go HG7.out)
  clear A hw7 hf7 hq7 HG7 s0 s1 s2 s3 s4 s5 s6 s7 s8 hlts
  have d0 : u7.cell? ⟨bd, 0, none⟩ = some (.int .i64 2) := (blk_cell HBd.out 0).trans rfl
  have d1 : u7.cell? ⟨bd, 1, none⟩ = some (.bool false) := (blk_cell HBd.out 1).trans rfl
  have d2 : u7.cell? ⟨bd, 2, none⟩ = some (.int .i64 (-1)) := (blk_cell HBd.out 2).trans rfl
  have d3 : u7.cell? ⟨bd, 3, none⟩ = some (.int .i64 0) := (blk_cell HBd.out 3).trans rfl
  have d4 : u7.cell? ⟨bd, 4, none⟩ = some (.int .i64 0) := (blk_cell HBd.out 4).trans rfl
  have d5 : u7.cell? ⟨bd, 5, none⟩ = some (.int .i64 5) := (blk_cell HBd.out 5).trans rfl
  have d6 : u7.cell? ⟨bd, 6, none⟩ = some (.int .i64 7) := (blk_cell HBd.out 6).trans rfl
  have d7 : u7.cell? ⟨bd, 7, none⟩ = some (.slice Ai1 1 ci1) := (blk_cell HBd.out 7).trans rfl
  have d8 : u7.cell? ⟨bd, 8, none⟩ = some (.slice Ad1 0 cd1) := (blk_cell HBd.out 8).trans rfl
  have hltd := blk_lt HBd.out
  go_wp2_with fail
  generalize hw8 : World.alloc _ _ = x8
  have hf8 : Fr (fun _ => False) u7 x8 := by subst hw8; exact ((Fr.refl _ u7).alloc _).alloc _
  have hq8 : RdF kb x8 T0 (.slice (some ⟨u7.heap.size + 1,0,none⟩) 2 2) [39,1] := by subst hw8; exact lit_rd (blk_new' (by show _ = (Array.push _ _).size; rw [Array.size_push])) rfl rfl (by decide)
  replace HBs := Aside0.mk (hf8.blk HBs.out (fun h => h))
  replace HBa := Aside0.mk (hf8.blk HBa.out (fun h => h))
  replace HBd := Aside0.mk (hf8.blk HBd.out (fun h => h))
  have A := hstep8 (HD_.out.go hf8) hq8
  refine A.mono ?_
  rintro e u8 ⟨Ai8, ci8, Ad8, cd8, Ab8, cb8, rfl, HR8, HQ8, HG8⟩
  replace HBs := Aside0.mk (HG8.out.blk HBs.out (fun h => h))
  replace HBa := Aside0.mk (HG8.out.blk HBa.out (fun h => h))
  replace HBd := Aside0.mk (HG8.out.blk HBd.out (fun h => h))
  replace HS := Aside0.mk ((HS.out.go hf8).go HG8.out)
  replace HF := Aside0.mk ((HF.out.go hf8).go HG8.out)
  replace HD_ := Aside0.mk ((HD_.out.go hf8).go HG8.out)
  replace HA_ := Aside0.mk ((HA_.out.go hf8).go HG8.out)
  replace HQ0 := Aside0.mk ((HQ0.out.go hf8).go HG8.out)
  replace HQ1 := Aside0.mk ((HQ1.out.go hf8).go HG8.out)
  replace HQ2 := Aside0.mk ((HQ2.out.go hf8).go HG8.out)
  replace HQ3 := Aside0.mk ((HQ3.out.go hf8).go HG8.out)
  replace HQ4 := Aside0.mk ((HQ4.out.go hf8).go HG8.out)
  replace HQ5 := Aside0.mk ((HQ5.out.go hf8).go HG8.out)
  replace HQ6 := Aside0.mk ((HQ6.out.go hf8).go HG8.out)
  replace HQ7 := Aside0.mk ((HQ7.out.go hf8).go HG8.out)
  clear A hw8 hf8 hq8 HG8 d0 d1 d2 d3 d4 d5 d6 d7 d8 hltd
  have s0 : u8.cell? ⟨bs, 0, none⟩ = some (.int .i64 1) := (blk_cell HBs.out 0).trans rfl
  have s1 : u8.cell? ⟨bs, 1, none⟩ = some (.bool false) := (blk_cell HBs.out 1).trans rfl
  have s2 : u8.cell? ⟨bs, 2, none⟩ = some (.int .i64 (-1)) := (blk_cell HBs.out 2).trans rfl
  have s3 : u8.cell? ⟨bs, 3, none⟩ = some (.int .i64 0) := (blk_cell HBs.out 3).trans rfl
  have s4 : u8.cell? ⟨bs, 4, none⟩ = some (.int .i64 0) := (blk_cell HBs.out 4).trans rfl
  have s5 : u8.cell? ⟨bs, 5, none⟩ = some (.int .i64 5) := (blk_cell HBs.out 5).trans rfl
  have s6 : u8.cell? ⟨bs, 6, none⟩ = some (.int .i64 7) := (blk_cell HBs.out 6).trans rfl
  have s7 : u8.cell? ⟨bs, 7, none⟩ = some (.slice Ai 1 ci) := (blk_cell HBs.out 7).trans rfl
  have s8 : u8.cell? ⟨bs, 8, none⟩ = some (.slice Ad 0 cd) := (blk_cell HBs.out 8).trans rfl
  have hlts := blk_lt HBs.out
  go_wp2_with fail
  generalize hw9 : World.alloc _ _ = x9
  have hf9 : Fr (fun _ => False) u8 x9 := by subst hw9; exact (Fr.refl _ u8).alloc _
  have hq9 : RdF kb x9 T0 (.slice none 0 0) [] := RdF.nil _ _ _
  have hb9 : x9.heap[u8.heap.size]? = some (.cells #[.int .i64 2,.bool false,.int .i64 5,.int .i64 0,.int .i64 0,.int .i64 1022226848,.int .i64 7,.slice Ai8 1 ci8,.slice Ad8 0 cd8] 25 (0,0)) := by subst hw9; exact blk_new u8 _
  replace HBs := Aside0.mk (hf9.blk HBs.out (fun h => h))
  replace HBa := Aside0.mk (hf9.blk HBa.out (fun h => h))
  replace HBd := Aside0.mk (hf9.blk HBd.out (fun h => h))
  have A := hstep9 (HS.out.go hf9) hq9
  refine A.mono ?_
  rintro e u9 ⟨Ai9, ci9, Ad9, cd9, Ab9, cb9, rfl, HR9, HQ9, HG9⟩
  replace HBs := Aside0.mk (HG9.out.blk HBs.out (fun h => h))
  replace HBa := Aside0.mk (HG9.out.blk HBa.out (fun h => h))
  replace HBd := Aside0.mk (HG9.out.blk HBd.out (fun h => h))
  have HBn := Aside0.mk (HG9.out.blk hb9 (fun h => h))
  clear hb9
  generalize u8.heap.size = bn at *
  replace HS := Aside0.mk ((HS.out.go hf9).go HG9.out)
  replace HF := Aside0.mk ((HF.out.go hf9).go HG9.out)
  replace HD_ := Aside0.mk ((HD_.out.go hf9).go HG9.out)
  replace HA_ := Aside0.mk ((HA_.out.go hf9).go HG9.out)
  replace HQ0 := Aside0.mk ((HQ0.out.go hf9).go HG9.out)
  replace HQ1 := Aside0.mk ((HQ1.out.go hf9).go HG9.out)
  replace HQ2 := Aside0.mk ((HQ2.out.go hf9).go HG9.out)
  replace HQ3 := Aside0.mk ((HQ3.out.go hf9).go HG9.out)
  replace HQ4 := Aside0.mk ((HQ4.out.go hf9).go HG9.out)
  replace HQ5 := Aside0.mk ((HQ5.out.go hf9).go HG9.out)
  replace HQ6 := Aside0.mk ((HQ6.out.go hf9).go HG9.out)
  replace HQ7 := Aside0.mk ((HQ7.out.go hf9).go HG9.out)
  replace HQ8 := Aside0.mk ((HQ8.out.go hf9).go HG9.out)
  clear A hw9 hf9 hq9 HG9 s0 s1 s2 s3 s4 s5 s6 s7 s8 hlts
  go_upto_region 12 with (fail)
  generalize hw10 : World.alloc _ _ = x10
  have hf10 : Fr (fun _ => False) u9 x10 := by subst hw10; exact (Fr.refl _ u9).alloc _
  clear hw10
  replace HBs := Aside0.mk (hf10.blk HBs.out (fun h => h))
  replace HBa := Aside0.mk (hf10.blk HBa.out (fun h => h))
  replace HBd := Aside0.mk (hf10.blk HBd.out (fun h => h))
  replace HBn := Aside0.mk (hf10.blk HBn.out (fun h => h))
  replace HS := Aside0.mk (HS.out.go hf10)
  replace HF := Aside0.mk (HF.out.go hf10)
  replace HQ0 := Aside0.mk (HQ0.out.go hf10)
  replace HQ1 := Aside0.mk (HQ1.out.go hf10)
  replace HQ2 := Aside0.mk (HQ2.out.go hf10)
  replace HQ3 := Aside0.mk (HQ3.out.go hf10)
  replace HQ4 := Aside0.mk (HQ4.out.go hf10)
  replace HQ5 := Aside0.mk (HQ5.out.go hf10)
  replace HQ6 := Aside0.mk (HQ6.out.go hf10)
  replace HQ7 := Aside0.mk (HQ7.out.go hf10)
  replace HQ8 := Aside0.mk (HQ8.out.go hf10)
  replace HA_ := Aside0.mk (HA_.out.go hf10)
  have s0 : x10.cell? ⟨bs, 0, none⟩ = some (.int .i64 1) := (blk_cell HBs.out 0).trans rfl
  have s1 : x10.cell? ⟨bs, 1, none⟩ = some (.bool false) := (blk_cell HBs.out 1).trans rfl
  have s2 : x10.cell? ⟨bs, 2, none⟩ = some (.int .i64 (-1)) := (blk_cell HBs.out 2).trans rfl
  have s3 : x10.cell? ⟨bs, 3, none⟩ = some (.int .i64 0) := (blk_cell HBs.out 3).trans rfl
  have s4 : x10.cell? ⟨bs, 4, none⟩ = some (.int .i64 0) := (blk_cell HBs.out 4).trans rfl
  have s5 : x10.cell? ⟨bs, 5, none⟩ = some (.int .i64 5) := (blk_cell HBs.out 5).trans rfl
  have s6 : x10.cell? ⟨bs, 6, none⟩ = some (.int .i64 7) := (blk_cell HBs.out 6).trans rfl
  have s7 : x10.cell? ⟨bs, 7, none⟩ = some (.slice Ai 1 ci) := (blk_cell HBs.out 7).trans rfl
  have s8 : x10.cell? ⟨bs, 8, none⟩ = some (.slice Ad 0 cd) := (blk_cell HBs.out 8).trans rfl
  have a0 : x10.cell? ⟨ba, 0, none⟩ = some (.int .i64 1) := (blk_cell HBa.out 0).trans rfl
  have a1 : x10.cell? ⟨ba, 1, none⟩ = some (.bool false) := (blk_cell HBa.out 1).trans rfl
  have a2 : x10.cell? ⟨ba, 2, none⟩ = some (.int .i64 (-1)) := (blk_cell HBa.out 2).trans rfl
  have a3 : x10.cell? ⟨ba, 3, none⟩ = some (.int .i64 0) := (blk_cell HBa.out 3).trans rfl
  have a4 : x10.cell? ⟨ba, 4, none⟩ = some (.int .i64 0) := (blk_cell HBa.out 4).trans rfl
  have a5 : x10.cell? ⟨ba, 5, none⟩ = some (.int .i64 5) := (blk_cell HBa.out 5).trans rfl
  have a6 : x10.cell? ⟨ba, 6, none⟩ = some (.int .i64 7) := (blk_cell HBa.out 6).trans rfl
  have a7 : x10.cell? ⟨ba, 7, none⟩ = some (.slice Ai0 1 ci0) := (blk_cell HBa.out 7).trans rfl
  have a8 : x10.cell? ⟨ba, 8, none⟩ = some (.slice Ad0 0 cd0) := (blk_cell HBa.out 8).trans rfl
  have c0 : (convert 31 9 (.slice Ab0 1 cb0)).run Try.prog x10 = .ok (.string ⟨#[126]⟩) x10 := str_of HQ0.out.now
  go_wp2_with fail
  refine (same22_calls HA_.out HS.out).mono ?_
  rintro e y1 ⟨rfl, hg1⟩
  clear s0 s1 s2 s3 s4 s5 s6 s7 s8 a0 a1 a2 a3 a4 a5 a6 a7 a8 c0 hf10
  replace HBs := Aside0.mk (hg1.blk HBs.out (fun h => h))
  replace HBa := Aside0.mk (hg1.blk HBa.out (fun h => h))
  replace HBd := Aside0.mk (hg1.blk HBd.out (fun h => h))
  replace HBn := Aside0.mk (hg1.blk HBn.out (fun h => h))
  replace HS := Aside0.mk (HS.out.go hg1)
  replace HF := Aside0.mk (HF.out.go hg1)
  replace HQ0 := Aside0.mk (HQ0.out.go hg1)
  replace HQ1 := Aside0.mk (HQ1.out.go hg1)
  replace HQ2 := Aside0.mk (HQ2.out.go hg1)
  replace HQ3 := Aside0.mk (HQ3.out.go hg1)
  replace HQ4 := Aside0.mk (HQ4.out.go hg1)
  replace HQ5 := Aside0.mk (HQ5.out.go hg1)
  replace HQ6 := Aside0.mk (HQ6.out.go hg1)
  replace HQ7 := Aside0.mk (HQ7.out.go hg1)
  replace HQ8 := Aside0.mk (HQ8.out.go hg1)
  have s0 : y1.cell? ⟨bs, 0, none⟩ = some (.int .i64 1) := (blk_cell HBs.out 0).trans rfl
  have s1 : y1.cell? ⟨bs, 1, none⟩ = some (.bool false) := (blk_cell HBs.out 1).trans rfl
  have s2 : y1.cell? ⟨bs, 2, none⟩ = some (.int .i64 (-1)) := (blk_cell HBs.out 2).trans rfl
  have s3 : y1.cell? ⟨bs, 3, none⟩ = some (.int .i64 0) := (blk_cell HBs.out 3).trans rfl
  have s4 : y1.cell? ⟨bs, 4, none⟩ = some (.int .i64 0) := (blk_cell HBs.out 4).trans rfl
  have s5 : y1.cell? ⟨bs, 5, none⟩ = some (.int .i64 5) := (blk_cell HBs.out 5).trans rfl
  have s6 : y1.cell? ⟨bs, 6, none⟩ = some (.int .i64 7) := (blk_cell HBs.out 6).trans rfl
  have s7 : y1.cell? ⟨bs, 7, none⟩ = some (.slice Ai 1 ci) := (blk_cell HBs.out 7).trans rfl
  have s8 : y1.cell? ⟨bs, 8, none⟩ = some (.slice Ad 0 cd) := (blk_cell HBs.out 8).trans rfl
  have d0 : y1.cell? ⟨bd, 0, none⟩ = some (.int .i64 2) := (blk_cell HBd.out 0).trans rfl
  have n2 : y1.cell? ⟨bn, 2, none⟩ = some (.int .i64 5) := (blk_cell HBn.out 2).trans rfl
  have c1 : (convert 31 9 (.slice Ab1 2 cb1)).run Try.prog y1 = .ok (.string ⟨#[80, 2]⟩) y1 := str_of HQ1.out.now
  have c2 : (convert 31 9 (.slice Ab2 3 cb2)).run Try.prog y1 = .ok (.string ⟨#[127, 39, 34]⟩) y1 := str_of HQ2.out.now
  have c3 : (convert 31 9 (.slice Ab3 3 cb3)).run Try.prog y1 = .ok (.string ⟨#[127, 52, 34]⟩) y1 := str_of HQ3.out.now
  have c4 : (convert 31 9 (.slice Ab4 3 cb4)).run Try.prog y1 = .ok (.string ⟨#[127, 153, 17]⟩) y1 := str_of HQ4.out.now
  have c5 : (convert 31 9 (.slice Ab5 5 cb5)).run Try.prog y1 = .ok (.string ⟨#[98, 1, 2, 1, 2]⟩) y1 := str_of HQ5.out.now
  have c6 : (convert 31 9 (.slice Ab6 3 cb6)).run Try.prog y1 = .ok (.string ⟨#[127, 16, 19]⟩) y1 := str_of HQ6.out.now
  have c7 : (convert 31 9 (.slice Ab7 3 cb7)).run Try.prog y1 = .ok (.string ⟨#[127, 39, 49]⟩) y1 := str_of HQ7.out.now
  have c8 : (convert 31 9 (.slice Ab8 6 cb8)).run Try.prog y1 = .ok (.string ⟨#[103, 1, 0, 0, 0, 5]⟩) y1 := str_of HQ8.out.now
  go_wp2_with fail
  refine (right_yes (s := hs0) HS.out 5 right_head).mono ?_
  rintro e y2 ⟨rfl, hg2⟩
  clear s0 s1 s2 s3 s4 s5 s6 s7 s8 d0 n2 c1 c2 c3 c4 c5 c6 c7 c8 hg1
  replace HBs := Aside0.mk (hg2.blk HBs.out (fun h => h))
  replace HS := Aside0.mk (HS.out.go hg2)
  replace HF := Aside0.mk (HF.out.go hg2)
  go_wp2_with fail
  refine (right_zero _).mono ?_
  rintro e y3 ⟨rfl, hg3⟩
  replace HBs := Aside0.mk (hg3.blk HBs.out (fun h => h))
  replace HS := Aside0.mk (HS.out.go hg3)
  replace HF := Aside0.mk (HF.out.go hg3)
  go_wp2_with fail
  refine (deny_calls 308 34 _).mono ?_
  rintro e y4 ⟨v, rfl, hv, hg4⟩
  have hv := hv.top
  have c9 : (convert 31 9 v).run Try.prog y4 = .ok (.string ⟨#[127, 52, 34]⟩) y4 := str_of hv.now
  replace HBs := Aside0.mk (hg4.blk HBs.out (fun h => h))
  replace HS := Aside0.mk (HS.out.go hg4)
  replace HF := Aside0.mk (HF.out.go hg4)
  have s0 : y4.cell? ⟨bs, 0, none⟩ = some (.int .i64 1) := (blk_cell HBs.out 0).trans rfl
  have s1 : y4.cell? ⟨bs, 1, none⟩ = some (.bool false) := (blk_cell HBs.out 1).trans rfl
  have s2 : y4.cell? ⟨bs, 2, none⟩ = some (.int .i64 (-1)) := (blk_cell HBs.out 2).trans rfl
  have s3 : y4.cell? ⟨bs, 3, none⟩ = some (.int .i64 0) := (blk_cell HBs.out 3).trans rfl
  have s4 : y4.cell? ⟨bs, 4, none⟩ = some (.int .i64 0) := (blk_cell HBs.out 4).trans rfl
  have s5 : y4.cell? ⟨bs, 5, none⟩ = some (.int .i64 5) := (blk_cell HBs.out 5).trans rfl
  have s6 : y4.cell? ⟨bs, 6, none⟩ = some (.int .i64 7) := (blk_cell HBs.out 6).trans rfl
  have s7 : y4.cell? ⟨bs, 7, none⟩ = some (.slice Ai 1 ci) := (blk_cell HBs.out 7).trans rfl
  have s8 : y4.cell? ⟨bs, 8, none⟩ = some (.slice Ad 0 cd) := (blk_cell HBs.out 8).trans rfl
  go_wp2_with fail
  refine (key_calls 0 0 _).mono ?_
  rintro e y5 ⟨rfl, rfl⟩
  rw [show key 0 0 = 0 by decide +kernel]
  go_wp2_with fail
  refine (dTick_calls (n := 3) HS.out (by decide) (by decide)).mono ?_
  rintro e y6 ⟨v6, rfl, ⟨vi6, vd6, e6, hi6, hd6⟩, hg6⟩
  obtain ⟨Ai6, ci6, ei6, -, -⟩ := hi6
  obtain ⟨Ad6, cd6, ed6, -, -⟩ := hd6
  subst ei6 ed6
  have e7 : v6 = .agg #[.int .i64 1,.bool false,.int .i64 (-1),.int .i64 0,.int .i64 3,.int .i64 5,.int .i64 7,.slice Ai6 1 ci6,.slice Ad6 0 cd6] := by rw [e6,show ticks (3 : Int).toNat hs0 = ⟨1,false, -1,0,3,5,7,hi0,[]⟩ by kernel_rfl]; rfl
  subst e7
  clear e6
  have hfld : ∀ W,(Instr.field 25 (.agg #[.int .i64 1,.bool false,.int .i64 (-1),.int .i64 0,.int .i64 3,.int .i64 5,.int .i64 7,.slice Ai6 1 ci6,.slice Ad6 0 cd6]) 4).run Try.prog W = .ok (.int .i64 3) W := fun W => field25_4 W
  go_wp2
  go_ret
  exact ⟨rfl, HF.out.go hg6⟩
end Go.Proofs.Ph
/- A key has 32 bits, and unlike seeds have unlike keys of one secret: plain numbers. No condition. -/
namespace Go.Proofs.Ph
open Go Go.RowKit
end Go.Proofs.Ph
