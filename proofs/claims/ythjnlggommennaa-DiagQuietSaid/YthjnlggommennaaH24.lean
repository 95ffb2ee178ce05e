/- Part 25 of the proof of DiagHands, for every input: R4. No condition. -/
import Derived.Test.YthjnlggommennaaH20
set_option linter.unusedVariables false
set_option linter.unusedSimpArgs false
set_option linter.unusedSectionVars false
/- diag.Tick. No condition. -/
namespace Go.Proofs.Ph
open Go Go.RowKit Go.Proofs.YthjnlggommennaaW.PrintWords
section
variable {w : World} {P : Nat → Prop}
set_option maxRecDepth 100000 in
set_option maxHeartbeats 4000000 in
theorem dTick_few {s : S25} {vs : Value} {n : Int} (hs : RdS w P vs s) (h0 : 0 ≤ s.f4 ∧ s.f4 ≤ 51) (h1 : 0 ≤ s.f3 ∧ s.f3 ≤ 12) (hn : n ≤ 60) : Calls Try.prog 38 #[vs,.int .i64 n] w (RetP w P (ticks (n.toNat) s)) := by
  obtain ⟨vi, vd, rfl, hi, hd⟩ := hs
  have HI := Aside0.mk hi.bound
  have HD := Aside0.mk hd.bound
  obtain ⟨Ai, ci, ei, -, -⟩ := hi
  obtain ⟨Ad, cd, ed, -, -⟩ := hd
  subst ei ed
  have H0 := Aside0.mk h0
  have H1 := Aside0.mk h1
  unfold srv
  obtain ⟨r, er⟩ : ∃ r, r = ticks (n.toNat) s := ⟨_, rfl⟩
  rw [← er]
  have ER := Aside0.mk er
  clear h0 h1 er
  go_enter Try.func38, Try.ntmps38
  go_wp2
  generalize hw2 : World.alloc _ _ = w2
  have hf2 : Fr (fun _ => False) w w2 := by subst hw2; exact ((Fr.refl _ w).alloc _).alloc _
  have hb1 : SB w2 (fun k => P k ∧ k < w.heap.size) w.heap.size s := by subst hw2; exact ⟨_,_,blk_alloc (blk_new w _) _,HI.out.step (fun k hk hlt => (((Fr.refl (fun _ => False) w).alloc _).alloc _).block k hlt (fun h => h)),HD.out.step (fun k hk hlt => (((Fr.refl (fun _ => False) w).alloc _).alloc _).block k hlt (fun h => h))⟩
  have hb2 : w2.heap[w.heap.size + 1]? = some (.cells #[.int .i64 0,.bool false,.int .i64 0,.int .i64 0,.int .i64 0,.int .i64 0,.int .i64 0,.slice none 0 0,.slice none 0 0] 25 (0,0)) := by subst hw2; exact blk_new' (by show _ = (Array.push _ _).size; rw [Array.size_push])
  have hlt2 := blk_lt hb2
  have HB1 := Aside0.mk hb1
  have HB2 := Aside0.mk hb2
  clear hw2 hb1 hb2
  go_loopw [7] (fun t wr => ∃ k : Nat,k ≤ 60 ∧ (k ≤ n.toNat) ∧ t = .int .i64 k ∧ Aside0 (SB wr (fun k => P k ∧ k < w.heap.size) w.heap.size (ticks k s)) ∧ Aside0 (Fr (fun i => i = w.heap.size) w2 wr)) (fun t _ => 60 - (intOf t).toNat)
  case atStart => exact ⟨0, by omega, by omega, rfl, HB1, ⟨Fr.refl _ _⟩⟩
  case round =>
    obtain ⟨k, hk, hkn, rfl, hS, hD⟩ := hrel
    obtain ⟨s5, es5⟩ : ∃ s5, s5 = ticks k s := ⟨_, rfl⟩
    have hr5 := ticks_range H0.out H1.out k
    rw [← es5] at hS hr5
    have ES5 := Aside0.mk es5
    obtain ⟨vi5, vd5, hb5, hi5, hd5⟩ := hS.out
    have HI5 := Aside0.mk hi5
    have HD5 := Aside0.mk hd5
    obtain ⟨Ai5, ci5, ei5, -, -⟩ := hi5
    obtain ⟨Ad5, cd5, ed5, -, -⟩ := hd5
    subst ei5 ed5
    have HB5 := Aside0.mk hb5
    have hlt5 := blk_lt hb5
    have hb2r := hD.out.blk HB2.out (by show ¬ _ = w.heap.size; omega)
    have HB2r := Aside0.mk hb2r
    obtain ⟨f0, f1, f2, f3, f4, f5, f6, f7, f8⟩ := s5
    dsimp only at hr5 hb5 HI5 HD5 HB5
    clear es5 hS hb2r
    obtain ⟨⟨h0a, h0b⟩, h1a, h1b⟩ := hr5
    by_cases hlt : (k : Int) < n
    · have hcase : (f4 ≤ 49 ∧ f3 ≤ 2) ∨ (f4 ≤ 49 ∧ f3 = 3) ∨ (f4 ≤ 49 ∧ 3 < f3) ∨ (f4 = 50 ∧ f3 ≤ 2) ∨ (f4 = 50 ∧ f3 = 3) ∨ (f4 = 50 ∧ 3 < f3) ∨ (f4 = 51 ∧ f3 ≤ 2) ∨ (f4 = 51 ∧ f3 = 3) ∨ (f4 = 51 ∧ 3 < f3) := by omega
      rcases hcase with ⟨ha, hb⟩ | ⟨ha, rfl⟩ | ⟨ha, hb⟩ | ⟨rfl, hb⟩ | ⟨rfl, rfl⟩ | ⟨rfl, hb⟩ | ⟨rfl, hb⟩ | ⟨rfl, rfl⟩ | ⟨rfl, hb⟩
      all_goals
        have d0 : wr.cell? ⟨w.heap.size, 0, none⟩ = _ := (blk_cell hb5 0).trans rfl
        have x0 := blk_frozen hb5 0
        have d1 : wr.cell? ⟨w.heap.size, 1, none⟩ = _ := (blk_cell hb5 1).trans rfl
        have x1 := blk_frozen hb5 1
        have d2 : wr.cell? ⟨w.heap.size, 2, none⟩ = _ := (blk_cell hb5 2).trans rfl
        have x2 := blk_frozen hb5 2
        have d3 : wr.cell? ⟨w.heap.size, 3, none⟩ = _ := (blk_cell hb5 3).trans rfl
        have x3 := blk_frozen hb5 3
        have d4 : wr.cell? ⟨w.heap.size, 4, none⟩ = _ := (blk_cell hb5 4).trans rfl
        have x4 := blk_frozen hb5 4
        have d5 : wr.cell? ⟨w.heap.size, 5, none⟩ = _ := (blk_cell hb5 5).trans rfl
        have x5 := blk_frozen hb5 5
        have d6 : wr.cell? ⟨w.heap.size, 6, none⟩ = _ := (blk_cell hb5 6).trans rfl
        have x6 := blk_frozen hb5 6
        have d7 : wr.cell? ⟨w.heap.size, 7, none⟩ = _ := (blk_cell hb5 7).trans rfl
        have x7 := blk_frozen hb5 7
        have d8 : wr.cell? ⟨w.heap.size, 8, none⟩ = _ := (blk_cell hb5 8).trans rfl
        have x8 := blk_frozen hb5 8
        clear hb5
      · go_wp2
        generalize hW : World.setCell _ _ _ = W
        have hfW : Fr (fun i => i = w.heap.size) wr W := by subst hW; exact ((Fr.refl (fun i => i = w.heap.size) wr).setG 4 _)
        have hbW : W.heap[w.heap.size]? = some (.cells #[.int .i64 f0,.bool f1,.int .i64 f2,.int .i64 f3,.int .i64 (f4 + 1),.int .i64 f5,.int .i64 f6,.slice Ai5 f7.length ci5,.slice Ad5 f8.length cd5] 25 (0,0)) := by
          subst hW
          have h := HB5.out
          replace h := blk_set h 4 (.int .i64 (f4 + 1))
          simp only [List.setIfInBounds_toArray, List.set_cons_zero, List.set_cons_succ] at h
          exact h
        have ht : tick ⟨f0, f1, f2, f3, f4, f5, f6, f7, f8⟩ = ⟨f0, f1, f2, f3, (f4 + 1), f5, f6, f7, f8⟩ := by
          clear hfW hbW hW
          unfold tick tickC tickB tickA
          dsimp only
          repeat' split
          all_goals (try dsimp only at *)
          all_goals first | (exfalso; omega) | rfl
        clear hW
        go_roundw
        case rel => exact ⟨k + 1,by omega,by omega,by go_num,⟨by show SB W _ _ (tick (ticks k s)); rw [← ES5.out,ht]; exact ⟨_,_,hbW,HI5.out.fr hfW (fun k hk _ e => by have := hk.2; omega),HD5.out.fr hfW (fun k hk _ e => by have := hk.2; omega)⟩⟩,⟨hD.out.trans hfW (fun _ h => .inl h)⟩⟩
        case measure => simp [intOf]; omega
      · go_wp2
        generalize hW : World.setCell _ _ _ = W
        have hfW : Fr (fun i => i = w.heap.size) wr W := by subst hW; exact ((((Fr.refl (fun i => i = w.heap.size) wr).setG 4 _).setG 3 _).setG 3 _)
        have hbW : W.heap[w.heap.size]? = some (.cells #[.int .i64 f0,.bool f1,.int .i64 f2,.int .i64 0,.int .i64 (f4 + 1),.int .i64 f5,.int .i64 f6,.slice Ai5 f7.length ci5,.slice Ad5 f8.length cd5] 25 (0,0)) := by
          subst hW
          have h := HB5.out
          replace h := blk_set h 4 (.int .i64 (f4 + 1))
          simp only [List.setIfInBounds_toArray, List.set_cons_zero, List.set_cons_succ] at h
          replace h := blk_set h 3 (.int .i64 2)
          simp only [List.setIfInBounds_toArray, List.set_cons_zero, List.set_cons_succ] at h
          replace h := blk_set h 3 (.int .i64 0)
          simp only [List.setIfInBounds_toArray, List.set_cons_zero, List.set_cons_succ] at h
          exact h
        have ht : tick ⟨f0, f1, f2, 3, f4, f5, f6, f7, f8⟩ = ⟨f0, f1, f2, 0, (f4 + 1), f5, f6, f7, f8⟩ := by
          clear hfW hbW hW
          unfold tick tickC tickB tickA
          dsimp only
          repeat' split
          all_goals (try dsimp only at *)
          all_goals first | (exfalso; omega) | rfl
        clear hW
        go_roundw
        case rel => exact ⟨k + 1,by omega,by omega,by go_num,⟨by show SB W _ _ (tick (ticks k s)); rw [← ES5.out,ht]; exact ⟨_,_,hbW,HI5.out.fr hfW (fun k hk _ e => by have := hk.2; omega),HD5.out.fr hfW (fun k hk _ e => by have := hk.2; omega)⟩⟩,⟨hD.out.trans hfW (fun _ h => .inl h)⟩⟩
        case measure => simp [intOf]; omega
      · go_wp2
        generalize hW : World.setCell _ _ _ = W
        have hfW : Fr (fun i => i = w.heap.size) wr W := by subst hW; exact (((Fr.refl (fun i => i = w.heap.size) wr).setG 4 _).setG 3 _)
        have hbW : W.heap[w.heap.size]? = some (.cells #[.int .i64 f0,.bool f1,.int .i64 f2,.int .i64 (f3 - 1),.int .i64 (f4 + 1),.int .i64 f5,.int .i64 f6,.slice Ai5 f7.length ci5,.slice Ad5 f8.length cd5] 25 (0,0)) := by
          subst hW
          have h := HB5.out
          replace h := blk_set h 4 (.int .i64 (f4 + 1))
          simp only [List.setIfInBounds_toArray, List.set_cons_zero, List.set_cons_succ] at h
          replace h := blk_set h 3 (.int .i64 (f3 - 1))
          simp only [List.setIfInBounds_toArray, List.set_cons_zero, List.set_cons_succ] at h
          exact h
        have ht : tick ⟨f0, f1, f2, f3, f4, f5, f6, f7, f8⟩ = ⟨f0, f1, f2, (f3 - 1), (f4 + 1), f5, f6, f7, f8⟩ := by
          clear hfW hbW hW
          unfold tick tickC tickB tickA
          dsimp only
          repeat' split
          all_goals (try dsimp only at *)
          all_goals first | (exfalso; omega) | rfl
        clear hW
        go_roundw
        case rel => exact ⟨k + 1,by omega,by omega,by go_num,⟨by show SB W _ _ (tick (ticks k s)); rw [← ES5.out,ht]; exact ⟨_,_,hbW,HI5.out.fr hfW (fun k hk _ e => by have := hk.2; omega),HD5.out.fr hfW (fun k hk _ e => by have := hk.2; omega)⟩⟩,⟨hD.out.trans hfW (fun _ h => .inl h)⟩⟩
        case measure => simp [intOf]; omega
      · go_wp2
        generalize hW : World.setCell _ _ _ = W
        have hfW : Fr (fun i => i = w.heap.size) wr W := by subst hW; exact (((((Fr.refl (fun i => i = w.heap.size) wr).setG 4 _).setG 0 _).setG 1 _).setG 2 _)
        have hbW : W.heap[w.heap.size]? = some (.cells #[.int .i64 1,.bool false,.int .i64 (-1),.int .i64 f3,.int .i64 51,.int .i64 f5,.int .i64 f6,.slice Ai5 f7.length ci5,.slice Ad5 f8.length cd5] 25 (0,0)) := by
          subst hW
          have h := HB5.out
          replace h := blk_set h 4 (.int .i64 51)
          simp only [List.setIfInBounds_toArray, List.set_cons_zero, List.set_cons_succ] at h
          replace h := blk_set h 0 (.int .i64 1)
          simp only [List.setIfInBounds_toArray, List.set_cons_zero, List.set_cons_succ] at h
          replace h := blk_set h 1 (.bool false)
          simp only [List.setIfInBounds_toArray, List.set_cons_zero, List.set_cons_succ] at h
          replace h := blk_set h 2 (.int .i64 (-1))
          simp only [List.setIfInBounds_toArray, List.set_cons_zero, List.set_cons_succ] at h
          exact h
        have ht : tick ⟨f0, f1, f2, f3, 50, f5, f6, f7, f8⟩ = ⟨1, false, (-1), f3, 51, f5, f6, f7, f8⟩ := by
          clear hfW hbW hW
          unfold tick tickC tickB tickA
          dsimp only
          repeat' split
          all_goals (try dsimp only at *)
          all_goals first | (exfalso; omega) | rfl
        clear hW
        go_roundw
        case rel => exact ⟨k + 1,by omega,by omega,by go_num,⟨by show SB W _ _ (tick (ticks k s)); rw [← ES5.out,ht]; exact ⟨_,_,hbW,HI5.out.fr hfW (fun k hk _ e => by have := hk.2; omega),HD5.out.fr hfW (fun k hk _ e => by have := hk.2; omega)⟩⟩,⟨hD.out.trans hfW (fun _ h => .inl h)⟩⟩
        case measure => simp [intOf]; omega
      · go_wp2
        generalize hW : World.setCell _ _ _ = W
        have hfW : Fr (fun i => i = w.heap.size) wr W := by subst hW; exact (((((((Fr.refl (fun i => i = w.heap.size) wr).setG 4 _).setG 0 _).setG 1 _).setG 2 _).setG 3 _).setG 3 _)
        have hbW : W.heap[w.heap.size]? = some (.cells #[.int .i64 1,.bool false,.int .i64 (-1),.int .i64 0,.int .i64 51,.int .i64 f5,.int .i64 f6,.slice Ai5 f7.length ci5,.slice Ad5 f8.length cd5] 25 (0,0)) := by
          subst hW
          have h := HB5.out
          replace h := blk_set h 4 (.int .i64 51)
          simp only [List.setIfInBounds_toArray, List.set_cons_zero, List.set_cons_succ] at h
          replace h := blk_set h 0 (.int .i64 1)
          simp only [List.setIfInBounds_toArray, List.set_cons_zero, List.set_cons_succ] at h
          replace h := blk_set h 1 (.bool false)
          simp only [List.setIfInBounds_toArray, List.set_cons_zero, List.set_cons_succ] at h
          replace h := blk_set h 2 (.int .i64 (-1))
          simp only [List.setIfInBounds_toArray, List.set_cons_zero, List.set_cons_succ] at h
          replace h := blk_set h 3 (.int .i64 2)
          simp only [List.setIfInBounds_toArray, List.set_cons_zero, List.set_cons_succ] at h
          replace h := blk_set h 3 (.int .i64 0)
          simp only [List.setIfInBounds_toArray, List.set_cons_zero, List.set_cons_succ] at h
          exact h
        have ht : tick ⟨f0, f1, f2, 3, 50, f5, f6, f7, f8⟩ = ⟨1, false, (-1), 0, 51, f5, f6, f7, f8⟩ := by
          clear hfW hbW hW
          unfold tick tickC tickB tickA
          dsimp only
          repeat' split
          all_goals (try dsimp only at *)
          all_goals first | (exfalso; omega) | rfl
        clear hW
        go_roundw
        case rel => exact ⟨k + 1,by omega,by omega,by go_num,⟨by show SB W _ _ (tick (ticks k s)); rw [← ES5.out,ht]; exact ⟨_,_,hbW,HI5.out.fr hfW (fun k hk _ e => by have := hk.2; omega),HD5.out.fr hfW (fun k hk _ e => by have := hk.2; omega)⟩⟩,⟨hD.out.trans hfW (fun _ h => .inl h)⟩⟩
        case measure => simp [intOf]; omega
      · go_wp2
        generalize hW : World.setCell _ _ _ = W
        have hfW : Fr (fun i => i = w.heap.size) wr W := by subst hW; exact ((((((Fr.refl (fun i => i = w.heap.size) wr).setG 4 _).setG 0 _).setG 1 _).setG 2 _).setG 3 _)
        have hbW : W.heap[w.heap.size]? = some (.cells #[.int .i64 1,.bool false,.int .i64 (-1),.int .i64 (f3 - 1),.int .i64 51,.int .i64 f5,.int .i64 f6,.slice Ai5 f7.length ci5,.slice Ad5 f8.length cd5] 25 (0,0)) := by
          subst hW
          have h := HB5.out
          replace h := blk_set h 4 (.int .i64 51)
          simp only [List.setIfInBounds_toArray, List.set_cons_zero, List.set_cons_succ] at h
          replace h := blk_set h 0 (.int .i64 1)
          simp only [List.setIfInBounds_toArray, List.set_cons_zero, List.set_cons_succ] at h
          replace h := blk_set h 1 (.bool false)
          simp only [List.setIfInBounds_toArray, List.set_cons_zero, List.set_cons_succ] at h
          replace h := blk_set h 2 (.int .i64 (-1))
          simp only [List.setIfInBounds_toArray, List.set_cons_zero, List.set_cons_succ] at h
          replace h := blk_set h 3 (.int .i64 (f3 - 1))
          simp only [List.setIfInBounds_toArray, List.set_cons_zero, List.set_cons_succ] at h
          exact h
        have ht : tick ⟨f0, f1, f2, f3, 50, f5, f6, f7, f8⟩ = ⟨1, false, (-1), (f3 - 1), 51, f5, f6, f7, f8⟩ := by
          clear hfW hbW hW
          unfold tick tickC tickB tickA
          dsimp only
          repeat' split
          all_goals (try dsimp only at *)
          all_goals first | (exfalso; omega) | rfl
        clear hW
        go_roundw
        case rel => exact ⟨k + 1,by omega,by omega,by go_num,⟨by show SB W _ _ (tick (ticks k s)); rw [← ES5.out,ht]; exact ⟨_,_,hbW,HI5.out.fr hfW (fun k hk _ e => by have := hk.2; omega),HD5.out.fr hfW (fun k hk _ e => by have := hk.2; omega)⟩⟩,⟨hD.out.trans hfW (fun _ h => .inl h)⟩⟩
        case measure => simp [intOf]; omega
      · go_wp2
        generalize hW : World.setCell _ _ _ = W
        have hfW : Fr (fun i => i = w.heap.size) wr W := by subst hW; exact (((((Fr.refl (fun i => i = w.heap.size) wr).setG 4 _).setG 0 _).setG 1 _).setG 2 _)
        have hbW : W.heap[w.heap.size]? = some (.cells #[.int .i64 1,.bool false,.int .i64 (-1),.int .i64 f3,.int .i64 51,.int .i64 f5,.int .i64 f6,.slice Ai5 f7.length ci5,.slice Ad5 f8.length cd5] 25 (0,0)) := by
          subst hW
          have h := HB5.out
          replace h := blk_set h 4 (.int .i64 51)
          simp only [List.setIfInBounds_toArray, List.set_cons_zero, List.set_cons_succ] at h
          replace h := blk_set h 0 (.int .i64 1)
          simp only [List.setIfInBounds_toArray, List.set_cons_zero, List.set_cons_succ] at h
          replace h := blk_set h 1 (.bool false)
          simp only [List.setIfInBounds_toArray, List.set_cons_zero, List.set_cons_succ] at h
          replace h := blk_set h 2 (.int .i64 (-1))
          simp only [List.setIfInBounds_toArray, List.set_cons_zero, List.set_cons_succ] at h
          exact h
        have ht : tick ⟨f0, f1, f2, f3, 51, f5, f6, f7, f8⟩ = ⟨1, false, (-1), f3, 51, f5, f6, f7, f8⟩ := by
          clear hfW hbW hW
          unfold tick tickC tickB tickA
          dsimp only
          repeat' split
          all_goals (try dsimp only at *)
          all_goals first | (exfalso; omega) | rfl
        clear hW
        go_roundw
        case rel => exact ⟨k + 1,by omega,by omega,by go_num,⟨by show SB W _ _ (tick (ticks k s)); rw [← ES5.out,ht]; exact ⟨_,_,hbW,HI5.out.fr hfW (fun k hk _ e => by have := hk.2; omega),HD5.out.fr hfW (fun k hk _ e => by have := hk.2; omega)⟩⟩,⟨hD.out.trans hfW (fun _ h => .inl h)⟩⟩
        case measure => simp [intOf]; omega
      · go_wp2
        generalize hW : World.setCell _ _ _ = W
        have hfW : Fr (fun i => i = w.heap.size) wr W := by subst hW; exact (((((((Fr.refl (fun i => i = w.heap.size) wr).setG 4 _).setG 0 _).setG 1 _).setG 2 _).setG 3 _).setG 3 _)
        have hbW : W.heap[w.heap.size]? = some (.cells #[.int .i64 1,.bool false,.int .i64 (-1),.int .i64 0,.int .i64 51,.int .i64 f5,.int .i64 f6,.slice Ai5 f7.length ci5,.slice Ad5 f8.length cd5] 25 (0,0)) := by
          subst hW
          have h := HB5.out
          replace h := blk_set h 4 (.int .i64 51)
          simp only [List.setIfInBounds_toArray, List.set_cons_zero, List.set_cons_succ] at h
          replace h := blk_set h 0 (.int .i64 1)
          simp only [List.setIfInBounds_toArray, List.set_cons_zero, List.set_cons_succ] at h
          replace h := blk_set h 1 (.bool false)
          simp only [List.setIfInBounds_toArray, List.set_cons_zero, List.set_cons_succ] at h
          replace h := blk_set h 2 (.int .i64 (-1))
          simp only [List.setIfInBounds_toArray, List.set_cons_zero, List.set_cons_succ] at h
          replace h := blk_set h 3 (.int .i64 2)
          simp only [List.setIfInBounds_toArray, List.set_cons_zero, List.set_cons_succ] at h
          replace h := blk_set h 3 (.int .i64 0)
          simp only [List.setIfInBounds_toArray, List.set_cons_zero, List.set_cons_succ] at h
          exact h
        have ht : tick ⟨f0, f1, f2, 3, 51, f5, f6, f7, f8⟩ = ⟨1, false, (-1), 0, 51, f5, f6, f7, f8⟩ := by
          clear hfW hbW hW
          unfold tick tickC tickB tickA
          dsimp only
          repeat' split
          all_goals (try dsimp only at *)
          all_goals first | (exfalso; omega) | rfl
        clear hW
        go_roundw
        case rel => exact ⟨k + 1,by omega,by omega,by go_num,⟨by show SB W _ _ (tick (ticks k s)); rw [← ES5.out,ht]; exact ⟨_,_,hbW,HI5.out.fr hfW (fun k hk _ e => by have := hk.2; omega),HD5.out.fr hfW (fun k hk _ e => by have := hk.2; omega)⟩⟩,⟨hD.out.trans hfW (fun _ h => .inl h)⟩⟩
        case measure => simp [intOf]; omega
      · go_wp2
        generalize hW : World.setCell _ _ _ = W
        have hfW : Fr (fun i => i = w.heap.size) wr W := by subst hW; exact ((((((Fr.refl (fun i => i = w.heap.size) wr).setG 4 _).setG 0 _).setG 1 _).setG 2 _).setG 3 _)
        have hbW : W.heap[w.heap.size]? = some (.cells #[.int .i64 1,.bool false,.int .i64 (-1),.int .i64 (f3 - 1),.int .i64 51,.int .i64 f5,.int .i64 f6,.slice Ai5 f7.length ci5,.slice Ad5 f8.length cd5] 25 (0,0)) := by
          subst hW
          have h := HB5.out
          replace h := blk_set h 4 (.int .i64 51)
          simp only [List.setIfInBounds_toArray, List.set_cons_zero, List.set_cons_succ] at h
          replace h := blk_set h 0 (.int .i64 1)
          simp only [List.setIfInBounds_toArray, List.set_cons_zero, List.set_cons_succ] at h
          replace h := blk_set h 1 (.bool false)
          simp only [List.setIfInBounds_toArray, List.set_cons_zero, List.set_cons_succ] at h
          replace h := blk_set h 2 (.int .i64 (-1))
          simp only [List.setIfInBounds_toArray, List.set_cons_zero, List.set_cons_succ] at h
          replace h := blk_set h 3 (.int .i64 (f3 - 1))
          simp only [List.setIfInBounds_toArray, List.set_cons_zero, List.set_cons_succ] at h
          exact h
        have ht : tick ⟨f0, f1, f2, f3, 51, f5, f6, f7, f8⟩ = ⟨1, false, (-1), (f3 - 1), 51, f5, f6, f7, f8⟩ := by
          clear hfW hbW hW
          unfold tick tickC tickB tickA
          dsimp only
          repeat' split
          all_goals (try dsimp only at *)
          all_goals first | (exfalso; omega) | rfl
        clear hW
        go_roundw
        case rel => exact ⟨k + 1,by omega,by omega,by go_num,⟨by show SB W _ _ (tick (ticks k s)); rw [← ES5.out,ht]; exact ⟨_,_,hbW,HI5.out.fr hfW (fun k hk _ e => by have := hk.2; omega),HD5.out.fr hfW (fun k hk _ e => by have := hk.2; omega)⟩⟩,⟨hD.out.trans hfW (fun _ h => .inl h)⟩⟩
        case measure => simp [intOf]; omega
    · have hrr := Aside0.mk (show r = ⟨f0, f1, f2, f3, f4, f5, f6, f7, f8⟩ by rw [ER.out, ES5.out]; congr 1; omega)
      have d0 : wr.cell? ⟨w.heap.size, 0, none⟩ = some (.int .i64 f0) := (blk_cell hb5 0).trans rfl
      have d1 : wr.cell? ⟨w.heap.size, 1, none⟩ = some (.bool f1) := (blk_cell hb5 1).trans rfl
      have d2 : wr.cell? ⟨w.heap.size, 2, none⟩ = some (.int .i64 f2) := (blk_cell hb5 2).trans rfl
      have d3 : wr.cell? ⟨w.heap.size, 3, none⟩ = some (.int .i64 f3) := (blk_cell hb5 3).trans rfl
      have d4 : wr.cell? ⟨w.heap.size, 4, none⟩ = some (.int .i64 f4) := (blk_cell hb5 4).trans rfl
      have d5 : wr.cell? ⟨w.heap.size, 5, none⟩ = some (.int .i64 f5) := (blk_cell hb5 5).trans rfl
      have d6 : wr.cell? ⟨w.heap.size, 6, none⟩ = some (.int .i64 f6) := (blk_cell hb5 6).trans rfl
      have d7 : wr.cell? ⟨w.heap.size, 7, none⟩ = some (.slice Ai5 f7.length ci5) := (blk_cell hb5 7).trans rfl
      have d8 : wr.cell? ⟨w.heap.size, 8, none⟩ = some (.slice Ad5 f8.length cd5) := (blk_cell hb5 8).trans rfl
      clear hb5
      have y0 : wr.cell? ⟨w.heap.size + 1, 0, none⟩ = some (.int .i64 0) := (blk_cell HB2r.out 0).trans rfl
      have z0 := blk_frozen HB2r.out 0
      have y1 : wr.cell? ⟨w.heap.size + 1, 1, none⟩ = some (.bool false) := (blk_cell HB2r.out 1).trans rfl
      have z1 := blk_frozen HB2r.out 1
      have y2 : wr.cell? ⟨w.heap.size + 1, 2, none⟩ = some (.int .i64 0) := (blk_cell HB2r.out 2).trans rfl
      have z2 := blk_frozen HB2r.out 2
      have y3 : wr.cell? ⟨w.heap.size + 1, 3, none⟩ = some (.int .i64 0) := (blk_cell HB2r.out 3).trans rfl
      have z3 := blk_frozen HB2r.out 3
      have y4 : wr.cell? ⟨w.heap.size + 1, 4, none⟩ = some (.int .i64 0) := (blk_cell HB2r.out 4).trans rfl
      have z4 := blk_frozen HB2r.out 4
      have y5 : wr.cell? ⟨w.heap.size + 1, 5, none⟩ = some (.int .i64 0) := (blk_cell HB2r.out 5).trans rfl
      have z5 := blk_frozen HB2r.out 5
      have y6 : wr.cell? ⟨w.heap.size + 1, 6, none⟩ = some (.int .i64 0) := (blk_cell HB2r.out 6).trans rfl
      have z6 := blk_frozen HB2r.out 6
      have y7 : wr.cell? ⟨w.heap.size + 1, 7, none⟩ = some (.slice none 0 0) := (blk_cell HB2r.out 7).trans rfl
      have z7 := blk_frozen HB2r.out 7
      have y8 : wr.cell? ⟨w.heap.size + 1, 8, none⟩ = some (.slice none 0 0) := (blk_cell HB2r.out 8).trans rfl
      have z8 := blk_frozen HB2r.out 8
      go_wp2
      generalize hW : World.setCell _ _ _ = W
      have hfW : Fr (fun i => i = w.heap.size + 1) wr W := by subst hW; exact ((((((((((Fr.refl (fun i => i = w.heap.size + 1) wr).setG 0 _).setG 1 _).setG 2 _).setG 3 _).setG 4 _).setG 5 _).setG 6 _).setG 7 _).setG 8 _)
      have hbW : W.heap[w.heap.size + 1]? = some (.cells #[.int .i64 f0,.bool f1,.int .i64 f2,.int .i64 f3,.int .i64 f4,.int .i64 f5,.int .i64 f6,.slice Ai5 f7.length ci5,.slice Ad5 f8.length cd5] 25 (0,0)) := by subst hW; exact put9 HB2r.out
      refine bodyPost_ret (results_cell_row rfl _ _ (w.heap.size + 1) 25 _ (0, 0) _ rfl hbW Try.underlying25 rfl (by kernel_rfl)) rfl ?_
      rw [hrr.out]
      exact ⟨_,rfl,⟨_,_,rfl,(HI5.out.fr hfW (fun k hk _ e => by have := hk.2; omega)).mono (fun k hk => hk.1),(HD5.out.fr hfW (fun k hk _ e => by have := hk.2; omega)).mono (fun k hk => hk.1)⟩,Fr.trans (S := fun _ => False) (Fr.trans (S := fun _ => False) hf2 hD.out (fun i hi => .inr (by omega))) hfW (fun i hi => .inr (by omega))⟩
set_option maxRecDepth 100000 in
set_option maxHeartbeats 4000000 in
theorem dTick_many {s : S25} {vs : Value} {n : Int} (hs : RdS w P vs s) (h0 : 0 ≤ s.f4 ∧ s.f4 ≤ 51) (h1 : 0 ≤ s.f3 ∧ s.f3 ≤ 12) (hn : 60 < n) : Calls Try.prog 38 #[vs,.int .i64 n] w (RetP w P (ticks (60) s)) := by
  obtain ⟨vi, vd, rfl, hi, hd⟩ := hs
  have HI := Aside0.mk hi.bound
  have HD := Aside0.mk hd.bound
  obtain ⟨Ai, ci, ei, -, -⟩ := hi
  obtain ⟨Ad, cd, ed, -, -⟩ := hd
  subst ei ed
  have H0 := Aside0.mk h0
  have H1 := Aside0.mk h1
  unfold srv
  obtain ⟨r, er⟩ : ∃ r, r = ticks (60) s := ⟨_, rfl⟩
  rw [← er]
  have ER := Aside0.mk er
  clear h0 h1 er
  go_enter Try.func38, Try.ntmps38
  go_wp2
  generalize hw2 : World.alloc _ _ = w2
  have hf2 : Fr (fun _ => False) w w2 := by subst hw2; exact ((Fr.refl _ w).alloc _).alloc _
  have hb1 : SB w2 (fun k => P k ∧ k < w.heap.size) w.heap.size s := by subst hw2; exact ⟨_,_,blk_alloc (blk_new w _) _,HI.out.step (fun k hk hlt => (((Fr.refl (fun _ => False) w).alloc _).alloc _).block k hlt (fun h => h)),HD.out.step (fun k hk hlt => (((Fr.refl (fun _ => False) w).alloc _).alloc _).block k hlt (fun h => h))⟩
  have hb2 : w2.heap[w.heap.size + 1]? = some (.cells #[.int .i64 0,.bool false,.int .i64 0,.int .i64 0,.int .i64 0,.int .i64 0,.int .i64 0,.slice none 0 0,.slice none 0 0] 25 (0,0)) := by subst hw2; exact blk_new' (by show _ = (Array.push _ _).size; rw [Array.size_push])
  have hlt2 := blk_lt hb2
  have HB1 := Aside0.mk hb1
  have HB2 := Aside0.mk hb2
  clear hw2 hb1 hb2
  go_loopw [7] (fun t wr => ∃ k : Nat,k ≤ 60 ∧ (k ≤ 60) ∧ t = .int .i64 k ∧ Aside0 (SB wr (fun k => P k ∧ k < w.heap.size) w.heap.size (ticks k s)) ∧ Aside0 (Fr (fun i => i = w.heap.size) w2 wr)) (fun t _ => 60 - (intOf t).toNat)
  case atStart => exact ⟨0, by omega, by omega, rfl, HB1, ⟨Fr.refl _ _⟩⟩
  case round =>
    obtain ⟨k, hk, hkn, rfl, hS, hD⟩ := hrel
    obtain ⟨s5, es5⟩ : ∃ s5, s5 = ticks k s := ⟨_, rfl⟩
    have hr5 := ticks_range H0.out H1.out k
    rw [← es5] at hS hr5
    have ES5 := Aside0.mk es5
    obtain ⟨vi5, vd5, hb5, hi5, hd5⟩ := hS.out
    have HI5 := Aside0.mk hi5
    have HD5 := Aside0.mk hd5
    obtain ⟨Ai5, ci5, ei5, -, -⟩ := hi5
    obtain ⟨Ad5, cd5, ed5, -, -⟩ := hd5
    subst ei5 ed5
    have HB5 := Aside0.mk hb5
    have hlt5 := blk_lt hb5
    have hb2r := hD.out.blk HB2.out (by show ¬ _ = w.heap.size; omega)
    have HB2r := Aside0.mk hb2r
    obtain ⟨f0, f1, f2, f3, f4, f5, f6, f7, f8⟩ := s5
    dsimp only at hr5 hb5 HI5 HD5 HB5
    clear es5 hS hb2r
    obtain ⟨⟨h0a, h0b⟩, h1a, h1b⟩ := hr5
    by_cases hlt : (k : Int) < 60
    · have hcase : (f4 ≤ 49 ∧ f3 ≤ 2) ∨ (f4 ≤ 49 ∧ f3 = 3) ∨ (f4 ≤ 49 ∧ 3 < f3) ∨ (f4 = 50 ∧ f3 ≤ 2) ∨ (f4 = 50 ∧ f3 = 3) ∨ (f4 = 50 ∧ 3 < f3) ∨ (f4 = 51 ∧ f3 ≤ 2) ∨ (f4 = 51 ∧ f3 = 3) ∨ (f4 = 51 ∧ 3 < f3) := by omega
      rcases hcase with ⟨ha, hb⟩ | ⟨ha, rfl⟩ | ⟨ha, hb⟩ | ⟨rfl, hb⟩ | ⟨rfl, rfl⟩ | ⟨rfl, hb⟩ | ⟨rfl, hb⟩ | ⟨rfl, rfl⟩ | ⟨rfl, hb⟩
      all_goals
        have d0 : wr.cell? ⟨w.heap.size, 0, none⟩ = _ := (blk_cell hb5 0).trans rfl
        have x0 := blk_frozen hb5 0
        have d1 : wr.cell? ⟨w.heap.size, 1, none⟩ = _ := (blk_cell hb5 1).trans rfl
        have x1 := blk_frozen hb5 1
        have d2 : wr.cell? ⟨w.heap.size, 2, none⟩ = _ := (blk_cell hb5 2).trans rfl
        have x2 := blk_frozen hb5 2
        have d3 : wr.cell? ⟨w.heap.size, 3, none⟩ = _ := (blk_cell hb5 3).trans rfl
        have x3 := blk_frozen hb5 3
        have d4 : wr.cell? ⟨w.heap.size, 4, none⟩ = _ := (blk_cell hb5 4).trans rfl
        have x4 := blk_frozen hb5 4
        have d5 : wr.cell? ⟨w.heap.size, 5, none⟩ = _ := (blk_cell hb5 5).trans rfl
        have x5 := blk_frozen hb5 5
        have d6 : wr.cell? ⟨w.heap.size, 6, none⟩ = _ := (blk_cell hb5 6).trans rfl
        have x6 := blk_frozen hb5 6
        have d7 : wr.cell? ⟨w.heap.size, 7, none⟩ = _ := (blk_cell hb5 7).trans rfl
        have x7 := blk_frozen hb5 7
        have d8 : wr.cell? ⟨w.heap.size, 8, none⟩ = _ := (blk_cell hb5 8).trans rfl
        have x8 := blk_frozen hb5 8
        clear hb5
      · go_wp2
        generalize hW : World.setCell _ _ _ = W
        have hfW : Fr (fun i => i = w.heap.size) wr W := by subst hW; exact ((Fr.refl (fun i => i = w.heap.size) wr).setG 4 _)
        have hbW : W.heap[w.heap.size]? = some (.cells #[.int .i64 f0,.bool f1,.int .i64 f2,.int .i64 f3,.int .i64 (f4 + 1),.int .i64 f5,.int .i64 f6,.slice Ai5 f7.length ci5,.slice Ad5 f8.length cd5] 25 (0,0)) := by
          subst hW
          have h := HB5.out
          replace h := blk_set h 4 (.int .i64 (f4 + 1))
          simp only [List.setIfInBounds_toArray, List.set_cons_zero, List.set_cons_succ] at h
          exact h
        have ht : tick ⟨f0, f1, f2, f3, f4, f5, f6, f7, f8⟩ = ⟨f0, f1, f2, f3, (f4 + 1), f5, f6, f7, f8⟩ := by
          clear hfW hbW hW
          unfold tick tickC tickB tickA
          dsimp only
          repeat' split
          all_goals (try dsimp only at *)
          all_goals first | (exfalso; omega) | rfl
        clear hW
        go_roundw
        case rel => exact ⟨k + 1,by omega,by omega,by go_num,⟨by show SB W _ _ (tick (ticks k s)); rw [← ES5.out,ht]; exact ⟨_,_,hbW,HI5.out.fr hfW (fun k hk _ e => by have := hk.2; omega),HD5.out.fr hfW (fun k hk _ e => by have := hk.2; omega)⟩⟩,⟨hD.out.trans hfW (fun _ h => .inl h)⟩⟩
        case measure => simp [intOf]; omega
      · go_wp2
        generalize hW : World.setCell _ _ _ = W
        have hfW : Fr (fun i => i = w.heap.size) wr W := by subst hW; exact ((((Fr.refl (fun i => i = w.heap.size) wr).setG 4 _).setG 3 _).setG 3 _)
        have hbW : W.heap[w.heap.size]? = some (.cells #[.int .i64 f0,.bool f1,.int .i64 f2,.int .i64 0,.int .i64 (f4 + 1),.int .i64 f5,.int .i64 f6,.slice Ai5 f7.length ci5,.slice Ad5 f8.length cd5] 25 (0,0)) := by
          subst hW
          have h := HB5.out
          replace h := blk_set h 4 (.int .i64 (f4 + 1))
          simp only [List.setIfInBounds_toArray, List.set_cons_zero, List.set_cons_succ] at h
          replace h := blk_set h 3 (.int .i64 2)
          simp only [List.setIfInBounds_toArray, List.set_cons_zero, List.set_cons_succ] at h
          replace h := blk_set h 3 (.int .i64 0)
          simp only [List.setIfInBounds_toArray, List.set_cons_zero, List.set_cons_succ] at h
          exact h
        have ht : tick ⟨f0, f1, f2, 3, f4, f5, f6, f7, f8⟩ = ⟨f0, f1, f2, 0, (f4 + 1), f5, f6, f7, f8⟩ := by
          clear hfW hbW hW
          unfold tick tickC tickB tickA
          dsimp only
          repeat' split
          all_goals (try dsimp only at *)
          all_goals first | (exfalso; omega) | rfl
        clear hW
        go_roundw
        case rel => exact ⟨k + 1,by omega,by omega,by go_num,⟨by show SB W _ _ (tick (ticks k s)); rw [← ES5.out,ht]; exact ⟨_,_,hbW,HI5.out.fr hfW (fun k hk _ e => by have := hk.2; omega),HD5.out.fr hfW (fun k hk _ e => by have := hk.2; omega)⟩⟩,⟨hD.out.trans hfW (fun _ h => .inl h)⟩⟩
        case measure => simp [intOf]; omega
      · go_wp2
        generalize hW : World.setCell _ _ _ = W
        have hfW : Fr (fun i => i = w.heap.size) wr W := by subst hW; exact (((Fr.refl (fun i => i = w.heap.size) wr).setG 4 _).setG 3 _)
        have hbW : W.heap[w.heap.size]? = some (.cells #[.int .i64 f0,.bool f1,.int .i64 f2,.int .i64 (f3 - 1),.int .i64 (f4 + 1),.int .i64 f5,.int .i64 f6,.slice Ai5 f7.length ci5,.slice Ad5 f8.length cd5] 25 (0,0)) := by
          subst hW
          have h := HB5.out
          replace h := blk_set h 4 (.int .i64 (f4 + 1))
          simp only [List.setIfInBounds_toArray, List.set_cons_zero, List.set_cons_succ] at h
          replace h := blk_set h 3 (.int .i64 (f3 - 1))
          simp only [List.setIfInBounds_toArray, List.set_cons_zero, List.set_cons_succ] at h
          exact h
        have ht : tick ⟨f0, f1, f2, f3, f4, f5, f6, f7, f8⟩ = ⟨f0, f1, f2, (f3 - 1), (f4 + 1), f5, f6, f7, f8⟩ := by
          clear hfW hbW hW
          unfold tick tickC tickB tickA
          dsimp only
          repeat' split
          all_goals (try dsimp only at *)
          all_goals first | (exfalso; omega) | rfl
        clear hW
        go_roundw
        case rel => exact ⟨k + 1,by omega,by omega,by go_num,⟨by show SB W _ _ (tick (ticks k s)); rw [← ES5.out,ht]; exact ⟨_,_,hbW,HI5.out.fr hfW (fun k hk _ e => by have := hk.2; omega),HD5.out.fr hfW (fun k hk _ e => by have := hk.2; omega)⟩⟩,⟨hD.out.trans hfW (fun _ h => .inl h)⟩⟩
        case measure => simp [intOf]; omega
      · go_wp2
        generalize hW : World.setCell _ _ _ = W
        have hfW : Fr (fun i => i = w.heap.size) wr W := by subst hW; exact (((((Fr.refl (fun i => i = w.heap.size) wr).setG 4 _).setG 0 _).setG 1 _).setG 2 _)
        have hbW : W.heap[w.heap.size]? = some (.cells #[.int .i64 1,.bool false,.int .i64 (-1),.int .i64 f3,.int .i64 51,.int .i64 f5,.int .i64 f6,.slice Ai5 f7.length ci5,.slice Ad5 f8.length cd5] 25 (0,0)) := by
          subst hW
          have h := HB5.out
          replace h := blk_set h 4 (.int .i64 51)
          simp only [List.setIfInBounds_toArray, List.set_cons_zero, List.set_cons_succ] at h
          replace h := blk_set h 0 (.int .i64 1)
          simp only [List.setIfInBounds_toArray, List.set_cons_zero, List.set_cons_succ] at h
          replace h := blk_set h 1 (.bool false)
          simp only [List.setIfInBounds_toArray, List.set_cons_zero, List.set_cons_succ] at h
          replace h := blk_set h 2 (.int .i64 (-1))
          simp only [List.setIfInBounds_toArray, List.set_cons_zero, List.set_cons_succ] at h
          exact h
        have ht : tick ⟨f0, f1, f2, f3, 50, f5, f6, f7, f8⟩ = ⟨1, false, (-1), f3, 51, f5, f6, f7, f8⟩ := by
          clear hfW hbW hW
          unfold tick tickC tickB tickA
          dsimp only
          repeat' split
          all_goals (try dsimp only at *)
          all_goals first | (exfalso; omega) | rfl
        clear hW
        go_roundw
        case rel => exact ⟨k + 1,by omega,by omega,by go_num,⟨by show SB W _ _ (tick (ticks k s)); rw [← ES5.out,ht]; exact ⟨_,_,hbW,HI5.out.fr hfW (fun k hk _ e => by have := hk.2; omega),HD5.out.fr hfW (fun k hk _ e => by have := hk.2; omega)⟩⟩,⟨hD.out.trans hfW (fun _ h => .inl h)⟩⟩
        case measure => simp [intOf]; omega
      · go_wp2
        generalize hW : World.setCell _ _ _ = W
        have hfW : Fr (fun i => i = w.heap.size) wr W := by subst hW; exact (((((((Fr.refl (fun i => i = w.heap.size) wr).setG 4 _).setG 0 _).setG 1 _).setG 2 _).setG 3 _).setG 3 _)
        have hbW : W.heap[w.heap.size]? = some (.cells #[.int .i64 1,.bool false,.int .i64 (-1),.int .i64 0,.int .i64 51,.int .i64 f5,.int .i64 f6,.slice Ai5 f7.length ci5,.slice Ad5 f8.length cd5] 25 (0,0)) := by
          subst hW
          have h := HB5.out
          replace h := blk_set h 4 (.int .i64 51)
          simp only [List.setIfInBounds_toArray, List.set_cons_zero, List.set_cons_succ] at h
          replace h := blk_set h 0 (.int .i64 1)
          simp only [List.setIfInBounds_toArray, List.set_cons_zero, List.set_cons_succ] at h
          replace h := blk_set h 1 (.bool false)
          simp only [List.setIfInBounds_toArray, List.set_cons_zero, List.set_cons_succ] at h
          replace h := blk_set h 2 (.int .i64 (-1))
          simp only [List.setIfInBounds_toArray, List.set_cons_zero, List.set_cons_succ] at h
          replace h := blk_set h 3 (.int .i64 2)
          simp only [List.setIfInBounds_toArray, List.set_cons_zero, List.set_cons_succ] at h
          replace h := blk_set h 3 (.int .i64 0)
          simp only [List.setIfInBounds_toArray, List.set_cons_zero, List.set_cons_succ] at h
          exact h
        have ht : tick ⟨f0, f1, f2, 3, 50, f5, f6, f7, f8⟩ = ⟨1, false, (-1), 0, 51, f5, f6, f7, f8⟩ := by
          clear hfW hbW hW
          unfold tick tickC tickB tickA
          dsimp only
          repeat' split
          all_goals (try dsimp only at *)
          all_goals first | (exfalso; omega) | rfl
        clear hW
        go_roundw
        case rel => exact ⟨k + 1,by omega,by omega,by go_num,⟨by show SB W _ _ (tick (ticks k s)); rw [← ES5.out,ht]; exact ⟨_,_,hbW,HI5.out.fr hfW (fun k hk _ e => by have := hk.2; omega),HD5.out.fr hfW (fun k hk _ e => by have := hk.2; omega)⟩⟩,⟨hD.out.trans hfW (fun _ h => .inl h)⟩⟩
        case measure => simp [intOf]; omega
      · go_wp2
        generalize hW : World.setCell _ _ _ = W
        have hfW : Fr (fun i => i = w.heap.size) wr W := by subst hW; exact ((((((Fr.refl (fun i => i = w.heap.size) wr).setG 4 _).setG 0 _).setG 1 _).setG 2 _).setG 3 _)
        have hbW : W.heap[w.heap.size]? = some (.cells #[.int .i64 1,.bool false,.int .i64 (-1),.int .i64 (f3 - 1),.int .i64 51,.int .i64 f5,.int .i64 f6,.slice Ai5 f7.length ci5,.slice Ad5 f8.length cd5] 25 (0,0)) := by
          subst hW
          have h := HB5.out
          replace h := blk_set h 4 (.int .i64 51)
          simp only [List.setIfInBounds_toArray, List.set_cons_zero, List.set_cons_succ] at h
          replace h := blk_set h 0 (.int .i64 1)
          simp only [List.setIfInBounds_toArray, List.set_cons_zero, List.set_cons_succ] at h
          replace h := blk_set h 1 (.bool false)
          simp only [List.setIfInBounds_toArray, List.set_cons_zero, List.set_cons_succ] at h
          replace h := blk_set h 2 (.int .i64 (-1))
          simp only [List.setIfInBounds_toArray, List.set_cons_zero, List.set_cons_succ] at h
          replace h := blk_set h 3 (.int .i64 (f3 - 1))
          simp only [List.setIfInBounds_toArray, List.set_cons_zero, List.set_cons_succ] at h
          exact h
        have ht : tick ⟨f0, f1, f2, f3, 50, f5, f6, f7, f8⟩ = ⟨1, false, (-1), (f3 - 1), 51, f5, f6, f7, f8⟩ := by
          clear hfW hbW hW
          unfold tick tickC tickB tickA
          dsimp only
          repeat' split
          all_goals (try dsimp only at *)
          all_goals first | (exfalso; omega) | rfl
        clear hW
        go_roundw
        case rel => exact ⟨k + 1,by omega,by omega,by go_num,⟨by show SB W _ _ (tick (ticks k s)); rw [← ES5.out,ht]; exact ⟨_,_,hbW,HI5.out.fr hfW (fun k hk _ e => by have := hk.2; omega),HD5.out.fr hfW (fun k hk _ e => by have := hk.2; omega)⟩⟩,⟨hD.out.trans hfW (fun _ h => .inl h)⟩⟩
        case measure => simp [intOf]; omega
      · go_wp2
        generalize hW : World.setCell _ _ _ = W
        have hfW : Fr (fun i => i = w.heap.size) wr W := by subst hW; exact (((((Fr.refl (fun i => i = w.heap.size) wr).setG 4 _).setG 0 _).setG 1 _).setG 2 _)
        have hbW : W.heap[w.heap.size]? = some (.cells #[.int .i64 1,.bool false,.int .i64 (-1),.int .i64 f3,.int .i64 51,.int .i64 f5,.int .i64 f6,.slice Ai5 f7.length ci5,.slice Ad5 f8.length cd5] 25 (0,0)) := by
          subst hW
          have h := HB5.out
          replace h := blk_set h 4 (.int .i64 51)
          simp only [List.setIfInBounds_toArray, List.set_cons_zero, List.set_cons_succ] at h
          replace h := blk_set h 0 (.int .i64 1)
          simp only [List.setIfInBounds_toArray, List.set_cons_zero, List.set_cons_succ] at h
          replace h := blk_set h 1 (.bool false)
          simp only [List.setIfInBounds_toArray, List.set_cons_zero, List.set_cons_succ] at h
          replace h := blk_set h 2 (.int .i64 (-1))
          simp only [List.setIfInBounds_toArray, List.set_cons_zero, List.set_cons_succ] at h
          exact h
        have ht : tick ⟨f0, f1, f2, f3, 51, f5, f6, f7, f8⟩ = ⟨1, false, (-1), f3, 51, f5, f6, f7, f8⟩ := by
          clear hfW hbW hW
          unfold tick tickC tickB tickA
          dsimp only
          repeat' split
          all_goals (try dsimp only at *)
          all_goals first | (exfalso; omega) | rfl
        clear hW
        go_roundw
        case rel => exact ⟨k + 1,by omega,by omega,by go_num,⟨by show SB W _ _ (tick (ticks k s)); rw [← ES5.out,ht]; exact ⟨_,_,hbW,HI5.out.fr hfW (fun k hk _ e => by have := hk.2; omega),HD5.out.fr hfW (fun k hk _ e => by have := hk.2; omega)⟩⟩,⟨hD.out.trans hfW (fun _ h => .inl h)⟩⟩
        case measure => simp [intOf]; omega
      · go_wp2
        generalize hW : World.setCell _ _ _ = W
        have hfW : Fr (fun i => i = w.heap.size) wr W := by subst hW; exact (((((((Fr.refl (fun i => i = w.heap.size) wr).setG 4 _).setG 0 _).setG 1 _).setG 2 _).setG 3 _).setG 3 _)
        have hbW : W.heap[w.heap.size]? = some (.cells #[.int .i64 1,.bool false,.int .i64 (-1),.int .i64 0,.int .i64 51,.int .i64 f5,.int .i64 f6,.slice Ai5 f7.length ci5,.slice Ad5 f8.length cd5] 25 (0,0)) := by
          subst hW
          have h := HB5.out
          replace h := blk_set h 4 (.int .i64 51)
          simp only [List.setIfInBounds_toArray, List.set_cons_zero, List.set_cons_succ] at h
          replace h := blk_set h 0 (.int .i64 1)
          simp only [List.setIfInBounds_toArray, List.set_cons_zero, List.set_cons_succ] at h
          replace h := blk_set h 1 (.bool false)
          simp only [List.setIfInBounds_toArray, List.set_cons_zero, List.set_cons_succ] at h
          replace h := blk_set h 2 (.int .i64 (-1))
          simp only [List.setIfInBounds_toArray, List.set_cons_zero, List.set_cons_succ] at h
          replace h := blk_set h 3 (.int .i64 2)
          simp only [List.setIfInBounds_toArray, List.set_cons_zero, List.set_cons_succ] at h
          replace h := blk_set h 3 (.int .i64 0)
          simp only [List.setIfInBounds_toArray, List.set_cons_zero, List.set_cons_succ] at h
          exact h
        have ht : tick ⟨f0, f1, f2, 3, 51, f5, f6, f7, f8⟩ = ⟨1, false, (-1), 0, 51, f5, f6, f7, f8⟩ := by
          clear hfW hbW hW
          unfold tick tickC tickB tickA
          dsimp only
          repeat' split
          all_goals (try dsimp only at *)
          all_goals first | (exfalso; omega) | rfl
        clear hW
        go_roundw
        case rel => exact ⟨k + 1,by omega,by omega,by go_num,⟨by show SB W _ _ (tick (ticks k s)); rw [← ES5.out,ht]; exact ⟨_,_,hbW,HI5.out.fr hfW (fun k hk _ e => by have := hk.2; omega),HD5.out.fr hfW (fun k hk _ e => by have := hk.2; omega)⟩⟩,⟨hD.out.trans hfW (fun _ h => .inl h)⟩⟩
        case measure => simp [intOf]; omega
      · go_wp2
        generalize hW : World.setCell _ _ _ = W
        have hfW : Fr (fun i => i = w.heap.size) wr W := by subst hW; exact ((((((Fr.refl (fun i => i = w.heap.size) wr).setG 4 _).setG 0 _).setG 1 _).setG 2 _).setG 3 _)
        have hbW : W.heap[w.heap.size]? = some (.cells #[.int .i64 1,.bool false,.int .i64 (-1),.int .i64 (f3 - 1),.int .i64 51,.int .i64 f5,.int .i64 f6,.slice Ai5 f7.length ci5,.slice Ad5 f8.length cd5] 25 (0,0)) := by
          subst hW
          have h := HB5.out
          replace h := blk_set h 4 (.int .i64 51)
          simp only [List.setIfInBounds_toArray, List.set_cons_zero, List.set_cons_succ] at h
          replace h := blk_set h 0 (.int .i64 1)
          simp only [List.setIfInBounds_toArray, List.set_cons_zero, List.set_cons_succ] at h
          replace h := blk_set h 1 (.bool false)
          simp only [List.setIfInBounds_toArray, List.set_cons_zero, List.set_cons_succ] at h
          replace h := blk_set h 2 (.int .i64 (-1))
          simp only [List.setIfInBounds_toArray, List.set_cons_zero, List.set_cons_succ] at h
          replace h := blk_set h 3 (.int .i64 (f3 - 1))
          simp only [List.setIfInBounds_toArray, List.set_cons_zero, List.set_cons_succ] at h
          exact h
        have ht : tick ⟨f0, f1, f2, f3, 51, f5, f6, f7, f8⟩ = ⟨1, false, (-1), (f3 - 1), 51, f5, f6, f7, f8⟩ := by
          clear hfW hbW hW
          unfold tick tickC tickB tickA
          dsimp only
          repeat' split
          all_goals (try dsimp only at *)
          all_goals first | (exfalso; omega) | rfl
        clear hW
        go_roundw
        case rel => exact ⟨k + 1,by omega,by omega,by go_num,⟨by show SB W _ _ (tick (ticks k s)); rw [← ES5.out,ht]; exact ⟨_,_,hbW,HI5.out.fr hfW (fun k hk _ e => by have := hk.2; omega),HD5.out.fr hfW (fun k hk _ e => by have := hk.2; omega)⟩⟩,⟨hD.out.trans hfW (fun _ h => .inl h)⟩⟩
        case measure => simp [intOf]; omega
    · have hrr := Aside0.mk (show r = ⟨f0, f1, f2, f3, f4, f5, f6, f7, f8⟩ by rw [ER.out, ES5.out]; congr 1; omega)
      have d0 : wr.cell? ⟨w.heap.size, 0, none⟩ = some (.int .i64 f0) := (blk_cell hb5 0).trans rfl
      have d1 : wr.cell? ⟨w.heap.size, 1, none⟩ = some (.bool f1) := (blk_cell hb5 1).trans rfl
      have d2 : wr.cell? ⟨w.heap.size, 2, none⟩ = some (.int .i64 f2) := (blk_cell hb5 2).trans rfl
      have d3 : wr.cell? ⟨w.heap.size, 3, none⟩ = some (.int .i64 f3) := (blk_cell hb5 3).trans rfl
      have d4 : wr.cell? ⟨w.heap.size, 4, none⟩ = some (.int .i64 f4) := (blk_cell hb5 4).trans rfl
      have d5 : wr.cell? ⟨w.heap.size, 5, none⟩ = some (.int .i64 f5) := (blk_cell hb5 5).trans rfl
      have d6 : wr.cell? ⟨w.heap.size, 6, none⟩ = some (.int .i64 f6) := (blk_cell hb5 6).trans rfl
      have d7 : wr.cell? ⟨w.heap.size, 7, none⟩ = some (.slice Ai5 f7.length ci5) := (blk_cell hb5 7).trans rfl
      have d8 : wr.cell? ⟨w.heap.size, 8, none⟩ = some (.slice Ad5 f8.length cd5) := (blk_cell hb5 8).trans rfl
      clear hb5
      have y0 : wr.cell? ⟨w.heap.size + 1, 0, none⟩ = some (.int .i64 0) := (blk_cell HB2r.out 0).trans rfl
      have z0 := blk_frozen HB2r.out 0
      have y1 : wr.cell? ⟨w.heap.size + 1, 1, none⟩ = some (.bool false) := (blk_cell HB2r.out 1).trans rfl
      have z1 := blk_frozen HB2r.out 1
      have y2 : wr.cell? ⟨w.heap.size + 1, 2, none⟩ = some (.int .i64 0) := (blk_cell HB2r.out 2).trans rfl
      have z2 := blk_frozen HB2r.out 2
      have y3 : wr.cell? ⟨w.heap.size + 1, 3, none⟩ = some (.int .i64 0) := (blk_cell HB2r.out 3).trans rfl
      have z3 := blk_frozen HB2r.out 3
      have y4 : wr.cell? ⟨w.heap.size + 1, 4, none⟩ = some (.int .i64 0) := (blk_cell HB2r.out 4).trans rfl
      have z4 := blk_frozen HB2r.out 4
      have y5 : wr.cell? ⟨w.heap.size + 1, 5, none⟩ = some (.int .i64 0) := (blk_cell HB2r.out 5).trans rfl
      have z5 := blk_frozen HB2r.out 5
      have y6 : wr.cell? ⟨w.heap.size + 1, 6, none⟩ = some (.int .i64 0) := (blk_cell HB2r.out 6).trans rfl
      have z6 := blk_frozen HB2r.out 6
      have y7 : wr.cell? ⟨w.heap.size + 1, 7, none⟩ = some (.slice none 0 0) := (blk_cell HB2r.out 7).trans rfl
      have z7 := blk_frozen HB2r.out 7
      have y8 : wr.cell? ⟨w.heap.size + 1, 8, none⟩ = some (.slice none 0 0) := (blk_cell HB2r.out 8).trans rfl
      have z8 := blk_frozen HB2r.out 8
      go_wp2
      generalize hW : World.setCell _ _ _ = W
      have hfW : Fr (fun i => i = w.heap.size + 1) wr W := by subst hW; exact ((((((((((Fr.refl (fun i => i = w.heap.size + 1) wr).setG 0 _).setG 1 _).setG 2 _).setG 3 _).setG 4 _).setG 5 _).setG 6 _).setG 7 _).setG 8 _)
      have hbW : W.heap[w.heap.size + 1]? = some (.cells #[.int .i64 f0,.bool f1,.int .i64 f2,.int .i64 f3,.int .i64 f4,.int .i64 f5,.int .i64 f6,.slice Ai5 f7.length ci5,.slice Ad5 f8.length cd5] 25 (0,0)) := by subst hW; exact put9 HB2r.out
      refine bodyPost_ret (results_cell_row rfl _ _ (w.heap.size + 1) 25 _ (0, 0) _ rfl hbW Try.underlying25 rfl (by kernel_rfl)) rfl ?_
      rw [hrr.out]
      exact ⟨_,rfl,⟨_,_,rfl,(HI5.out.fr hfW (fun k hk _ e => by have := hk.2; omega)).mono (fun k hk => hk.1),(HD5.out.fr hfW (fun k hk _ e => by have := hk.2; omega)).mono (fun k hk => hk.1)⟩,Fr.trans (S := fun _ => False) (Fr.trans (S := fun _ => False) hf2 hD.out (fun i hi => .inr (by omega))) hfW (fun i hi => .inr (by omega))⟩
end
end Go.Proofs.Ph
