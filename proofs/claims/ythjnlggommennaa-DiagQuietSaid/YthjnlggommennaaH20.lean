/- Part 21 of the proof of DiagHands, for every input: L2, R1, R3, R6, R7. No condition. -/
import Derived.Test.YthjnlggommennaaH4
import Derived.Test.YthjnlggommennaaH9
import Derived.BigGuard
import Derived.BigCall
set_option linter.unusedVariables false
set_option linter.unusedSimpArgs false
set_option linter.unusedSectionVars false
/- Bytes as strings; rows of troubles that are alike. No condition. -/
namespace Go.Proofs.Ph
open Go Go.RowKit Go.Proofs.YthjnlggommennaaW.PrintWords
theorem str_of {w : World} {v : Value} {xs : List Int} (h : Rd kb w v xs) : (convert 31 9 v).run Try.prog w = .ok (.string (strOfNums xs)) w := by
  obtain ⟨A, c, rfl, hl, hC⟩ := h
  exact Kd.C_string Try.underlying31 Try.underlying5 Try.underlying9 hC
set_option maxHeartbeats 1000000 in
theorem same21_calls {w : World} {v1 v2 : Value} {xs : List S161} (h1 : Rd k161 w v1 xs) (h2 : Rd k161 w v2 xs) : Calls Try.prog 80 #[v1,v2] w fun e w' => e = .returned (.bool true) ∧ Fr (fun _ => False) w w' := by
  have hm := h1.max
  obtain ⟨A1, c1, rfl, -, hC1⟩ := h1
  obtain ⟨A2, c2, rfl, -, hC2⟩ := h2
  have HC1 := Aside0.mk hC1
  have HC2 := Aside0.mk hC2
  clear hC1 hC2
  go_enter Try.func80, Try.ntmps80
  go_wp2
  go_loopw [5] (fun t wr => ∃ k : Nat, k ≤ xs.length ∧ t = .int .i64 k ∧ Aside0 (Fr (fun _ => False) w wr)) (fun t _ => xs.length - (intOf t).toNat)
  case atStart => exact ⟨0, Nat.zero_le _, rfl, ⟨Fr.refl _ _⟩⟩
  case round =>
    obtain ⟨k, hk, rfl, hD⟩ := hrel
    by_cases hlt : k < xs.length
    · obtain ⟨ad1, e1, x0, x1, x2, x3⟩ := at_T161 HC1.out (k : Int) (by omega) (by omega)
      obtain ⟨ad2, e2, y0, y1, y2, y3⟩ := at_T161 HC2.out (k : Int) (by omega) (by omega)
      subst e1 e2
      have hb := Fr.below hD.out (fun _ h => h.elim)
      replace x0 := pw_cell_below hb x0
      replace x1 := pw_cell_below hb x1
      replace x2 := pw_cell_below hb x2
      replace x3 := pw_cell_below hb x3
      replace y0 := pw_cell_below hb y0
      replace y1 := pw_cell_below hb y1
      replace y2 := pw_cell_below hb y2
      replace y3 := pw_cell_below hb y3
      rw [show ((k : Int)).toNat = k from rfl] at x0 x1 x2 x3 y0 y1 y2 y3
      obtain ⟨x, ex⟩ : ∃ x, x = rd_T161 xs k := ⟨_, rfl⟩
      rw [← ex] at x0 x1 x2 x3 y0 y1 y2 y3
      have hb1 : (0 : Int) ≤ (k : Int) := by omega
      have hb2 : (k : Int) < (xs.length : Int) := by omega
      clear ex
      go_wp2
      go_quiet (fail)
      go_wp2
      go_roundw
      case rel => exact ⟨k + 1, by omega, by go_num, ⟨hD.out.drewN _⟩⟩
      case measure => simp [intOf]; omega
    · have hn : ¬ ((k : Int) < (xs.length : Int)) := by omega
      go_wp2
      go_ret
      exact ⟨rfl, hD.out⟩
end Go.Proofs.Ph
/- The reference's 'Same' of two servers that are alike. No condition. -/
namespace Go.Proofs.Ph
open Go Go.RowKit Go.Proofs.YthjnlggommennaaW.PrintWords
attribute [local go_sem ↓] Go.wp_at_zero Go.wp_at_succ
set_option maxRecDepth 100000 in
set_option maxHeartbeats 4000000 in
theorem same22_calls {w : World} {P1 P2 : Nat → Prop} {v1 v2 : Value} {s : S25} (h1 : RdS w P1 v1 s) (h2 : RdS w P2 v2 s) : Calls Try.prog 34 #[v1,v2] w fun e w' => e = .returned (.bool true) ∧ Fr (fun _ => False) w w' := by
  obtain ⟨vi1, vd1, rfl, hi1, hd1⟩ := h1
  obtain ⟨vi2, vd2, rfl, hi2, hd2⟩ := h2
  have hm := hi1.now.max
  have HD1 := Aside0.mk hd1.now
  have HD2 := Aside0.mk hd2.now
  obtain ⟨Ad1, cd1, ed1, -, -⟩ := hd1
  obtain ⟨Ad2, cd2, ed2, -, -⟩ := hd2
  subst ed1 ed2
  obtain ⟨Ai1, ci1, ei1, -, hC1⟩ := hi1.now
  obtain ⟨Ai2, ci2, ei2, -, hC2⟩ := hi2.now
  subst ei1 ei2
  have HC1 := Aside0.mk hC1
  have HC2 := Aside0.mk hC2
  unfold srv
  clear hC1 hC2 hi1 hi2
  go_enter Try.func34, Try.ntmps34
  go_wp2
  generalize hw2 : World.alloc _ _ = w2
  have hf2 : Fr (fun _ => False) w w2 := by subst hw2; exact ((Fr.refl _ w).alloc _).alloc _
  have hb1 : w2.heap[w.heap.size]? = some (.cells #[.int .i64 s.f0,.bool s.f1,.int .i64 s.f2,.int .i64 s.f3,.int .i64 s.f4,.int .i64 s.f5,.int .i64 s.f6,.slice Ai1 s.f7.length ci1,.slice Ad1 s.f8.length cd1] 25 (0,0)) := by subst hw2; exact blk_alloc (blk_new w _) _
  have hb2 : w2.heap[w.heap.size + 1]? = some (.cells #[.int .i64 s.f0,.bool s.f1,.int .i64 s.f2,.int .i64 s.f3,.int .i64 s.f4,.int .i64 s.f5,.int .i64 s.f6,.slice Ai2 s.f7.length ci2,.slice Ad2 s.f8.length cd2] 25 (0,0)) := by subst hw2; exact blk_new' (by show _ = (Array.push _ _).size; rw [Array.size_push])
  have HB1 := Aside0.mk hb1
  have HB2 := Aside0.mk hb2
  have hlt2 := blk_lt hb2
  clear hw2 hb1 hb2
  go_loopw [5] (fun t wr => ∃ k : Nat,k ≤ s.f7.length ∧ t = .int .i64 k ∧ Aside0 (Fr (fun _ => False) w2 wr)) (fun t _ => s.f7.length - (intOf t).toNat)
  case atStart => exact ⟨0, Nat.zero_le _, rfl, ⟨Fr.refl _ _⟩⟩
  case round =>
    obtain ⟨k, hk, rfl, hD⟩ := hrel
    have c17 : wr.cell? ⟨w.heap.size, 7, none⟩ = some (.slice Ai1 s.f7.length ci1) := hD.out.cellA ((blk_cell HB1.out 7).trans rfl)
    have c27 : wr.cell? ⟨w.heap.size + 1, 7, none⟩ = some (.slice Ai2 s.f7.length ci2) := hD.out.cellA ((blk_cell HB2.out 7).trans rfl)
    by_cases hlt : k < s.f7.length
    · obtain ⟨ad1, A1, c1, e1, x0, x1, x2, hl1, hx1⟩ := at_T47 HC1.out (k : Int) (by omega) (by omega)
      obtain ⟨ad2, A2, c2, e2, y0, y1, y2, hl2, hx2⟩ := at_T47 HC2.out (k : Int) (by omega) (by omega)
      subst e1 e2
      have hF := hf2.trans hD.out (fun _ h => .inl h)
      have hb := Fr.below hF (fun _ h => h.elim)
      replace x0 := pw_cell_below hb x0
      replace x1 := pw_cell_below hb x1
      replace x2 := pw_cell_below hb x2
      replace y0 := pw_cell_below hb y0
      replace y1 := pw_cell_below hb y1
      replace y2 := pw_cell_below hb y2
      rw [show ((k : Int)).toNat = k from rfl] at x0 x1 x2 y0 y1 y2
      obtain ⟨x, ex⟩ : ∃ x, x = rd_T47 s.f7 k := ⟨_, rfl⟩
      rw [← ex] at x0 x1 x2 y0 y1 y2 hl1 hx1 hl2 hx2
      have r1 : Rd kb w (.slice A1 x.f2.length c1) x.f2 := ⟨A1, c1, rfl, hl1, hx1⟩
      have r2 : Rd kb w (.slice A2 x.f2.length c2) x.f2 := ⟨A2, c2, rfl, hl2, hx2⟩
      have s1 : ∀ m,(convert 31 9 (.slice A1 x.f2.length c1)).run Try.prog (wr.drewN m) = .ok (.string (strOfNums x.f2)) (wr.drewN m) := fun m => str_of (r1.below (pw_below_drewN hb m))
      have s2 : ∀ m,(convert 31 9 (.slice A2 x.f2.length c2)).run Try.prog (wr.drewN m) = .ok (.string (strOfNums x.f2)) (wr.drewN m) := fun m => str_of (r2.below (pw_below_drewN hb m))
      have hb1 : (0 : Int) ≤ (k : Int) := by omega
      have hb2 : (k : Int) < (s.f7.length : Int) := by omega
      clear ex hl1 hl2 hx1 hx2 r1 r2
      go_wp2
      go_quiet (fail)
      go_wp2
      go_roundw
      case rel => exact ⟨k + 1, by omega, by go_num, ⟨hD.out.drewN _⟩⟩
      case measure => simp [intOf]; omega
    · have hn : ¬ ((k : Int) < (s.f7.length : Int)) := by omega
      have d10 : wr.cell? ⟨w.heap.size, 0, none⟩ = some (.int .i64 s.f0) := hD.out.cellA ((blk_cell HB1.out 0).trans rfl)
      have d11 : wr.cell? ⟨w.heap.size, 1, none⟩ = some (.bool s.f1) := hD.out.cellA ((blk_cell HB1.out 1).trans rfl)
      have d12 : wr.cell? ⟨w.heap.size, 2, none⟩ = some (.int .i64 s.f2) := hD.out.cellA ((blk_cell HB1.out 2).trans rfl)
      have d13 : wr.cell? ⟨w.heap.size, 3, none⟩ = some (.int .i64 s.f3) := hD.out.cellA ((blk_cell HB1.out 3).trans rfl)
      have d14 : wr.cell? ⟨w.heap.size, 4, none⟩ = some (.int .i64 s.f4) := hD.out.cellA ((blk_cell HB1.out 4).trans rfl)
      have d15 : wr.cell? ⟨w.heap.size, 5, none⟩ = some (.int .i64 s.f5) := hD.out.cellA ((blk_cell HB1.out 5).trans rfl)
      have d16 : wr.cell? ⟨w.heap.size, 6, none⟩ = some (.int .i64 s.f6) := hD.out.cellA ((blk_cell HB1.out 6).trans rfl)
      have d18 : wr.cell? ⟨w.heap.size, 8, none⟩ = some (.slice Ad1 s.f8.length cd1) := hD.out.cellA ((blk_cell HB1.out 8).trans rfl)
      have d20 : wr.cell? ⟨w.heap.size + 1, 0, none⟩ = some (.int .i64 s.f0) := hD.out.cellA ((blk_cell HB2.out 0).trans rfl)
      have d21 : wr.cell? ⟨w.heap.size + 1, 1, none⟩ = some (.bool s.f1) := hD.out.cellA ((blk_cell HB2.out 1).trans rfl)
      have d22 : wr.cell? ⟨w.heap.size + 1, 2, none⟩ = some (.int .i64 s.f2) := hD.out.cellA ((blk_cell HB2.out 2).trans rfl)
      have d23 : wr.cell? ⟨w.heap.size + 1, 3, none⟩ = some (.int .i64 s.f3) := hD.out.cellA ((blk_cell HB2.out 3).trans rfl)
      have d24 : wr.cell? ⟨w.heap.size + 1, 4, none⟩ = some (.int .i64 s.f4) := hD.out.cellA ((blk_cell HB2.out 4).trans rfl)
      have d25 : wr.cell? ⟨w.heap.size + 1, 5, none⟩ = some (.int .i64 s.f5) := hD.out.cellA ((blk_cell HB2.out 5).trans rfl)
      have d26 : wr.cell? ⟨w.heap.size + 1, 6, none⟩ = some (.int .i64 s.f6) := hD.out.cellA ((blk_cell HB2.out 6).trans rfl)
      have d28 : wr.cell? ⟨w.heap.size + 1, 8, none⟩ = some (.slice Ad2 s.f8.length cd2) := hD.out.cellA ((blk_cell HB2.out 8).trans rfl)
      have hF := hf2.trans hD.out (fun _ h => .inl h)
      have hb := Fr.below hF (fun _ h => h.elim)
      have SC := Aside0.mk (same21_calls (HD1.out.below hb) (HD2.out.below hb))
      go_wp2_with (go_at_call 80; refine SC.out.mono ?_; rintro e w5 ⟨rfl, hf5⟩)
      go_ret
      exact ⟨rfl, hF.trans hf5 (fun _ h => .inl h)⟩
end Go.Proofs.Ph
/- Many ticks. No condition. -/
namespace Go.Proofs.Ph
open Go Go.RowKit Go.Proofs.YthjnlggommennaaW.PrintWords
def ticks : Nat → S25 → S25
  | 0, s => s
  | k + 1, s => tick (ticks k s)
theorem ticks_range {s : S25} (h0 : 0 ≤ s.f4 ∧ s.f4 ≤ 51) (h1 : 0 ≤ s.f3 ∧ s.f3 ≤ 12) : ∀ k,(0 ≤ (ticks k s).f4 ∧ (ticks k s).f4 ≤ 51) ∧ 0 ≤ (ticks k s).f3 ∧ (ticks k s).f3 ≤ 12
  | 0 => ⟨h0, h1⟩
  | k + 1 => tick_range (ticks_range h0 h1 k).1 (ticks_range h0 h1 k).2
/-- A server's cells in a block. -/
def SB (w : World) (ok : Nat → Prop) (b : Nat) (s : S25) : Prop := ∃ vi vd,w.heap[b]? = some (.cells #[.int .i64 s.f0,.bool s.f1,.int .i64 s.f2,.int .i64 s.f3,.int .i64 s.f4,.int .i64 s.f5,.int .i64 s.f6,vi,vd] 25 (0,0)) ∧ RdF k47 w ok vi s.f7 ∧ RdF k161 w ok vd s.f8
section
variable {w : World} {P : Nat → Prop}
end
end Go.Proofs.Ph
/- dtc: may a trouble be so? No condition. -/
namespace Go.Proofs.Ph
open Go Go.RowKit Go.Proofs.YthjnlggommennaaW.PrintWords
def hs (t : S161) (b : Int) : Bool := bits BinOp.and IntKind.i64 t.f1 b != 0
/-- A trouble's four cells. -/
structure TC (w : World) (ad : Addr) (t : S161) : Prop where
  c0 : w.cell? ad = some (.int .i64 t.f0)
  c1 : w.cell? ⟨ad.block, ad.off + 1, none⟩ = some (.int .i64 t.f1)
  c2 : w.cell? ⟨ad.block, ad.off + 2, none⟩ = some (.int .i64 t.f2)
  c3 : w.cell? ⟨ad.block, ad.off + 3, none⟩ = some (.int .i64 t.f3)
theorem TC.fr {w w1 : World} {ad : Addr} {t : S161} (h : TC w ad t) (hf : Fr (fun _ => False) w w1) : TC w1 ad t := ⟨hf.cellA h.c0,hf.cellA h.c1,hf.cellA h.c2,hf.cellA h.c3⟩
section
variable {w : World} {ad : Addr} {t : S161}
theorem has_calls (b : Int) (h : TC w ad t) : Calls Try.prog 142 #[.agg #[.pointer (some ad)],.int .i64 b] w fun e w' => e = .returned (.bool (hs t b)) ∧ Fr (fun _ => False) w w' := by
  have c1 := h.c1
  have hlt := World.block_lt_of_cell? w _ c1
  go_enter Try.func142, Try.ntmps142
  go_wp2
  go_ret
  exact ⟨rfl, (Fr.refl _ w).alloc _⟩
/-- May a trouble be so? -/
def tOk (t : S161) : Bool := (t.f0 / 65536 == 0) && (t.f1 / 16 == 0) && (hs t 2 || !hs t 1) && decide (-4 ≤ t.f2) && decide (t.f2 ≤ 4) && decide (0 ≤ t.f3) && decide (t.f3 ≤ 2) && (t.f3 == 0 || hs t 4)
set_option maxRecDepth 100000 in
set_option maxHeartbeats 4000000 in
theorem tOk_a (h : TC w ad t) (hA : (t.f0 / 65536 == 0) = true) (hB : (t.f1 / 16 == 0) = true) (hC : decide (-4 ≤ t.f2) = true) (hD : decide (t.f2 ≤ 4) = true) (hE : decide (0 ≤ t.f3) = true) (hF : decide (t.f3 ≤ 2) = true) (h2 : Aside0 (hs t 2 = true)) (h3 : (t.f3 == 0) = true) : Calls Try.prog 119 #[.agg #[.pointer (some ad)]] w fun e w' => e = .returned (.bool true) ∧ Fr (fun _ => False) w w' := by
  have x0 := h.c0
  have x1 := h.c1
  have x2 := h.c2
  have x3 := h.c3
  have hlt := World.block_lt_of_cell? w _ x0
  have H := Aside0.mk h
  have hf1 := ((Fr.refl (fun _ => False) w).alloc (.cells #[.pointer (some ad)] 168))
  clear h
  obtain ⟨q0, hq0⟩ : ∃ q, t.f0 / 65536 = q := ⟨_, rfl⟩
  obtain ⟨q1, hq1⟩ : ∃ q, t.f1 / 16 = q := ⟨_, rfl⟩
  rw [hq0] at hA
  rw [hq1] at hB
  go_enter Try.func119, Try.ntmps119
  go_wp2_with (first | (go_at_call 142; (with_reducible refine (has_calls 2 (H.out.fr hf1)).mono ?_); rintro e w2 ⟨he,hf2'⟩; rw [h2.out] at he; subst he; have hb2 := hf2'.blk (blk_new w _) (fun h => h); have hlt2 := blk_lt hb2; have y2 : w2.cell? ⟨w.heap.size,0,none⟩ = some (.pointer (some ad)) := (blk_cell hb2 0).trans rfl; have hf2 : Fr (fun _ => False) (w.alloc (.cells #[.pointer (some ad)] 168)) w2 := hf2'; have T2 := (H.out.fr hf1).fr hf2; have a2 := T2.c0; have b2 := T2.c1; have c2 := T2.c2; have d2 := T2.c3))
  go_ret
  exact ⟨rfl, hf1.trans hf2 (fun _ h => .inl h)⟩
set_option maxRecDepth 100000 in
set_option maxHeartbeats 4000000 in
theorem tOk_b (h : TC w ad t) (hA : (t.f0 / 65536 == 0) = true) (hB : (t.f1 / 16 == 0) = true) (hC : decide (-4 ≤ t.f2) = true) (hD : decide (t.f2 ≤ 4) = true) (hE : decide (0 ≤ t.f3) = true) (hF : decide (t.f3 ≤ 2) = true) (h2 : Aside0 (hs t 2 = true)) (h3 : (t.f3 == 0) = false) (h4 : Aside0 (hs t 4 = true)) : Calls Try.prog 119 #[.agg #[.pointer (some ad)]] w fun e w' => e = .returned (.bool true) ∧ Fr (fun _ => False) w w' := by
  have x0 := h.c0
  have x1 := h.c1
  have x2 := h.c2
  have x3 := h.c3
  have hlt := World.block_lt_of_cell? w _ x0
  have H := Aside0.mk h
  have hf1 := ((Fr.refl (fun _ => False) w).alloc (.cells #[.pointer (some ad)] 168))
  clear h
  obtain ⟨q0, hq0⟩ : ∃ q, t.f0 / 65536 = q := ⟨_, rfl⟩
  obtain ⟨q1, hq1⟩ : ∃ q, t.f1 / 16 = q := ⟨_, rfl⟩
  rw [hq0] at hA
  rw [hq1] at hB
  go_enter Try.func119, Try.ntmps119
  go_wp2_with (first | (go_at_call 142; (with_reducible refine (has_calls 2 (H.out.fr hf1)).mono ?_); rintro e w2 ⟨he,hf2'⟩; rw [h2.out] at he; subst he; have hb2 := hf2'.blk (blk_new w _) (fun h => h); have hlt2 := blk_lt hb2; have y2 : w2.cell? ⟨w.heap.size,0,none⟩ = some (.pointer (some ad)) := (blk_cell hb2 0).trans rfl; have hf2 : Fr (fun _ => False) (w.alloc (.cells #[.pointer (some ad)] 168)) w2 := hf2'; have T2 := (H.out.fr hf1).fr hf2; have a2 := T2.c0; have b2 := T2.c1; have c2 := T2.c2; have d2 := T2.c3) | (go_at_call 142; (with_reducible refine (has_calls 4 ((H.out.fr hf1).fr hf2)).mono ?_); rintro e w3 ⟨he,hf3'⟩; rw [h4.out] at he; subst he; have hb3 := hf3'.blk hb2 (fun h => h); have hlt3 := blk_lt hb3; have y3 : w3.cell? ⟨w.heap.size,0,none⟩ = some (.pointer (some ad)) := (blk_cell hb3 0).trans rfl; have hf3 : Fr (fun _ => False) (w.alloc (.cells #[.pointer (some ad)] 168)) w3 := hf2.trans hf3' (fun _ h => .inl h); have T3 := (H.out.fr hf1).fr hf3; have a3 := T3.c0; have b3 := T3.c1; have c3 := T3.c2; have d3 := T3.c3))
  go_ret
  exact ⟨rfl, hf1.trans hf3 (fun _ h => .inl h)⟩
set_option maxRecDepth 100000 in
set_option maxHeartbeats 4000000 in
theorem tOk_c (h : TC w ad t) (hA : (t.f0 / 65536 == 0) = true) (hB : (t.f1 / 16 == 0) = true) (hC : decide (-4 ≤ t.f2) = true) (hD : decide (t.f2 ≤ 4) = true) (hE : decide (0 ≤ t.f3) = true) (hF : decide (t.f3 ≤ 2) = true) (h2 : Aside0 (hs t 2 = false)) (h1 : Aside0 (hs t 1 = false)) (h3 : (t.f3 == 0) = true) : Calls Try.prog 119 #[.agg #[.pointer (some ad)]] w fun e w' => e = .returned (.bool true) ∧ Fr (fun _ => False) w w' := by
  have x0 := h.c0
  have x1 := h.c1
  have x2 := h.c2
  have x3 := h.c3
  have hlt := World.block_lt_of_cell? w _ x0
  have H := Aside0.mk h
  have hf1 := ((Fr.refl (fun _ => False) w).alloc (.cells #[.pointer (some ad)] 168))
  clear h
  obtain ⟨q0, hq0⟩ : ∃ q, t.f0 / 65536 = q := ⟨_, rfl⟩
  obtain ⟨q1, hq1⟩ : ∃ q, t.f1 / 16 = q := ⟨_, rfl⟩
  rw [hq0] at hA
  rw [hq1] at hB
  go_enter Try.func119, Try.ntmps119
  go_wp2_with (first | (go_at_call 142; (with_reducible refine (has_calls 2 (H.out.fr hf1)).mono ?_); rintro e w2 ⟨he,hf2'⟩; rw [h2.out] at he; subst he; have hb2 := hf2'.blk (blk_new w _) (fun h => h); have hlt2 := blk_lt hb2; have y2 : w2.cell? ⟨w.heap.size,0,none⟩ = some (.pointer (some ad)) := (blk_cell hb2 0).trans rfl; have hf2 : Fr (fun _ => False) (w.alloc (.cells #[.pointer (some ad)] 168)) w2 := hf2'; have T2 := (H.out.fr hf1).fr hf2; have a2 := T2.c0; have b2 := T2.c1; have c2 := T2.c2; have d2 := T2.c3) | (go_at_call 142; (with_reducible refine (has_calls 1 ((H.out.fr hf1).fr hf2)).mono ?_); rintro e w3 ⟨he,hf3'⟩; rw [h1.out] at he; subst he; have hb3 := hf3'.blk hb2 (fun h => h); have hlt3 := blk_lt hb3; have y3 : w3.cell? ⟨w.heap.size,0,none⟩ = some (.pointer (some ad)) := (blk_cell hb3 0).trans rfl; have hf3 : Fr (fun _ => False) (w.alloc (.cells #[.pointer (some ad)] 168)) w3 := hf2.trans hf3' (fun _ h => .inl h); have T3 := (H.out.fr hf1).fr hf3; have a3 := T3.c0; have b3 := T3.c1; have c3 := T3.c2; have d3 := T3.c3))
  go_ret
  exact ⟨rfl, hf1.trans hf3 (fun _ h => .inl h)⟩
set_option maxRecDepth 100000 in
set_option maxHeartbeats 4000000 in
theorem tOk_d (h : TC w ad t) (hA : (t.f0 / 65536 == 0) = true) (hB : (t.f1 / 16 == 0) = true) (hC : decide (-4 ≤ t.f2) = true) (hD : decide (t.f2 ≤ 4) = true) (hE : decide (0 ≤ t.f3) = true) (hF : decide (t.f3 ≤ 2) = true) (h2 : Aside0 (hs t 2 = false)) (h1 : Aside0 (hs t 1 = false)) (h3 : (t.f3 == 0) = false) (h4 : Aside0 (hs t 4 = true)) : Calls Try.prog 119 #[.agg #[.pointer (some ad)]] w fun e w' => e = .returned (.bool true) ∧ Fr (fun _ => False) w w' := by
  have x0 := h.c0
  have x1 := h.c1
  have x2 := h.c2
  have x3 := h.c3
  have hlt := World.block_lt_of_cell? w _ x0
  have H := Aside0.mk h
  have hf1 := ((Fr.refl (fun _ => False) w).alloc (.cells #[.pointer (some ad)] 168))
  clear h
  obtain ⟨q0, hq0⟩ : ∃ q, t.f0 / 65536 = q := ⟨_, rfl⟩
  obtain ⟨q1, hq1⟩ : ∃ q, t.f1 / 16 = q := ⟨_, rfl⟩
  rw [hq0] at hA
  rw [hq1] at hB
  go_enter Try.func119, Try.ntmps119
  go_wp2_with (first | (go_at_call 142; (with_reducible refine (has_calls 2 (H.out.fr hf1)).mono ?_); rintro e w2 ⟨he,hf2'⟩; rw [h2.out] at he; subst he; have hb2 := hf2'.blk (blk_new w _) (fun h => h); have hlt2 := blk_lt hb2; have y2 : w2.cell? ⟨w.heap.size,0,none⟩ = some (.pointer (some ad)) := (blk_cell hb2 0).trans rfl; have hf2 : Fr (fun _ => False) (w.alloc (.cells #[.pointer (some ad)] 168)) w2 := hf2'; have T2 := (H.out.fr hf1).fr hf2; have a2 := T2.c0; have b2 := T2.c1; have c2 := T2.c2; have d2 := T2.c3) | (go_at_call 142; (with_reducible refine (has_calls 1 ((H.out.fr hf1).fr hf2)).mono ?_); rintro e w3 ⟨he,hf3'⟩; rw [h1.out] at he; subst he; have hb3 := hf3'.blk hb2 (fun h => h); have hlt3 := blk_lt hb3; have y3 : w3.cell? ⟨w.heap.size,0,none⟩ = some (.pointer (some ad)) := (blk_cell hb3 0).trans rfl; have hf3 : Fr (fun _ => False) (w.alloc (.cells #[.pointer (some ad)] 168)) w3 := hf2.trans hf3' (fun _ h => .inl h); have T3 := (H.out.fr hf1).fr hf3; have a3 := T3.c0; have b3 := T3.c1; have c3 := T3.c2; have d3 := T3.c3) | (go_at_call 142; (with_reducible refine (has_calls 4 ((H.out.fr hf1).fr hf3)).mono ?_); rintro e w4 ⟨he,hf4'⟩; rw [h4.out] at he; subst he; have hb4 := hf4'.blk hb3 (fun h => h); have hlt4 := blk_lt hb4; have y4 : w4.cell? ⟨w.heap.size,0,none⟩ = some (.pointer (some ad)) := (blk_cell hb4 0).trans rfl; have hf4 : Fr (fun _ => False) (w.alloc (.cells #[.pointer (some ad)] 168)) w4 := hf3.trans hf4' (fun _ h => .inl h); have T4 := (H.out.fr hf1).fr hf4; have a4 := T4.c0; have b4 := T4.c1; have c4 := T4.c2; have d4 := T4.c3))
  go_ret
  exact ⟨rfl, hf1.trans hf4 (fun _ h => .inl h)⟩
end
end Go.Proofs.Ph
/- dtc: troubles that may be so. No condition. -/
namespace Go.Proofs.Ph
open Go Go.RowKit Go.Proofs.YthjnlggommennaaW.PrintWords
theorem tOk_yes {w : World} {ad : Addr} {t : S161} (h : TC w ad t) (ht : tOk t = true) : Calls Try.prog 119 #[.agg #[.pointer (some ad)]] w fun e w' => e = .returned (.bool true) ∧ Fr (fun _ => False) w w' := by
  unfold tOk at ht
  simp only [Bool.and_eq_true] at ht
  obtain ⟨⟨⟨⟨⟨⟨⟨hA, hB⟩, h2⟩, hC⟩, hD⟩, hE⟩, hF⟩, h3⟩ := ht
  cases e2 : hs t 2 with
  | true =>
    cases e3 : (t.f3 == 0) with
    | true => exact tOk_a h hA hB hC hD hE hF ⟨e2⟩ e3
    | false => exact tOk_b h hA hB hC hD hE hF ⟨e2⟩ e3 ⟨by rw [e3] at h3; simpa using h3⟩
  | false =>
    have e1 : hs t 1 = false := by rw [e2] at h2; simpa using h2
    cases e3 : (t.f3 == 0) with
    | true => exact tOk_c h hA hB hC hD hE hF ⟨e2⟩ ⟨e1⟩ e3
    | false => exact tOk_d h hA hB hC hD hE hF ⟨e2⟩ ⟨e1⟩ e3 ⟨by rw [e3] at h3; simpa using h3⟩
end Go.Proofs.Ph
