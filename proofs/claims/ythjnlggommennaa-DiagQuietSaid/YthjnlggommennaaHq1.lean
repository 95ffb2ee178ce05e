/- Part 2 of the proof of DiagQuiet, for every input: LQ. No condition. -/
import Derived.Test.YthjnlggommennaaH26
import Derived.Test.YthjnlggommennaaHq0
set_option linter.unusedVariables false
set_option linter.unusedSimpArgs false
set_option linter.unusedSectionVars false
/- DiagQuiet: ticks: its walk. No condition. -/
namespace Go.Proofs.Ph
open Go Go.RowKit Go.Proofs.YthjnlggommennaaW.PrintWords Go.Proofs.YthjnlggommennaaW.PrintMore Go.Proofs.YthjnlggommennaaW.PrintLast
theorem made_range (s : S25) : (0 ≤ (mMade s).f4 ∧ (mMade s).f4 ≤ 51) ∧ 0 ≤ (mMade s).f3 ∧ (mMade s).f3 ≤ 12 := by
  show (0 ≤ s.f4 % 65536 % 52 ∧ s.f4 % 65536 % 52 ≤ 51) ∧ 0 ≤ s.f3 % 65536 % 13 ∧ s.f3 % 65536 % 13 ≤ 12
  omega
attribute [local go_sem] min2_int min_two
set_option maxRecDepth 100000 in
set_option maxHeartbeats 16000000 in
theorem quiet_walk {w : World} {vs vq : Value} {s : S25} {q : List Int} {a b : Int} (ha0 : 0 ≤ a) (ha1 : a ≤ 255) (hb0 : 0 ≤ b) (hb1 : b ≤ 255) (hs : RdS w T0 vs s) (hd : ∀ x ∈ s.f7, x.f2.length ≤ 9223372036854775807) (hq : RdF kb w T0 vq q) (hB : Byt q) : Calls Try.prog 7 #[vs, .agg #[.int .u8 a, .int .u8 b], vq] w fun e w' => e = .returned (.bool true) ∧ Below w.heap.size w w' := by
  obtain ⟨As, cs, Ds, ds, evs⟩ := hs.laid
  subst evs
  have hqm := hq.now.max
  have HS := Aside0.mk hs
  have HQ := Aside0.mk hq
  obtain ⟨A, c, evq, hlc, -⟩ := hq
  subst evq
  obtain ⟨ml, eml⟩ : ∃ ml, ml = min q.length 80 := ⟨_, rfl⟩
  have hml : ml ≤ q.length := by omega
  have hml2 : ml ≤ 80 := by omega
  have hmin : (if (80 : Int) < (q.length : Int) then (80 : Int) else (q.length : Int)) = (ml : Int) := by split <;> omega
  have HMIN := Aside0.mk hmin
  have HD := Aside0.mk hd
  clear hs hd hmin eml
  go_enter Try.func7, Try.ntmps7
  go_wp2_with fail
  obtain ⟨b0, eb0⟩ : ∃ b, b = w.heap.size := ⟨_, rfl⟩
  obtain ⟨b1, eb1⟩ : ∃ b, b = w.heap.size + 1 := ⟨_, rfl⟩
  generalize hx : World.alloc (World.alloc _ _) _ = x0
  have hf0 : Fr (fun _ => False) w x0 := by subst hx; exact ((Fr.refl _ w).alloc _).alloc _
  have hb0 : x0.heap[b0]? = some (.cells #[.int .i64 s.f0, .bool s.f1, .int .i64 s.f2, .int .i64 s.f3, .int .i64 s.f4, .int .i64 s.f5, .int .i64 s.f6, .slice As s.f7.length cs, .slice Ds s.f8.length ds] 25 (0, 0)) := by rw [eb0]; subst hx; exact blk_alloc (blk_new w _) _
  have hn0 : x0.heap[b1]? = some (.cells #[.int .u8 a, .int .u8 b] 53 (0, 0)) := by rw [eb1]; subst hx; exact blk_new' (by show _ = (Array.push _ _).size; rw [Array.size_push])
  rw [← eb1, ← eb0]
  have hbw : w.heap.size ≤ b0 := by omega
  have hbw1 : w.heap.size ≤ b1 := by omega
  have h01 : b0 ≠ b1 := by omega
  clear hx eb0 eb1
  refine (head_calls _).mono ?_
  rintro e w1 ⟨rfl, hf1⟩
  have hb1 := hf1.blk hb0 (fun h => h)
  have hn1 := hf1.blk hn0 (fun h => h)
  have hlt1 := blk_lt hb1
  have hltn := blk_lt hn1
  have HF1 := Aside0.mk (hf0.go hf1)
  clear hb0 hf0 hf1 hn0
  have c0 : w1.cell? ⟨b0, 0, none⟩ = some (.int .i64 s.f0) := (blk_cell hb1 0).trans rfl
  have c1 : w1.cell? ⟨b0, 1, none⟩ = some (.bool s.f1) := (blk_cell hb1 1).trans rfl
  have c2 : w1.cell? ⟨b0, 2, none⟩ = some (.int .i64 s.f2) := (blk_cell hb1 2).trans rfl
  have c3 : w1.cell? ⟨b0, 3, none⟩ = some (.int .i64 s.f3) := (blk_cell hb1 3).trans rfl
  have c4 : w1.cell? ⟨b0, 4, none⟩ = some (.int .i64 s.f4) := (blk_cell hb1 4).trans rfl
  have c5 : w1.cell? ⟨b0, 5, none⟩ = some (.int .i64 s.f5) := (blk_cell hb1 5).trans rfl
  have c6 : w1.cell? ⟨b0, 6, none⟩ = some (.int .i64 s.f6) := (blk_cell hb1 6).trans rfl
  have c7 : w1.cell? ⟨b0, 7, none⟩ = some (.slice As s.f7.length cs) := (blk_cell hb1 7).trans rfl
  have c8 : w1.cell? ⟨b0, 8, none⟩ = some (.slice Ds s.f8.length ds) := (blk_cell hb1 8).trans rfl
  go_wp2_with fail
  refine (made_calls (HS.out.go HF1.out) HD.out).mono ?_
  rintro e w2 ⟨v2, rfl, hs2, hf2⟩
  clear c0 c1 c2 c3 c4 c5 c6 c7 c8
  have hfine : Aside0 (∀ q : List Int, q.length ≤ 1000 → Byt q → Fine (mMade s) q) := ⟨fun q => made_fine s q⟩
  have hran : Aside0 ((0 ≤ (mMade s).f4 ∧ (mMade s).f4 ≤ 51) ∧ 0 ≤ (mMade s).f3 ∧ (mMade s).f3 ≤ 12) := ⟨made_range s⟩
  obtain ⟨m, em⟩ : ∃ m, m = mMade s := ⟨_, rfl⟩
  rw [← em] at hs2 hfine hran
  obtain ⟨Am, cm, Dm, dm, e2⟩ := hs2.laid
  subst e2
  have hL1 : ∀ k ∈ [b0, b1], k < w1.heap.size := fun k hk => by
    rcases List.mem_cons.mp hk with h | h
    · rw [h]; exact hlt1
    · rw [List.mem_singleton.mp h]; exact hltn
  have HS2 := Aside0.mk (hs2.made (L := [b0, b1]) hL1)
  have hb2 := hf2.blk hb1 (fun h => h)
  have hn2 := hf2.blk hn1 (fun h => h)
  have hlt2 := blk_lt hb2
  have HF2 := Aside0.mk (HF1.out.go hf2)
  have HB2 := Aside0.mk hb2
  have HN2 := Aside0.mk hn2
  have c0 : w2.cell? ⟨b0, 0, none⟩ = some (.int .i64 s.f0) := (blk_cell hb2 0).trans rfl
  have z0 := blk_frozen hb2 0
  have c1 : w2.cell? ⟨b0, 1, none⟩ = some (.bool s.f1) := (blk_cell hb2 1).trans rfl
  have z1 := blk_frozen hb2 1
  have c2 : w2.cell? ⟨b0, 2, none⟩ = some (.int .i64 s.f2) := (blk_cell hb2 2).trans rfl
  have z2 := blk_frozen hb2 2
  have c3 : w2.cell? ⟨b0, 3, none⟩ = some (.int .i64 s.f3) := (blk_cell hb2 3).trans rfl
  have z3 := blk_frozen hb2 3
  have c4 : w2.cell? ⟨b0, 4, none⟩ = some (.int .i64 s.f4) := (blk_cell hb2 4).trans rfl
  have z4 := blk_frozen hb2 4
  have c5 : w2.cell? ⟨b0, 5, none⟩ = some (.int .i64 s.f5) := (blk_cell hb2 5).trans rfl
  have z5 := blk_frozen hb2 5
  have c6 : w2.cell? ⟨b0, 6, none⟩ = some (.int .i64 s.f6) := (blk_cell hb2 6).trans rfl
  have z6 := blk_frozen hb2 6
  have c7 : w2.cell? ⟨b0, 7, none⟩ = some (.slice As s.f7.length cs) := (blk_cell hb2 7).trans rfl
  have z7 := blk_frozen hb2 7
  have c8 : w2.cell? ⟨b0, 8, none⟩ = some (.slice Ds s.f8.length ds) := (blk_cell hb2 8).trans rfl
  have z8 := blk_frozen hb2 8
  clear em hs2 hf2 hb2 hb1 hlt1 hn1 hn2 hltn
  go_upto_region 3 with (fail)
  generalize hx : World.setCell _ _ _ = w3
  have hf3 : Fr (fun k => k ∈ [b0, b1]) w2 w3 := by subst hx; exact ((((((((((Fr.refl (fun k => k = b0) w2).setG 0 _).setG 1 _).setG 2 _).setG 3 _).setG 4 _).setG 5 _).setG 6 _).setG 7 _).setG 8 _).mono (fun k hk => by rw [hk]; exact List.mem_cons_self)
  have hb3 : w3.heap[b0]? = some (.cells #[.int .i64 m.f0, .bool m.f1, .int .i64 m.f2, .int .i64 m.f3, .int .i64 m.f4, .int .i64 m.f5, .int .i64 m.f6, .slice Am m.f7.length cm, .slice Dm m.f8.length dm] 25 (0, 0)) := by subst hx; exact put9 HB2.out
  have hn3 : w3.heap[b1]? = some (.cells #[.int .u8 a, .int .u8 b] 53 (0, 0)) := by
    have hf3' : Fr (fun k => k = b0) w2 w3 := by subst hx; exact (((((((((Fr.refl (fun k => k = b0) w2).setG 0 _).setG 1 _).setG 2 _).setG 3 _).setG 4 _).setG 5 _).setG 6 _).setG 7 _).setG 8 _
    exact hf3'.blk HN2.out (fun h => h01 h.symm)
  have HS3 := Aside0.mk (HS2.out.on hf3 (fun k hk => .inl hk))
  have HF3 : Aside0 (Fr (fun k => k ∈ [b0, b1]) w w3) := ⟨(HF2.out.mono (fun _ h => h.elim)).trans hf3 (fun i h => .inl h)⟩
  have hnew : ∀ k ∈ [b0, b1], w.heap.size ≤ k := fun k hk => by
    rcases List.mem_cons.mp hk with h | h
    · rw [h]; exact hbw
    · rw [List.mem_singleton.mp h]; exact hbw1
  have HNEW := Aside0.mk hnew
  have HQ3 := Aside0.mk (HQ.out.off0.on HF3.out (fun k hk => .inr (hnew k hk)))
  have HQC := Aside0.mk (cut_head HQ3.out (ml : Int) ml rfl hml)
  have HB3 := Aside0.mk hb3
  have HN3 := Aside0.mk hn3
  have hlt3 := blk_lt hb3
  have hltn3 := blk_lt hn3
  have hL3 : ∀ k ∈ [b0, b1], k < w3.heap.size := fun k hk => by
    rcases List.mem_cons.mp hk with h | h
    · rw [h]; exact hlt3
    · rw [List.mem_singleton.mp h]; exact hltn3
  have hmlc : (ml : Int) ≤ (c : Int) := by omega
  have hml0 : (0 : Int) ≤ (ml : Int) := by omega
  have hmin := HMIN.out
  clear hx hb3 hn3 hf3 HB2 HN2 hnew c0 c1 c2 c3 c4 c5 c6 c7 c8 z0 z1 z2 z3 z4 z5 z6 z7 z8
  have hcut : ∀ W : World, (Instr.slice 31 (.slice A q.length c) none (some (.int .i64 (ml : Int))) none).run Try.prog W = .ok (.slice A ml c) W := fun W => run_cut hlc (by omega) W
  obtain ⟨q1, eq1⟩ : ∃ q1, q1 = q.take ml := ⟨_, rfl⟩
  have hq1l : q1.length ≤ 80 := by rw [eq1, List.length_take]; omega
  have hq1B : Aside0 (Byt q1) := ⟨fun x hx => hB x (List.take_subset ml q (eq1 ▸ hx))⟩
  rw [← eq1] at HQC
  clear eq1
  go_upto_region 4 with (at_builtin; refine appB Try.underlying31 i5 (W := _) w3.heap.size rfl _ _ rfl (.slice (some ⟨w3.heap.size, 0, none⟩) 0 0) (.slice A ml c) [] q1 rfl rfl (own_lit' w3.heap.size (blk_new w3 _) rfl (Nat.le_refl _) rfl (by omega)) ((HQC.out.step (fun k hk hlt => ((Fr.refl (fun _ => False) w3).alloc _).block k hlt (fun h => h))).now) (by simp) (by simp; omega) ?_; intro v4 w4 ho4 hg4 hb4; have hf4 : Fr (fun _ => False) w3 w4 := ((Fr.refl (fun _ => False) w3).alloc _).grown hg4 (fun k hk => .inr (hb4 k hk)); have hq4 := own_rdF ho4; (rw [List.nil_append] at hq4); have HQ4 := Aside0.mk (hq4.made (L := [b0, b1]) (fun k hk => hL3 k hk)); obtain ⟨A4, c4, e4, -, -⟩ := hq4; subst e4; have HS4 := Aside0.mk (HS3.out.on (hf4.mono (S' := fun k => k ∈ [b0, b1]) (fun _ h => h.elim)) (fun k hk => .inl hk)); have HB4 := Aside0.mk (hf4.blk HB3.out (fun h => h)); have HN4 := Aside0.mk (hf4.blk HN3.out (fun h => h)); have hlt4 := blk_lt HB4.out; have HF4 := Aside0.mk (HF3.out.calls hf4); clear ho4 hg4 hb4 hf4)
  have m0 : w4.cell? ⟨b0, 0, none⟩ = some (.int .i64 m.f0) := (blk_cell HB4.out 0).trans rfl
  have m1 : w4.cell? ⟨b0, 1, none⟩ = some (.bool m.f1) := (blk_cell HB4.out 1).trans rfl
  have m2 : w4.cell? ⟨b0, 2, none⟩ = some (.int .i64 m.f2) := (blk_cell HB4.out 2).trans rfl
  have m3 : w4.cell? ⟨b0, 3, none⟩ = some (.int .i64 m.f3) := (blk_cell HB4.out 3).trans rfl
  have m4 : w4.cell? ⟨b0, 4, none⟩ = some (.int .i64 m.f4) := (blk_cell HB4.out 4).trans rfl
  have m5 : w4.cell? ⟨b0, 5, none⟩ = some (.int .i64 m.f5) := (blk_cell HB4.out 5).trans rfl
  have m6 : w4.cell? ⟨b0, 6, none⟩ = some (.int .i64 m.f6) := (blk_cell HB4.out 6).trans rfl
  have m7 : w4.cell? ⟨b0, 7, none⟩ = some (.slice Am m.f7.length cm) := (blk_cell HB4.out 7).trans rfl
  have m8 : w4.cell? ⟨b0, 8, none⟩ = some (.slice Dm m.f8.length dm) := (blk_cell HB4.out 8).trans rfl
  have n0 : w4.cell? ⟨b1, 0, none⟩ = some (.int .u8 a) := (blk_cell HN4.out 0).trans rfl
  have n1 : w4.cell? ⟨b1, 1, none⟩ = some (.int .u8 b) := (blk_cell HN4.out 1).trans rfl
  clear hmin hcut hL1 hL3
  go_region_held3 (fun w' => w'.cell? ⟨b1, 0, none⟩ = some (.int .u8 a) ∧ w'.cell? ⟨b1, 1, none⟩ = some (.int .u8 b)) (refine ⟨Fr.cellA (w := w4) ?_ n0, Fr.cellA (w := w4) ?_ n1⟩ <;> (repeat (first | exact Fr.refl _ _ | refine Fr.drew ?_))) (fail)
  rename_i hHeld
  clear hHeld n0 n1 m0 m1 m2 m3 m4 m5 m6 m7 m8
  have hwa : IntKind.i64.wrap a = a := (i64_w a).trans (wrap64_small ⟨ha0, by omega⟩)
  have hwb : IntKind.i64.wrap b = b := (i64_w b).trans (wrap64_small ⟨hb0, by omega⟩)
  rw [hwa, hwb]
  clear hwa hwb
  generalize hx : World.drew _ = w5
  have hf5 : Fr (fun _ => False) w4 w5 := by subst hx; exact (Fr.refl _ w4).drew
  have HS5 := Aside0.mk (HS4.out.on (hf5.mono (S' := fun k => k ∈ [b0, b1]) (fun _ h => h.elim)) (fun k hk => .inl hk))
  have HQ5 := Aside0.mk (HQ4.out.on (hf5.mono (S' := fun k => k ∈ [b0, b1]) (fun _ h => h.elim)) (fun k hk => .inl hk))
  have HB5 := Aside0.mk (hf5.blk HB4.out (fun h => h))
  have HF5 := Aside0.mk (HF4.out.calls hf5)
  have HL5 : Aside0 (∀ k ∈ [b0, b1], k < w5.heap.size) := ⟨fun k hk => by
    rcases List.mem_cons.mp hk with h | h
    · rw [h]; exact blk_lt HB5.out
    · rw [List.mem_singleton.mp h]; exact blk_lt (hf5.blk HN4.out (fun h => h))⟩
  clear hx hf5 HS4 HQ4 HB4 HF4 HN4 HN3 HB3 HS3 HF3 HQ3 HQC hlt3 hltn3 hlt4
  have m0 : w5.cell? ⟨b0, 0, none⟩ = some (.int .i64 m.f0) := (blk_cell HB5.out 0).trans rfl
  have m1 : w5.cell? ⟨b0, 1, none⟩ = some (.bool m.f1) := (blk_cell HB5.out 1).trans rfl
  have m2 : w5.cell? ⟨b0, 2, none⟩ = some (.int .i64 m.f2) := (blk_cell HB5.out 2).trans rfl
  have m3 : w5.cell? ⟨b0, 3, none⟩ = some (.int .i64 m.f3) := (blk_cell HB5.out 3).trans rfl
  have m4 : w5.cell? ⟨b0, 4, none⟩ = some (.int .i64 m.f4) := (blk_cell HB5.out 4).trans rfl
  have m5 : w5.cell? ⟨b0, 5, none⟩ = some (.int .i64 m.f5) := (blk_cell HB5.out 5).trans rfl
  have m6 : w5.cell? ⟨b0, 6, none⟩ = some (.int .i64 m.f6) := (blk_cell HB5.out 6).trans rfl
  have m7 : w5.cell? ⟨b0, 7, none⟩ = some (.slice Am m.f7.length cm) := (blk_cell HB5.out 7).trans rfl
  have m8 : w5.cell? ⟨b0, 8, none⟩ = some (.slice Dm m.f8.length dm) := (blk_cell HB5.out 8).trans rfl
  go_wp2_with fail
  refine (dTick_calls HS5.out hran.out.1 hran.out.2).mono ?_
  rintro e w6 ⟨v6, rfl, ht6, hf6⟩
  dsimp only
  obtain ⟨At, ct, Dt, dt, e6⟩ := ht6.laid
  subst e6
  have hadd : Aside0 (ticks b.toNat (ticks a.toNat m) = ticks (a + b).toNat m) := ⟨by rw [ticks_add, show a.toNat + b.toNat = (a + b).toNat by omega]⟩
  have hzero : Aside0 (ticks (0 : Int).toNat m = m) := ⟨rfl⟩
  have hneg : Aside0 (ticks (IntKind.i64.wrap (-1 - a)).toNat m = m) := ⟨by rw [i64_w, show (wrap64 (-1 - a)).toNat = 0 by unfold wrap64; omega]; rfl⟩
  have hshut : Aside0 (50 < a + b → (ticks (a + b).toNat m).f0 = 1 ∧ (ticks (a + b).toNat m).f1 = false ∧ (ticks (a + b).toNat m).f2 = -1) := ⟨fun h => ticks_shut hran.out.1 hran.out.2 (by omega)⟩
  have hcalm : Aside0 (m.f4 + a + b ≤ 50 → (ticks (a + b).toNat m).f0 = m.f0 ∧ (ticks (a + b).toNat m).f1 = m.f1 ∧ (ticks (a + b).toNat m).f2 = m.f2) := ⟨fun h => ticks_calm hran.out.1 hran.out.2 _ (by omega)⟩
  have htf : Aside0 (Fine (ticks (a + b).toNat m) q1) := ⟨ticks_fine (hfine.out q1 (by omega) hq1B.out) hran.out.1 hran.out.2 _⟩
  obtain ⟨t, et⟩ : ∃ t, t = ticks (a + b).toNat m := ⟨_, rfl⟩
  rw [← et] at ht6 hadd hshut hcalm htf ⊢
  have HT6 := Aside0.mk ht6
  have HF6 := Aside0.mk hf6
  clear ht6 hf6 et m0 m1 m2 m3 m4 m5 m6 m7 m8
  go_upto_region 6 with (fail)
  generalize hx : World.alloc _ _ = w7
  obtain ⟨b2, eb2⟩ : ∃ b2, b2 = w6.heap.size := ⟨_, rfl⟩
  rw [← eb2]
  have hf7 : Fr (fun _ => False) w6 w7 := by subst hx; exact (Fr.refl _ w6).alloc _
  have hc2 : w7.heap[b2]? = some (.cells #[.int .i64 t.f0, .bool t.f1, .int .i64 t.f2, .int .i64 t.f3, .int .i64 t.f4, .int .i64 t.f5, .int .i64 t.f6, .slice At t.f7.length ct, .slice Dt t.f8.length dt] 25 (0, 0)) := by rw [eb2]; subst hx; exact blk_new w6 _
  have HC7 := Aside0.mk hc2
  have hf57 : Fr (fun _ => False) w5 w7 := HF6.out.calls hf7
  have HB7 := Aside0.mk (hf57.blk HB5.out (fun h => h))
  have HS7 := Aside0.mk (HS5.out.on (hf57.mono (S' := fun k => k ∈ [b0, b1]) (fun _ h => h.elim)) (fun k hk => .inl hk))
  have HQ7 := Aside0.mk (HQ5.out.on (hf57.mono (S' := fun k => k ∈ [b0, b1]) (fun _ h => h.elim)) (fun k hk => .inl hk))
  have HT7 := Aside0.mk (HT6.out.on (hf7.mono (S' := fun k => k ∈ [b0, b1]) (fun _ h => h.elim)) (fun k hk => .inl hk))
  have HF7 := Aside0.mk (HF5.out.calls hf57)
  have HL7 : Aside0 (∀ k ∈ [b0, b1], k < w7.heap.size) := ⟨fun k hk => Nat.lt_of_lt_of_le (HL5.out k hk) hf57.size⟩
  have hltc := blk_lt hc2
  clear hx eb2 hf57 hf7 hc2 HB5 HS5 HQ5 HT6 HF5 HF6
  have HFR : Aside0 (Fr (fun _ => False) w7 w7.drew) := ⟨(Fr.refl _ w7).drew⟩
  have m0 : w7.cell? ⟨b0, 0, none⟩ = some (.int .i64 m.f0) := (blk_cell HB7.out 0).trans rfl
  have m1 : w7.cell? ⟨b0, 1, none⟩ = some (.bool m.f1) := (blk_cell HB7.out 1).trans rfl
  have m2 : w7.cell? ⟨b0, 2, none⟩ = some (.int .i64 m.f2) := (blk_cell HB7.out 2).trans rfl
  have m3 : w7.cell? ⟨b0, 3, none⟩ = some (.int .i64 m.f3) := (blk_cell HB7.out 3).trans rfl
  have m4 : w7.cell? ⟨b0, 4, none⟩ = some (.int .i64 m.f4) := (blk_cell HB7.out 4).trans rfl
  have m5 : w7.cell? ⟨b0, 5, none⟩ = some (.int .i64 m.f5) := (blk_cell HB7.out 5).trans rfl
  have m6 : w7.cell? ⟨b0, 6, none⟩ = some (.int .i64 m.f6) := (blk_cell HB7.out 6).trans rfl
  have m7 : w7.cell? ⟨b0, 7, none⟩ = some (.slice Am m.f7.length cm) := (blk_cell HB7.out 7).trans rfl
  have m8 : w7.cell? ⟨b0, 8, none⟩ = some (.slice Dm m.f8.length dm) := (blk_cell HB7.out 8).trans rfl
  have t0 : w7.cell? ⟨b2, 0, none⟩ = some (.int .i64 t.f0) := (blk_cell HC7.out 0).trans rfl
  have t1 : w7.cell? ⟨b2, 1, none⟩ = some (.bool t.f1) := (blk_cell HC7.out 1).trans rfl
  have t2 : w7.cell? ⟨b2, 2, none⟩ = some (.int .i64 t.f2) := (blk_cell HC7.out 2).trans rfl
  have t3 : w7.cell? ⟨b2, 3, none⟩ = some (.int .i64 t.f3) := (blk_cell HC7.out 3).trans rfl
  have t4 : w7.cell? ⟨b2, 4, none⟩ = some (.int .i64 t.f4) := (blk_cell HC7.out 4).trans rfl
  have t5 : w7.cell? ⟨b2, 5, none⟩ = some (.int .i64 t.f5) := (blk_cell HC7.out 5).trans rfl
  have t6 : w7.cell? ⟨b2, 6, none⟩ = some (.int .i64 t.f6) := (blk_cell HC7.out 6).trans rfl
  have t7 : w7.cell? ⟨b2, 7, none⟩ = some (.slice At t.f7.length ct) := (blk_cell HC7.out 7).trans rfl
  have t8 : w7.cell? ⟨b2, 8, none⟩ = some (.slice Dt t.f8.length dt) := (blk_cell HC7.out 8).trans rfl
  go_region_held3 (fun w' => w'.cell? ⟨b0, 0, none⟩ = some (.int .i64 m.f0) ∧ w'.cell? ⟨b0, 1, none⟩ = some (.bool m.f1) ∧ w'.cell? ⟨b0, 2, none⟩ = some (.int .i64 m.f2) ∧ w'.cell? ⟨b0, 3, none⟩ = some (.int .i64 m.f3) ∧ w'.cell? ⟨b0, 4, none⟩ = some (.int .i64 m.f4) ∧ w'.cell? ⟨b0, 5, none⟩ = some (.int .i64 m.f5) ∧ w'.cell? ⟨b0, 6, none⟩ = some (.int .i64 m.f6) ∧ w'.cell? ⟨b0, 7, none⟩ = some (.slice Am m.f7.length cm) ∧ w'.cell? ⟨b0, 8, none⟩ = some (.slice Dm m.f8.length dm) ∧ w'.cell? ⟨b2, 0, none⟩ = some (.int .i64 t.f0) ∧ w'.cell? ⟨b2, 1, none⟩ = some (.bool t.f1) ∧ w'.cell? ⟨b2, 2, none⟩ = some (.int .i64 t.f2) ∧ w'.cell? ⟨b2, 3, none⟩ = some (.int .i64 t.f3) ∧ w'.cell? ⟨b2, 4, none⟩ = some (.int .i64 t.f4) ∧ w'.cell? ⟨b2, 5, none⟩ = some (.int .i64 t.f5) ∧ w'.cell? ⟨b2, 6, none⟩ = some (.int .i64 t.f6) ∧ w'.cell? ⟨b2, 7, none⟩ = some (.slice At t.f7.length ct) ∧ w'.cell? ⟨b2, 8, none⟩ = some (.slice Dt t.f8.length dt)) (refine ⟨Fr.cellA (w := w7) ?_ m0, Fr.cellA (w := w7) ?_ m1, Fr.cellA (w := w7) ?_ m2, Fr.cellA (w := w7) ?_ m3, Fr.cellA (w := w7) ?_ m4, Fr.cellA (w := w7) ?_ m5, Fr.cellA (w := w7) ?_ m6, Fr.cellA (w := w7) ?_ m7, Fr.cellA (w := w7) ?_ m8, Fr.cellA (w := w7) ?_ t0, Fr.cellA (w := w7) ?_ t1, Fr.cellA (w := w7) ?_ t2, Fr.cellA (w := w7) ?_ t3, Fr.cellA (w := w7) ?_ t4, Fr.cellA (w := w7) ?_ t5, Fr.cellA (w := w7) ?_ t6, Fr.cellA (w := w7) ?_ t7, Fr.cellA (w := w7) ?_ t8⟩ <;> (repeat (first | exact Fr.refl _ _ | exact HFR.out | refine Fr.drew ?_)))
    (first | (go_at_call 38; refine (dTick_calls HX.out (ticks_range hran.out.1 hran.out.2 _).1 (ticks_range hran.out.1 hran.out.2 _).2).mono ?_; rintro e wn ⟨vn, rfl, hn, hfn⟩; (rw [hadd.out] at hn); have HX := Aside0.mk hn; have HFR := Aside0.mk (HFR.out.calls hfn); clear hn hfn) | (go_at_call 38; refine (dTick_calls (HS7.out.on (HFR.out.mono (S' := fun k => k ∈ [b0, b1]) (fun _ h => h.elim)) (fun k hk => .inl hk)) hran.out.1 hran.out.2).mono ?_; rintro e wn ⟨vn, rfl, hn, hfn⟩; (try rw [hzero.out] at hn); (try rw [hneg.out] at hn); have HX := Aside0.mk hn; have HFR := Aside0.mk (HFR.out.calls hfn); clear hn hfn) | (go_at_call 34; refine (same22_calls HX.out (HT7.out.on (HFR.out.mono (S' := fun k => k ∈ [b0, b1]) (fun _ h => h.elim)) (fun k hk => .inl hk))).mono ?_; rintro e wn ⟨rfl, hfn⟩; have HFR := Aside0.mk (HFR.out.calls hfn); clear hfn) | (go_at_call 34; refine (same22_calls HX.out (HS7.out.on (HFR.out.mono (S' := fun k => k ∈ [b0, b1]) (fun _ h => h.elim)) (fun k hk => .inl hk))).mono ?_; rintro e wn ⟨rfl, hfn⟩; have HFR := Aside0.mk (HFR.out.calls hfn); clear hfn))
  rename_i hHeld
  clear hHeld m0 m1 m2 m3 m4 m5 m6 m7 m8 t0 t1 t2 t3 t4 t5 t6 t7 t8
  have hf8 := HFR.out
  have HF8 := Aside0.mk (HF7.out.calls hf8)
  have HL8 : Aside0 (∀ k ∈ [b0, b1], k < wn.heap.size) := ⟨fun k hk => Nat.lt_of_lt_of_le (HL7.out k hk) hf8.size⟩
  have HB8 := Aside0.mk (hf8.blk HB7.out (fun h => h))
  have HC8 := Aside0.mk (hf8.blk HC7.out (fun h => h))
  have HT8 := Aside0.mk (HT7.out.on (hf8.mono (S' := fun k => k ∈ [b0, b1]) (fun _ h => h.elim)) (fun k hk => .inl hk))
  have HQ8 := Aside0.mk (HQ7.out.on (hf8.mono (S' := fun k => k ∈ [b0, b1]) (fun _ h => h.elim)) (fun k hk => .inl hk))
  clear hf8 HFR HF7 HB7 HC7 HT7 HQ7 HS7 HX
  have hm4 := hran.out.1
  have hcase : (50 < a + b ∧ ¬ m.f4 + a + b ≤ 50 ∧ t.f0 = 1 ∧ t.f1 = false ∧ t.f2 = -1) ∨ (¬ 50 < a + b ∧ m.f4 + a + b ≤ 50 ∧ t.f0 = m.f0 ∧ t.f1 = m.f1 ∧ t.f2 = m.f2) ∨ (¬ 50 < a + b ∧ ¬ m.f4 + a + b ≤ 50) := by
    by_cases h1 : 50 < a + b
    · obtain ⟨k0, k1, k2⟩ := hshut.out h1
      exact .inl ⟨h1, by omega, k0, k1, k2⟩
    · by_cases h2 : m.f4 + a + b ≤ 50
      · obtain ⟨k0, k1, k2⟩ := hcalm.out h2
        exact .inr (.inl ⟨h1, h2, k0, k1, k2⟩)
      · exact .inr (.inr ⟨h1, h2⟩)
  have m0 : wn.cell? ⟨b0, 0, none⟩ = some (.int .i64 m.f0) := (blk_cell HB8.out 0).trans rfl
  have m1 : wn.cell? ⟨b0, 1, none⟩ = some (.bool m.f1) := (blk_cell HB8.out 1).trans rfl
  have m2 : wn.cell? ⟨b0, 2, none⟩ = some (.int .i64 m.f2) := (blk_cell HB8.out 2).trans rfl
  have m4 : wn.cell? ⟨b0, 4, none⟩ = some (.int .i64 m.f4) := (blk_cell HB8.out 4).trans rfl
  have t0 : wn.cell? ⟨b2, 0, none⟩ = some (.int .i64 t.f0) := (blk_cell HC8.out 0).trans rfl
  have t1 : wn.cell? ⟨b2, 1, none⟩ = some (.bool t.f1) := (blk_cell HC8.out 1).trans rfl
  have t2 : wn.cell? ⟨b2, 2, none⟩ = some (.int .i64 t.f2) := (blk_cell HC8.out 2).trans rfl
  rcases hcase with ⟨g1, g2, k0, k1, k2⟩ | ⟨g1, g2, k0, k1, k2⟩ | ⟨g1, g2⟩
  all_goals first | (rw [k0] at t0; rw [k1] at t1; rw [k2] at t2; go_upto_region 10 with (fail); clear t0 t1 t2 m0 m1 m2 m4 k0 k1 k2) | (go_upto_region 10 with (fail); clear t0 t1 t2 m0 m1 m2 m4)
  all_goals
    have t0 : wn.cell? ⟨b2, 0, none⟩ = some (.int .i64 t.f0) := (blk_cell HC8.out 0).trans rfl
    have t1 : wn.cell? ⟨b2, 1, none⟩ = some (.bool t.f1) := (blk_cell HC8.out 1).trans rfl
    have t2 : wn.cell? ⟨b2, 2, none⟩ = some (.int .i64 t.f2) := (blk_cell HC8.out 2).trans rfl
    have t3 : wn.cell? ⟨b2, 3, none⟩ = some (.int .i64 t.f3) := (blk_cell HC8.out 3).trans rfl
    have t4 : wn.cell? ⟨b2, 4, none⟩ = some (.int .i64 t.f4) := (blk_cell HC8.out 4).trans rfl
    have t5 : wn.cell? ⟨b2, 5, none⟩ = some (.int .i64 t.f5) := (blk_cell HC8.out 5).trans rfl
    have t6 : wn.cell? ⟨b2, 6, none⟩ = some (.int .i64 t.f6) := (blk_cell HC8.out 6).trans rfl
    have t7 : wn.cell? ⟨b2, 7, none⟩ = some (.slice At t.f7.length ct) := (blk_cell HC8.out 7).trans rfl
    have t8 : wn.cell? ⟨b2, 8, none⟩ = some (.slice Dt t.f8.length dt) := (blk_cell HC8.out 8).trans rfl
    go_wp2_with fail
    refine (ask_calls HT8.out HQ8.out htf.out).mono ?_
    rintro e w9 ⟨vu, vb, rfl, hu, -, hf9⟩
    have hu0 : Aside0 (0 < q1.length → (mAsk t q1).1.f4 = 0) := ⟨ask_f4 t q1⟩
    have hun : Aside0 (q1.length = 0 → (mAsk t q1).1 = t) := ⟨ask_nil t q1⟩
    obtain ⟨u, eu⟩ : ∃ u, u = (mAsk t q1).1 := ⟨_, rfl⟩
    obtain ⟨on, eon⟩ : ∃ on, on = (mAsk t q1).2.2 := ⟨_, rfl⟩
    rw [← eu] at hu hu0 hun
    rw [← eon]
    clear eu eon
    obtain ⟨Au, cu, Du, du, e9⟩ := hu.laid
    subst e9
    dsimp only
    have HU9 := Aside0.mk (hu.now_ (L := [b0, b1]) HL8.out)
    have HF9 := Aside0.mk hf9
    clear hu hf9 t0 t1 t2 t3 t4 t5 t6 t7 t8
    go_upto_region 11 with (fail)
    generalize hx : World.alloc _ _ = w10
    obtain ⟨b3, eb3⟩ : ∃ b3, b3 = w9.heap.size := ⟨_, rfl⟩
    rw [← eb3]
    have hf10 : Fr (fun _ => False) w9 w10 := by subst hx; exact (Fr.refl _ w9).alloc _
    have hu10 : w10.heap[b3]? = some (.cells #[.int .i64 u.f0, .bool u.f1, .int .i64 u.f2, .int .i64 u.f3, .int .i64 u.f4, .int .i64 u.f5, .int .i64 u.f6, .slice Au u.f7.length cu, .slice Du u.f8.length du] 25 (0, 0)) := by rw [eb3]; subst hx; exact blk_new w9 _
    have hf810 : Fr (fun _ => False) wn w10 := HF9.out.calls hf10
    have hc10 := hf810.blk HC8.out (fun h => h)
    have HF10 := Aside0.mk (HF8.out.calls hf810)
    have HT10 := Aside0.mk (HT8.out.on (hf810.mono (S' := fun k => k ∈ [b0, b1]) (fun _ h => h.elim)) (fun k hk => .inl hk))
    have HU10 := Aside0.mk (HU9.out.on (hf10.mono (S' := fun k => k ∈ [b0, b1]) (fun _ h => h.elim)) (fun k hk => .inl hk))
    clear hx eb3 HF9 HU9 HT8 HQ8 HC8 HB8 hf10 hf810
    have u0 : w10.cell? ⟨b3, 0, none⟩ = some (.int .i64 u.f0) := (blk_cell hu10 0).trans rfl
    have u1 : w10.cell? ⟨b3, 1, none⟩ = some (.bool u.f1) := (blk_cell hu10 1).trans rfl
    have u2 : w10.cell? ⟨b3, 2, none⟩ = some (.int .i64 u.f2) := (blk_cell hu10 2).trans rfl
    have u3 : w10.cell? ⟨b3, 3, none⟩ = some (.int .i64 u.f3) := (blk_cell hu10 3).trans rfl
    have u4 : w10.cell? ⟨b3, 4, none⟩ = some (.int .i64 u.f4) := (blk_cell hu10 4).trans rfl
    have u5 : w10.cell? ⟨b3, 5, none⟩ = some (.int .i64 u.f5) := (blk_cell hu10 5).trans rfl
    have u6 : w10.cell? ⟨b3, 6, none⟩ = some (.int .i64 u.f6) := (blk_cell hu10 6).trans rfl
    have u7 : w10.cell? ⟨b3, 7, none⟩ = some (.slice Au u.f7.length cu) := (blk_cell hu10 7).trans rfl
    have u8 : w10.cell? ⟨b3, 8, none⟩ = some (.slice Du u.f8.length du) := (blk_cell hu10 8).trans rfl
    have t0 : w10.cell? ⟨b2, 0, none⟩ = some (.int .i64 t.f0) := (blk_cell hc10 0).trans rfl
    have t1 : w10.cell? ⟨b2, 1, none⟩ = some (.bool t.f1) := (blk_cell hc10 1).trans rfl
    have t2 : w10.cell? ⟨b2, 2, none⟩ = some (.int .i64 t.f2) := (blk_cell hc10 2).trans rfl
    have t3 : w10.cell? ⟨b2, 3, none⟩ = some (.int .i64 t.f3) := (blk_cell hc10 3).trans rfl
    have t4 : w10.cell? ⟨b2, 4, none⟩ = some (.int .i64 t.f4) := (blk_cell hc10 4).trans rfl
    have t5 : w10.cell? ⟨b2, 5, none⟩ = some (.int .i64 t.f5) := (blk_cell hc10 5).trans rfl
    have t6 : w10.cell? ⟨b2, 6, none⟩ = some (.int .i64 t.f6) := (blk_cell hc10 6).trans rfl
    have t7 : w10.cell? ⟨b2, 7, none⟩ = some (.slice At t.f7.length ct) := (blk_cell hc10 7).trans rfl
    have t8 : w10.cell? ⟨b2, 8, none⟩ = some (.slice Dt t.f8.length dt) := (blk_cell hc10 8).trans rfl
    clear hu10 hc10
    rcases Nat.eq_zero_or_pos q1.length with h0 | h0
    · have h0i : ((q1.length : Int) == 0) = true := by rw [h0]; rfl
      have eut := hun.out h0
      subst eut
      cases h4 : (u.f4 == 0)
      · go_wp2_with fail
        refine (same22_calls HU10.out HT10.out).mono ?_
        rintro e w11 ⟨rfl, hf11⟩
        go_wp2
        go_ret
        exact ⟨rfl, (HF10.out.calls hf11).below (fun i h => HNEW.out i h)⟩
      · go_wp2
        go_ret
        exact ⟨rfl, HF10.out.below (fun i h => HNEW.out i h)⟩
    · rw [hu0.out h0] at u4
      go_wp2
      go_ret
      exact ⟨rfl, HF10.out.below (fun i h => HNEW.out i h)⟩
end Go.Proofs.Ph
