/- Part 28 of the proof of DiagHands, for every input: LHa. No condition. -/
import Derived.Test.YthjnlggommennaaH26
import Derived.Test.YthjnlggommennaaH20
import Derived.Test.YthjnlggommennaaH8
import Derived.Test.YthjnlggommennaaH25
import Derived.Test.YthjnlggommennaaH2
set_option linter.unusedVariables false
set_option linter.unusedSimpArgs false
set_option linter.unusedSectionVars false
/- DiagHands: what is handed on: its walk. No condition. -/
namespace Go.Proofs.Ph
open Go Go.RowKit Go.Proofs.YthjnlggommennaaW.PrintWords Go.Proofs.YthjnlggommennaaW.PrintMore
theorem keep_len : ∀ (n : Nat) (last : Int) (l : List S47), (keep n last l).length ≤ n
  | 0, _, _ => by unfold keep; simp
  | n + 1, last, [] => by simp [keep]
  | n + 1, last, x :: l => by
    unfold keep
    split
    · rw [List.length_cons]; exact Nat.succ_le_succ (keep_len n _ l)
    · exact Nat.le_succ_of_le (keep_len n _ l)
theorem keep_data : ∀ (n : Nat) (last : Int) (l : List S47), ∀ y ∈ keep n last l, y.f2.length ≤ 64
  | 0, _, _, y, hy => by unfold keep at hy; cases hy
  | n + 1, last, [], y, hy => by simp [keep] at hy
  | n + 1, last, x :: l, y, hy => by
    unfold keep at hy
    split at hy
    · rcases List.mem_cons.mp hy with h | h
      · subst h
        show (x.f2.take 64).length ≤ 64
        rw [List.length_take]
        omega
      · exact keep_data n _ l y h
    · exact keep_data n _ l y hy
theorem made_fine (s : S25) (q : List Int) (hq : q.length ≤ 1000) (hB : Byt q) : Fine (mMade s) q := by
  refine ⟨?_, ?_, ?_, ?_, hq, hB⟩
  · show 0 ≤ s.f3 % 65536 % 13
    omega
  · have := keep_len 16 (-1) s.f7
    show (keep 16 (-1) s.f7).length ≤ 1000
    omega
  · intro x hx
    have := keep_data 16 (-1) s.f7 x hx
    omega
  · show (if rOk s.f8 = true then s.f8 else []).length ≤ 600
    split
    · rename_i h
      unfold rOk at h
      simp only [Bool.and_eq_true, decide_eq_true_eq] at h
      omega
    · simp
/-- The cases of the chain 'is it handed on'. -/
theorem wants_cases (m : S25) (q : List Int) (hB : Byt q) (h : Aside0 (wants m q = false)) : (q.length = 0) ∨ (0 < q.length ∧ (q.getD 0 0 == 52) = false ∧ (q.getD 0 0 == 54) = false ∧ (q.getD 0 0 == 55) = false) ∨
    ((0 < q.length ∧ ((q.getD 0 0 == 52) = true ∨ (q.getD 0 0 == 52) = false ∧ (q.getD 0 0 == 54) = true ∨ (q.getD 0 0 == 52) = false ∧ (q.getD 0 0 == 54) = false ∧ (q.getD 0 0 == 55) = true)) ∧ ((m.f0 == 3) = false ∨ (m.f0 == 3) = true ∧ m.f1 = false)) := by
  have h := h.out
  unfold wants hands at h
  rcases Nat.eq_zero_or_pos q.length with h0 | h0
  · exact .inl h0
  · rw [decide_eq_true h0] at h
    cases a : (q.getD 0 0 == 52) <;> cases b : (q.getD 0 0 == 54) <;> cases c : (q.getD 0 0 == 55) <;> cases d : (m.f0 == 3) <;> cases e : m.f1 <;> simp_all
theorem wants_true (m : S25) (q : List Int) (h : wants m q = true) : (0 < q.length ∧ ((q.getD 0 0 == 52) = true ∨ (q.getD 0 0 == 52) = false ∧ (q.getD 0 0 == 54) = true ∨ (q.getD 0 0 == 52) = false ∧ (q.getD 0 0 == 54) = false ∧ (q.getD 0 0 == 55) = true)) ∧ (m.f0 == 3) = true ∧ m.f1 = true := by
  unfold wants hands at h
  rcases Nat.eq_zero_or_pos q.length with h0 | h0
  · rw [decide_eq_false (by omega)] at h
    simp at h
  · rw [decide_eq_true h0] at h
    cases a : (q.getD 0 0 == 52) <;> cases b : (q.getD 0 0 == 54) <;> cases c : (q.getD 0 0 == 55) <;> cases d : (m.f0 == 3) <;> cases e : m.f1 <;> simp_all
theorem run_cut {A : Option Addr} {n c ml : Nat} (hn : n ≤ c) (h1 : ml ≤ c) (W : World) : (Instr.slice 31 (.slice A n c) none (some (.int .i64 (ml : Int))) none).run Try.prog W = .ok (.slice A ml c) W := by
  have hu := Try.underlying31
  have h0 : (0 : Int) ≤ (ml : Int) := by omega
  have h2 : (ml : Int) ≤ (c : Int) := by omega
  cases A with
  | none => go_simp
  | some ad => go_simp
theorem RdS.quiet {w : World} {ok : Nat → Prop} {m : S25} {Ai Ad : Option Addr} {ci cd : Nat} {b : Bool} (h : RdS w ok (.agg #[.int .i64 m.f0,.bool m.f1,.int .i64 m.f2,.int .i64 m.f3,.int .i64 m.f4,.int .i64 m.f5,.int .i64 m.f6,.slice Ai m.f7.length ci,.slice Ad m.f8.length cd]) m) (hb : m.f1 = b) :
    RdS w ok (.agg #[.int .i64 m.f0,.bool b,.int .i64 m.f2,.int .i64 m.f3,.int .i64 0,.int .i64 m.f5,.int .i64 m.f6,.slice Ai m.f7.length ci,.slice Ad m.f8.length cd]) (quiet0 m) := by
  obtain ⟨vi, vd, e, hi, hd⟩ := h
  unfold srv at e
  injection e with e
  simp only [Array.mk.injEq, List.cons.injEq, and_true, true_and] at e
  obtain ⟨e7, e8⟩ := e
  subst e7 e8 hb
  exact ⟨_, _, rfl, hi, hd⟩
attribute [local go_sem] min2_int min_two
set_option maxRecDepth 100000 in
set_option maxHeartbeats 16000000 in
theorem hands_walk {w : World} {vs vq : Value} {s : S25} {q : List Int} (hs : RdS w T0 vs s) (hd : ∀ x ∈ s.f7,x.f2.length ≤ 9223372036854775807) (hq : RdF kb w T0 vq q) (hB : Byt q) : Calls Try.prog 9 #[vs,vq] w fun e w' => e = .returned (.bool true) ∧ Below w.heap.size w w' := by
  obtain ⟨As, cs, Ds, ds, evs⟩ := hs.laid
  subst evs
  have hqm := hq.now.max
  have HS := Aside0.mk hs
  have HQ := Aside0.mk hq
  obtain ⟨A, c, evq, hlc, -⟩ := hq
  subst evq
  obtain ⟨ml, eml⟩ : ∃ ml, ml = min q.length 80 := ⟨_, rfl⟩
  have hml : ml ≤ q.length := by omega
  have hml2 : ml ≤ 80 := by omega
  have hmin : (if (80 : Int) < (q.length : Int) then (80 : Int) else (q.length : Int)) = (ml : Int) := by split <;> omega
  have HMIN := Aside0.mk hmin
  have HD := Aside0.mk hd
  clear hs hd hmin eml
  go_enter Try.func9, Try.ntmps9
  go_wp2_with fail
  obtain ⟨b0, eb0⟩ : ∃ b, b = w.heap.size := ⟨_, rfl⟩
  generalize hx : World.alloc _ _ = x0
  have hf0 : Fr (fun _ => False) w x0 := by subst hx; exact (Fr.refl _ w).alloc _
  have hb0 : x0.heap[b0]? = some (.cells #[.int .i64 s.f0,.bool s.f1,.int .i64 s.f2,.int .i64 s.f3,.int .i64 s.f4,.int .i64 s.f5,.int .i64 s.f6,.slice As s.f7.length cs,.slice Ds s.f8.length ds] 25 (0,0)) := by rw [eb0]; subst hx; exact blk_new w _
  rw [← eb0]
  have hbw : w.heap.size ≤ b0 := by omega
  clear hx eb0
  refine (head_calls _).mono ?_
  rintro e w1 ⟨rfl, hf1⟩
  have hb1 := hf1.blk hb0 (fun h => h)
  have hlt1 := blk_lt hb1
  have HF1 := Aside0.mk (hf0.go hf1)
  clear hb0 hf0 hf1
  have c0 : w1.cell? ⟨b0, 0, none⟩ = some (.int .i64 s.f0) := (blk_cell hb1 0).trans rfl
  have c1 : w1.cell? ⟨b0, 1, none⟩ = some (.bool s.f1) := (blk_cell hb1 1).trans rfl
  have c2 : w1.cell? ⟨b0, 2, none⟩ = some (.int .i64 s.f2) := (blk_cell hb1 2).trans rfl
  have c3 : w1.cell? ⟨b0, 3, none⟩ = some (.int .i64 s.f3) := (blk_cell hb1 3).trans rfl
  have c4 : w1.cell? ⟨b0, 4, none⟩ = some (.int .i64 s.f4) := (blk_cell hb1 4).trans rfl
  have c5 : w1.cell? ⟨b0, 5, none⟩ = some (.int .i64 s.f5) := (blk_cell hb1 5).trans rfl
  have c6 : w1.cell? ⟨b0, 6, none⟩ = some (.int .i64 s.f6) := (blk_cell hb1 6).trans rfl
  have c7 : w1.cell? ⟨b0, 7, none⟩ = some (.slice As s.f7.length cs) := (blk_cell hb1 7).trans rfl
  have c8 : w1.cell? ⟨b0, 8, none⟩ = some (.slice Ds s.f8.length ds) := (blk_cell hb1 8).trans rfl
  go_wp2_with fail
  refine (made_calls (HS.out.go HF1.out) HD.out).mono ?_
  rintro e w2 ⟨v2, rfl, hs2, hf2⟩
  clear c0 c1 c2 c3 c4 c5 c6 c7 c8
  have hfine : Aside0 (∀ q : List Int, q.length ≤ 1000 → Byt q → Fine (mMade s) q) := ⟨fun q => made_fine s q⟩
  obtain ⟨m, em⟩ : ∃ m, m = mMade s := ⟨_, rfl⟩
  rw [← em] at hs2 hfine
  obtain ⟨Am, cm, Dm, dm, e2⟩ := hs2.laid
  subst e2
  have HS2 := Aside0.mk (hs2.made (L := [b0]) (fun k hk => by rw [List.mem_singleton.mp hk]; exact hlt1))
  have hb2 := hf2.blk hb1 (fun h => h)
  have hlt2 := blk_lt hb2
  have HF2 := Aside0.mk (HF1.out.go hf2)
  have HB2 := Aside0.mk hb2
  have c0 : w2.cell? ⟨b0, 0, none⟩ = some (.int .i64 s.f0) := (blk_cell hb2 0).trans rfl
  have z0 := blk_frozen hb2 0
  have c1 : w2.cell? ⟨b0, 1, none⟩ = some (.bool s.f1) := (blk_cell hb2 1).trans rfl
  have z1 := blk_frozen hb2 1
  have c2 : w2.cell? ⟨b0, 2, none⟩ = some (.int .i64 s.f2) := (blk_cell hb2 2).trans rfl
  have z2 := blk_frozen hb2 2
  have c3 : w2.cell? ⟨b0, 3, none⟩ = some (.int .i64 s.f3) := (blk_cell hb2 3).trans rfl
  have z3 := blk_frozen hb2 3
  have c4 : w2.cell? ⟨b0, 4, none⟩ = some (.int .i64 s.f4) := (blk_cell hb2 4).trans rfl
  have z4 := blk_frozen hb2 4
  have c5 : w2.cell? ⟨b0, 5, none⟩ = some (.int .i64 s.f5) := (blk_cell hb2 5).trans rfl
  have z5 := blk_frozen hb2 5
  have c6 : w2.cell? ⟨b0, 6, none⟩ = some (.int .i64 s.f6) := (blk_cell hb2 6).trans rfl
  have z6 := blk_frozen hb2 6
  have c7 : w2.cell? ⟨b0, 7, none⟩ = some (.slice As s.f7.length cs) := (blk_cell hb2 7).trans rfl
  have z7 := blk_frozen hb2 7
  have c8 : w2.cell? ⟨b0, 8, none⟩ = some (.slice Ds s.f8.length ds) := (blk_cell hb2 8).trans rfl
  have z8 := blk_frozen hb2 8
  clear em hs2 hf2 hb2 hb1 hlt1
  go_upto_region 3 with (fail)
  generalize hx : World.setCell _ _ _ = w3
  have hf3 : Fr (fun k => k ∈ [b0]) w2 w3 := by subst hx; exact ((((((((((Fr.refl (fun k => k = b0) w2).setG 0 _).setG 1 _).setG 2 _).setG 3 _).setG 4 _).setG 5 _).setG 6 _).setG 7 _).setG 8 _).mono (fun k hk => by rw [hk]; exact List.mem_singleton_self _)
  have hb3 : w3.heap[b0]? = some (.cells #[.int .i64 m.f0,.bool m.f1,.int .i64 m.f2,.int .i64 m.f3,.int .i64 m.f4,.int .i64 m.f5,.int .i64 m.f6,.slice Am m.f7.length cm,.slice Dm m.f8.length dm] 25 (0,0)) := by subst hx; exact put9 HB2.out
  have HS3 := Aside0.mk (HS2.out.on hf3 (fun k hk => .inl hk))
  have HF3 : Aside0 (Fr (fun k => k ∈ [b0]) w w3) := ⟨(HF2.out.mono (fun _ h => h.elim)).trans hf3 (fun i h => .inl h)⟩
  have HQ3 := Aside0.mk (HQ.out.off0.on HF3.out (fun k hk => .inr (by rw [List.mem_singleton.mp hk]; exact hbw)))
  have HQC := Aside0.mk (cut_head HQ3.out (ml : Int) ml rfl hml)
  have HB3 := Aside0.mk hb3
  have hlt3 := blk_lt hb3
  have hmlc : (ml : Int) ≤ (c : Int) := by omega
  have hml0 : (0 : Int) ≤ (ml : Int) := by omega
  have hmin := HMIN.out
  clear hx hb3 hf3 HB2 c0 c1 c2 c3 c4 c5 c6 c7 c8 z0 z1 z2 z3 z4 z5 z6 z7 z8
  have hcut : ∀ W : World,(Instr.slice 31 (.slice A q.length c) none (some (.int .i64 (ml : Int))) none).run Try.prog W = .ok (.slice A ml c) W := fun W => run_cut hlc (by omega) W
  obtain ⟨q1, eq1⟩ : ∃ q1, q1 = q.take ml := ⟨_, rfl⟩
  have hq1l : q1.length ≤ 80 := by rw [eq1, List.length_take]; omega
  have hq1B : Aside0 (Byt q1) := ⟨fun x hx => hB x (List.take_subset ml q (eq1 ▸ hx))⟩
  rw [← eq1] at HQC
  clear eq1
  go_wp2_with (at_builtin; refine appB Try.underlying31 i5 (W := _) w3.heap.size rfl _ _ rfl (.slice (some ⟨w3.heap.size,0,none⟩) 0 0) (.slice A ml c) [] q1 rfl rfl (own_lit' w3.heap.size (blk_new w3 _) rfl (Nat.le_refl _) rfl (by omega)) ((HQC.out.step (fun k hk hlt => ((Fr.refl (fun _ => False) w3).alloc _).block k hlt (fun h => h))).now) (by simp) (by simp; omega) ?_; intro v4 w4 ho4 hg4 hb4; have hf4 : Fr (fun _ => False) w3 w4 := ((Fr.refl (fun _ => False) w3).alloc _).grown hg4 (fun k hk => .inr (hb4 k hk)); have hq4 := own_rdF ho4; (rw [List.nil_append] at hq4); have HQ4 := Aside0.mk (hq4.made (L := [b0]) (fun k hk => by rw [List.mem_singleton.mp hk]; exact hlt3)); obtain ⟨A4,c4,e4, -, -⟩ := hq4; subst e4; have HS4 := Aside0.mk (HS3.out.on (hf4.mono (S' := fun k => k ∈ [b0]) (fun _ h => h.elim)) (fun k hk => .inl hk)); have HB4 := Aside0.mk (hf4.blk HB3.out (fun h => h)); have hlt4 := blk_lt HB4.out; have HF4 := Aside0.mk (HF3.out.calls hf4); have m0 : w4.cell? ⟨b0,0,none⟩ = some (.int .i64 m.f0) := (blk_cell HB4.out 0).trans rfl; have m1 : w4.cell? ⟨b0,1,none⟩ = some (.bool m.f1) := (blk_cell HB4.out 1).trans rfl; have m2 : w4.cell? ⟨b0,2,none⟩ = some (.int .i64 m.f2) := (blk_cell HB4.out 2).trans rfl; have m3 : w4.cell? ⟨b0,3,none⟩ = some (.int .i64 m.f3) := (blk_cell HB4.out 3).trans rfl; have m4 : w4.cell? ⟨b0,4,none⟩ = some (.int .i64 m.f4) := (blk_cell HB4.out 4).trans rfl; have m5 : w4.cell? ⟨b0,5,none⟩ = some (.int .i64 m.f5) := (blk_cell HB4.out 5).trans rfl; have m6 : w4.cell? ⟨b0,6,none⟩ = some (.int .i64 m.f6) := (blk_cell HB4.out 6).trans rfl; have m7 : w4.cell? ⟨b0,7,none⟩ = some (.slice Am m.f7.length cm) := (blk_cell HB4.out 7).trans rfl; have m8 : w4.cell? ⟨b0,8,none⟩ = some (.slice Dm m.f8.length dm) := (blk_cell HB4.out 8).trans rfl; clear ho4 hg4 hb4 hf4)
  clear m0 m1 m2 m3 m4 m5 m6 m7 m8
  have A := Aside0.mk (ask_calls HS4.out HQ4.out (hfine.out q1 (by omega) hq1B.out))
  have hL4 : Aside0 (∀ k ∈ [b0], k < w4.heap.size) := ⟨fun k hk => by rw [List.mem_singleton.mp hk]; exact hlt4⟩
  have HW := Aside0.mk (ask_wants m q1)
  clear hmin hcut
  rcases hwv : wants m q1 with _ | _
  · obtain ⟨t, a, on, et⟩ : ∃ t a on, mAsk m q1 = (t, a, on) := ⟨_, _, _, rfl⟩
    have hon : on = false := by have := HW.out.1; rw [et, hwv] at this; exact this
    subst hon
    have A := A.out
    rw [et] at A
    have hcase := wants_cases m q1 hq1B.out ⟨hwv⟩
    clear et hwv HW
    refine A.mono ?_
    rintro e w5 ⟨vt, va, rfl, ht, ha, hf5⟩
    obtain ⟨At, ct, Dt, dt, e5⟩ := ht.laid
    subst e5
    obtain ⟨Aa, ca, ea, -, -⟩ := ha
    subst ea
    have HQ5 := Aside0.mk (HQ4.out.on (hf5.mono (S' := fun k => k ∈ [b0]) (fun _ h => h.elim)) (fun k hk => .inl hk))
    have HB5 := Aside0.mk (hf5.blk HB4.out (fun h => h))
    have hlt5 := blk_lt HB5.out
    have HF5 := Aside0.mk (HF4.out.calls hf5)
    clear A ht hf5
    have m0 : w5.cell? ⟨b0, 0, none⟩ = some (.int .i64 m.f0) := (blk_cell HB5.out 0).trans rfl
    have m1 : w5.cell? ⟨b0, 1, none⟩ = some (.bool m.f1) := (blk_cell HB5.out 1).trans rfl
    have m2 : w5.cell? ⟨b0, 2, none⟩ = some (.int .i64 m.f2) := (blk_cell HB5.out 2).trans rfl
    have m3 : w5.cell? ⟨b0, 3, none⟩ = some (.int .i64 m.f3) := (blk_cell HB5.out 3).trans rfl
    have m4 : w5.cell? ⟨b0, 4, none⟩ = some (.int .i64 m.f4) := (blk_cell HB5.out 4).trans rfl
    have m5 : w5.cell? ⟨b0, 5, none⟩ = some (.int .i64 m.f5) := (blk_cell HB5.out 5).trans rfl
    have m6 : w5.cell? ⟨b0, 6, none⟩ = some (.int .i64 m.f6) := (blk_cell HB5.out 6).trans rfl
    have m7 : w5.cell? ⟨b0, 7, none⟩ = some (.slice Am m.f7.length cm) := (blk_cell HB5.out 7).trans rfl
    have m8 : w5.cell? ⟨b0, 8, none⟩ = some (.slice Dm m.f8.length dm) := (blk_cell HB5.out 8).trans rfl
    dsimp only
    obtain ⟨n, en⟩ : ∃ n, n = q1.getD 0 0 := ⟨_, rfl⟩
    rw [← en] at hcase
    have EN := Aside0.mk en
    clear en
    rcases hcase with h0 | ⟨h0, g1, g2, g3⟩ | ⟨⟨h0, gq⟩, gm⟩
    · have h0i : ¬ (0 : Int) < (q1.length : Int) := by omega
      go_wp2
      go_ret
      exact ⟨rfl,(HF5.out.trans (((Fr.refl _ w5).alloc _).alloc _) (fun i h => .inl h)).below (fun i h => by rw [List.mem_singleton.mp h]; exact hbw)⟩
    · obtain ⟨ad, ea, hc⟩ := rd_at HQ5.out.now 0 h0
      subst ea
      have hc' : w5.cell? ad = some (.int .u8 n) := by have := hc; rwa [show ad.add 0 = ad by simp [Addr.add], ← EN.out] at this
      clear hc
      have h0i : (0 : Int) < (q1.length : Int) := by omega
      have hadb := World.block_lt_of_cell? w5 _ hc'
      go_wp2
      go_ret
      exact ⟨rfl,(HF5.out.trans (((Fr.refl _ w5).alloc _).alloc _) (fun i h => .inl h)).below (fun i h => by rw [List.mem_singleton.mp h]; exact hbw)⟩
    · obtain ⟨ad, ea, hc⟩ := rd_at HQ5.out.now 0 h0
      subst ea
      have hc' : w5.cell? ad = some (.int .u8 n) := by have := hc; rwa [show ad.add 0 = ad by simp [Addr.add], ← EN.out] at this
      clear hc
      have h0i : (0 : Int) < (q1.length : Int) := by omega
      have hadb := World.block_lt_of_cell? w5 _ hc'
      rcases gq with g1 | ⟨g1, g2⟩ | ⟨g1, g2, g3⟩ <;> rcases gm with k1 | ⟨k1, k2⟩
      all_goals
        go_wp2
        go_ret
        exact ⟨rfl,(HF5.out.trans (((Fr.refl _ w5).alloc _).alloc _) (fun i h => .inl h)).below (fun i h => by rw [List.mem_singleton.mp h]; exact hbw)⟩
  · have et := HW.out.2 hwv
    obtain ⟨⟨h0, gq⟩, k1, k2⟩ := wants_true m q1 hwv
    obtain ⟨n, en⟩ : ∃ n, n = q1.getD 0 0 := ⟨_, rfl⟩
    rw [← en] at gq
    have EN := Aside0.mk en
    clear en
    have A := A.out
    rw [et] at A
    obtain ⟨t, eqt⟩ : ∃ t, t = quiet0 m := ⟨_, rfl⟩
    rw [← eqt] at A
    have EQT := Aside0.mk eqt
    have K2 := Aside0.mk k2
    clear et hwv HW eqt
    refine A.mono ?_
    rintro e w5 ⟨vt, va, rfl, ht, ha, hf5⟩
    obtain ⟨At, ct, Dt, dt, e5⟩ := ht.laid
    subst e5
    have HT := Aside0.mk (ht.now_ hL4.out)
    obtain ⟨Aa, ca, ea, -, -⟩ := ha
    subst ea
    have HQ5 := Aside0.mk (HQ4.out.on (hf5.mono (S' := fun k => k ∈ [b0]) (fun _ h => h.elim)) (fun k hk => .inl hk))
    have HS5 := Aside0.mk (HS4.out.on (hf5.mono (S' := fun k => k ∈ [b0]) (fun _ h => h.elim)) (fun k hk => .inl hk))
    have HB5 := Aside0.mk (hf5.blk HB4.out (fun h => h))
    have hlt5 := blk_lt HB5.out
    have HF5 := Aside0.mk (HF4.out.calls hf5)
    clear A ht hf5
    have m0 : w5.cell? ⟨b0, 0, none⟩ = some (.int .i64 m.f0) := (blk_cell HB5.out 0).trans rfl
    have m1 : w5.cell? ⟨b0, 1, none⟩ = some (.bool m.f1) := (blk_cell HB5.out 1).trans rfl
    have m2 : w5.cell? ⟨b0, 2, none⟩ = some (.int .i64 m.f2) := (blk_cell HB5.out 2).trans rfl
    have m3 : w5.cell? ⟨b0, 3, none⟩ = some (.int .i64 m.f3) := (blk_cell HB5.out 3).trans rfl
    have m4 : w5.cell? ⟨b0, 4, none⟩ = some (.int .i64 m.f4) := (blk_cell HB5.out 4).trans rfl
    have m5 : w5.cell? ⟨b0, 5, none⟩ = some (.int .i64 m.f5) := (blk_cell HB5.out 5).trans rfl
    have m6 : w5.cell? ⟨b0, 6, none⟩ = some (.int .i64 m.f6) := (blk_cell HB5.out 6).trans rfl
    have m7 : w5.cell? ⟨b0, 7, none⟩ = some (.slice Am m.f7.length cm) := (blk_cell HB5.out 7).trans rfl
    have m8 : w5.cell? ⟨b0, 8, none⟩ = some (.slice Dm m.f8.length dm) := (blk_cell HB5.out 8).trans rfl
    rw [k2] at m1
    clear k2
    dsimp only
    obtain ⟨ad, ea, hc⟩ := rd_at HQ5.out.now 0 h0
    subst ea
    have hc' : w5.cell? ad = some (.int .u8 n) := by have := hc; rwa [show ad.add 0 = ad by simp [Addr.add], ← EN.out] at this
    clear hc
    have h0i : (0 : Int) < (q1.length : Int) := by omega
    have hadb := World.block_lt_of_cell? w5 _ hc'
    rcases gq with g1 | ⟨g1, g2⟩ | ⟨g1, g2, g3⟩
    all_goals
      go_wp2_with fail
      have hfx : ∀ o1 o2, Fr (fun k => k ∈ [b0]) w5 ((w5.alloc o1).alloc o2) := fun o1 o2 => ((Fr.refl _ w5).alloc _).alloc _
      have HS6 := HS5.out.quiet K2.out
      rw [← EQT.out] at HS6
      refine (same22_calls (HT.out.on (hfx _ _) (fun k hk => .inl hk)) (HS6.on (hfx _ _) (fun k hk => .inl hk))).mono ?_
      rintro e w6 ⟨rfl, hf6⟩
      go_wp2
      go_ret
      exact ⟨rfl, ((HF5.out.trans (hfx _ _) (fun i h => .inl h)).calls hf6).below (fun i h => by rw [List.mem_singleton.mp h]; exact hbw)⟩
end Go.Proofs.Ph
