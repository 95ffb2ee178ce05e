/- Part 7 of the proof of DiagHands, for every input: D16. No condition. -/
import Derived.Test.YthjnlggommennaaH5
set_option linter.unusedVariables false
set_option linter.unusedSimpArgs false
set_option linter.unusedSectionVars false
/- diag: a question of a wrong length. No condition. -/
namespace Go.Proofs.Ph
open Go Go.RowKit Go.Proofs.YthjnlggommennaaW.PrintWords
attribute [local go_sem ↓] Go.wp_at_zero Go.wp_at_succ
section
variable {w : World} {g : Nat} {P : Nat → Prop} {s : S25} {vi vd vq : Value} {q : List Int} {n : Int}
set_option maxRecDepth 100000 in
set_option maxHeartbeats 4000000 in
theorem answer_long1 {l : Int} {F : Nat} (hn : 0 ≤ n ∧ n ≤ 255) (h : MPre w g P s vi vd vq q) (hB : Byt q) (hf : mFind n q = .inr (l,F)) (hl : (l == (q.length : Int)) = false) (hl2 : (l == -1) = false) :
    Calls Try.prog 82 #[.pointer (some ⟨g, 0, none⟩), .int .u8 n] w (MPost w g P vq (s, .inr [127, n % 256, 19 % 256])) := by
  refine Calls.mono ?_ (fun e w' h => MPost.unbound h)
  replace h := h.bound
  have hg := blk_lt h.x
  obtain ⟨A, c, ev, hlc, hFq⟩ := h.q
  subst ev
  obtain ⟨w1, ew1⟩ : ∃ w1, w1 = (w.alloc (.cells #[.int .u8 n] 5)).alloc (.cells #[.slice none 0 0] 31) := ⟨_, rfl⟩
  have hf1 : Fr (fun _ => False) w w1 := by rw [ew1]; exact ((Fr.refl _ w).alloc _).alloc _
  have FC := find_calls (n := n) (h.fr hf1) hB
  rw [hf] at FC
  have hb1 : w1.heap[w.heap.size]? = some (.cells #[.int .u8 n] 5 (0, 0)) := by rw [ew1]; exact blk_alloc (blk_new w _) _
  have hb2 : w1.heap[w.heap.size + 1]? = some (.cells #[.slice none 0 0] 31 (0,0)) := by rw [ew1]; exact blk_new' (by show _ = (Array.push _ _).size; rw [Array.size_push])
  have c9 : w.cell? ⟨g, 9, none⟩ = some (.slice A q.length c) := (blk_cell h.x 9).trans rfl
  have H := Aside0.mk h
  have FC' := Aside0.mk FC
  have EW := Aside0.mk ew1
  have HB1 := Aside0.mk hb1
  have HB2 := Aside0.mk hb2
  clear h FC ew1 hf hb1 hb2 hFq hlc
  go_enter_defers Try.func82, Try.ntmps82
  go_wp2_with (go_at_call 122; rw [← EW.out]; refine FC'.out.mono ?_; rintro e w2 ⟨hf2, he⟩; subst he; (unfold sv))
  have hF2 := hf1.trans hf2 (fun _ h => .inl h)
  have hs2 := hF2.size
  obtain ⟨w3, ew3⟩ : ∃ w3, w3 = w2.alloc (.cells #[.int .i64 l, .func (.func F) #[] #[]] 175) := ⟨_, rfl⟩
  have hf3 : Fr (fun _ => False) w2 w3 := by rw [ew3]; exact (Fr.refl _ w2).alloc _
  have hb3 : w3.heap[w2.heap.size]? = some (.cells #[.int .i64 l, .func (.func F) #[] #[]] 175 (0, 0)) := by rw [ew3]; exact blk_new w2 _
  rw [← ew3]
  have hF3 := hF2.trans hf3 (fun _ h => .inl h)
  have d0 : w3.cell? ⟨w2.heap.size, 0, none⟩ = some (.int .i64 l) := (blk_cell hb3 0).trans rfl
  have d1 : w3.cell? ⟨w.heap.size, 0, none⟩ = some (.int .u8 n) := (hf2.trans hf3 (fun _ h => .inl h)).cellA ((blk_cell HB1.out 0).trans rfl)
  replace c9 := hF3.cellA c9
  clear ew3
  refine wp_region_free (S := fun w' => w'.cell? ⟨w2.heap.size,0,none⟩ = some (.int .i64 l) ∧ w'.cell? ⟨w.heap.size,0,none⟩ = some (.int .u8 n) ∧ w'.cell? ⟨g,9,none⟩ = some (.slice A q.length c)) 4 (.pointer (some ⟨w.heap.size + 1,0,none⟩)) (by kernel_rfl) (by kernel_rfl) rfl ⟨d0,d1,c9⟩ ?_
  intro hS
  refine wpAnyH_take (i := 0) (v := ?_) rfl (by kernel_rfl) (by kernel_rfl) (by kernel_rfl) (fun _ _ _ h => h) (Or.inl ⟨by rfl, ?_⟩) hS ?_
  rotate_left
  · intro w4 h4
    obtain ⟨k0, k1, k9⟩ := h4
    go_simp
    try with_reducible rfl
  simp only [List.getElem_toArray,List.getElem_cons_zero,List.getElem_cons_succ,Act.put,List.setIfInBounds_toArray,List.set_cons_zero,List.set_cons_succ]
  refine wpAnyH_take (i := 1) (v := ?_) rfl (by kernel_rfl) (by kernel_rfl) (by kernel_rfl) (fun _ _ _ h => h) (Or.inl ⟨by rfl, ?_⟩) hS ?_
  rotate_left
  · intro w4 h4
    obtain ⟨k0, k1, k9⟩ := h4
    go_simp
    try with_reducible rfl
  simp only [List.getElem_toArray,List.getElem_cons_zero,List.getElem_cons_succ,Act.put,List.setIfInBounds_toArray,List.set_cons_zero,List.set_cons_succ]
  refine wpAnyH_take (i := 2) (v := ?_) rfl (by kernel_rfl) (by kernel_rfl) (by kernel_rfl) (fun _ _ _ h => h) (Or.inl ⟨by rfl, ?_⟩) hS ?_
  rotate_left
  · intro w4 h4
    obtain ⟨k0, k1, k9⟩ := h4
    go_simp
    try with_reducible rfl
  simp only [List.getElem_toArray,List.getElem_cons_zero,List.getElem_cons_succ,Act.put,List.setIfInBounds_toArray,List.set_cons_zero,List.set_cons_succ]
  refine wpAnyH_take (i := 3) (v := ?_) rfl (by kernel_rfl) (by kernel_rfl) (by kernel_rfl) (fun _ _ _ h => h) (Or.inl ⟨by rfl, ?_⟩) hS ?_
  rotate_left
  · intro w4 h4
    obtain ⟨k0, k1, k9⟩ := h4
    go_simp
    try with_reducible rfl
  simp only [List.getElem_toArray,List.getElem_cons_zero,List.getElem_cons_succ,Act.put,List.setIfInBounds_toArray,List.set_cons_zero,List.set_cons_succ]
  refine wpAnyH_take (i := 4) (v := ?_) rfl (by kernel_rfl) (by kernel_rfl) (by kernel_rfl) (fun _ _ _ h => h) (Or.inl ⟨by rfl, ?_⟩) hS ?_
  rotate_left
  · intro w4 h4
    obtain ⟨k0, k1, k9⟩ := h4
    go_simp
    try with_reducible rfl
  simp only [List.getElem_toArray,List.getElem_cons_zero,List.getElem_cons_succ,Act.put,List.setIfInBounds_toArray,List.set_cons_zero,List.set_cons_succ]
  refine wpAnyH_take (i := 5) (v := ?_) rfl (by kernel_rfl) (by kernel_rfl) (by kernel_rfl) (fun _ _ _ h => h) (Or.inl ⟨by rfl, ?_⟩) hS ?_
  rotate_left
  · intro w4 h4
    obtain ⟨k0, k1, k9⟩ := h4
    go_simp
    try with_reducible rfl
  simp only [List.getElem_toArray,List.getElem_cons_zero,List.getElem_cons_succ,Act.put,List.setIfInBounds_toArray,List.set_cons_zero,List.set_cons_succ]
  refine wpAnyH_take (i := 6) (v := ?_) rfl (by kernel_rfl) (by kernel_rfl) (by kernel_rfl) (fun _ _ _ h => h) (Or.inl ⟨by rfl, ?_⟩) hS ?_
  rotate_left
  · intro w4 h4
    obtain ⟨k0, k1, k9⟩ := h4
    go_simp
    try with_reducible rfl
  simp only [List.getElem_toArray,List.getElem_cons_zero,List.getElem_cons_succ,Act.put,List.setIfInBounds_toArray,List.set_cons_zero,List.set_cons_succ]
  refine wpAnyH_take (i := 7) (v := ?_) rfl (by kernel_rfl) (by kernel_rfl) (by kernel_rfl) (fun _ _ _ h => h) (Or.inl ⟨by rfl, ?_⟩) hS ?_
  rotate_left
  · intro w4 h4
    obtain ⟨k0, k1, k9⟩ := h4
    go_simp
    try with_reducible rfl
  simp only [List.getElem_toArray,List.getElem_cons_zero,List.getElem_cons_succ,Act.put,List.setIfInBounds_toArray,List.set_cons_zero,List.set_cons_succ]
  refine wpAnyH_take (i := 8) (v := ?_) rfl (by kernel_rfl) (by kernel_rfl) (by kernel_rfl) (fun _ _ _ h => h) (Or.inl ⟨by rfl, ?_⟩) hS ?_
  rotate_left
  · intro w4 h4
    obtain ⟨k0, k1, k9⟩ := h4
    go_simp
    try with_reducible rfl
  simp only [List.getElem_toArray,List.getElem_cons_zero,List.getElem_cons_succ,Act.put,List.setIfInBounds_toArray,List.set_cons_zero,List.set_cons_succ]
  refine wpAnyH_take (i := 9) (v := ?_) rfl (by kernel_rfl) (by kernel_rfl) (by kernel_rfl) (fun _ _ _ h => h) (Or.inl ⟨by rfl, ?_⟩) hS ?_
  rotate_left
  · intro w4 h4
    obtain ⟨k0, k1, k9⟩ := h4
    go_simp
    try with_reducible rfl
  simp only [List.getElem_toArray,List.getElem_cons_zero,List.getElem_cons_succ,Act.put,List.setIfInBounds_toArray,List.set_cons_zero,List.set_cons_succ]
  refine wpAnyH_take (i := 10) (v := ?_) rfl (by kernel_rfl) (by kernel_rfl) (by kernel_rfl) (fun _ _ _ h => h) (Or.inl ⟨by rfl, ?_⟩) hS ?_
  rotate_left
  · intro w4 h4
    obtain ⟨k0, k1, k9⟩ := h4
    go_simp
    try with_reducible rfl
  simp only [List.getElem_toArray,List.getElem_cons_zero,List.getElem_cons_succ,Act.put,List.setIfInBounds_toArray,List.set_cons_zero,List.set_cons_succ]
  refine wpAnyH_take (i := 11) (v := ?_) rfl (by kernel_rfl) (by kernel_rfl) (by kernel_rfl) (fun _ _ _ h => h) (Or.inl ⟨by rfl, ?_⟩) hS ?_
  rotate_left
  · intro w4 h4
    obtain ⟨k0, k1, k9⟩ := h4
    go_simp
    try with_reducible rfl
  simp only [List.getElem_toArray,List.getElem_cons_zero,List.getElem_cons_succ,Act.put,List.setIfInBounds_toArray,List.set_cons_zero,List.set_cons_succ]
  refine wpAnyH_take (i := 12) (v := ?_) rfl (by kernel_rfl) (by kernel_rfl) (by kernel_rfl) (fun _ _ _ h => h) (Or.inl ⟨by rfl, ?_⟩) hS ?_
  rotate_left
  · intro w4 h4
    obtain ⟨k0, k1, k9⟩ := h4
    go_simp
    try with_reducible rfl
  simp only [List.getElem_toArray,List.getElem_cons_zero,List.getElem_cons_succ,Act.put,List.setIfInBounds_toArray,List.set_cons_zero,List.set_cons_succ]
  refine wpAnyH_take (i := 13) (v := undef) rfl (by kernel_rfl) (by kernel_rfl) (by kernel_rfl) (fun _ _ _ h => h) (Or.inr ⟨by rfl, rfl⟩) hS ?_
  simp only [List.getElem_toArray,List.getElem_cons_zero,List.getElem_cons_succ,Act.put,List.setIfInBounds_toArray,List.set_cons_zero,List.set_cons_succ]
  refine wpAnyH_take (i := 14) (v := undef) rfl (by kernel_rfl) (by kernel_rfl) (by kernel_rfl) (fun _ _ _ h => h) (Or.inr ⟨by rfl, rfl⟩) hS ?_
  simp only [List.getElem_toArray,List.getElem_cons_zero,List.getElem_cons_succ,Act.put,List.setIfInBounds_toArray,List.set_cons_zero,List.set_cons_succ]
  refine wpAnyH_take (i := 15) (v := undef) rfl (by kernel_rfl) (by kernel_rfl) (by kernel_rfl) (fun _ _ _ h => h) (Or.inr ⟨by rfl, rfl⟩) hS ?_
  simp only [List.getElem_toArray,List.getElem_cons_zero,List.getElem_cons_succ,Act.put,List.setIfInBounds_toArray,List.set_cons_zero,List.set_cons_succ]
  refine wpAnyH_take (i := 16) (v := undef) rfl (by kernel_rfl) (by kernel_rfl) (by kernel_rfl) (fun _ _ _ h => h) (Or.inr ⟨by rfl, rfl⟩) hS ?_
  simp only [List.getElem_toArray,List.getElem_cons_zero,List.getElem_cons_succ,Act.put,List.setIfInBounds_toArray,List.set_cons_zero,List.set_cons_succ]
  refine wpAnyH_take (i := 17) (v := undef) rfl (by kernel_rfl) (by kernel_rfl) (by kernel_rfl) (fun _ _ _ h => h) (Or.inr ⟨by rfl, rfl⟩) hS ?_
  simp only [List.getElem_toArray,List.getElem_cons_zero,List.getElem_cons_succ,Act.put,List.setIfInBounds_toArray,List.set_cons_zero,List.set_cons_succ]
  refine wpAnyH_take (i := 18) (v := undef) rfl (by kernel_rfl) (by kernel_rfl) (by kernel_rfl) (fun _ _ _ h => h) (Or.inr ⟨by rfl, rfl⟩) hS ?_
  simp only [List.getElem_toArray,List.getElem_cons_zero,List.getElem_cons_succ,Act.put,List.setIfInBounds_toArray,List.set_cons_zero,List.set_cons_succ]
  refine wpAnyH_take (i := 19) (v := undef) rfl (by kernel_rfl) (by kernel_rfl) (by kernel_rfl) (fun _ _ _ h => h) (Or.inr ⟨by rfl, rfl⟩) hS ?_
  simp only [List.getElem_toArray,List.getElem_cons_zero,List.getElem_cons_succ,Act.put,List.setIfInBounds_toArray,List.set_cons_zero,List.set_cons_succ]
  refine wpAnyH_take (i := 20) (v := undef) rfl (by kernel_rfl) (by kernel_rfl) (by kernel_rfl) (fun _ _ _ h => h) (Or.inr ⟨by rfl, rfl⟩) hS ?_
  simp only [List.getElem_toArray,List.getElem_cons_zero,List.getElem_cons_succ,Act.put,List.setIfInBounds_toArray,List.set_cons_zero,List.set_cons_succ]
  refine wpAnyH_take (i := 21) (v := undef) rfl (by kernel_rfl) (by kernel_rfl) (by kernel_rfl) (fun _ _ _ h => h) (Or.inr ⟨by rfl, rfl⟩) hS ?_
  simp only [List.getElem_toArray,List.getElem_cons_zero,List.getElem_cons_succ,Act.put,List.setIfInBounds_toArray,List.set_cons_zero,List.set_cons_succ]
  refine wpAnyH_take (i := 22) (v := undef) rfl (by kernel_rfl) (by kernel_rfl) (by kernel_rfl) (fun _ _ _ h => h) (Or.inr ⟨by rfl, rfl⟩) hS ?_
  simp only [List.getElem_toArray,List.getElem_cons_zero,List.getElem_cons_succ,Act.put,List.setIfInBounds_toArray,List.set_cons_zero,List.set_cons_succ]
  refine wpAnyH_take (i := 23) (v := ?_) rfl (by kernel_rfl) (by kernel_rfl) (by kernel_rfl) (fun _ _ _ h => h) (Or.inl ⟨by rfl, ?_⟩) hS ?_
  rotate_left
  · intro w4 h4
    obtain ⟨k0, k1, k9⟩ := h4
    go_simp
    try with_reducible rfl
  simp only [List.getElem_toArray,List.getElem_cons_zero,List.getElem_cons_succ,Act.put,List.setIfInBounds_toArray,List.set_cons_zero,List.set_cons_succ]
  refine wpAnyH_take (i := 24) (v := ?_) rfl (by kernel_rfl) (by kernel_rfl) (by kernel_rfl) (fun _ _ _ h => h) (Or.inl ⟨by rfl, ?_⟩) hS ?_
  rotate_left
  · intro w4 h4
    obtain ⟨k0, k1, k9⟩ := h4
    go_simp
    try with_reducible rfl
  simp only [List.getElem_toArray,List.getElem_cons_zero,List.getElem_cons_succ,Act.put,List.setIfInBounds_toArray,List.set_cons_zero,List.set_cons_succ]
  refine wpAnyH_ready (rs := [25]) (by kernel_rfl) (by simp) ?_
  refine AllReadyH.cons rfl (fun K hK => ?_) AllReadyH.nil
  go_simp
  refine (unless_no _ _).mono ?_
  rintro e w' ⟨rfl, rfl⟩
  intro tmps ht
  have hf4 : Fr (fun _ => False) w1 w3.drew := (hf2.trans hf3 (fun _ h => .inl h)).drew
  refine leaves_refused hn ht (hf4.blk HB1.out (fun h => h)) (hf4.blk HB2.out (fun h => h)) rfl ?_
  intro v w' hv hf
  have hs1 := blk_lt HB2.out
  exact MPost.denied (b2 := w.heap.size + 1) (((H.out.fr hf1).fr hf4).refuse (why := 19) |>.from hf4) hf1 (by omega) hs1 (fun hk => by have := hk.2; omega) (by omega) (hv.mono (fun k hk => .inr (Nat.le_trans (hf1.trans hf4 (fun _ h => .inl h)).size hk))) hf
set_option maxRecDepth 100000 in
set_option maxHeartbeats 4000000 in
theorem answer_long2 {l : Int} {F : Nat} (hn : 0 ≤ n ∧ n ≤ 255) (h : MPre w g P s vi vd vq q) (hB : Byt q) (hf : mFind n q = .inr (l,F)) (hl : (l == (q.length : Int)) = false) (hl2 : (l == -1) = true) (hl3 : (n != 46) = false) (hl4 : decide ((2 : Int) < (q.length : Int)) = false) :
    Calls Try.prog 82 #[.pointer (some ⟨g, 0, none⟩), .int .u8 n] w (MPost w g P vq (s, .inr [127, n % 256, 19 % 256])) := by
  refine Calls.mono ?_ (fun e w' h => MPost.unbound h)
  replace h := h.bound
  have hg := blk_lt h.x
  obtain ⟨A, c, ev, hlc, hFq⟩ := h.q
  subst ev
  obtain ⟨w1, ew1⟩ : ∃ w1, w1 = (w.alloc (.cells #[.int .u8 n] 5)).alloc (.cells #[.slice none 0 0] 31) := ⟨_, rfl⟩
  have hf1 : Fr (fun _ => False) w w1 := by rw [ew1]; exact ((Fr.refl _ w).alloc _).alloc _
  have FC := find_calls (n := n) (h.fr hf1) hB
  rw [hf] at FC
  have hb1 : w1.heap[w.heap.size]? = some (.cells #[.int .u8 n] 5 (0, 0)) := by rw [ew1]; exact blk_alloc (blk_new w _) _
  have hb2 : w1.heap[w.heap.size + 1]? = some (.cells #[.slice none 0 0] 31 (0,0)) := by rw [ew1]; exact blk_new' (by show _ = (Array.push _ _).size; rw [Array.size_push])
  have c9 : w.cell? ⟨g, 9, none⟩ = some (.slice A q.length c) := (blk_cell h.x 9).trans rfl
  have H := Aside0.mk h
  have FC' := Aside0.mk FC
  have EW := Aside0.mk ew1
  have HB1 := Aside0.mk hb1
  have HB2 := Aside0.mk hb2
  clear h FC ew1 hf hb1 hb2 hFq hlc
  go_enter_defers Try.func82, Try.ntmps82
  go_wp2_with (go_at_call 122; rw [← EW.out]; refine FC'.out.mono ?_; rintro e w2 ⟨hf2, he⟩; subst he; (unfold sv))
  have hF2 := hf1.trans hf2 (fun _ h => .inl h)
  have hs2 := hF2.size
  obtain ⟨w3, ew3⟩ : ∃ w3, w3 = w2.alloc (.cells #[.int .i64 l, .func (.func F) #[] #[]] 175) := ⟨_, rfl⟩
  have hf3 : Fr (fun _ => False) w2 w3 := by rw [ew3]; exact (Fr.refl _ w2).alloc _
  have hb3 : w3.heap[w2.heap.size]? = some (.cells #[.int .i64 l, .func (.func F) #[] #[]] 175 (0, 0)) := by rw [ew3]; exact blk_new w2 _
  rw [← ew3]
  have hF3 := hF2.trans hf3 (fun _ h => .inl h)
  have d0 : w3.cell? ⟨w2.heap.size, 0, none⟩ = some (.int .i64 l) := (blk_cell hb3 0).trans rfl
  have d1 : w3.cell? ⟨w.heap.size, 0, none⟩ = some (.int .u8 n) := (hf2.trans hf3 (fun _ h => .inl h)).cellA ((blk_cell HB1.out 0).trans rfl)
  replace c9 := hF3.cellA c9
  clear ew3
  refine wp_region_free (S := fun w' => w'.cell? ⟨w2.heap.size,0,none⟩ = some (.int .i64 l) ∧ w'.cell? ⟨w.heap.size,0,none⟩ = some (.int .u8 n) ∧ w'.cell? ⟨g,9,none⟩ = some (.slice A q.length c)) 4 (.pointer (some ⟨w.heap.size + 1,0,none⟩)) (by kernel_rfl) (by kernel_rfl) rfl ⟨d0,d1,c9⟩ ?_
  intro hS
  refine wpAnyH_take (i := 0) (v := ?_) rfl (by kernel_rfl) (by kernel_rfl) (by kernel_rfl) (fun _ _ _ h => h) (Or.inl ⟨by rfl, ?_⟩) hS ?_
  rotate_left
  · intro w4 h4
    obtain ⟨k0, k1, k9⟩ := h4
    go_simp
    try with_reducible rfl
  simp only [List.getElem_toArray,List.getElem_cons_zero,List.getElem_cons_succ,Act.put,List.setIfInBounds_toArray,List.set_cons_zero,List.set_cons_succ]
  refine wpAnyH_take (i := 1) (v := ?_) rfl (by kernel_rfl) (by kernel_rfl) (by kernel_rfl) (fun _ _ _ h => h) (Or.inl ⟨by rfl, ?_⟩) hS ?_
  rotate_left
  · intro w4 h4
    obtain ⟨k0, k1, k9⟩ := h4
    go_simp
    try with_reducible rfl
  simp only [List.getElem_toArray,List.getElem_cons_zero,List.getElem_cons_succ,Act.put,List.setIfInBounds_toArray,List.set_cons_zero,List.set_cons_succ]
  refine wpAnyH_take (i := 2) (v := ?_) rfl (by kernel_rfl) (by kernel_rfl) (by kernel_rfl) (fun _ _ _ h => h) (Or.inl ⟨by rfl, ?_⟩) hS ?_
  rotate_left
  · intro w4 h4
    obtain ⟨k0, k1, k9⟩ := h4
    go_simp
    try with_reducible rfl
  simp only [List.getElem_toArray,List.getElem_cons_zero,List.getElem_cons_succ,Act.put,List.setIfInBounds_toArray,List.set_cons_zero,List.set_cons_succ]
  refine wpAnyH_take (i := 3) (v := ?_) rfl (by kernel_rfl) (by kernel_rfl) (by kernel_rfl) (fun _ _ _ h => h) (Or.inl ⟨by rfl, ?_⟩) hS ?_
  rotate_left
  · intro w4 h4
    obtain ⟨k0, k1, k9⟩ := h4
    go_simp
    try with_reducible rfl
  simp only [List.getElem_toArray,List.getElem_cons_zero,List.getElem_cons_succ,Act.put,List.setIfInBounds_toArray,List.set_cons_zero,List.set_cons_succ]
  refine wpAnyH_take (i := 4) (v := ?_) rfl (by kernel_rfl) (by kernel_rfl) (by kernel_rfl) (fun _ _ _ h => h) (Or.inl ⟨by rfl, ?_⟩) hS ?_
  rotate_left
  · intro w4 h4
    obtain ⟨k0, k1, k9⟩ := h4
    go_simp
    try with_reducible rfl
  simp only [List.getElem_toArray,List.getElem_cons_zero,List.getElem_cons_succ,Act.put,List.setIfInBounds_toArray,List.set_cons_zero,List.set_cons_succ]
  refine wpAnyH_take (i := 5) (v := ?_) rfl (by kernel_rfl) (by kernel_rfl) (by kernel_rfl) (fun _ _ _ h => h) (Or.inl ⟨by rfl, ?_⟩) hS ?_
  rotate_left
  · intro w4 h4
    obtain ⟨k0, k1, k9⟩ := h4
    go_simp
    try with_reducible rfl
  simp only [List.getElem_toArray,List.getElem_cons_zero,List.getElem_cons_succ,Act.put,List.setIfInBounds_toArray,List.set_cons_zero,List.set_cons_succ]
  refine wpAnyH_take (i := 6) (v := ?_) rfl (by kernel_rfl) (by kernel_rfl) (by kernel_rfl) (fun _ _ _ h => h) (Or.inl ⟨by rfl, ?_⟩) hS ?_
  rotate_left
  · intro w4 h4
    obtain ⟨k0, k1, k9⟩ := h4
    go_simp
    try with_reducible rfl
  simp only [List.getElem_toArray,List.getElem_cons_zero,List.getElem_cons_succ,Act.put,List.setIfInBounds_toArray,List.set_cons_zero,List.set_cons_succ]
  refine wpAnyH_take (i := 7) (v := ?_) rfl (by kernel_rfl) (by kernel_rfl) (by kernel_rfl) (fun _ _ _ h => h) (Or.inl ⟨by rfl, ?_⟩) hS ?_
  rotate_left
  · intro w4 h4
    obtain ⟨k0, k1, k9⟩ := h4
    go_simp
    try with_reducible rfl
  simp only [List.getElem_toArray,List.getElem_cons_zero,List.getElem_cons_succ,Act.put,List.setIfInBounds_toArray,List.set_cons_zero,List.set_cons_succ]
  refine wpAnyH_take (i := 8) (v := ?_) rfl (by kernel_rfl) (by kernel_rfl) (by kernel_rfl) (fun _ _ _ h => h) (Or.inl ⟨by rfl, ?_⟩) hS ?_
  rotate_left
  · intro w4 h4
    obtain ⟨k0, k1, k9⟩ := h4
    go_simp
    try with_reducible rfl
  simp only [List.getElem_toArray,List.getElem_cons_zero,List.getElem_cons_succ,Act.put,List.setIfInBounds_toArray,List.set_cons_zero,List.set_cons_succ]
  refine wpAnyH_take (i := 9) (v := ?_) rfl (by kernel_rfl) (by kernel_rfl) (by kernel_rfl) (fun _ _ _ h => h) (Or.inl ⟨by rfl, ?_⟩) hS ?_
  rotate_left
  · intro w4 h4
    obtain ⟨k0, k1, k9⟩ := h4
    go_simp
    try with_reducible rfl
  simp only [List.getElem_toArray,List.getElem_cons_zero,List.getElem_cons_succ,Act.put,List.setIfInBounds_toArray,List.set_cons_zero,List.set_cons_succ]
  refine wpAnyH_take (i := 10) (v := ?_) rfl (by kernel_rfl) (by kernel_rfl) (by kernel_rfl) (fun _ _ _ h => h) (Or.inl ⟨by rfl, ?_⟩) hS ?_
  rotate_left
  · intro w4 h4
    obtain ⟨k0, k1, k9⟩ := h4
    go_simp
    try with_reducible rfl
  simp only [List.getElem_toArray,List.getElem_cons_zero,List.getElem_cons_succ,Act.put,List.setIfInBounds_toArray,List.set_cons_zero,List.set_cons_succ]
  refine wpAnyH_take (i := 11) (v := ?_) rfl (by kernel_rfl) (by kernel_rfl) (by kernel_rfl) (fun _ _ _ h => h) (Or.inl ⟨by rfl, ?_⟩) hS ?_
  rotate_left
  · intro w4 h4
    obtain ⟨k0, k1, k9⟩ := h4
    go_simp
    try with_reducible rfl
  simp only [List.getElem_toArray,List.getElem_cons_zero,List.getElem_cons_succ,Act.put,List.setIfInBounds_toArray,List.set_cons_zero,List.set_cons_succ]
  refine wpAnyH_take (i := 12) (v := ?_) rfl (by kernel_rfl) (by kernel_rfl) (by kernel_rfl) (fun _ _ _ h => h) (Or.inl ⟨by rfl, ?_⟩) hS ?_
  rotate_left
  · intro w4 h4
    obtain ⟨k0, k1, k9⟩ := h4
    go_simp
    try with_reducible rfl
  simp only [List.getElem_toArray,List.getElem_cons_zero,List.getElem_cons_succ,Act.put,List.setIfInBounds_toArray,List.set_cons_zero,List.set_cons_succ]
  refine wpAnyH_take (i := 13) (v := ?_) rfl (by kernel_rfl) (by kernel_rfl) (by kernel_rfl) (fun _ _ _ h => h) (Or.inl ⟨by rfl, ?_⟩) hS ?_
  rotate_left
  · intro w4 h4
    obtain ⟨k0, k1, k9⟩ := h4
    go_simp
    try with_reducible rfl
  simp only [List.getElem_toArray,List.getElem_cons_zero,List.getElem_cons_succ,Act.put,List.setIfInBounds_toArray,List.set_cons_zero,List.set_cons_succ]
  refine wpAnyH_take (i := 14) (v := ?_) rfl (by kernel_rfl) (by kernel_rfl) (by kernel_rfl) (fun _ _ _ h => h) (Or.inl ⟨by rfl, ?_⟩) hS ?_
  rotate_left
  · intro w4 h4
    obtain ⟨k0, k1, k9⟩ := h4
    go_simp
    try with_reducible rfl
  simp only [List.getElem_toArray,List.getElem_cons_zero,List.getElem_cons_succ,Act.put,List.setIfInBounds_toArray,List.set_cons_zero,List.set_cons_succ]
  refine wpAnyH_take (i := 15) (v := ?_) rfl (by kernel_rfl) (by kernel_rfl) (by kernel_rfl) (fun _ _ _ h => h) (Or.inl ⟨by rfl, ?_⟩) hS ?_
  rotate_left
  · intro w4 h4
    obtain ⟨k0, k1, k9⟩ := h4
    go_simp
    try with_reducible rfl
  simp only [List.getElem_toArray,List.getElem_cons_zero,List.getElem_cons_succ,Act.put,List.setIfInBounds_toArray,List.set_cons_zero,List.set_cons_succ]
  refine wpAnyH_take (i := 16) (v := ?_) rfl (by kernel_rfl) (by kernel_rfl) (by kernel_rfl) (fun _ _ _ h => h) (Or.inl ⟨by rfl, ?_⟩) hS ?_
  rotate_left
  · intro w4 h4
    obtain ⟨k0, k1, k9⟩ := h4
    go_simp
    try with_reducible rfl
  simp only [List.getElem_toArray,List.getElem_cons_zero,List.getElem_cons_succ,Act.put,List.setIfInBounds_toArray,List.set_cons_zero,List.set_cons_succ]
  refine wpAnyH_take (i := 17) (v := ?_) rfl (by kernel_rfl) (by kernel_rfl) (by kernel_rfl) (fun _ _ _ h => h) (Or.inl ⟨by rfl, ?_⟩) hS ?_
  rotate_left
  · intro w4 h4
    obtain ⟨k0, k1, k9⟩ := h4
    go_simp
    try with_reducible rfl
  simp only [List.getElem_toArray,List.getElem_cons_zero,List.getElem_cons_succ,Act.put,List.setIfInBounds_toArray,List.set_cons_zero,List.set_cons_succ]
  refine wpAnyH_take (i := 18) (v := ?_) rfl (by kernel_rfl) (by kernel_rfl) (by kernel_rfl) (fun _ _ _ h => h) (Or.inl ⟨by rfl, ?_⟩) hS ?_
  rotate_left
  · intro w4 h4
    obtain ⟨k0, k1, k9⟩ := h4
    go_simp
    try with_reducible rfl
  simp only [List.getElem_toArray,List.getElem_cons_zero,List.getElem_cons_succ,Act.put,List.setIfInBounds_toArray,List.set_cons_zero,List.set_cons_succ]
  refine wpAnyH_take (i := 19) (v := ?_) rfl (by kernel_rfl) (by kernel_rfl) (by kernel_rfl) (fun _ _ _ h => h) (Or.inl ⟨by rfl, ?_⟩) hS ?_
  rotate_left
  · intro w4 h4
    obtain ⟨k0, k1, k9⟩ := h4
    go_simp
    try with_reducible rfl
  simp only [List.getElem_toArray,List.getElem_cons_zero,List.getElem_cons_succ,Act.put,List.setIfInBounds_toArray,List.set_cons_zero,List.set_cons_succ]
  refine wpAnyH_take (i := 20) (v := ?_) rfl (by kernel_rfl) (by kernel_rfl) (by kernel_rfl) (fun _ _ _ h => h) (Or.inl ⟨by rfl, ?_⟩) hS ?_
  rotate_left
  · intro w4 h4
    obtain ⟨k0, k1, k9⟩ := h4
    go_simp
    try with_reducible rfl
  simp only [List.getElem_toArray,List.getElem_cons_zero,List.getElem_cons_succ,Act.put,List.setIfInBounds_toArray,List.set_cons_zero,List.set_cons_succ]
  refine wpAnyH_take (i := 21) (v := ?_) rfl (by kernel_rfl) (by kernel_rfl) (by kernel_rfl) (fun _ _ _ h => h) (Or.inl ⟨by rfl, ?_⟩) hS ?_
  rotate_left
  · intro w4 h4
    obtain ⟨k0, k1, k9⟩ := h4
    go_simp
    try with_reducible rfl
  simp only [List.getElem_toArray,List.getElem_cons_zero,List.getElem_cons_succ,Act.put,List.setIfInBounds_toArray,List.set_cons_zero,List.set_cons_succ]
  refine wpAnyH_take (i := 22) (v := ?_) rfl (by kernel_rfl) (by kernel_rfl) (by kernel_rfl) (fun _ _ _ h => h) (Or.inl ⟨by rfl, ?_⟩) hS ?_
  rotate_left
  · intro w4 h4
    obtain ⟨k0, k1, k9⟩ := h4
    go_simp
    try with_reducible rfl
  simp only [List.getElem_toArray,List.getElem_cons_zero,List.getElem_cons_succ,Act.put,List.setIfInBounds_toArray,List.set_cons_zero,List.set_cons_succ]
  refine wpAnyH_take (i := 23) (v := ?_) rfl (by kernel_rfl) (by kernel_rfl) (by kernel_rfl) (fun _ _ _ h => h) (Or.inl ⟨by rfl, ?_⟩) hS ?_
  rotate_left
  · intro w4 h4
    obtain ⟨k0, k1, k9⟩ := h4
    go_simp
    try with_reducible rfl
  simp only [List.getElem_toArray,List.getElem_cons_zero,List.getElem_cons_succ,Act.put,List.setIfInBounds_toArray,List.set_cons_zero,List.set_cons_succ]
  refine wpAnyH_take (i := 24) (v := ?_) rfl (by kernel_rfl) (by kernel_rfl) (by kernel_rfl) (fun _ _ _ h => h) (Or.inl ⟨by rfl, ?_⟩) hS ?_
  rotate_left
  · intro w4 h4
    obtain ⟨k0, k1, k9⟩ := h4
    go_simp
    try with_reducible rfl
  simp only [List.getElem_toArray,List.getElem_cons_zero,List.getElem_cons_succ,Act.put,List.setIfInBounds_toArray,List.set_cons_zero,List.set_cons_succ]
  refine wpAnyH_ready (rs := [25]) (by kernel_rfl) (by simp) ?_
  refine AllReadyH.cons rfl (fun K hK => ?_) AllReadyH.nil
  go_simp
  refine (unless_no _ _).mono ?_
  rintro e w' ⟨rfl, rfl⟩
  intro tmps ht
  have hf4 : Fr (fun _ => False) w1 w3.drew := (hf2.trans hf3 (fun _ h => .inl h)).drew
  refine leaves_refused hn ht (hf4.blk HB1.out (fun h => h)) (hf4.blk HB2.out (fun h => h)) rfl ?_
  intro v w' hv hf
  have hs1 := blk_lt HB2.out
  exact MPost.denied (b2 := w.heap.size + 1) (((H.out.fr hf1).fr hf4).refuse (why := 19) |>.from hf4) hf1 (by omega) hs1 (fun hk => by have := hk.2; omega) (by omega) (hv.mono (fun k hk => .inr (Nat.le_trans (hf1.trans hf4 (fun _ h => .inl h)).size hk))) hf
end
end Go.Proofs.Ph
