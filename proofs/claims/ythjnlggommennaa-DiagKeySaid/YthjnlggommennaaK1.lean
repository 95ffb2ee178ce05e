/- Part 2 of the proof of DiagKey, for every input: D17, D3, D5, D6, D7, D18, D19, D20, R2, L2, R1, R3, R6, R7. No condition. -/
import Derived.Test.YthjnlggommennaaK0
import Derived.Deep.RegionHeld3
import Derived.Deep.DrawnRows
import Derived.IntWalk
import Derived.BigGuard
import Derived.BigCall
set_option linter.unusedVariables false
set_option linter.unusedSimpArgs false
/- diag: a service answers, or refuses. No condition. -/
namespace Go.Proofs.Ph
open Go Go.RowKit Go.Proofs.YthjnlggommennaaW.PrintWords
attribute [local go_sem ↓] Go.wp_at_zero Go.wp_at_succ
section
variable {w : World} {g : Nat} {P : Nat → Prop} {s : S25} {vi vd vq : Value} {q : List Int} {n : Int}
/-- An end: the result's cell is set, and new blocks. -/
theorem MPost.ended {w w1 w2 w' : World} {S : Nat → Prop} {v : Value} {l : List Int} {s' : S25} (h : Fr (fun i => i = g) w1 w2 ∧ ∃ vi vd, XB w2 g s' vi vd vq ∧ RdF k47 w2 (Now w1 P) vi s'.f7 ∧ RdF k161 w2 (Now w1 P) vd s'.f8) (hf1 : Fr (fun _ => False) w w1) (hS : ∀ i, S i → w.heap.size ≤ i ∧ i < w1.heap.size) (hP : ∀ k, P k → k < w.heap.size) (hg : g < w.heap.size)
    (hv : RdF kb w' (Now w P) v l) (hf : Fr S w2 w') : MPost w g P vq (s', .inr l) (.returned v) w' := by
  obtain ⟨hF, vi, vd, hx, hi, hd⟩ := h
  have hN : ∀ k, Now w1 P k → Now w P k := fun k hk => hk.imp_right (fun h => Nat.le_trans hf1.size h)
  have hne : ∀ k, Now w1 P k → ¬ S k := fun k hk e => by
    have := hS k e
    rcases hk with hk | hk
    · have := hP k hk
      omega
    · omega
  exact ⟨⟨v, rfl, hv⟩, Fr.trans (S := fun i => i = g) (Fr.trans (S := fun i => i = g) (hf1.mono (fun _ h => h.elim)) hF (fun _ h => .inl h)) hf (fun i hi => .inr (hS i hi).1), vi, vd, hf.blk hx (fun h => by have := hS g h; omega),
    (hi.fr hf (fun k hk _ => hne k hk)).mono hN, (hd.fr hf (fun k hk _ => hne k hk)).mono hN⟩
set_option maxRecDepth 100000 in
set_option maxHeartbeats 4000000 in
theorem answer_no1 {l : Int} {F : Nat} (hn : 0 ≤ n ∧ n ≤ 255) (h : MPre w g P s vi vd vq q) (hB : Byt q) (hf : mFind n q = .inr (l, F)) (hl : (l == (q.length : Int)) = true) (hcf : ∀ (args : Array Value) (W : World), (callFunc F args).run Try.prog W = .ok (.enter F args) W) {s' : S25} {why : Int} (HDO : ∀ W P, MPre W g P s vi vd vq q → Calls Try.prog F #[.pointer (some ⟨g, 0, none⟩)] W (MPost W g P vq (s', .inl why))) :
    Calls Try.prog 82 #[.pointer (some ⟨g, 0, none⟩), .int .u8 n] w (MPost w g P vq (s', .inr [127, n % 256, why % 256])) := by
  refine Calls.mono ?_ (fun e w' h => MPost.unbound h)
  replace h := h.bound
  have hg := blk_lt h.x
  obtain ⟨A, c, ev, hlc, hFq⟩ := h.q
  subst ev
  obtain ⟨w1, ew1⟩ : ∃ w1, w1 = (w.alloc (.cells #[.int .u8 n] 5)).alloc (.cells #[.slice none 0 0] 31) := ⟨_, rfl⟩
  have hf1 : Fr (fun _ => False) w w1 := by rw [ew1]; exact ((Fr.refl _ w).alloc _).alloc _
  have FC := find_calls (n := n) (h.fr hf1) hB
  rw [hf] at FC
  have hb1 : w1.heap[w.heap.size]? = some (.cells #[.int .u8 n] 5 (0, 0)) := by rw [ew1]; exact blk_alloc (blk_new w _) _
  have hb2 : w1.heap[w.heap.size + 1]? = some (.cells #[.slice none 0 0] 31 (0, 0)) := by rw [ew1]; exact blk_new' (by show _ = (Array.push _ _).size; rw [Array.size_push])
  have c9 : w.cell? ⟨g, 9, none⟩ = some (.slice A q.length c) := (blk_cell h.x 9).trans rfl
  have H := Aside0.mk h
  have FC' := Aside0.mk FC
  have EW := Aside0.mk ew1
  have HB1 := Aside0.mk hb1
  have HB2 := Aside0.mk hb2
  have DO := Aside0.mk HDO
  clear HDO h FC ew1 hf hb1 hb2 hFq hlc
  go_enter_defers Try.func82, Try.ntmps82
  go_wp2_with (go_at_call 122; rw [← EW.out]; refine FC'.out.mono ?_; rintro e w2 ⟨hf2, he⟩; subst he; (unfold sv))
  have hF2 := hf1.trans hf2 (fun _ h => .inl h)
  have hs2 := hF2.size
  obtain ⟨w3, ew3⟩ : ∃ w3, w3 = w2.alloc (.cells #[.int .i64 l, .func (.func F) #[] #[]] 175) := ⟨_, rfl⟩
  have hf3 : Fr (fun _ => False) w2 w3 := by rw [ew3]; exact (Fr.refl _ w2).alloc _
  have hb3 : w3.heap[w2.heap.size]? = some (.cells #[.int .i64 l, .func (.func F) #[] #[]] 175 (0, 0)) := by rw [ew3]; exact blk_new w2 _
  rw [← ew3]
  have hF3 := hF2.trans hf3 (fun _ h => .inl h)
  have d0 : w3.cell? ⟨w2.heap.size, 0, none⟩ = some (.int .i64 l) := (blk_cell hb3 0).trans rfl
  have e1 : w3.cell? ⟨w2.heap.size, 1, none⟩ = some (.func (.func F) #[] #[]) := (blk_cell hb3 1).trans rfl
  have d1 : w3.cell? ⟨w.heap.size, 0, none⟩ = some (.int .u8 n) := (hf2.trans hf3 (fun _ h => .inl h)).cellA ((blk_cell HB1.out 0).trans rfl)
  replace c9 := hF3.cellA c9
  clear ew3
  refine wp_region_free (S := fun w' => w'.cell? ⟨w2.heap.size, 0, none⟩ = some (.int .i64 l) ∧ w'.cell? ⟨w.heap.size, 0, none⟩ = some (.int .u8 n) ∧ w'.cell? ⟨g, 9, none⟩ = some (.slice A q.length c)) 4 (.pointer (some ⟨w.heap.size + 1, 0, none⟩)) (by kernel_rfl) (by kernel_rfl) rfl ⟨d0, d1, c9⟩ ?_
  intro hS
  refine wpAnyH_take (i := 0) (v := ?_) rfl (by kernel_rfl) (by kernel_rfl) (by kernel_rfl) (fun _ _ _ h => h) (Or.inl ⟨by rfl, ?_⟩) hS ?_
  rotate_left
  · intro w4 h4
    obtain ⟨k0, k1, k9⟩ := h4
    go_simp
    try with_reducible rfl
  simp only [List.getElem_toArray, List.getElem_cons_zero, List.getElem_cons_succ, Act.put, List.setIfInBounds_toArray, List.set_cons_zero, List.set_cons_succ]
  refine wpAnyH_take (i := 1) (v := ?_) rfl (by kernel_rfl) (by kernel_rfl) (by kernel_rfl) (fun _ _ _ h => h) (Or.inl ⟨by rfl, ?_⟩) hS ?_
  rotate_left
  · intro w4 h4
    obtain ⟨k0, k1, k9⟩ := h4
    go_simp
    try with_reducible rfl
  simp only [List.getElem_toArray, List.getElem_cons_zero, List.getElem_cons_succ, Act.put, List.setIfInBounds_toArray, List.set_cons_zero, List.set_cons_succ]
  refine wpAnyH_take (i := 2) (v := ?_) rfl (by kernel_rfl) (by kernel_rfl) (by kernel_rfl) (fun _ _ _ h => h) (Or.inl ⟨by rfl, ?_⟩) hS ?_
  rotate_left
  · intro w4 h4
    obtain ⟨k0, k1, k9⟩ := h4
    go_simp
    try with_reducible rfl
  simp only [List.getElem_toArray, List.getElem_cons_zero, List.getElem_cons_succ, Act.put, List.setIfInBounds_toArray, List.set_cons_zero, List.set_cons_succ]
  refine wpAnyH_take (i := 3) (v := ?_) rfl (by kernel_rfl) (by kernel_rfl) (by kernel_rfl) (fun _ _ _ h => h) (Or.inl ⟨by rfl, ?_⟩) hS ?_
  rotate_left
  · intro w4 h4
    obtain ⟨k0, k1, k9⟩ := h4
    go_simp
    try with_reducible rfl
  simp only [List.getElem_toArray, List.getElem_cons_zero, List.getElem_cons_succ, Act.put, List.setIfInBounds_toArray, List.set_cons_zero, List.set_cons_succ]
  refine wpAnyH_take (i := 4) (v := ?_) rfl (by kernel_rfl) (by kernel_rfl) (by kernel_rfl) (fun _ _ _ h => h) (Or.inl ⟨by rfl, ?_⟩) hS ?_
  rotate_left
  · intro w4 h4
    obtain ⟨k0, k1, k9⟩ := h4
    go_simp
    try with_reducible rfl
  simp only [List.getElem_toArray, List.getElem_cons_zero, List.getElem_cons_succ, Act.put, List.setIfInBounds_toArray, List.set_cons_zero, List.set_cons_succ]
  refine wpAnyH_take (i := 5) (v := ?_) rfl (by kernel_rfl) (by kernel_rfl) (by kernel_rfl) (fun _ _ _ h => h) (Or.inl ⟨by rfl, ?_⟩) hS ?_
  rotate_left
  · intro w4 h4
    obtain ⟨k0, k1, k9⟩ := h4
    go_simp
    try with_reducible rfl
  simp only [List.getElem_toArray, List.getElem_cons_zero, List.getElem_cons_succ, Act.put, List.setIfInBounds_toArray, List.set_cons_zero, List.set_cons_succ]
  refine wpAnyH_take (i := 6) (v := ?_) rfl (by kernel_rfl) (by kernel_rfl) (by kernel_rfl) (fun _ _ _ h => h) (Or.inl ⟨by rfl, ?_⟩) hS ?_
  rotate_left
  · intro w4 h4
    obtain ⟨k0, k1, k9⟩ := h4
    go_simp
    try with_reducible rfl
  simp only [List.getElem_toArray, List.getElem_cons_zero, List.getElem_cons_succ, Act.put, List.setIfInBounds_toArray, List.set_cons_zero, List.set_cons_succ]
  refine wpAnyH_take (i := 7) (v := ?_) rfl (by kernel_rfl) (by kernel_rfl) (by kernel_rfl) (fun _ _ _ h => h) (Or.inl ⟨by rfl, ?_⟩) hS ?_
  rotate_left
  · intro w4 h4
    obtain ⟨k0, k1, k9⟩ := h4
    go_simp
    try with_reducible rfl
  simp only [List.getElem_toArray, List.getElem_cons_zero, List.getElem_cons_succ, Act.put, List.setIfInBounds_toArray, List.set_cons_zero, List.set_cons_succ]
  refine wpAnyH_take (i := 8) (v := ?_) rfl (by kernel_rfl) (by kernel_rfl) (by kernel_rfl) (fun _ _ _ h => h) (Or.inl ⟨by rfl, ?_⟩) hS ?_
  rotate_left
  · intro w4 h4
    obtain ⟨k0, k1, k9⟩ := h4
    go_simp
    try with_reducible rfl
  simp only [List.getElem_toArray, List.getElem_cons_zero, List.getElem_cons_succ, Act.put, List.setIfInBounds_toArray, List.set_cons_zero, List.set_cons_succ]
  refine wpAnyH_take (i := 9) (v := undef) rfl (by kernel_rfl) (by kernel_rfl) (by kernel_rfl) (fun _ _ _ h => h) (Or.inr ⟨by rfl, rfl⟩) hS ?_
  simp only [List.getElem_toArray, List.getElem_cons_zero, List.getElem_cons_succ, Act.put, List.setIfInBounds_toArray, List.set_cons_zero, List.set_cons_succ]
  refine wpAnyH_take (i := 10) (v := undef) rfl (by kernel_rfl) (by kernel_rfl) (by kernel_rfl) (fun _ _ _ h => h) (Or.inr ⟨by rfl, rfl⟩) hS ?_
  simp only [List.getElem_toArray, List.getElem_cons_zero, List.getElem_cons_succ, Act.put, List.setIfInBounds_toArray, List.set_cons_zero, List.set_cons_succ]
  refine wpAnyH_take (i := 11) (v := undef) rfl (by kernel_rfl) (by kernel_rfl) (by kernel_rfl) (fun _ _ _ h => h) (Or.inr ⟨by rfl, rfl⟩) hS ?_
  simp only [List.getElem_toArray, List.getElem_cons_zero, List.getElem_cons_succ, Act.put, List.setIfInBounds_toArray, List.set_cons_zero, List.set_cons_succ]
  refine wpAnyH_take (i := 12) (v := undef) rfl (by kernel_rfl) (by kernel_rfl) (by kernel_rfl) (fun _ _ _ h => h) (Or.inr ⟨by rfl, rfl⟩) hS ?_
  simp only [List.getElem_toArray, List.getElem_cons_zero, List.getElem_cons_succ, Act.put, List.setIfInBounds_toArray, List.set_cons_zero, List.set_cons_succ]
  refine wpAnyH_take (i := 13) (v := undef) rfl (by kernel_rfl) (by kernel_rfl) (by kernel_rfl) (fun _ _ _ h => h) (Or.inr ⟨by rfl, rfl⟩) hS ?_
  simp only [List.getElem_toArray, List.getElem_cons_zero, List.getElem_cons_succ, Act.put, List.setIfInBounds_toArray, List.set_cons_zero, List.set_cons_succ]
  refine wpAnyH_take (i := 14) (v := undef) rfl (by kernel_rfl) (by kernel_rfl) (by kernel_rfl) (fun _ _ _ h => h) (Or.inr ⟨by rfl, rfl⟩) hS ?_
  simp only [List.getElem_toArray, List.getElem_cons_zero, List.getElem_cons_succ, Act.put, List.setIfInBounds_toArray, List.set_cons_zero, List.set_cons_succ]
  refine wpAnyH_take (i := 15) (v := undef) rfl (by kernel_rfl) (by kernel_rfl) (by kernel_rfl) (fun _ _ _ h => h) (Or.inr ⟨by rfl, rfl⟩) hS ?_
  simp only [List.getElem_toArray, List.getElem_cons_zero, List.getElem_cons_succ, Act.put, List.setIfInBounds_toArray, List.set_cons_zero, List.set_cons_succ]
  refine wpAnyH_take (i := 16) (v := undef) rfl (by kernel_rfl) (by kernel_rfl) (by kernel_rfl) (fun _ _ _ h => h) (Or.inr ⟨by rfl, rfl⟩) hS ?_
  simp only [List.getElem_toArray, List.getElem_cons_zero, List.getElem_cons_succ, Act.put, List.setIfInBounds_toArray, List.set_cons_zero, List.set_cons_succ]
  refine wpAnyH_take (i := 17) (v := undef) rfl (by kernel_rfl) (by kernel_rfl) (by kernel_rfl) (fun _ _ _ h => h) (Or.inr ⟨by rfl, rfl⟩) hS ?_
  simp only [List.getElem_toArray, List.getElem_cons_zero, List.getElem_cons_succ, Act.put, List.setIfInBounds_toArray, List.set_cons_zero, List.set_cons_succ]
  refine wpAnyH_take (i := 18) (v := undef) rfl (by kernel_rfl) (by kernel_rfl) (by kernel_rfl) (fun _ _ _ h => h) (Or.inr ⟨by rfl, rfl⟩) hS ?_
  simp only [List.getElem_toArray, List.getElem_cons_zero, List.getElem_cons_succ, Act.put, List.setIfInBounds_toArray, List.set_cons_zero, List.set_cons_succ]
  refine wpAnyH_take (i := 19) (v := undef) rfl (by kernel_rfl) (by kernel_rfl) (by kernel_rfl) (fun _ _ _ h => h) (Or.inr ⟨by rfl, rfl⟩) hS ?_
  simp only [List.getElem_toArray, List.getElem_cons_zero, List.getElem_cons_succ, Act.put, List.setIfInBounds_toArray, List.set_cons_zero, List.set_cons_succ]
  refine wpAnyH_take (i := 20) (v := undef) rfl (by kernel_rfl) (by kernel_rfl) (by kernel_rfl) (fun _ _ _ h => h) (Or.inr ⟨by rfl, rfl⟩) hS ?_
  simp only [List.getElem_toArray, List.getElem_cons_zero, List.getElem_cons_succ, Act.put, List.setIfInBounds_toArray, List.set_cons_zero, List.set_cons_succ]
  refine wpAnyH_take (i := 21) (v := undef) rfl (by kernel_rfl) (by kernel_rfl) (by kernel_rfl) (fun _ _ _ h => h) (Or.inr ⟨by rfl, rfl⟩) hS ?_
  simp only [List.getElem_toArray, List.getElem_cons_zero, List.getElem_cons_succ, Act.put, List.setIfInBounds_toArray, List.set_cons_zero, List.set_cons_succ]
  refine wpAnyH_take (i := 22) (v := undef) rfl (by kernel_rfl) (by kernel_rfl) (by kernel_rfl) (fun _ _ _ h => h) (Or.inr ⟨by rfl, rfl⟩) hS ?_
  simp only [List.getElem_toArray, List.getElem_cons_zero, List.getElem_cons_succ, Act.put, List.setIfInBounds_toArray, List.set_cons_zero, List.set_cons_succ]
  refine wpAnyH_take (i := 23) (v := undef) rfl (by kernel_rfl) (by kernel_rfl) (by kernel_rfl) (fun _ _ _ h => h) (Or.inr ⟨by rfl, rfl⟩) hS ?_
  simp only [List.getElem_toArray, List.getElem_cons_zero, List.getElem_cons_succ, Act.put, List.setIfInBounds_toArray, List.set_cons_zero, List.set_cons_succ]
  refine wpAnyH_take (i := 24) (v := ?_) rfl (by kernel_rfl) (by kernel_rfl) (by kernel_rfl) (fun _ _ _ h => h) (Or.inl ⟨by rfl, ?_⟩) hS ?_
  rotate_left
  · intro w4 h4
    obtain ⟨k0, k1, k9⟩ := h4
    go_simp
    try with_reducible rfl
  simp only [List.getElem_toArray, List.getElem_cons_zero, List.getElem_cons_succ, Act.put, List.setIfInBounds_toArray, List.set_cons_zero, List.set_cons_succ]
  refine wpAnyH_ready (rs := [25]) (by kernel_rfl) (by simp) ?_
  refine AllReadyH.cons rfl (fun K hK => ?_) AllReadyH.nil
  go_simp
  refine (unless_yes _ _).mono ?_
  rintro e w' ⟨rfl, rfl⟩
  show K _ _
  refine hK.out _ _ hS (fun hHeld => ?_)
  clear hK hHeld hS
  try simp only [List.getElem_toArray, List.getElem_cons_zero, List.getElem_cons_succ, Act.put, List.setIfInBounds_toArray, List.set_cons_zero, List.set_cons_succ]
  refine wpAnyH_done (by kernel_rfl) ?_ _
  simp only [QFree, Exit.then]
  go_wp2
  obtain ⟨w4, ew4⟩ : ∃ w4, w4 = w3.drew := ⟨_, rfl⟩
  have hf4 : Fr (fun _ => False) w1 w4 := by rw [ew4]; exact (hf2.trans hf3 (fun _ h => .inl h)).drew
  replace d1 : w4.cell? ⟨w.heap.size, 0, none⟩ = some (.int .u8 n) := by rw [ew4]; exact d1
  replace e1 : w4.cell? ⟨w2.heap.size, 1, none⟩ = some (.func (.func F) #[] #[]) := by rw [ew4]; exact e1
  rw [← ew4]
  have h2lt : w2.heap.size < w4.heap.size := by rw [ew4]; exact blk_lt hb3
  have hs1 := blk_lt HB2.out
  have hs2' := hf2.size
  clear ew4 d0 c9
  refine wp_region_free (S := fun w' => w'.cell? ⟨w.heap.size, 0, none⟩ = some (.int .u8 n) ∧ w'.cell? ⟨w2.heap.size, 1, none⟩ = some (.func (.func F) #[] #[])) 4 (.pointer (some ⟨w.heap.size + 1, 0, none⟩)) (by kernel_rfl) (by kernel_rfl) rfl ⟨d1, e1⟩ ?_
  intro hS
  refine wpAnyH_take (i := 0) (v := ?_) rfl (by kernel_rfl) (by kernel_rfl) (by kernel_rfl) (fun _ _ _ h => h) (Or.inl ⟨by rfl, ?_⟩) hS ?_
  rotate_left
  · intro w4 h4
    obtain ⟨k0, k1⟩ := h4
    go_simp
    try with_reducible rfl
  try simp only [List.getElem_toArray, List.getElem_cons_zero, List.getElem_cons_succ, Act.put, List.setIfInBounds_toArray, List.set_cons_zero, List.set_cons_succ]
  refine wpAnyH_take (i := 1) (v := ?_) rfl (by kernel_rfl) (by kernel_rfl) (by kernel_rfl) (fun _ _ _ h => h) (Or.inl ⟨by rfl, ?_⟩) hS ?_
  rotate_left
  · intro w4 h4
    obtain ⟨k0, k1⟩ := h4
    go_simp
    try with_reducible rfl
  try simp only [List.getElem_toArray, List.getElem_cons_zero, List.getElem_cons_succ, Act.put, List.setIfInBounds_toArray, List.set_cons_zero, List.set_cons_succ]
  refine wpAnyH_take (i := 3) (v := ?_) rfl (by kernel_rfl) (by kernel_rfl) (by kernel_rfl) (fun _ _ _ h => h) (Or.inl ⟨by rfl, ?_⟩) hS ?_
  rotate_left
  · intro w4 h4
    obtain ⟨k0, k1⟩ := h4
    go_simp
    try with_reducible rfl
  try simp only [List.getElem_toArray, List.getElem_cons_zero, List.getElem_cons_succ, Act.put, List.setIfInBounds_toArray, List.set_cons_zero, List.set_cons_succ]
  refine wpAnyH_take (i := 4) (v := ?_) rfl (by kernel_rfl) (by kernel_rfl) (by kernel_rfl) (fun _ _ _ h => h) (Or.inl ⟨by rfl, ?_⟩) hS ?_
  rotate_left
  · intro w4 h4
    obtain ⟨k0, k1⟩ := h4
    go_simp
    try with_reducible rfl
  try simp only [List.getElem_toArray, List.getElem_cons_zero, List.getElem_cons_succ, Act.put, List.setIfInBounds_toArray, List.set_cons_zero, List.set_cons_succ]
  refine wpAnyH_take (i := 5) (v := ?_) rfl (by kernel_rfl) (by kernel_rfl) (by kernel_rfl) (fun _ _ _ h => h) (Or.inl ⟨by rfl, ?_⟩) hS ?_
  rotate_left
  · intro w4 h4
    obtain ⟨k0, k1⟩ := h4
    go_simp
    try with_reducible rfl
  try simp only [List.getElem_toArray, List.getElem_cons_zero, List.getElem_cons_succ, Act.put, List.setIfInBounds_toArray, List.set_cons_zero, List.set_cons_succ]
  have hf6 : Fr (fun _ => False) w4 (w4.alloc (.cells #[.int .u8 (IntKind.u8.wrap (n + 64))] 5)).drew := ((Fr.refl _ w4).alloc _).drew
  refine wpAnyH_ready (rs := [2, 6]) (by kernel_rfl) (by simp) ?_
  refine AllReadyH.cons rfl (fun K hK => ?_) (AllReadyH.cons rfl (fun K hK => ?_) AllReadyH.nil)
  · go_simp
    refine hK.out _ _ ⟨hf6.cellA d1, hf6.cellA e1⟩ (fun hHeld => ?_)
    clear hK hHeld
    try simp only [List.getElem_toArray, List.getElem_cons_zero, List.getElem_cons_succ, Act.put, List.setIfInBounds_toArray, List.set_cons_zero, List.set_cons_succ]
    refine wpAnyH_ready (rs := [6]) (by kernel_rfl) (by simp) ?_
    refine AllReadyH.cons rfl (fun K hK => ?_) AllReadyH.nil
    go_simp
    refine (DO.out _ _ ((H.out.fr hf1).fr (hf4.trans hf6 (fun _ h => .inl h)))).mono ?_
    rintro e w' ⟨he, hrest⟩
    have he' : e = _ := he
    subst he'
    intro tmps ht
    have hf5 : Fr (fun _ => False) w1 _ := hf4.trans hf6 (fun _ h => .inl h)
    have hb1 : w'.heap[w.heap.size]? = some (.cells #[.int .u8 n] 5 (0, 0)) := hrest.1.blk (hf5.blk HB1.out (fun h => h)) (by show ¬ _ = g; omega)
    have hb2 : w'.heap[w.heap.size + 1]? = some (.cells #[.slice none 0 0] 31 (0, 0)) := hrest.1.blk (hf5.blk HB2.out (fun h => h)) (by show ¬ _ = g; omega)
    refine leaves_refused hn ht hb1 hb2 rfl ?_
    intro v w'' hv hf
    have hsz := hrest.1.size
    have hs5 := hf5.size
    exact MPost.denied (b2 := w.heap.size + 1) (MPost.from (w1 := _) ⟨he, hrest⟩ hf5) hf1 (by omega) hs1 (fun hk => by have := hk.2; omega) (by omega) (hv.mono (fun k hk => .inr (by omega))) hf
  · go_simp
    refine (DO.out w4.drew _ ((H.out.fr hf1).fr hf4.drew)).mono ?_
    rintro e w' ⟨he, hrest⟩
    have he' : e = _ := he
    subst he'
    intro tmps ht
    have hf5 : Fr (fun _ => False) w1 w4.drew := hf4.drew
    have hb1 : w'.heap[w.heap.size]? = some (.cells #[.int .u8 n] 5 (0, 0)) := hrest.1.blk (hf5.blk HB1.out (fun h => h)) (by show ¬ _ = g; omega)
    have hb2 : w'.heap[w.heap.size + 1]? = some (.cells #[.slice none 0 0] 31 (0, 0)) := hrest.1.blk (hf5.blk HB2.out (fun h => h)) (by show ¬ _ = g; omega)
    refine leaves_refused hn ht hb1 hb2 rfl ?_
    intro v w'' hv hf
    have hsz := hrest.1.size
    have hs5 := hf5.size
    exact MPost.denied (b2 := w.heap.size + 1) (MPost.from (w1 := w4.drew) ⟨he, hrest⟩ hf5) hf1 (by omega) hs1 (fun hk => by have := hk.2; omega) (by omega) (hv.mono (fun k hk => .inr (by omega))) hf
set_option maxRecDepth 100000 in
set_option maxHeartbeats 4000000 in
theorem answer_no2 {l : Int} {F : Nat} (hn : 0 ≤ n ∧ n ≤ 255) (h : MPre w g P s vi vd vq q) (hB : Byt q) (hf : mFind n q = .inr (l, F)) (hl : (l == (q.length : Int)) = false) (hl2 : (l == -1) = true) (hl3 : (n != 46) = true) (hcf : ∀ (args : Array Value) (W : World), (callFunc F args).run Try.prog W = .ok (.enter F args) W) {s' : S25} {why : Int} (HDO : ∀ W P, MPre W g P s vi vd vq q → Calls Try.prog F #[.pointer (some ⟨g, 0, none⟩)] W (MPost W g P vq (s', .inl why))) :
    Calls Try.prog 82 #[.pointer (some ⟨g, 0, none⟩), .int .u8 n] w (MPost w g P vq (s', .inr [127, n % 256, why % 256])) := by
  refine Calls.mono ?_ (fun e w' h => MPost.unbound h)
  replace h := h.bound
  have hg := blk_lt h.x
  obtain ⟨A, c, ev, hlc, hFq⟩ := h.q
  subst ev
  obtain ⟨w1, ew1⟩ : ∃ w1, w1 = (w.alloc (.cells #[.int .u8 n] 5)).alloc (.cells #[.slice none 0 0] 31) := ⟨_, rfl⟩
  have hf1 : Fr (fun _ => False) w w1 := by rw [ew1]; exact ((Fr.refl _ w).alloc _).alloc _
  have FC := find_calls (n := n) (h.fr hf1) hB
  rw [hf] at FC
  have hb1 : w1.heap[w.heap.size]? = some (.cells #[.int .u8 n] 5 (0, 0)) := by rw [ew1]; exact blk_alloc (blk_new w _) _
  have hb2 : w1.heap[w.heap.size + 1]? = some (.cells #[.slice none 0 0] 31 (0, 0)) := by rw [ew1]; exact blk_new' (by show _ = (Array.push _ _).size; rw [Array.size_push])
  have c9 : w.cell? ⟨g, 9, none⟩ = some (.slice A q.length c) := (blk_cell h.x 9).trans rfl
  have H := Aside0.mk h
  have FC' := Aside0.mk FC
  have EW := Aside0.mk ew1
  have HB1 := Aside0.mk hb1
  have HB2 := Aside0.mk hb2
  have DO := Aside0.mk HDO
  clear HDO h FC ew1 hf hb1 hb2 hFq hlc
  go_enter_defers Try.func82, Try.ntmps82
  go_wp2_with (go_at_call 122; rw [← EW.out]; refine FC'.out.mono ?_; rintro e w2 ⟨hf2, he⟩; subst he; (unfold sv))
  have hF2 := hf1.trans hf2 (fun _ h => .inl h)
  have hs2 := hF2.size
  obtain ⟨w3, ew3⟩ : ∃ w3, w3 = w2.alloc (.cells #[.int .i64 l, .func (.func F) #[] #[]] 175) := ⟨_, rfl⟩
  have hf3 : Fr (fun _ => False) w2 w3 := by rw [ew3]; exact (Fr.refl _ w2).alloc _
  have hb3 : w3.heap[w2.heap.size]? = some (.cells #[.int .i64 l, .func (.func F) #[] #[]] 175 (0, 0)) := by rw [ew3]; exact blk_new w2 _
  rw [← ew3]
  have hF3 := hF2.trans hf3 (fun _ h => .inl h)
  have d0 : w3.cell? ⟨w2.heap.size, 0, none⟩ = some (.int .i64 l) := (blk_cell hb3 0).trans rfl
  have e1 : w3.cell? ⟨w2.heap.size, 1, none⟩ = some (.func (.func F) #[] #[]) := (blk_cell hb3 1).trans rfl
  have d1 : w3.cell? ⟨w.heap.size, 0, none⟩ = some (.int .u8 n) := (hf2.trans hf3 (fun _ h => .inl h)).cellA ((blk_cell HB1.out 0).trans rfl)
  replace c9 := hF3.cellA c9
  clear ew3
  refine wp_region_free (S := fun w' => w'.cell? ⟨w2.heap.size, 0, none⟩ = some (.int .i64 l) ∧ w'.cell? ⟨w.heap.size, 0, none⟩ = some (.int .u8 n) ∧ w'.cell? ⟨g, 9, none⟩ = some (.slice A q.length c)) 4 (.pointer (some ⟨w.heap.size + 1, 0, none⟩)) (by kernel_rfl) (by kernel_rfl) rfl ⟨d0, d1, c9⟩ ?_
  intro hS
  refine wpAnyH_take (i := 0) (v := ?_) rfl (by kernel_rfl) (by kernel_rfl) (by kernel_rfl) (fun _ _ _ h => h) (Or.inl ⟨by rfl, ?_⟩) hS ?_
  rotate_left
  · intro w4 h4
    obtain ⟨k0, k1, k9⟩ := h4
    go_simp
    try with_reducible rfl
  simp only [List.getElem_toArray, List.getElem_cons_zero, List.getElem_cons_succ, Act.put, List.setIfInBounds_toArray, List.set_cons_zero, List.set_cons_succ]
  refine wpAnyH_take (i := 1) (v := ?_) rfl (by kernel_rfl) (by kernel_rfl) (by kernel_rfl) (fun _ _ _ h => h) (Or.inl ⟨by rfl, ?_⟩) hS ?_
  rotate_left
  · intro w4 h4
    obtain ⟨k0, k1, k9⟩ := h4
    go_simp
    try with_reducible rfl
  simp only [List.getElem_toArray, List.getElem_cons_zero, List.getElem_cons_succ, Act.put, List.setIfInBounds_toArray, List.set_cons_zero, List.set_cons_succ]
  refine wpAnyH_take (i := 2) (v := ?_) rfl (by kernel_rfl) (by kernel_rfl) (by kernel_rfl) (fun _ _ _ h => h) (Or.inl ⟨by rfl, ?_⟩) hS ?_
  rotate_left
  · intro w4 h4
    obtain ⟨k0, k1, k9⟩ := h4
    go_simp
    try with_reducible rfl
  simp only [List.getElem_toArray, List.getElem_cons_zero, List.getElem_cons_succ, Act.put, List.setIfInBounds_toArray, List.set_cons_zero, List.set_cons_succ]
  refine wpAnyH_take (i := 3) (v := ?_) rfl (by kernel_rfl) (by kernel_rfl) (by kernel_rfl) (fun _ _ _ h => h) (Or.inl ⟨by rfl, ?_⟩) hS ?_
  rotate_left
  · intro w4 h4
    obtain ⟨k0, k1, k9⟩ := h4
    go_simp
    try with_reducible rfl
  simp only [List.getElem_toArray, List.getElem_cons_zero, List.getElem_cons_succ, Act.put, List.setIfInBounds_toArray, List.set_cons_zero, List.set_cons_succ]
  refine wpAnyH_take (i := 4) (v := ?_) rfl (by kernel_rfl) (by kernel_rfl) (by kernel_rfl) (fun _ _ _ h => h) (Or.inl ⟨by rfl, ?_⟩) hS ?_
  rotate_left
  · intro w4 h4
    obtain ⟨k0, k1, k9⟩ := h4
    go_simp
    try with_reducible rfl
  simp only [List.getElem_toArray, List.getElem_cons_zero, List.getElem_cons_succ, Act.put, List.setIfInBounds_toArray, List.set_cons_zero, List.set_cons_succ]
  refine wpAnyH_take (i := 5) (v := ?_) rfl (by kernel_rfl) (by kernel_rfl) (by kernel_rfl) (fun _ _ _ h => h) (Or.inl ⟨by rfl, ?_⟩) hS ?_
  rotate_left
  · intro w4 h4
    obtain ⟨k0, k1, k9⟩ := h4
    go_simp
    try with_reducible rfl
  simp only [List.getElem_toArray, List.getElem_cons_zero, List.getElem_cons_succ, Act.put, List.setIfInBounds_toArray, List.set_cons_zero, List.set_cons_succ]
  refine wpAnyH_take (i := 6) (v := ?_) rfl (by kernel_rfl) (by kernel_rfl) (by kernel_rfl) (fun _ _ _ h => h) (Or.inl ⟨by rfl, ?_⟩) hS ?_
  rotate_left
  · intro w4 h4
    obtain ⟨k0, k1, k9⟩ := h4
    go_simp
    try with_reducible rfl
  simp only [List.getElem_toArray, List.getElem_cons_zero, List.getElem_cons_succ, Act.put, List.setIfInBounds_toArray, List.set_cons_zero, List.set_cons_succ]
  refine wpAnyH_take (i := 7) (v := ?_) rfl (by kernel_rfl) (by kernel_rfl) (by kernel_rfl) (fun _ _ _ h => h) (Or.inl ⟨by rfl, ?_⟩) hS ?_
  rotate_left
  · intro w4 h4
    obtain ⟨k0, k1, k9⟩ := h4
    go_simp
    try with_reducible rfl
  simp only [List.getElem_toArray, List.getElem_cons_zero, List.getElem_cons_succ, Act.put, List.setIfInBounds_toArray, List.set_cons_zero, List.set_cons_succ]
  refine wpAnyH_take (i := 8) (v := ?_) rfl (by kernel_rfl) (by kernel_rfl) (by kernel_rfl) (fun _ _ _ h => h) (Or.inl ⟨by rfl, ?_⟩) hS ?_
  rotate_left
  · intro w4 h4
    obtain ⟨k0, k1, k9⟩ := h4
    go_simp
    try with_reducible rfl
  simp only [List.getElem_toArray, List.getElem_cons_zero, List.getElem_cons_succ, Act.put, List.setIfInBounds_toArray, List.set_cons_zero, List.set_cons_succ]
  refine wpAnyH_take (i := 9) (v := ?_) rfl (by kernel_rfl) (by kernel_rfl) (by kernel_rfl) (fun _ _ _ h => h) (Or.inl ⟨by rfl, ?_⟩) hS ?_
  rotate_left
  · intro w4 h4
    obtain ⟨k0, k1, k9⟩ := h4
    go_simp
    try with_reducible rfl
  simp only [List.getElem_toArray, List.getElem_cons_zero, List.getElem_cons_succ, Act.put, List.setIfInBounds_toArray, List.set_cons_zero, List.set_cons_succ]
  refine wpAnyH_take (i := 10) (v := ?_) rfl (by kernel_rfl) (by kernel_rfl) (by kernel_rfl) (fun _ _ _ h => h) (Or.inl ⟨by rfl, ?_⟩) hS ?_
  rotate_left
  · intro w4 h4
    obtain ⟨k0, k1, k9⟩ := h4
    go_simp
    try with_reducible rfl
  simp only [List.getElem_toArray, List.getElem_cons_zero, List.getElem_cons_succ, Act.put, List.setIfInBounds_toArray, List.set_cons_zero, List.set_cons_succ]
  refine wpAnyH_take (i := 11) (v := ?_) rfl (by kernel_rfl) (by kernel_rfl) (by kernel_rfl) (fun _ _ _ h => h) (Or.inl ⟨by rfl, ?_⟩) hS ?_
  rotate_left
  · intro w4 h4
    obtain ⟨k0, k1, k9⟩ := h4
    go_simp
    try with_reducible rfl
  simp only [List.getElem_toArray, List.getElem_cons_zero, List.getElem_cons_succ, Act.put, List.setIfInBounds_toArray, List.set_cons_zero, List.set_cons_succ]
  refine wpAnyH_take (i := 12) (v := ?_) rfl (by kernel_rfl) (by kernel_rfl) (by kernel_rfl) (fun _ _ _ h => h) (Or.inl ⟨by rfl, ?_⟩) hS ?_
  rotate_left
  · intro w4 h4
    obtain ⟨k0, k1, k9⟩ := h4
    go_simp
    try with_reducible rfl
  simp only [List.getElem_toArray, List.getElem_cons_zero, List.getElem_cons_succ, Act.put, List.setIfInBounds_toArray, List.set_cons_zero, List.set_cons_succ]
  refine wpAnyH_take (i := 13) (v := ?_) rfl (by kernel_rfl) (by kernel_rfl) (by kernel_rfl) (fun _ _ _ h => h) (Or.inl ⟨by rfl, ?_⟩) hS ?_
  rotate_left
  · intro w4 h4
    obtain ⟨k0, k1, k9⟩ := h4
    go_simp
    try with_reducible rfl
  simp only [List.getElem_toArray, List.getElem_cons_zero, List.getElem_cons_succ, Act.put, List.setIfInBounds_toArray, List.set_cons_zero, List.set_cons_succ]
  refine wpAnyH_take (i := 14) (v := ?_) rfl (by kernel_rfl) (by kernel_rfl) (by kernel_rfl) (fun _ _ _ h => h) (Or.inl ⟨by rfl, ?_⟩) hS ?_
  rotate_left
  · intro w4 h4
    obtain ⟨k0, k1, k9⟩ := h4
    go_simp
    try with_reducible rfl
  simp only [List.getElem_toArray, List.getElem_cons_zero, List.getElem_cons_succ, Act.put, List.setIfInBounds_toArray, List.set_cons_zero, List.set_cons_succ]
  refine wpAnyH_take (i := 15) (v := ?_) rfl (by kernel_rfl) (by kernel_rfl) (by kernel_rfl) (fun _ _ _ h => h) (Or.inl ⟨by rfl, ?_⟩) hS ?_
  rotate_left
  · intro w4 h4
    obtain ⟨k0, k1, k9⟩ := h4
    go_simp
    try with_reducible rfl
  simp only [List.getElem_toArray, List.getElem_cons_zero, List.getElem_cons_succ, Act.put, List.setIfInBounds_toArray, List.set_cons_zero, List.set_cons_succ]
  refine wpAnyH_take (i := 16) (v := undef) rfl (by kernel_rfl) (by kernel_rfl) (by kernel_rfl) (fun _ _ _ h => h) (Or.inr ⟨by rfl, rfl⟩) hS ?_
  simp only [List.getElem_toArray, List.getElem_cons_zero, List.getElem_cons_succ, Act.put, List.setIfInBounds_toArray, List.set_cons_zero, List.set_cons_succ]
  refine wpAnyH_take (i := 17) (v := undef) rfl (by kernel_rfl) (by kernel_rfl) (by kernel_rfl) (fun _ _ _ h => h) (Or.inr ⟨by rfl, rfl⟩) hS ?_
  simp only [List.getElem_toArray, List.getElem_cons_zero, List.getElem_cons_succ, Act.put, List.setIfInBounds_toArray, List.set_cons_zero, List.set_cons_succ]
  refine wpAnyH_take (i := 18) (v := undef) rfl (by kernel_rfl) (by kernel_rfl) (by kernel_rfl) (fun _ _ _ h => h) (Or.inr ⟨by rfl, rfl⟩) hS ?_
  simp only [List.getElem_toArray, List.getElem_cons_zero, List.getElem_cons_succ, Act.put, List.setIfInBounds_toArray, List.set_cons_zero, List.set_cons_succ]
  refine wpAnyH_take (i := 19) (v := undef) rfl (by kernel_rfl) (by kernel_rfl) (by kernel_rfl) (fun _ _ _ h => h) (Or.inr ⟨by rfl, rfl⟩) hS ?_
  simp only [List.getElem_toArray, List.getElem_cons_zero, List.getElem_cons_succ, Act.put, List.setIfInBounds_toArray, List.set_cons_zero, List.set_cons_succ]
  refine wpAnyH_take (i := 20) (v := undef) rfl (by kernel_rfl) (by kernel_rfl) (by kernel_rfl) (fun _ _ _ h => h) (Or.inr ⟨by rfl, rfl⟩) hS ?_
  simp only [List.getElem_toArray, List.getElem_cons_zero, List.getElem_cons_succ, Act.put, List.setIfInBounds_toArray, List.set_cons_zero, List.set_cons_succ]
  refine wpAnyH_take (i := 21) (v := undef) rfl (by kernel_rfl) (by kernel_rfl) (by kernel_rfl) (fun _ _ _ h => h) (Or.inr ⟨by rfl, rfl⟩) hS ?_
  simp only [List.getElem_toArray, List.getElem_cons_zero, List.getElem_cons_succ, Act.put, List.setIfInBounds_toArray, List.set_cons_zero, List.set_cons_succ]
  refine wpAnyH_take (i := 22) (v := ?_) rfl (by kernel_rfl) (by kernel_rfl) (by kernel_rfl) (fun _ _ _ h => h) (Or.inl ⟨by rfl, ?_⟩) hS ?_
  rotate_left
  · intro w4 h4
    obtain ⟨k0, k1, k9⟩ := h4
    go_simp
    try with_reducible rfl
  simp only [List.getElem_toArray, List.getElem_cons_zero, List.getElem_cons_succ, Act.put, List.setIfInBounds_toArray, List.set_cons_zero, List.set_cons_succ]
  refine wpAnyH_take (i := 23) (v := ?_) rfl (by kernel_rfl) (by kernel_rfl) (by kernel_rfl) (fun _ _ _ h => h) (Or.inl ⟨by rfl, ?_⟩) hS ?_
  rotate_left
  · intro w4 h4
    obtain ⟨k0, k1, k9⟩ := h4
    go_simp
    try with_reducible rfl
  simp only [List.getElem_toArray, List.getElem_cons_zero, List.getElem_cons_succ, Act.put, List.setIfInBounds_toArray, List.set_cons_zero, List.set_cons_succ]
  refine wpAnyH_take (i := 24) (v := ?_) rfl (by kernel_rfl) (by kernel_rfl) (by kernel_rfl) (fun _ _ _ h => h) (Or.inl ⟨by rfl, ?_⟩) hS ?_
  rotate_left
  · intro w4 h4
    obtain ⟨k0, k1, k9⟩ := h4
    go_simp
    try with_reducible rfl
  simp only [List.getElem_toArray, List.getElem_cons_zero, List.getElem_cons_succ, Act.put, List.setIfInBounds_toArray, List.set_cons_zero, List.set_cons_succ]
  refine wpAnyH_ready (rs := [25]) (by kernel_rfl) (by simp) ?_
  refine AllReadyH.cons rfl (fun K hK => ?_) AllReadyH.nil
  go_simp
  refine (unless_yes _ _).mono ?_
  rintro e w' ⟨rfl, rfl⟩
  show K _ _
  refine hK.out _ _ hS (fun hHeld => ?_)
  clear hK hHeld hS
  try simp only [List.getElem_toArray, List.getElem_cons_zero, List.getElem_cons_succ, Act.put, List.setIfInBounds_toArray, List.set_cons_zero, List.set_cons_succ]
  refine wpAnyH_done (by kernel_rfl) ?_ _
  simp only [QFree, Exit.then]
  go_wp2
  obtain ⟨w4, ew4⟩ : ∃ w4, w4 = w3.drew := ⟨_, rfl⟩
  have hf4 : Fr (fun _ => False) w1 w4 := by rw [ew4]; exact (hf2.trans hf3 (fun _ h => .inl h)).drew
  replace d1 : w4.cell? ⟨w.heap.size, 0, none⟩ = some (.int .u8 n) := by rw [ew4]; exact d1
  replace e1 : w4.cell? ⟨w2.heap.size, 1, none⟩ = some (.func (.func F) #[] #[]) := by rw [ew4]; exact e1
  rw [← ew4]
  have h2lt : w2.heap.size < w4.heap.size := by rw [ew4]; exact blk_lt hb3
  have hs1 := blk_lt HB2.out
  have hs2' := hf2.size
  clear ew4 d0 c9
  refine wp_region_free (S := fun w' => w'.cell? ⟨w.heap.size, 0, none⟩ = some (.int .u8 n) ∧ w'.cell? ⟨w2.heap.size, 1, none⟩ = some (.func (.func F) #[] #[])) 4 (.pointer (some ⟨w.heap.size + 1, 0, none⟩)) (by kernel_rfl) (by kernel_rfl) rfl ⟨d1, e1⟩ ?_
  intro hS
  refine wpAnyH_take (i := 0) (v := ?_) rfl (by kernel_rfl) (by kernel_rfl) (by kernel_rfl) (fun _ _ _ h => h) (Or.inl ⟨by rfl, ?_⟩) hS ?_
  rotate_left
  · intro w4 h4
    obtain ⟨k0, k1⟩ := h4
    go_simp
    try with_reducible rfl
  try simp only [List.getElem_toArray, List.getElem_cons_zero, List.getElem_cons_succ, Act.put, List.setIfInBounds_toArray, List.set_cons_zero, List.set_cons_succ]
  refine wpAnyH_take (i := 1) (v := ?_) rfl (by kernel_rfl) (by kernel_rfl) (by kernel_rfl) (fun _ _ _ h => h) (Or.inl ⟨by rfl, ?_⟩) hS ?_
  rotate_left
  · intro w4 h4
    obtain ⟨k0, k1⟩ := h4
    go_simp
    try with_reducible rfl
  try simp only [List.getElem_toArray, List.getElem_cons_zero, List.getElem_cons_succ, Act.put, List.setIfInBounds_toArray, List.set_cons_zero, List.set_cons_succ]
  refine wpAnyH_take (i := 3) (v := ?_) rfl (by kernel_rfl) (by kernel_rfl) (by kernel_rfl) (fun _ _ _ h => h) (Or.inl ⟨by rfl, ?_⟩) hS ?_
  rotate_left
  · intro w4 h4
    obtain ⟨k0, k1⟩ := h4
    go_simp
    try with_reducible rfl
  try simp only [List.getElem_toArray, List.getElem_cons_zero, List.getElem_cons_succ, Act.put, List.setIfInBounds_toArray, List.set_cons_zero, List.set_cons_succ]
  refine wpAnyH_take (i := 4) (v := ?_) rfl (by kernel_rfl) (by kernel_rfl) (by kernel_rfl) (fun _ _ _ h => h) (Or.inl ⟨by rfl, ?_⟩) hS ?_
  rotate_left
  · intro w4 h4
    obtain ⟨k0, k1⟩ := h4
    go_simp
    try with_reducible rfl
  try simp only [List.getElem_toArray, List.getElem_cons_zero, List.getElem_cons_succ, Act.put, List.setIfInBounds_toArray, List.set_cons_zero, List.set_cons_succ]
  refine wpAnyH_take (i := 5) (v := ?_) rfl (by kernel_rfl) (by kernel_rfl) (by kernel_rfl) (fun _ _ _ h => h) (Or.inl ⟨by rfl, ?_⟩) hS ?_
  rotate_left
  · intro w4 h4
    obtain ⟨k0, k1⟩ := h4
    go_simp
    try with_reducible rfl
  try simp only [List.getElem_toArray, List.getElem_cons_zero, List.getElem_cons_succ, Act.put, List.setIfInBounds_toArray, List.set_cons_zero, List.set_cons_succ]
  have hf6 : Fr (fun _ => False) w4 (w4.alloc (.cells #[.int .u8 (IntKind.u8.wrap (n + 64))] 5)).drew := ((Fr.refl _ w4).alloc _).drew
  refine wpAnyH_ready (rs := [2, 6]) (by kernel_rfl) (by simp) ?_
  refine AllReadyH.cons rfl (fun K hK => ?_) (AllReadyH.cons rfl (fun K hK => ?_) AllReadyH.nil)
  · go_simp
    refine hK.out _ _ ⟨hf6.cellA d1, hf6.cellA e1⟩ (fun hHeld => ?_)
    clear hK hHeld
    try simp only [List.getElem_toArray, List.getElem_cons_zero, List.getElem_cons_succ, Act.put, List.setIfInBounds_toArray, List.set_cons_zero, List.set_cons_succ]
    refine wpAnyH_ready (rs := [6]) (by kernel_rfl) (by simp) ?_
    refine AllReadyH.cons rfl (fun K hK => ?_) AllReadyH.nil
    go_simp
    refine (DO.out _ _ ((H.out.fr hf1).fr (hf4.trans hf6 (fun _ h => .inl h)))).mono ?_
    rintro e w' ⟨he, hrest⟩
    have he' : e = _ := he
    subst he'
    intro tmps ht
    have hf5 : Fr (fun _ => False) w1 _ := hf4.trans hf6 (fun _ h => .inl h)
    have hb1 : w'.heap[w.heap.size]? = some (.cells #[.int .u8 n] 5 (0, 0)) := hrest.1.blk (hf5.blk HB1.out (fun h => h)) (by show ¬ _ = g; omega)
    have hb2 : w'.heap[w.heap.size + 1]? = some (.cells #[.slice none 0 0] 31 (0, 0)) := hrest.1.blk (hf5.blk HB2.out (fun h => h)) (by show ¬ _ = g; omega)
    refine leaves_refused hn ht hb1 hb2 rfl ?_
    intro v w'' hv hf
    have hsz := hrest.1.size
    have hs5 := hf5.size
    exact MPost.denied (b2 := w.heap.size + 1) (MPost.from (w1 := _) ⟨he, hrest⟩ hf5) hf1 (by omega) hs1 (fun hk => by have := hk.2; omega) (by omega) (hv.mono (fun k hk => .inr (by omega))) hf
  · go_simp
    refine (DO.out w4.drew _ ((H.out.fr hf1).fr hf4.drew)).mono ?_
    rintro e w' ⟨he, hrest⟩
    have he' : e = _ := he
    subst he'
    intro tmps ht
    have hf5 : Fr (fun _ => False) w1 w4.drew := hf4.drew
    have hb1 : w'.heap[w.heap.size]? = some (.cells #[.int .u8 n] 5 (0, 0)) := hrest.1.blk (hf5.blk HB1.out (fun h => h)) (by show ¬ _ = g; omega)
    have hb2 : w'.heap[w.heap.size + 1]? = some (.cells #[.slice none 0 0] 31 (0, 0)) := hrest.1.blk (hf5.blk HB2.out (fun h => h)) (by show ¬ _ = g; omega)
    refine leaves_refused hn ht hb1 hb2 rfl ?_
    intro v w'' hv hf
    have hsz := hrest.1.size
    have hs5 := hf5.size
    exact MPost.denied (b2 := w.heap.size + 1) (MPost.from (w1 := w4.drew) ⟨he, hrest⟩ hf5) hf1 (by omega) hs1 (fun hk => by have := hk.2; omega) (by omega) (hv.mono (fun k hk => .inr (by omega))) hf
set_option maxRecDepth 100000 in
set_option maxHeartbeats 4000000 in
theorem answer_no3 {l : Int} {F : Nat} (hn : 0 ≤ n ∧ n ≤ 255) (h : MPre w g P s vi vd vq q) (hB : Byt q) (hf : mFind n q = .inr (l, F)) (hl : (l == (q.length : Int)) = false) (hl2 : (l == -1) = true) (hl3 : (n != 46) = false) (hl4 : decide ((2 : Int) < (q.length : Int)) = true) (hcf : ∀ (args : Array Value) (W : World), (callFunc F args).run Try.prog W = .ok (.enter F args) W) {s' : S25} {why : Int} (HDO : ∀ W P, MPre W g P s vi vd vq q → Calls Try.prog F #[.pointer (some ⟨g, 0, none⟩)] W (MPost W g P vq (s', .inl why))) :
    Calls Try.prog 82 #[.pointer (some ⟨g, 0, none⟩), .int .u8 n] w (MPost w g P vq (s', .inr [127, n % 256, why % 256])) := by
  refine Calls.mono ?_ (fun e w' h => MPost.unbound h)
  replace h := h.bound
  have hg := blk_lt h.x
  obtain ⟨A, c, ev, hlc, hFq⟩ := h.q
  subst ev
  obtain ⟨w1, ew1⟩ : ∃ w1, w1 = (w.alloc (.cells #[.int .u8 n] 5)).alloc (.cells #[.slice none 0 0] 31) := ⟨_, rfl⟩
  have hf1 : Fr (fun _ => False) w w1 := by rw [ew1]; exact ((Fr.refl _ w).alloc _).alloc _
  have FC := find_calls (n := n) (h.fr hf1) hB
  rw [hf] at FC
  have hb1 : w1.heap[w.heap.size]? = some (.cells #[.int .u8 n] 5 (0, 0)) := by rw [ew1]; exact blk_alloc (blk_new w _) _
  have hb2 : w1.heap[w.heap.size + 1]? = some (.cells #[.slice none 0 0] 31 (0, 0)) := by rw [ew1]; exact blk_new' (by show _ = (Array.push _ _).size; rw [Array.size_push])
  have c9 : w.cell? ⟨g, 9, none⟩ = some (.slice A q.length c) := (blk_cell h.x 9).trans rfl
  have H := Aside0.mk h
  have FC' := Aside0.mk FC
  have EW := Aside0.mk ew1
  have HB1 := Aside0.mk hb1
  have HB2 := Aside0.mk hb2
  have DO := Aside0.mk HDO
  clear HDO h FC ew1 hf hb1 hb2 hFq hlc
  go_enter_defers Try.func82, Try.ntmps82
  go_wp2_with (go_at_call 122; rw [← EW.out]; refine FC'.out.mono ?_; rintro e w2 ⟨hf2, he⟩; subst he; (unfold sv))
  have hF2 := hf1.trans hf2 (fun _ h => .inl h)
  have hs2 := hF2.size
  obtain ⟨w3, ew3⟩ : ∃ w3, w3 = w2.alloc (.cells #[.int .i64 l, .func (.func F) #[] #[]] 175) := ⟨_, rfl⟩
  have hf3 : Fr (fun _ => False) w2 w3 := by rw [ew3]; exact (Fr.refl _ w2).alloc _
  have hb3 : w3.heap[w2.heap.size]? = some (.cells #[.int .i64 l, .func (.func F) #[] #[]] 175 (0, 0)) := by rw [ew3]; exact blk_new w2 _
  rw [← ew3]
  have hF3 := hF2.trans hf3 (fun _ h => .inl h)
  have d0 : w3.cell? ⟨w2.heap.size, 0, none⟩ = some (.int .i64 l) := (blk_cell hb3 0).trans rfl
  have e1 : w3.cell? ⟨w2.heap.size, 1, none⟩ = some (.func (.func F) #[] #[]) := (blk_cell hb3 1).trans rfl
  have d1 : w3.cell? ⟨w.heap.size, 0, none⟩ = some (.int .u8 n) := (hf2.trans hf3 (fun _ h => .inl h)).cellA ((blk_cell HB1.out 0).trans rfl)
  replace c9 := hF3.cellA c9
  clear ew3
  refine wp_region_free (S := fun w' => w'.cell? ⟨w2.heap.size, 0, none⟩ = some (.int .i64 l) ∧ w'.cell? ⟨w.heap.size, 0, none⟩ = some (.int .u8 n) ∧ w'.cell? ⟨g, 9, none⟩ = some (.slice A q.length c)) 4 (.pointer (some ⟨w.heap.size + 1, 0, none⟩)) (by kernel_rfl) (by kernel_rfl) rfl ⟨d0, d1, c9⟩ ?_
  intro hS
  refine wpAnyH_take (i := 0) (v := ?_) rfl (by kernel_rfl) (by kernel_rfl) (by kernel_rfl) (fun _ _ _ h => h) (Or.inl ⟨by rfl, ?_⟩) hS ?_
  rotate_left
  · intro w4 h4
    obtain ⟨k0, k1, k9⟩ := h4
    go_simp
    try with_reducible rfl
  simp only [List.getElem_toArray, List.getElem_cons_zero, List.getElem_cons_succ, Act.put, List.setIfInBounds_toArray, List.set_cons_zero, List.set_cons_succ]
  refine wpAnyH_take (i := 1) (v := ?_) rfl (by kernel_rfl) (by kernel_rfl) (by kernel_rfl) (fun _ _ _ h => h) (Or.inl ⟨by rfl, ?_⟩) hS ?_
  rotate_left
  · intro w4 h4
    obtain ⟨k0, k1, k9⟩ := h4
    go_simp
    try with_reducible rfl
  simp only [List.getElem_toArray, List.getElem_cons_zero, List.getElem_cons_succ, Act.put, List.setIfInBounds_toArray, List.set_cons_zero, List.set_cons_succ]
  refine wpAnyH_take (i := 2) (v := ?_) rfl (by kernel_rfl) (by kernel_rfl) (by kernel_rfl) (fun _ _ _ h => h) (Or.inl ⟨by rfl, ?_⟩) hS ?_
  rotate_left
  · intro w4 h4
    obtain ⟨k0, k1, k9⟩ := h4
    go_simp
    try with_reducible rfl
  simp only [List.getElem_toArray, List.getElem_cons_zero, List.getElem_cons_succ, Act.put, List.setIfInBounds_toArray, List.set_cons_zero, List.set_cons_succ]
  refine wpAnyH_take (i := 3) (v := ?_) rfl (by kernel_rfl) (by kernel_rfl) (by kernel_rfl) (fun _ _ _ h => h) (Or.inl ⟨by rfl, ?_⟩) hS ?_
  rotate_left
  · intro w4 h4
    obtain ⟨k0, k1, k9⟩ := h4
    go_simp
    try with_reducible rfl
  simp only [List.getElem_toArray, List.getElem_cons_zero, List.getElem_cons_succ, Act.put, List.setIfInBounds_toArray, List.set_cons_zero, List.set_cons_succ]
  refine wpAnyH_take (i := 4) (v := ?_) rfl (by kernel_rfl) (by kernel_rfl) (by kernel_rfl) (fun _ _ _ h => h) (Or.inl ⟨by rfl, ?_⟩) hS ?_
  rotate_left
  · intro w4 h4
    obtain ⟨k0, k1, k9⟩ := h4
    go_simp
    try with_reducible rfl
  simp only [List.getElem_toArray, List.getElem_cons_zero, List.getElem_cons_succ, Act.put, List.setIfInBounds_toArray, List.set_cons_zero, List.set_cons_succ]
  refine wpAnyH_take (i := 5) (v := ?_) rfl (by kernel_rfl) (by kernel_rfl) (by kernel_rfl) (fun _ _ _ h => h) (Or.inl ⟨by rfl, ?_⟩) hS ?_
  rotate_left
  · intro w4 h4
    obtain ⟨k0, k1, k9⟩ := h4
    go_simp
    try with_reducible rfl
  simp only [List.getElem_toArray, List.getElem_cons_zero, List.getElem_cons_succ, Act.put, List.setIfInBounds_toArray, List.set_cons_zero, List.set_cons_succ]
  refine wpAnyH_take (i := 6) (v := ?_) rfl (by kernel_rfl) (by kernel_rfl) (by kernel_rfl) (fun _ _ _ h => h) (Or.inl ⟨by rfl, ?_⟩) hS ?_
  rotate_left
  · intro w4 h4
    obtain ⟨k0, k1, k9⟩ := h4
    go_simp
    try with_reducible rfl
  simp only [List.getElem_toArray, List.getElem_cons_zero, List.getElem_cons_succ, Act.put, List.setIfInBounds_toArray, List.set_cons_zero, List.set_cons_succ]
  refine wpAnyH_take (i := 7) (v := ?_) rfl (by kernel_rfl) (by kernel_rfl) (by kernel_rfl) (fun _ _ _ h => h) (Or.inl ⟨by rfl, ?_⟩) hS ?_
  rotate_left
  · intro w4 h4
    obtain ⟨k0, k1, k9⟩ := h4
    go_simp
    try with_reducible rfl
  simp only [List.getElem_toArray, List.getElem_cons_zero, List.getElem_cons_succ, Act.put, List.setIfInBounds_toArray, List.set_cons_zero, List.set_cons_succ]
  refine wpAnyH_take (i := 8) (v := ?_) rfl (by kernel_rfl) (by kernel_rfl) (by kernel_rfl) (fun _ _ _ h => h) (Or.inl ⟨by rfl, ?_⟩) hS ?_
  rotate_left
  · intro w4 h4
    obtain ⟨k0, k1, k9⟩ := h4
    go_simp
    try with_reducible rfl
  simp only [List.getElem_toArray, List.getElem_cons_zero, List.getElem_cons_succ, Act.put, List.setIfInBounds_toArray, List.set_cons_zero, List.set_cons_succ]
  refine wpAnyH_take (i := 9) (v := ?_) rfl (by kernel_rfl) (by kernel_rfl) (by kernel_rfl) (fun _ _ _ h => h) (Or.inl ⟨by rfl, ?_⟩) hS ?_
  rotate_left
  · intro w4 h4
    obtain ⟨k0, k1, k9⟩ := h4
    go_simp
    try with_reducible rfl
  simp only [List.getElem_toArray, List.getElem_cons_zero, List.getElem_cons_succ, Act.put, List.setIfInBounds_toArray, List.set_cons_zero, List.set_cons_succ]
  refine wpAnyH_take (i := 10) (v := ?_) rfl (by kernel_rfl) (by kernel_rfl) (by kernel_rfl) (fun _ _ _ h => h) (Or.inl ⟨by rfl, ?_⟩) hS ?_
  rotate_left
  · intro w4 h4
    obtain ⟨k0, k1, k9⟩ := h4
    go_simp
    try with_reducible rfl
  simp only [List.getElem_toArray, List.getElem_cons_zero, List.getElem_cons_succ, Act.put, List.setIfInBounds_toArray, List.set_cons_zero, List.set_cons_succ]
  refine wpAnyH_take (i := 11) (v := ?_) rfl (by kernel_rfl) (by kernel_rfl) (by kernel_rfl) (fun _ _ _ h => h) (Or.inl ⟨by rfl, ?_⟩) hS ?_
  rotate_left
  · intro w4 h4
    obtain ⟨k0, k1, k9⟩ := h4
    go_simp
    try with_reducible rfl
  simp only [List.getElem_toArray, List.getElem_cons_zero, List.getElem_cons_succ, Act.put, List.setIfInBounds_toArray, List.set_cons_zero, List.set_cons_succ]
  refine wpAnyH_take (i := 12) (v := ?_) rfl (by kernel_rfl) (by kernel_rfl) (by kernel_rfl) (fun _ _ _ h => h) (Or.inl ⟨by rfl, ?_⟩) hS ?_
  rotate_left
  · intro w4 h4
    obtain ⟨k0, k1, k9⟩ := h4
    go_simp
    try with_reducible rfl
  simp only [List.getElem_toArray, List.getElem_cons_zero, List.getElem_cons_succ, Act.put, List.setIfInBounds_toArray, List.set_cons_zero, List.set_cons_succ]
  refine wpAnyH_take (i := 13) (v := ?_) rfl (by kernel_rfl) (by kernel_rfl) (by kernel_rfl) (fun _ _ _ h => h) (Or.inl ⟨by rfl, ?_⟩) hS ?_
  rotate_left
  · intro w4 h4
    obtain ⟨k0, k1, k9⟩ := h4
    go_simp
    try with_reducible rfl
  simp only [List.getElem_toArray, List.getElem_cons_zero, List.getElem_cons_succ, Act.put, List.setIfInBounds_toArray, List.set_cons_zero, List.set_cons_succ]
  refine wpAnyH_take (i := 14) (v := ?_) rfl (by kernel_rfl) (by kernel_rfl) (by kernel_rfl) (fun _ _ _ h => h) (Or.inl ⟨by rfl, ?_⟩) hS ?_
  rotate_left
  · intro w4 h4
    obtain ⟨k0, k1, k9⟩ := h4
    go_simp
    try with_reducible rfl
  simp only [List.getElem_toArray, List.getElem_cons_zero, List.getElem_cons_succ, Act.put, List.setIfInBounds_toArray, List.set_cons_zero, List.set_cons_succ]
  refine wpAnyH_take (i := 15) (v := ?_) rfl (by kernel_rfl) (by kernel_rfl) (by kernel_rfl) (fun _ _ _ h => h) (Or.inl ⟨by rfl, ?_⟩) hS ?_
  rotate_left
  · intro w4 h4
    obtain ⟨k0, k1, k9⟩ := h4
    go_simp
    try with_reducible rfl
  simp only [List.getElem_toArray, List.getElem_cons_zero, List.getElem_cons_succ, Act.put, List.setIfInBounds_toArray, List.set_cons_zero, List.set_cons_succ]
  refine wpAnyH_take (i := 16) (v := ?_) rfl (by kernel_rfl) (by kernel_rfl) (by kernel_rfl) (fun _ _ _ h => h) (Or.inl ⟨by rfl, ?_⟩) hS ?_
  rotate_left
  · intro w4 h4
    obtain ⟨k0, k1, k9⟩ := h4
    go_simp
    try with_reducible rfl
  simp only [List.getElem_toArray, List.getElem_cons_zero, List.getElem_cons_succ, Act.put, List.setIfInBounds_toArray, List.set_cons_zero, List.set_cons_succ]
  refine wpAnyH_take (i := 17) (v := ?_) rfl (by kernel_rfl) (by kernel_rfl) (by kernel_rfl) (fun _ _ _ h => h) (Or.inl ⟨by rfl, ?_⟩) hS ?_
  rotate_left
  · intro w4 h4
    obtain ⟨k0, k1, k9⟩ := h4
    go_simp
    try with_reducible rfl
  simp only [List.getElem_toArray, List.getElem_cons_zero, List.getElem_cons_succ, Act.put, List.setIfInBounds_toArray, List.set_cons_zero, List.set_cons_succ]
  refine wpAnyH_take (i := 18) (v := ?_) rfl (by kernel_rfl) (by kernel_rfl) (by kernel_rfl) (fun _ _ _ h => h) (Or.inl ⟨by rfl, ?_⟩) hS ?_
  rotate_left
  · intro w4 h4
    obtain ⟨k0, k1, k9⟩ := h4
    go_simp
    try with_reducible rfl
  simp only [List.getElem_toArray, List.getElem_cons_zero, List.getElem_cons_succ, Act.put, List.setIfInBounds_toArray, List.set_cons_zero, List.set_cons_succ]
  refine wpAnyH_take (i := 19) (v := ?_) rfl (by kernel_rfl) (by kernel_rfl) (by kernel_rfl) (fun _ _ _ h => h) (Or.inl ⟨by rfl, ?_⟩) hS ?_
  rotate_left
  · intro w4 h4
    obtain ⟨k0, k1, k9⟩ := h4
    go_simp
    try with_reducible rfl
  simp only [List.getElem_toArray, List.getElem_cons_zero, List.getElem_cons_succ, Act.put, List.setIfInBounds_toArray, List.set_cons_zero, List.set_cons_succ]
  refine wpAnyH_take (i := 20) (v := ?_) rfl (by kernel_rfl) (by kernel_rfl) (by kernel_rfl) (fun _ _ _ h => h) (Or.inl ⟨by rfl, ?_⟩) hS ?_
  rotate_left
  · intro w4 h4
    obtain ⟨k0, k1, k9⟩ := h4
    go_simp
    try with_reducible rfl
  simp only [List.getElem_toArray, List.getElem_cons_zero, List.getElem_cons_succ, Act.put, List.setIfInBounds_toArray, List.set_cons_zero, List.set_cons_succ]
  refine wpAnyH_take (i := 21) (v := ?_) rfl (by kernel_rfl) (by kernel_rfl) (by kernel_rfl) (fun _ _ _ h => h) (Or.inl ⟨by rfl, ?_⟩) hS ?_
  rotate_left
  · intro w4 h4
    obtain ⟨k0, k1, k9⟩ := h4
    go_simp
    try with_reducible rfl
  simp only [List.getElem_toArray, List.getElem_cons_zero, List.getElem_cons_succ, Act.put, List.setIfInBounds_toArray, List.set_cons_zero, List.set_cons_succ]
  refine wpAnyH_take (i := 22) (v := ?_) rfl (by kernel_rfl) (by kernel_rfl) (by kernel_rfl) (fun _ _ _ h => h) (Or.inl ⟨by rfl, ?_⟩) hS ?_
  rotate_left
  · intro w4 h4
    obtain ⟨k0, k1, k9⟩ := h4
    go_simp
    try with_reducible rfl
  simp only [List.getElem_toArray, List.getElem_cons_zero, List.getElem_cons_succ, Act.put, List.setIfInBounds_toArray, List.set_cons_zero, List.set_cons_succ]
  refine wpAnyH_take (i := 23) (v := ?_) rfl (by kernel_rfl) (by kernel_rfl) (by kernel_rfl) (fun _ _ _ h => h) (Or.inl ⟨by rfl, ?_⟩) hS ?_
  rotate_left
  · intro w4 h4
    obtain ⟨k0, k1, k9⟩ := h4
    go_simp
    try with_reducible rfl
  simp only [List.getElem_toArray, List.getElem_cons_zero, List.getElem_cons_succ, Act.put, List.setIfInBounds_toArray, List.set_cons_zero, List.set_cons_succ]
  refine wpAnyH_take (i := 24) (v := ?_) rfl (by kernel_rfl) (by kernel_rfl) (by kernel_rfl) (fun _ _ _ h => h) (Or.inl ⟨by rfl, ?_⟩) hS ?_
  rotate_left
  · intro w4 h4
    obtain ⟨k0, k1, k9⟩ := h4
    go_simp
    try with_reducible rfl
  simp only [List.getElem_toArray, List.getElem_cons_zero, List.getElem_cons_succ, Act.put, List.setIfInBounds_toArray, List.set_cons_zero, List.set_cons_succ]
  refine wpAnyH_ready (rs := [25]) (by kernel_rfl) (by simp) ?_
  refine AllReadyH.cons rfl (fun K hK => ?_) AllReadyH.nil
  go_simp
  refine (unless_yes _ _).mono ?_
  rintro e w' ⟨rfl, rfl⟩
  show K _ _
  refine hK.out _ _ hS (fun hHeld => ?_)
  clear hK hHeld hS
  try simp only [List.getElem_toArray, List.getElem_cons_zero, List.getElem_cons_succ, Act.put, List.setIfInBounds_toArray, List.set_cons_zero, List.set_cons_succ]
  refine wpAnyH_done (by kernel_rfl) ?_ _
  simp only [QFree, Exit.then]
  go_wp2
  obtain ⟨w4, ew4⟩ : ∃ w4, w4 = w3.drew := ⟨_, rfl⟩
  have hf4 : Fr (fun _ => False) w1 w4 := by rw [ew4]; exact (hf2.trans hf3 (fun _ h => .inl h)).drew
  replace d1 : w4.cell? ⟨w.heap.size, 0, none⟩ = some (.int .u8 n) := by rw [ew4]; exact d1
  replace e1 : w4.cell? ⟨w2.heap.size, 1, none⟩ = some (.func (.func F) #[] #[]) := by rw [ew4]; exact e1
  rw [← ew4]
  have h2lt : w2.heap.size < w4.heap.size := by rw [ew4]; exact blk_lt hb3
  have hs1 := blk_lt HB2.out
  have hs2' := hf2.size
  clear ew4 d0 c9
  refine wp_region_free (S := fun w' => w'.cell? ⟨w.heap.size, 0, none⟩ = some (.int .u8 n) ∧ w'.cell? ⟨w2.heap.size, 1, none⟩ = some (.func (.func F) #[] #[])) 4 (.pointer (some ⟨w.heap.size + 1, 0, none⟩)) (by kernel_rfl) (by kernel_rfl) rfl ⟨d1, e1⟩ ?_
  intro hS
  refine wpAnyH_take (i := 0) (v := ?_) rfl (by kernel_rfl) (by kernel_rfl) (by kernel_rfl) (fun _ _ _ h => h) (Or.inl ⟨by rfl, ?_⟩) hS ?_
  rotate_left
  · intro w4 h4
    obtain ⟨k0, k1⟩ := h4
    go_simp
    try with_reducible rfl
  try simp only [List.getElem_toArray, List.getElem_cons_zero, List.getElem_cons_succ, Act.put, List.setIfInBounds_toArray, List.set_cons_zero, List.set_cons_succ]
  refine wpAnyH_take (i := 1) (v := ?_) rfl (by kernel_rfl) (by kernel_rfl) (by kernel_rfl) (fun _ _ _ h => h) (Or.inl ⟨by rfl, ?_⟩) hS ?_
  rotate_left
  · intro w4 h4
    obtain ⟨k0, k1⟩ := h4
    go_simp
    try with_reducible rfl
  try simp only [List.getElem_toArray, List.getElem_cons_zero, List.getElem_cons_succ, Act.put, List.setIfInBounds_toArray, List.set_cons_zero, List.set_cons_succ]
  refine wpAnyH_take (i := 3) (v := ?_) rfl (by kernel_rfl) (by kernel_rfl) (by kernel_rfl) (fun _ _ _ h => h) (Or.inl ⟨by rfl, ?_⟩) hS ?_
  rotate_left
  · intro w4 h4
    obtain ⟨k0, k1⟩ := h4
    go_simp
    try with_reducible rfl
  try simp only [List.getElem_toArray, List.getElem_cons_zero, List.getElem_cons_succ, Act.put, List.setIfInBounds_toArray, List.set_cons_zero, List.set_cons_succ]
  refine wpAnyH_take (i := 4) (v := ?_) rfl (by kernel_rfl) (by kernel_rfl) (by kernel_rfl) (fun _ _ _ h => h) (Or.inl ⟨by rfl, ?_⟩) hS ?_
  rotate_left
  · intro w4 h4
    obtain ⟨k0, k1⟩ := h4
    go_simp
    try with_reducible rfl
  try simp only [List.getElem_toArray, List.getElem_cons_zero, List.getElem_cons_succ, Act.put, List.setIfInBounds_toArray, List.set_cons_zero, List.set_cons_succ]
  refine wpAnyH_take (i := 5) (v := ?_) rfl (by kernel_rfl) (by kernel_rfl) (by kernel_rfl) (fun _ _ _ h => h) (Or.inl ⟨by rfl, ?_⟩) hS ?_
  rotate_left
  · intro w4 h4
    obtain ⟨k0, k1⟩ := h4
    go_simp
    try with_reducible rfl
  try simp only [List.getElem_toArray, List.getElem_cons_zero, List.getElem_cons_succ, Act.put, List.setIfInBounds_toArray, List.set_cons_zero, List.set_cons_succ]
  have hf6 : Fr (fun _ => False) w4 (w4.alloc (.cells #[.int .u8 (IntKind.u8.wrap (n + 64))] 5)).drew := ((Fr.refl _ w4).alloc _).drew
  refine wpAnyH_ready (rs := [2, 6]) (by kernel_rfl) (by simp) ?_
  refine AllReadyH.cons rfl (fun K hK => ?_) (AllReadyH.cons rfl (fun K hK => ?_) AllReadyH.nil)
  · go_simp
    refine hK.out _ _ ⟨hf6.cellA d1, hf6.cellA e1⟩ (fun hHeld => ?_)
    clear hK hHeld
    try simp only [List.getElem_toArray, List.getElem_cons_zero, List.getElem_cons_succ, Act.put, List.setIfInBounds_toArray, List.set_cons_zero, List.set_cons_succ]
    refine wpAnyH_ready (rs := [6]) (by kernel_rfl) (by simp) ?_
    refine AllReadyH.cons rfl (fun K hK => ?_) AllReadyH.nil
    go_simp
    refine (DO.out _ _ ((H.out.fr hf1).fr (hf4.trans hf6 (fun _ h => .inl h)))).mono ?_
    rintro e w' ⟨he, hrest⟩
    have he' : e = _ := he
    subst he'
    intro tmps ht
    have hf5 : Fr (fun _ => False) w1 _ := hf4.trans hf6 (fun _ h => .inl h)
    have hb1 : w'.heap[w.heap.size]? = some (.cells #[.int .u8 n] 5 (0, 0)) := hrest.1.blk (hf5.blk HB1.out (fun h => h)) (by show ¬ _ = g; omega)
    have hb2 : w'.heap[w.heap.size + 1]? = some (.cells #[.slice none 0 0] 31 (0, 0)) := hrest.1.blk (hf5.blk HB2.out (fun h => h)) (by show ¬ _ = g; omega)
    refine leaves_refused hn ht hb1 hb2 rfl ?_
    intro v w'' hv hf
    have hsz := hrest.1.size
    have hs5 := hf5.size
    exact MPost.denied (b2 := w.heap.size + 1) (MPost.from (w1 := _) ⟨he, hrest⟩ hf5) hf1 (by omega) hs1 (fun hk => by have := hk.2; omega) (by omega) (hv.mono (fun k hk => .inr (by omega))) hf
  · go_simp
    refine (DO.out w4.drew _ ((H.out.fr hf1).fr hf4.drew)).mono ?_
    rintro e w' ⟨he, hrest⟩
    have he' : e = _ := he
    subst he'
    intro tmps ht
    have hf5 : Fr (fun _ => False) w1 w4.drew := hf4.drew
    have hb1 : w'.heap[w.heap.size]? = some (.cells #[.int .u8 n] 5 (0, 0)) := hrest.1.blk (hf5.blk HB1.out (fun h => h)) (by show ¬ _ = g; omega)
    have hb2 : w'.heap[w.heap.size + 1]? = some (.cells #[.slice none 0 0] 31 (0, 0)) := hrest.1.blk (hf5.blk HB2.out (fun h => h)) (by show ¬ _ = g; omega)
    refine leaves_refused hn ht hb1 hb2 rfl ?_
    intro v w'' hv hf
    have hsz := hrest.1.size
    have hs5 := hf5.size
    exact MPost.denied (b2 := w.heap.size + 1) (MPost.from (w1 := w4.drew) ⟨he, hrest⟩ hf5) hf1 (by omega) hs1 (fun hk => by have := hk.2; omega) (by omega) (hv.mono (fun k hk => .inr (by omega))) hf
set_option maxRecDepth 100000 in
set_option maxHeartbeats 4000000 in
theorem answer_yes1 {l : Int} {F : Nat} (hn : 0 ≤ n ∧ n ≤ 255) (h : MPre w g P s vi vd vq q) (hB : Byt q) (hf : mFind n q = .inr (l, F)) (hl : (l == (q.length : Int)) = true) (hcf : ∀ (args : Array Value) (W : World), (callFunc F args).run Try.prog W = .ok (.enter F args) W) {s' : S25} {b : List Int} (HDO : ∀ W P, MPre W g P s vi vd vq q → Calls Try.prog F #[.pointer (some ⟨g, 0, none⟩)] W (MPost W g P vq (s', .inr b))) (hbl : b.length ≤ 2000) :
    Calls Try.prog 82 #[.pointer (some ⟨g, 0, none⟩), .int .u8 n] w (MPost w g P vq (s', .inr ((n + 64) % 256 :: b))) := by
  refine Calls.mono ?_ (fun e w' h => MPost.unbound h)
  replace h := h.bound
  have hg := blk_lt h.x
  obtain ⟨A, c, ev, hlc, hFq⟩ := h.q
  subst ev
  obtain ⟨w1, ew1⟩ : ∃ w1, w1 = (w.alloc (.cells #[.int .u8 n] 5)).alloc (.cells #[.slice none 0 0] 31) := ⟨_, rfl⟩
  have hf1 : Fr (fun _ => False) w w1 := by rw [ew1]; exact ((Fr.refl _ w).alloc _).alloc _
  have FC := find_calls (n := n) (h.fr hf1) hB
  rw [hf] at FC
  have hb1 : w1.heap[w.heap.size]? = some (.cells #[.int .u8 n] 5 (0, 0)) := by rw [ew1]; exact blk_alloc (blk_new w _) _
  have hb2 : w1.heap[w.heap.size + 1]? = some (.cells #[.slice none 0 0] 31 (0, 0)) := by rw [ew1]; exact blk_new' (by show _ = (Array.push _ _).size; rw [Array.size_push])
  have c9 : w.cell? ⟨g, 9, none⟩ = some (.slice A q.length c) := (blk_cell h.x 9).trans rfl
  have H := Aside0.mk h
  have FC' := Aside0.mk FC
  have EW := Aside0.mk ew1
  have HB1 := Aside0.mk hb1
  have HB2 := Aside0.mk hb2
  have DO := Aside0.mk HDO
  clear HDO h FC ew1 hf hb1 hb2 hFq hlc
  go_enter_defers Try.func82, Try.ntmps82
  go_wp2_with (go_at_call 122; rw [← EW.out]; refine FC'.out.mono ?_; rintro e w2 ⟨hf2, he⟩; subst he; (unfold sv))
  have hF2 := hf1.trans hf2 (fun _ h => .inl h)
  have hs2 := hF2.size
  obtain ⟨w3, ew3⟩ : ∃ w3, w3 = w2.alloc (.cells #[.int .i64 l, .func (.func F) #[] #[]] 175) := ⟨_, rfl⟩
  have hf3 : Fr (fun _ => False) w2 w3 := by rw [ew3]; exact (Fr.refl _ w2).alloc _
  have hb3 : w3.heap[w2.heap.size]? = some (.cells #[.int .i64 l, .func (.func F) #[] #[]] 175 (0, 0)) := by rw [ew3]; exact blk_new w2 _
  rw [← ew3]
  have hF3 := hF2.trans hf3 (fun _ h => .inl h)
  have d0 : w3.cell? ⟨w2.heap.size, 0, none⟩ = some (.int .i64 l) := (blk_cell hb3 0).trans rfl
  have e1 : w3.cell? ⟨w2.heap.size, 1, none⟩ = some (.func (.func F) #[] #[]) := (blk_cell hb3 1).trans rfl
  have d1 : w3.cell? ⟨w.heap.size, 0, none⟩ = some (.int .u8 n) := (hf2.trans hf3 (fun _ h => .inl h)).cellA ((blk_cell HB1.out 0).trans rfl)
  replace c9 := hF3.cellA c9
  clear ew3
  refine wp_region_free (S := fun w' => w'.cell? ⟨w2.heap.size, 0, none⟩ = some (.int .i64 l) ∧ w'.cell? ⟨w.heap.size, 0, none⟩ = some (.int .u8 n) ∧ w'.cell? ⟨g, 9, none⟩ = some (.slice A q.length c)) 4 (.pointer (some ⟨w.heap.size + 1, 0, none⟩)) (by kernel_rfl) (by kernel_rfl) rfl ⟨d0, d1, c9⟩ ?_
  intro hS
  refine wpAnyH_take (i := 0) (v := ?_) rfl (by kernel_rfl) (by kernel_rfl) (by kernel_rfl) (fun _ _ _ h => h) (Or.inl ⟨by rfl, ?_⟩) hS ?_
  rotate_left
  · intro w4 h4
    obtain ⟨k0, k1, k9⟩ := h4
    go_simp
    try with_reducible rfl
  simp only [List.getElem_toArray, List.getElem_cons_zero, List.getElem_cons_succ, Act.put, List.setIfInBounds_toArray, List.set_cons_zero, List.set_cons_succ]
  refine wpAnyH_take (i := 1) (v := ?_) rfl (by kernel_rfl) (by kernel_rfl) (by kernel_rfl) (fun _ _ _ h => h) (Or.inl ⟨by rfl, ?_⟩) hS ?_
  rotate_left
  · intro w4 h4
    obtain ⟨k0, k1, k9⟩ := h4
    go_simp
    try with_reducible rfl
  simp only [List.getElem_toArray, List.getElem_cons_zero, List.getElem_cons_succ, Act.put, List.setIfInBounds_toArray, List.set_cons_zero, List.set_cons_succ]
  refine wpAnyH_take (i := 2) (v := ?_) rfl (by kernel_rfl) (by kernel_rfl) (by kernel_rfl) (fun _ _ _ h => h) (Or.inl ⟨by rfl, ?_⟩) hS ?_
  rotate_left
  · intro w4 h4
    obtain ⟨k0, k1, k9⟩ := h4
    go_simp
    try with_reducible rfl
  simp only [List.getElem_toArray, List.getElem_cons_zero, List.getElem_cons_succ, Act.put, List.setIfInBounds_toArray, List.set_cons_zero, List.set_cons_succ]
  refine wpAnyH_take (i := 3) (v := ?_) rfl (by kernel_rfl) (by kernel_rfl) (by kernel_rfl) (fun _ _ _ h => h) (Or.inl ⟨by rfl, ?_⟩) hS ?_
  rotate_left
  · intro w4 h4
    obtain ⟨k0, k1, k9⟩ := h4
    go_simp
    try with_reducible rfl
  simp only [List.getElem_toArray, List.getElem_cons_zero, List.getElem_cons_succ, Act.put, List.setIfInBounds_toArray, List.set_cons_zero, List.set_cons_succ]
  refine wpAnyH_take (i := 4) (v := ?_) rfl (by kernel_rfl) (by kernel_rfl) (by kernel_rfl) (fun _ _ _ h => h) (Or.inl ⟨by rfl, ?_⟩) hS ?_
  rotate_left
  · intro w4 h4
    obtain ⟨k0, k1, k9⟩ := h4
    go_simp
    try with_reducible rfl
  simp only [List.getElem_toArray, List.getElem_cons_zero, List.getElem_cons_succ, Act.put, List.setIfInBounds_toArray, List.set_cons_zero, List.set_cons_succ]
  refine wpAnyH_take (i := 5) (v := ?_) rfl (by kernel_rfl) (by kernel_rfl) (by kernel_rfl) (fun _ _ _ h => h) (Or.inl ⟨by rfl, ?_⟩) hS ?_
  rotate_left
  · intro w4 h4
    obtain ⟨k0, k1, k9⟩ := h4
    go_simp
    try with_reducible rfl
  simp only [List.getElem_toArray, List.getElem_cons_zero, List.getElem_cons_succ, Act.put, List.setIfInBounds_toArray, List.set_cons_zero, List.set_cons_succ]
  refine wpAnyH_take (i := 6) (v := ?_) rfl (by kernel_rfl) (by kernel_rfl) (by kernel_rfl) (fun _ _ _ h => h) (Or.inl ⟨by rfl, ?_⟩) hS ?_
  rotate_left
  · intro w4 h4
    obtain ⟨k0, k1, k9⟩ := h4
    go_simp
    try with_reducible rfl
  simp only [List.getElem_toArray, List.getElem_cons_zero, List.getElem_cons_succ, Act.put, List.setIfInBounds_toArray, List.set_cons_zero, List.set_cons_succ]
  refine wpAnyH_take (i := 7) (v := ?_) rfl (by kernel_rfl) (by kernel_rfl) (by kernel_rfl) (fun _ _ _ h => h) (Or.inl ⟨by rfl, ?_⟩) hS ?_
  rotate_left
  · intro w4 h4
    obtain ⟨k0, k1, k9⟩ := h4
    go_simp
    try with_reducible rfl
  simp only [List.getElem_toArray, List.getElem_cons_zero, List.getElem_cons_succ, Act.put, List.setIfInBounds_toArray, List.set_cons_zero, List.set_cons_succ]
  refine wpAnyH_take (i := 8) (v := ?_) rfl (by kernel_rfl) (by kernel_rfl) (by kernel_rfl) (fun _ _ _ h => h) (Or.inl ⟨by rfl, ?_⟩) hS ?_
  rotate_left
  · intro w4 h4
    obtain ⟨k0, k1, k9⟩ := h4
    go_simp
    try with_reducible rfl
  simp only [List.getElem_toArray, List.getElem_cons_zero, List.getElem_cons_succ, Act.put, List.setIfInBounds_toArray, List.set_cons_zero, List.set_cons_succ]
  refine wpAnyH_take (i := 9) (v := undef) rfl (by kernel_rfl) (by kernel_rfl) (by kernel_rfl) (fun _ _ _ h => h) (Or.inr ⟨by rfl, rfl⟩) hS ?_
  simp only [List.getElem_toArray, List.getElem_cons_zero, List.getElem_cons_succ, Act.put, List.setIfInBounds_toArray, List.set_cons_zero, List.set_cons_succ]
  refine wpAnyH_take (i := 10) (v := undef) rfl (by kernel_rfl) (by kernel_rfl) (by kernel_rfl) (fun _ _ _ h => h) (Or.inr ⟨by rfl, rfl⟩) hS ?_
  simp only [List.getElem_toArray, List.getElem_cons_zero, List.getElem_cons_succ, Act.put, List.setIfInBounds_toArray, List.set_cons_zero, List.set_cons_succ]
  refine wpAnyH_take (i := 11) (v := undef) rfl (by kernel_rfl) (by kernel_rfl) (by kernel_rfl) (fun _ _ _ h => h) (Or.inr ⟨by rfl, rfl⟩) hS ?_
  simp only [List.getElem_toArray, List.getElem_cons_zero, List.getElem_cons_succ, Act.put, List.setIfInBounds_toArray, List.set_cons_zero, List.set_cons_succ]
  refine wpAnyH_take (i := 12) (v := undef) rfl (by kernel_rfl) (by kernel_rfl) (by kernel_rfl) (fun _ _ _ h => h) (Or.inr ⟨by rfl, rfl⟩) hS ?_
  simp only [List.getElem_toArray, List.getElem_cons_zero, List.getElem_cons_succ, Act.put, List.setIfInBounds_toArray, List.set_cons_zero, List.set_cons_succ]
  refine wpAnyH_take (i := 13) (v := undef) rfl (by kernel_rfl) (by kernel_rfl) (by kernel_rfl) (fun _ _ _ h => h) (Or.inr ⟨by rfl, rfl⟩) hS ?_
  simp only [List.getElem_toArray, List.getElem_cons_zero, List.getElem_cons_succ, Act.put, List.setIfInBounds_toArray, List.set_cons_zero, List.set_cons_succ]
  refine wpAnyH_take (i := 14) (v := undef) rfl (by kernel_rfl) (by kernel_rfl) (by kernel_rfl) (fun _ _ _ h => h) (Or.inr ⟨by rfl, rfl⟩) hS ?_
  simp only [List.getElem_toArray, List.getElem_cons_zero, List.getElem_cons_succ, Act.put, List.setIfInBounds_toArray, List.set_cons_zero, List.set_cons_succ]
  refine wpAnyH_take (i := 15) (v := undef) rfl (by kernel_rfl) (by kernel_rfl) (by kernel_rfl) (fun _ _ _ h => h) (Or.inr ⟨by rfl, rfl⟩) hS ?_
  simp only [List.getElem_toArray, List.getElem_cons_zero, List.getElem_cons_succ, Act.put, List.setIfInBounds_toArray, List.set_cons_zero, List.set_cons_succ]
  refine wpAnyH_take (i := 16) (v := undef) rfl (by kernel_rfl) (by kernel_rfl) (by kernel_rfl) (fun _ _ _ h => h) (Or.inr ⟨by rfl, rfl⟩) hS ?_
  simp only [List.getElem_toArray, List.getElem_cons_zero, List.getElem_cons_succ, Act.put, List.setIfInBounds_toArray, List.set_cons_zero, List.set_cons_succ]
  refine wpAnyH_take (i := 17) (v := undef) rfl (by kernel_rfl) (by kernel_rfl) (by kernel_rfl) (fun _ _ _ h => h) (Or.inr ⟨by rfl, rfl⟩) hS ?_
  simp only [List.getElem_toArray, List.getElem_cons_zero, List.getElem_cons_succ, Act.put, List.setIfInBounds_toArray, List.set_cons_zero, List.set_cons_succ]
  refine wpAnyH_take (i := 18) (v := undef) rfl (by kernel_rfl) (by kernel_rfl) (by kernel_rfl) (fun _ _ _ h => h) (Or.inr ⟨by rfl, rfl⟩) hS ?_
  simp only [List.getElem_toArray, List.getElem_cons_zero, List.getElem_cons_succ, Act.put, List.setIfInBounds_toArray, List.set_cons_zero, List.set_cons_succ]
  refine wpAnyH_take (i := 19) (v := undef) rfl (by kernel_rfl) (by kernel_rfl) (by kernel_rfl) (fun _ _ _ h => h) (Or.inr ⟨by rfl, rfl⟩) hS ?_
  simp only [List.getElem_toArray, List.getElem_cons_zero, List.getElem_cons_succ, Act.put, List.setIfInBounds_toArray, List.set_cons_zero, List.set_cons_succ]
  refine wpAnyH_take (i := 20) (v := undef) rfl (by kernel_rfl) (by kernel_rfl) (by kernel_rfl) (fun _ _ _ h => h) (Or.inr ⟨by rfl, rfl⟩) hS ?_
  simp only [List.getElem_toArray, List.getElem_cons_zero, List.getElem_cons_succ, Act.put, List.setIfInBounds_toArray, List.set_cons_zero, List.set_cons_succ]
  refine wpAnyH_take (i := 21) (v := undef) rfl (by kernel_rfl) (by kernel_rfl) (by kernel_rfl) (fun _ _ _ h => h) (Or.inr ⟨by rfl, rfl⟩) hS ?_
  simp only [List.getElem_toArray, List.getElem_cons_zero, List.getElem_cons_succ, Act.put, List.setIfInBounds_toArray, List.set_cons_zero, List.set_cons_succ]
  refine wpAnyH_take (i := 22) (v := undef) rfl (by kernel_rfl) (by kernel_rfl) (by kernel_rfl) (fun _ _ _ h => h) (Or.inr ⟨by rfl, rfl⟩) hS ?_
  simp only [List.getElem_toArray, List.getElem_cons_zero, List.getElem_cons_succ, Act.put, List.setIfInBounds_toArray, List.set_cons_zero, List.set_cons_succ]
  refine wpAnyH_take (i := 23) (v := undef) rfl (by kernel_rfl) (by kernel_rfl) (by kernel_rfl) (fun _ _ _ h => h) (Or.inr ⟨by rfl, rfl⟩) hS ?_
  simp only [List.getElem_toArray, List.getElem_cons_zero, List.getElem_cons_succ, Act.put, List.setIfInBounds_toArray, List.set_cons_zero, List.set_cons_succ]
  refine wpAnyH_take (i := 24) (v := ?_) rfl (by kernel_rfl) (by kernel_rfl) (by kernel_rfl) (fun _ _ _ h => h) (Or.inl ⟨by rfl, ?_⟩) hS ?_
  rotate_left
  · intro w4 h4
    obtain ⟨k0, k1, k9⟩ := h4
    go_simp
    try with_reducible rfl
  simp only [List.getElem_toArray, List.getElem_cons_zero, List.getElem_cons_succ, Act.put, List.setIfInBounds_toArray, List.set_cons_zero, List.set_cons_succ]
  refine wpAnyH_ready (rs := [25]) (by kernel_rfl) (by simp) ?_
  refine AllReadyH.cons rfl (fun K hK => ?_) AllReadyH.nil
  go_simp
  refine (unless_yes _ _).mono ?_
  rintro e w' ⟨rfl, rfl⟩
  show K _ _
  refine hK.out _ _ hS (fun hHeld => ?_)
  clear hK hHeld hS
  try simp only [List.getElem_toArray, List.getElem_cons_zero, List.getElem_cons_succ, Act.put, List.setIfInBounds_toArray, List.set_cons_zero, List.set_cons_succ]
  refine wpAnyH_done (by kernel_rfl) ?_ _
  simp only [QFree, Exit.then]
  go_wp2
  obtain ⟨w4, ew4⟩ : ∃ w4, w4 = w3.drew := ⟨_, rfl⟩
  have hf4 : Fr (fun _ => False) w1 w4 := by rw [ew4]; exact (hf2.trans hf3 (fun _ h => .inl h)).drew
  replace d1 : w4.cell? ⟨w.heap.size, 0, none⟩ = some (.int .u8 n) := by rw [ew4]; exact d1
  replace e1 : w4.cell? ⟨w2.heap.size, 1, none⟩ = some (.func (.func F) #[] #[]) := by rw [ew4]; exact e1
  rw [← ew4]
  have h2lt : w2.heap.size < w4.heap.size := by rw [ew4]; exact blk_lt hb3
  have hs1 := blk_lt HB2.out
  have hs2' := hf2.size
  clear ew4 d0 c9
  have hlt1 : w.heap.size < w4.heap.size := by have := hf4.size; omega
  have hg4 : g < w4.heap.size := by omega
  have HBL := Aside0.mk (show ([IntKind.u8.wrap (n + 64)] : List Int).length + b.length ≤ 140737488355328 by show 1 + _ ≤ _; omega)
  have hz2 := blk_lt HB2.out
  have hb24 := hf4.blk HB2.out (fun h => h)
  have c0 : w4.cell? ⟨w.heap.size + 1, 0, none⟩ = some (.slice none 0 0) := (blk_cell hb24 0).trans rfl
  have z0 := blk_frozen hb24 0
  have hn1 : ¬ (w.heap.size = g ∨ w.heap.size = w.heap.size + 1) := by omega
  have hn2 : ¬ (w2.heap.size = g ∨ w2.heap.size = w.heap.size + 1) := by omega
  go_region_held3 (fun w' => w'.cell? ⟨w.heap.size, 0, none⟩ = some (.int .u8 n) ∧ w'.cell? ⟨w2.heap.size, 1, none⟩ = some (.func (.func F) #[] #[]))
    (refine ⟨(Fr.cell (w := w4) (S := fun i => i = g ∨ i = w.heap.size + 1) ?_ hlt1 hn1).trans d1, (Fr.cell (w := w4) (S := fun i => i = g ∨ i = w.heap.size + 1) ?_ h2lt hn2).trans e1⟩ <;> (repeat (first | exact Fr.refl _ _ | exact hF7 | exact hF5 | refine Fr.alloc ?_ _ | refine Fr.drew ?_ | refine Fr.setCell ?_ (.inl (.inr rfl)) _)))
    (first | (refine (DO.out w4.drew _ ((H.out.fr hf1).fr hf4.drew)).mono ?_; rintro e w5 ⟨he, hrest⟩; obtain ⟨v5, rfl, hv5⟩ := he; have hF5 : Fr (fun i => i = g ∨ i = w.heap.size + 1) w4 w5 := Fr.trans (Fr.refl _ _).drew hrest.1 (fun i h => .inl (.inl h)); have hb25 : w5.heap[w.heap.size + 1]? = some (.cells #[.slice none 0 0] 31 (0, 0)) := hrest.1.blk (w := w4.drew) hb24 (show ¬ _ = g by omega)) | (refine (DO.out (w4.alloc (.cells #[.int .u8 (IntKind.u8.wrap (n + 64))] 5)).drew _ ((H.out.fr hf1).fr (hf4.alloc _).drew)).mono ?_; rintro e w5 ⟨he, hrest⟩; obtain ⟨v5, rfl, hv5⟩ := he; have hF5 : Fr (fun i => i = g ∨ i = w.heap.size + 1) w4 w5 := Fr.trans ((Fr.refl _ _).alloc _).drew hrest.1 (fun i h => .inl (.inl h)); have hb25 : w5.heap[w.heap.size + 1]? = some (.cells #[.slice none 0 0] 31 (0, 0)) := hrest.1.blk (w := (w4.alloc _).drew) (blk_alloc hb24 _) (show ¬ _ = g by omega); have hb45 : w5.heap[w4.heap.size]? = some (.cells #[.int .u8 (IntKind.u8.wrap (n + 64))] 5 (0, 0)) := hrest.1.blk (w := (w4.alloc _).drew) (blk_new w4 _) (show ¬ _ = g by omega)) | (refine appB_step Try.underlying31 i5 (W := w5.alloc (.cells #[.int .u8 (IntKind.u8.wrap (n + 64))] 5)) w4.heap.size rfl _ _ rfl (.slice (some ⟨w5.heap.size, 0, none⟩) 1 1) v5 [IntKind.u8.wrap (n + 64)] b rfl rfl (own_lit' w4.heap.size (blk_new w5 _) rfl hF5.size rfl (show 1 ≤ 9223372036854775807 from Nat.le_of_ble_eq_true rfl)) (hv5.now.below (below_alloc (Below.refl _ _) _)) (Nat.le_trans hF5.size (below_alloc (Below.refl _ _) _).size) HBL.out ?_; intro v6 w6 ho6 hg6 hb6; obtain ⟨A6, k6, ev6⟩ := own_slice ho6; subst ev6; have hX : w4.heap.size ≤ (World.drew w4).heap.size := Nat.le_refl _; have hF6 : Fr (fun i => i = w4.heap.size ∧ w4.heap.size < (World.drew w4).heap.size) w5 w6 := ((Fr.refl _ w5).alloc _).grown hg6 (fun k hk => .inr (Nat.le_of_eq (Option.some.inj hk))); have hF7 : Fr (fun i => i = g ∨ i = w.heap.size + 1) w4 w6 := hF5.trans hF6 (fun i h => .inr (Nat.le_of_eq h.1.symm)); have hb26 := hF6.blk hb25 (fun h => by have := h.1; omega); have c6 : w6.cell? ⟨w.heap.size + 1, 0, none⟩ = some (.slice none 0 0) := (blk_cell hb26 0).trans rfl; have z6 := blk_frozen hb26 0) | (refine appB_step Try.underlying31 i5 (W := w5) w4.heap.size rfl _ _ rfl (.slice (some ⟨w4.heap.size, 0, none⟩) 1 1) v5 [IntKind.u8.wrap (n + 64)] b rfl rfl (own_lit' w4.heap.size hb45 rfl (Nat.le_refl _) rfl (show 1 ≤ 9223372036854775807 from Nat.le_of_ble_eq_true rfl)) hv5.now hF5.size HBL.out ?_; intro v6 w6 ho6 hg6 hb6; obtain ⟨A6, k6, ev6⟩ := own_slice ho6; subst ev6; have hX : w4.heap.size ≤ (w4.alloc (.cells #[.int .u8 (IntKind.u8.wrap (n + 64))] 5)).drew.heap.size := (below_alloc (Below.refl _ _) _).size; have hF6 : Fr (fun i => i = w4.heap.size ∧ w4.heap.size < (w4.alloc (.cells #[.int .u8 (IntKind.u8.wrap (n + 64))] 5)).drew.heap.size) w5 w6 := (Fr.refl _ w5).grown hg6 (fun k hk => .inl ⟨(Option.some.inj hk).symm, by show _ < (Array.push _ _).size; rw [Array.size_push]; exact Nat.lt_succ_self _⟩); have hF7 : Fr (fun i => i = g ∨ i = w.heap.size + 1) w4 w6 := hF5.trans hF6 (fun i h => .inr (Nat.le_of_eq h.1.symm)); have hb26 := hF6.blk hb25 (fun h => by have := h.1; omega); have c6 : w6.cell? ⟨w.heap.size + 1, 0, none⟩ = some (.slice none 0 0) := (blk_cell hb26 0).trans rfl; have z6 := blk_frozen hb26 0))
  all_goals
    rename_i hHeld
    clear hHeld
    go_wp2
    have hf8 : Fr (fun i => (i = w4.heap.size ∧ w4.heap.size < _) ∨ i = w.heap.size + 1) w5 (w6.setCell ⟨w.heap.size + 1, 0, none⟩ (.slice A6 (b.length + 1) k6)) := Fr.setCell (hF6.mono (fun i h => .inl h)) (p := ⟨w.heap.size + 1, 0, none⟩) (.inl (.inr rfl)) _
    have hs4 := hf4.size
    have hs11 := hf1.size
    refine leaves_idle rfl (blk_put hb26 0 _ rfl) (MPost.ended hrest (Fr.trans (S := fun _ => False) (S' := fun _ => False) hf1 ?_ (fun _ h => .inl h)) ?_ (fun k hk => hk.2) hg ?_ hf8)
    · first | exact hf4.drew | exact (hf4.alloc _).drew
    · intro i hi
      rcases hi with ⟨h1, h2⟩ | h1
      · exact ⟨by omega, by rw [h1]; exact h2⟩
      · exact ⟨by omega, Nat.lt_of_lt_of_le (by omega) hX⟩
    · have h9 := own_rdF ho6
      rw [show [IntKind.u8.wrap (n + 64)] ++ b = (n + 64) % 256 :: b by rw [IntKind.wrap_u8]; rfl] at h9
      exact (h9.step (w1 := w6.setCell ⟨w.heap.size + 1, 0, none⟩ (.slice A6 (b.length + 1) k6)) (fun k hk _ => Below.heap_setCell w6 ⟨w.heap.size + 1, 0, none⟩ _ k (by show k ≠ w.heap.size + 1; omega))).mono (fun k hk => .inr (by omega))
set_option maxRecDepth 100000 in
set_option maxHeartbeats 4000000 in
theorem answer_yes2 {l : Int} {F : Nat} (hn : 0 ≤ n ∧ n ≤ 255) (h : MPre w g P s vi vd vq q) (hB : Byt q) (hf : mFind n q = .inr (l, F)) (hl : (l == (q.length : Int)) = false) (hl2 : (l == -1) = true) (hl3 : (n != 46) = true) (hcf : ∀ (args : Array Value) (W : World), (callFunc F args).run Try.prog W = .ok (.enter F args) W) {s' : S25} {b : List Int} (HDO : ∀ W P, MPre W g P s vi vd vq q → Calls Try.prog F #[.pointer (some ⟨g, 0, none⟩)] W (MPost W g P vq (s', .inr b))) (hbl : b.length ≤ 2000) :
    Calls Try.prog 82 #[.pointer (some ⟨g, 0, none⟩), .int .u8 n] w (MPost w g P vq (s', .inr ((n + 64) % 256 :: b))) := by
  refine Calls.mono ?_ (fun e w' h => MPost.unbound h)
  replace h := h.bound
  have hg := blk_lt h.x
  obtain ⟨A, c, ev, hlc, hFq⟩ := h.q
  subst ev
  obtain ⟨w1, ew1⟩ : ∃ w1, w1 = (w.alloc (.cells #[.int .u8 n] 5)).alloc (.cells #[.slice none 0 0] 31) := ⟨_, rfl⟩
  have hf1 : Fr (fun _ => False) w w1 := by rw [ew1]; exact ((Fr.refl _ w).alloc _).alloc _
  have FC := find_calls (n := n) (h.fr hf1) hB
  rw [hf] at FC
  have hb1 : w1.heap[w.heap.size]? = some (.cells #[.int .u8 n] 5 (0, 0)) := by rw [ew1]; exact blk_alloc (blk_new w _) _
  have hb2 : w1.heap[w.heap.size + 1]? = some (.cells #[.slice none 0 0] 31 (0, 0)) := by rw [ew1]; exact blk_new' (by show _ = (Array.push _ _).size; rw [Array.size_push])
  have c9 : w.cell? ⟨g, 9, none⟩ = some (.slice A q.length c) := (blk_cell h.x 9).trans rfl
  have H := Aside0.mk h
  have FC' := Aside0.mk FC
  have EW := Aside0.mk ew1
  have HB1 := Aside0.mk hb1
  have HB2 := Aside0.mk hb2
  have DO := Aside0.mk HDO
  clear HDO h FC ew1 hf hb1 hb2 hFq hlc
  go_enter_defers Try.func82, Try.ntmps82
  go_wp2_with (go_at_call 122; rw [← EW.out]; refine FC'.out.mono ?_; rintro e w2 ⟨hf2, he⟩; subst he; (unfold sv))
  have hF2 := hf1.trans hf2 (fun _ h => .inl h)
  have hs2 := hF2.size
  obtain ⟨w3, ew3⟩ : ∃ w3, w3 = w2.alloc (.cells #[.int .i64 l, .func (.func F) #[] #[]] 175) := ⟨_, rfl⟩
  have hf3 : Fr (fun _ => False) w2 w3 := by rw [ew3]; exact (Fr.refl _ w2).alloc _
  have hb3 : w3.heap[w2.heap.size]? = some (.cells #[.int .i64 l, .func (.func F) #[] #[]] 175 (0, 0)) := by rw [ew3]; exact blk_new w2 _
  rw [← ew3]
  have hF3 := hF2.trans hf3 (fun _ h => .inl h)
  have d0 : w3.cell? ⟨w2.heap.size, 0, none⟩ = some (.int .i64 l) := (blk_cell hb3 0).trans rfl
  have e1 : w3.cell? ⟨w2.heap.size, 1, none⟩ = some (.func (.func F) #[] #[]) := (blk_cell hb3 1).trans rfl
  have d1 : w3.cell? ⟨w.heap.size, 0, none⟩ = some (.int .u8 n) := (hf2.trans hf3 (fun _ h => .inl h)).cellA ((blk_cell HB1.out 0).trans rfl)
  replace c9 := hF3.cellA c9
  clear ew3
  refine wp_region_free (S := fun w' => w'.cell? ⟨w2.heap.size, 0, none⟩ = some (.int .i64 l) ∧ w'.cell? ⟨w.heap.size, 0, none⟩ = some (.int .u8 n) ∧ w'.cell? ⟨g, 9, none⟩ = some (.slice A q.length c)) 4 (.pointer (some ⟨w.heap.size + 1, 0, none⟩)) (by kernel_rfl) (by kernel_rfl) rfl ⟨d0, d1, c9⟩ ?_
  intro hS
  refine wpAnyH_take (i := 0) (v := ?_) rfl (by kernel_rfl) (by kernel_rfl) (by kernel_rfl) (fun _ _ _ h => h) (Or.inl ⟨by rfl, ?_⟩) hS ?_
  rotate_left
  · intro w4 h4
    obtain ⟨k0, k1, k9⟩ := h4
    go_simp
    try with_reducible rfl
  simp only [List.getElem_toArray, List.getElem_cons_zero, List.getElem_cons_succ, Act.put, List.setIfInBounds_toArray, List.set_cons_zero, List.set_cons_succ]
  refine wpAnyH_take (i := 1) (v := ?_) rfl (by kernel_rfl) (by kernel_rfl) (by kernel_rfl) (fun _ _ _ h => h) (Or.inl ⟨by rfl, ?_⟩) hS ?_
  rotate_left
  · intro w4 h4
    obtain ⟨k0, k1, k9⟩ := h4
    go_simp
    try with_reducible rfl
  simp only [List.getElem_toArray, List.getElem_cons_zero, List.getElem_cons_succ, Act.put, List.setIfInBounds_toArray, List.set_cons_zero, List.set_cons_succ]
  refine wpAnyH_take (i := 2) (v := ?_) rfl (by kernel_rfl) (by kernel_rfl) (by kernel_rfl) (fun _ _ _ h => h) (Or.inl ⟨by rfl, ?_⟩) hS ?_
  rotate_left
  · intro w4 h4
    obtain ⟨k0, k1, k9⟩ := h4
    go_simp
    try with_reducible rfl
  simp only [List.getElem_toArray, List.getElem_cons_zero, List.getElem_cons_succ, Act.put, List.setIfInBounds_toArray, List.set_cons_zero, List.set_cons_succ]
  refine wpAnyH_take (i := 3) (v := ?_) rfl (by kernel_rfl) (by kernel_rfl) (by kernel_rfl) (fun _ _ _ h => h) (Or.inl ⟨by rfl, ?_⟩) hS ?_
  rotate_left
  · intro w4 h4
    obtain ⟨k0, k1, k9⟩ := h4
    go_simp
    try with_reducible rfl
  simp only [List.getElem_toArray, List.getElem_cons_zero, List.getElem_cons_succ, Act.put, List.setIfInBounds_toArray, List.set_cons_zero, List.set_cons_succ]
  refine wpAnyH_take (i := 4) (v := ?_) rfl (by kernel_rfl) (by kernel_rfl) (by kernel_rfl) (fun _ _ _ h => h) (Or.inl ⟨by rfl, ?_⟩) hS ?_
  rotate_left
  · intro w4 h4
    obtain ⟨k0, k1, k9⟩ := h4
    go_simp
    try with_reducible rfl
  simp only [List.getElem_toArray, List.getElem_cons_zero, List.getElem_cons_succ, Act.put, List.setIfInBounds_toArray, List.set_cons_zero, List.set_cons_succ]
  refine wpAnyH_take (i := 5) (v := ?_) rfl (by kernel_rfl) (by kernel_rfl) (by kernel_rfl) (fun _ _ _ h => h) (Or.inl ⟨by rfl, ?_⟩) hS ?_
  rotate_left
  · intro w4 h4
    obtain ⟨k0, k1, k9⟩ := h4
    go_simp
    try with_reducible rfl
  simp only [List.getElem_toArray, List.getElem_cons_zero, List.getElem_cons_succ, Act.put, List.setIfInBounds_toArray, List.set_cons_zero, List.set_cons_succ]
  refine wpAnyH_take (i := 6) (v := ?_) rfl (by kernel_rfl) (by kernel_rfl) (by kernel_rfl) (fun _ _ _ h => h) (Or.inl ⟨by rfl, ?_⟩) hS ?_
  rotate_left
  · intro w4 h4
    obtain ⟨k0, k1, k9⟩ := h4
    go_simp
    try with_reducible rfl
  simp only [List.getElem_toArray, List.getElem_cons_zero, List.getElem_cons_succ, Act.put, List.setIfInBounds_toArray, List.set_cons_zero, List.set_cons_succ]
  refine wpAnyH_take (i := 7) (v := ?_) rfl (by kernel_rfl) (by kernel_rfl) (by kernel_rfl) (fun _ _ _ h => h) (Or.inl ⟨by rfl, ?_⟩) hS ?_
  rotate_left
  · intro w4 h4
    obtain ⟨k0, k1, k9⟩ := h4
    go_simp
    try with_reducible rfl
  simp only [List.getElem_toArray, List.getElem_cons_zero, List.getElem_cons_succ, Act.put, List.setIfInBounds_toArray, List.set_cons_zero, List.set_cons_succ]
  refine wpAnyH_take (i := 8) (v := ?_) rfl (by kernel_rfl) (by kernel_rfl) (by kernel_rfl) (fun _ _ _ h => h) (Or.inl ⟨by rfl, ?_⟩) hS ?_
  rotate_left
  · intro w4 h4
    obtain ⟨k0, k1, k9⟩ := h4
    go_simp
    try with_reducible rfl
  simp only [List.getElem_toArray, List.getElem_cons_zero, List.getElem_cons_succ, Act.put, List.setIfInBounds_toArray, List.set_cons_zero, List.set_cons_succ]
  refine wpAnyH_take (i := 9) (v := ?_) rfl (by kernel_rfl) (by kernel_rfl) (by kernel_rfl) (fun _ _ _ h => h) (Or.inl ⟨by rfl, ?_⟩) hS ?_
  rotate_left
  · intro w4 h4
    obtain ⟨k0, k1, k9⟩ := h4
    go_simp
    try with_reducible rfl
  simp only [List.getElem_toArray, List.getElem_cons_zero, List.getElem_cons_succ, Act.put, List.setIfInBounds_toArray, List.set_cons_zero, List.set_cons_succ]
  refine wpAnyH_take (i := 10) (v := ?_) rfl (by kernel_rfl) (by kernel_rfl) (by kernel_rfl) (fun _ _ _ h => h) (Or.inl ⟨by rfl, ?_⟩) hS ?_
  rotate_left
  · intro w4 h4
    obtain ⟨k0, k1, k9⟩ := h4
    go_simp
    try with_reducible rfl
  simp only [List.getElem_toArray, List.getElem_cons_zero, List.getElem_cons_succ, Act.put, List.setIfInBounds_toArray, List.set_cons_zero, List.set_cons_succ]
  refine wpAnyH_take (i := 11) (v := ?_) rfl (by kernel_rfl) (by kernel_rfl) (by kernel_rfl) (fun _ _ _ h => h) (Or.inl ⟨by rfl, ?_⟩) hS ?_
  rotate_left
  · intro w4 h4
    obtain ⟨k0, k1, k9⟩ := h4
    go_simp
    try with_reducible rfl
  simp only [List.getElem_toArray, List.getElem_cons_zero, List.getElem_cons_succ, Act.put, List.setIfInBounds_toArray, List.set_cons_zero, List.set_cons_succ]
  refine wpAnyH_take (i := 12) (v := ?_) rfl (by kernel_rfl) (by kernel_rfl) (by kernel_rfl) (fun _ _ _ h => h) (Or.inl ⟨by rfl, ?_⟩) hS ?_
  rotate_left
  · intro w4 h4
    obtain ⟨k0, k1, k9⟩ := h4
    go_simp
    try with_reducible rfl
  simp only [List.getElem_toArray, List.getElem_cons_zero, List.getElem_cons_succ, Act.put, List.setIfInBounds_toArray, List.set_cons_zero, List.set_cons_succ]
  refine wpAnyH_take (i := 13) (v := ?_) rfl (by kernel_rfl) (by kernel_rfl) (by kernel_rfl) (fun _ _ _ h => h) (Or.inl ⟨by rfl, ?_⟩) hS ?_
  rotate_left
  · intro w4 h4
    obtain ⟨k0, k1, k9⟩ := h4
    go_simp
    try with_reducible rfl
  simp only [List.getElem_toArray, List.getElem_cons_zero, List.getElem_cons_succ, Act.put, List.setIfInBounds_toArray, List.set_cons_zero, List.set_cons_succ]
  refine wpAnyH_take (i := 14) (v := ?_) rfl (by kernel_rfl) (by kernel_rfl) (by kernel_rfl) (fun _ _ _ h => h) (Or.inl ⟨by rfl, ?_⟩) hS ?_
  rotate_left
  · intro w4 h4
    obtain ⟨k0, k1, k9⟩ := h4
    go_simp
    try with_reducible rfl
  simp only [List.getElem_toArray, List.getElem_cons_zero, List.getElem_cons_succ, Act.put, List.setIfInBounds_toArray, List.set_cons_zero, List.set_cons_succ]
  refine wpAnyH_take (i := 15) (v := ?_) rfl (by kernel_rfl) (by kernel_rfl) (by kernel_rfl) (fun _ _ _ h => h) (Or.inl ⟨by rfl, ?_⟩) hS ?_
  rotate_left
  · intro w4 h4
    obtain ⟨k0, k1, k9⟩ := h4
    go_simp
    try with_reducible rfl
  simp only [List.getElem_toArray, List.getElem_cons_zero, List.getElem_cons_succ, Act.put, List.setIfInBounds_toArray, List.set_cons_zero, List.set_cons_succ]
  refine wpAnyH_take (i := 16) (v := undef) rfl (by kernel_rfl) (by kernel_rfl) (by kernel_rfl) (fun _ _ _ h => h) (Or.inr ⟨by rfl, rfl⟩) hS ?_
  simp only [List.getElem_toArray, List.getElem_cons_zero, List.getElem_cons_succ, Act.put, List.setIfInBounds_toArray, List.set_cons_zero, List.set_cons_succ]
  refine wpAnyH_take (i := 17) (v := undef) rfl (by kernel_rfl) (by kernel_rfl) (by kernel_rfl) (fun _ _ _ h => h) (Or.inr ⟨by rfl, rfl⟩) hS ?_
  simp only [List.getElem_toArray, List.getElem_cons_zero, List.getElem_cons_succ, Act.put, List.setIfInBounds_toArray, List.set_cons_zero, List.set_cons_succ]
  refine wpAnyH_take (i := 18) (v := undef) rfl (by kernel_rfl) (by kernel_rfl) (by kernel_rfl) (fun _ _ _ h => h) (Or.inr ⟨by rfl, rfl⟩) hS ?_
  simp only [List.getElem_toArray, List.getElem_cons_zero, List.getElem_cons_succ, Act.put, List.setIfInBounds_toArray, List.set_cons_zero, List.set_cons_succ]
  refine wpAnyH_take (i := 19) (v := undef) rfl (by kernel_rfl) (by kernel_rfl) (by kernel_rfl) (fun _ _ _ h => h) (Or.inr ⟨by rfl, rfl⟩) hS ?_
  simp only [List.getElem_toArray, List.getElem_cons_zero, List.getElem_cons_succ, Act.put, List.setIfInBounds_toArray, List.set_cons_zero, List.set_cons_succ]
  refine wpAnyH_take (i := 20) (v := undef) rfl (by kernel_rfl) (by kernel_rfl) (by kernel_rfl) (fun _ _ _ h => h) (Or.inr ⟨by rfl, rfl⟩) hS ?_
  simp only [List.getElem_toArray, List.getElem_cons_zero, List.getElem_cons_succ, Act.put, List.setIfInBounds_toArray, List.set_cons_zero, List.set_cons_succ]
  refine wpAnyH_take (i := 21) (v := undef) rfl (by kernel_rfl) (by kernel_rfl) (by kernel_rfl) (fun _ _ _ h => h) (Or.inr ⟨by rfl, rfl⟩) hS ?_
  simp only [List.getElem_toArray, List.getElem_cons_zero, List.getElem_cons_succ, Act.put, List.setIfInBounds_toArray, List.set_cons_zero, List.set_cons_succ]
  refine wpAnyH_take (i := 22) (v := ?_) rfl (by kernel_rfl) (by kernel_rfl) (by kernel_rfl) (fun _ _ _ h => h) (Or.inl ⟨by rfl, ?_⟩) hS ?_
  rotate_left
  · intro w4 h4
    obtain ⟨k0, k1, k9⟩ := h4
    go_simp
    try with_reducible rfl
  simp only [List.getElem_toArray, List.getElem_cons_zero, List.getElem_cons_succ, Act.put, List.setIfInBounds_toArray, List.set_cons_zero, List.set_cons_succ]
  refine wpAnyH_take (i := 23) (v := ?_) rfl (by kernel_rfl) (by kernel_rfl) (by kernel_rfl) (fun _ _ _ h => h) (Or.inl ⟨by rfl, ?_⟩) hS ?_
  rotate_left
  · intro w4 h4
    obtain ⟨k0, k1, k9⟩ := h4
    go_simp
    try with_reducible rfl
  simp only [List.getElem_toArray, List.getElem_cons_zero, List.getElem_cons_succ, Act.put, List.setIfInBounds_toArray, List.set_cons_zero, List.set_cons_succ]
  refine wpAnyH_take (i := 24) (v := ?_) rfl (by kernel_rfl) (by kernel_rfl) (by kernel_rfl) (fun _ _ _ h => h) (Or.inl ⟨by rfl, ?_⟩) hS ?_
  rotate_left
  · intro w4 h4
    obtain ⟨k0, k1, k9⟩ := h4
    go_simp
    try with_reducible rfl
  simp only [List.getElem_toArray, List.getElem_cons_zero, List.getElem_cons_succ, Act.put, List.setIfInBounds_toArray, List.set_cons_zero, List.set_cons_succ]
  refine wpAnyH_ready (rs := [25]) (by kernel_rfl) (by simp) ?_
  refine AllReadyH.cons rfl (fun K hK => ?_) AllReadyH.nil
  go_simp
  refine (unless_yes _ _).mono ?_
  rintro e w' ⟨rfl, rfl⟩
  show K _ _
  refine hK.out _ _ hS (fun hHeld => ?_)
  clear hK hHeld hS
  try simp only [List.getElem_toArray, List.getElem_cons_zero, List.getElem_cons_succ, Act.put, List.setIfInBounds_toArray, List.set_cons_zero, List.set_cons_succ]
  refine wpAnyH_done (by kernel_rfl) ?_ _
  simp only [QFree, Exit.then]
  go_wp2
  obtain ⟨w4, ew4⟩ : ∃ w4, w4 = w3.drew := ⟨_, rfl⟩
  have hf4 : Fr (fun _ => False) w1 w4 := by rw [ew4]; exact (hf2.trans hf3 (fun _ h => .inl h)).drew
  replace d1 : w4.cell? ⟨w.heap.size, 0, none⟩ = some (.int .u8 n) := by rw [ew4]; exact d1
  replace e1 : w4.cell? ⟨w2.heap.size, 1, none⟩ = some (.func (.func F) #[] #[]) := by rw [ew4]; exact e1
  rw [← ew4]
  have h2lt : w2.heap.size < w4.heap.size := by rw [ew4]; exact blk_lt hb3
  have hs1 := blk_lt HB2.out
  have hs2' := hf2.size
  clear ew4 d0 c9
  have hlt1 : w.heap.size < w4.heap.size := by have := hf4.size; omega
  have hg4 : g < w4.heap.size := by omega
  have HBL := Aside0.mk (show ([IntKind.u8.wrap (n + 64)] : List Int).length + b.length ≤ 140737488355328 by show 1 + _ ≤ _; omega)
  have hz2 := blk_lt HB2.out
  have hb24 := hf4.blk HB2.out (fun h => h)
  have c0 : w4.cell? ⟨w.heap.size + 1, 0, none⟩ = some (.slice none 0 0) := (blk_cell hb24 0).trans rfl
  have z0 := blk_frozen hb24 0
  have hn1 : ¬ (w.heap.size = g ∨ w.heap.size = w.heap.size + 1) := by omega
  have hn2 : ¬ (w2.heap.size = g ∨ w2.heap.size = w.heap.size + 1) := by omega
  go_region_held3 (fun w' => w'.cell? ⟨w.heap.size, 0, none⟩ = some (.int .u8 n) ∧ w'.cell? ⟨w2.heap.size, 1, none⟩ = some (.func (.func F) #[] #[]))
    (refine ⟨(Fr.cell (w := w4) (S := fun i => i = g ∨ i = w.heap.size + 1) ?_ hlt1 hn1).trans d1, (Fr.cell (w := w4) (S := fun i => i = g ∨ i = w.heap.size + 1) ?_ h2lt hn2).trans e1⟩ <;> (repeat (first | exact Fr.refl _ _ | exact hF7 | exact hF5 | refine Fr.alloc ?_ _ | refine Fr.drew ?_ | refine Fr.setCell ?_ (.inl (.inr rfl)) _)))
    (first | (refine (DO.out w4.drew _ ((H.out.fr hf1).fr hf4.drew)).mono ?_; rintro e w5 ⟨he, hrest⟩; obtain ⟨v5, rfl, hv5⟩ := he; have hF5 : Fr (fun i => i = g ∨ i = w.heap.size + 1) w4 w5 := Fr.trans (Fr.refl _ _).drew hrest.1 (fun i h => .inl (.inl h)); have hb25 : w5.heap[w.heap.size + 1]? = some (.cells #[.slice none 0 0] 31 (0, 0)) := hrest.1.blk (w := w4.drew) hb24 (show ¬ _ = g by omega)) | (refine (DO.out (w4.alloc (.cells #[.int .u8 (IntKind.u8.wrap (n + 64))] 5)).drew _ ((H.out.fr hf1).fr (hf4.alloc _).drew)).mono ?_; rintro e w5 ⟨he, hrest⟩; obtain ⟨v5, rfl, hv5⟩ := he; have hF5 : Fr (fun i => i = g ∨ i = w.heap.size + 1) w4 w5 := Fr.trans ((Fr.refl _ _).alloc _).drew hrest.1 (fun i h => .inl (.inl h)); have hb25 : w5.heap[w.heap.size + 1]? = some (.cells #[.slice none 0 0] 31 (0, 0)) := hrest.1.blk (w := (w4.alloc _).drew) (blk_alloc hb24 _) (show ¬ _ = g by omega); have hb45 : w5.heap[w4.heap.size]? = some (.cells #[.int .u8 (IntKind.u8.wrap (n + 64))] 5 (0, 0)) := hrest.1.blk (w := (w4.alloc _).drew) (blk_new w4 _) (show ¬ _ = g by omega)) | (refine appB_step Try.underlying31 i5 (W := w5.alloc (.cells #[.int .u8 (IntKind.u8.wrap (n + 64))] 5)) w4.heap.size rfl _ _ rfl (.slice (some ⟨w5.heap.size, 0, none⟩) 1 1) v5 [IntKind.u8.wrap (n + 64)] b rfl rfl (own_lit' w4.heap.size (blk_new w5 _) rfl hF5.size rfl (show 1 ≤ 9223372036854775807 from Nat.le_of_ble_eq_true rfl)) (hv5.now.below (below_alloc (Below.refl _ _) _)) (Nat.le_trans hF5.size (below_alloc (Below.refl _ _) _).size) HBL.out ?_; intro v6 w6 ho6 hg6 hb6; obtain ⟨A6, k6, ev6⟩ := own_slice ho6; subst ev6; have hX : w4.heap.size ≤ (World.drew w4).heap.size := Nat.le_refl _; have hF6 : Fr (fun i => i = w4.heap.size ∧ w4.heap.size < (World.drew w4).heap.size) w5 w6 := ((Fr.refl _ w5).alloc _).grown hg6 (fun k hk => .inr (Nat.le_of_eq (Option.some.inj hk))); have hF7 : Fr (fun i => i = g ∨ i = w.heap.size + 1) w4 w6 := hF5.trans hF6 (fun i h => .inr (Nat.le_of_eq h.1.symm)); have hb26 := hF6.blk hb25 (fun h => by have := h.1; omega); have c6 : w6.cell? ⟨w.heap.size + 1, 0, none⟩ = some (.slice none 0 0) := (blk_cell hb26 0).trans rfl; have z6 := blk_frozen hb26 0) | (refine appB_step Try.underlying31 i5 (W := w5) w4.heap.size rfl _ _ rfl (.slice (some ⟨w4.heap.size, 0, none⟩) 1 1) v5 [IntKind.u8.wrap (n + 64)] b rfl rfl (own_lit' w4.heap.size hb45 rfl (Nat.le_refl _) rfl (show 1 ≤ 9223372036854775807 from Nat.le_of_ble_eq_true rfl)) hv5.now hF5.size HBL.out ?_; intro v6 w6 ho6 hg6 hb6; obtain ⟨A6, k6, ev6⟩ := own_slice ho6; subst ev6; have hX : w4.heap.size ≤ (w4.alloc (.cells #[.int .u8 (IntKind.u8.wrap (n + 64))] 5)).drew.heap.size := (below_alloc (Below.refl _ _) _).size; have hF6 : Fr (fun i => i = w4.heap.size ∧ w4.heap.size < (w4.alloc (.cells #[.int .u8 (IntKind.u8.wrap (n + 64))] 5)).drew.heap.size) w5 w6 := (Fr.refl _ w5).grown hg6 (fun k hk => .inl ⟨(Option.some.inj hk).symm, by show _ < (Array.push _ _).size; rw [Array.size_push]; exact Nat.lt_succ_self _⟩); have hF7 : Fr (fun i => i = g ∨ i = w.heap.size + 1) w4 w6 := hF5.trans hF6 (fun i h => .inr (Nat.le_of_eq h.1.symm)); have hb26 := hF6.blk hb25 (fun h => by have := h.1; omega); have c6 : w6.cell? ⟨w.heap.size + 1, 0, none⟩ = some (.slice none 0 0) := (blk_cell hb26 0).trans rfl; have z6 := blk_frozen hb26 0))
  all_goals
    rename_i hHeld
    clear hHeld
    go_wp2
    have hf8 : Fr (fun i => (i = w4.heap.size ∧ w4.heap.size < _) ∨ i = w.heap.size + 1) w5 (w6.setCell ⟨w.heap.size + 1, 0, none⟩ (.slice A6 (b.length + 1) k6)) := Fr.setCell (hF6.mono (fun i h => .inl h)) (p := ⟨w.heap.size + 1, 0, none⟩) (.inl (.inr rfl)) _
    have hs4 := hf4.size
    have hs11 := hf1.size
    refine leaves_idle rfl (blk_put hb26 0 _ rfl) (MPost.ended hrest (Fr.trans (S := fun _ => False) (S' := fun _ => False) hf1 ?_ (fun _ h => .inl h)) ?_ (fun k hk => hk.2) hg ?_ hf8)
    · first | exact hf4.drew | exact (hf4.alloc _).drew
    · intro i hi
      rcases hi with ⟨h1, h2⟩ | h1
      · exact ⟨by omega, by rw [h1]; exact h2⟩
      · exact ⟨by omega, Nat.lt_of_lt_of_le (by omega) hX⟩
    · have h9 := own_rdF ho6
      rw [show [IntKind.u8.wrap (n + 64)] ++ b = (n + 64) % 256 :: b by rw [IntKind.wrap_u8]; rfl] at h9
      exact (h9.step (w1 := w6.setCell ⟨w.heap.size + 1, 0, none⟩ (.slice A6 (b.length + 1) k6)) (fun k hk _ => Below.heap_setCell w6 ⟨w.heap.size + 1, 0, none⟩ _ k (by show k ≠ w.heap.size + 1; omega))).mono (fun k hk => .inr (by omega))
set_option maxRecDepth 100000 in
set_option maxHeartbeats 4000000 in
theorem answer_yes3 {l : Int} {F : Nat} (hn : 0 ≤ n ∧ n ≤ 255) (h : MPre w g P s vi vd vq q) (hB : Byt q) (hf : mFind n q = .inr (l, F)) (hl : (l == (q.length : Int)) = false) (hl2 : (l == -1) = true) (hl3 : (n != 46) = false) (hl4 : decide ((2 : Int) < (q.length : Int)) = true) (hcf : ∀ (args : Array Value) (W : World), (callFunc F args).run Try.prog W = .ok (.enter F args) W) {s' : S25} {b : List Int} (HDO : ∀ W P, MPre W g P s vi vd vq q → Calls Try.prog F #[.pointer (some ⟨g, 0, none⟩)] W (MPost W g P vq (s', .inr b))) (hbl : b.length ≤ 2000) :
    Calls Try.prog 82 #[.pointer (some ⟨g, 0, none⟩), .int .u8 n] w (MPost w g P vq (s', .inr ((n + 64) % 256 :: b))) := by
  refine Calls.mono ?_ (fun e w' h => MPost.unbound h)
  replace h := h.bound
  have hg := blk_lt h.x
  obtain ⟨A, c, ev, hlc, hFq⟩ := h.q
  subst ev
  obtain ⟨w1, ew1⟩ : ∃ w1, w1 = (w.alloc (.cells #[.int .u8 n] 5)).alloc (.cells #[.slice none 0 0] 31) := ⟨_, rfl⟩
  have hf1 : Fr (fun _ => False) w w1 := by rw [ew1]; exact ((Fr.refl _ w).alloc _).alloc _
  have FC := find_calls (n := n) (h.fr hf1) hB
  rw [hf] at FC
  have hb1 : w1.heap[w.heap.size]? = some (.cells #[.int .u8 n] 5 (0, 0)) := by rw [ew1]; exact blk_alloc (blk_new w _) _
  have hb2 : w1.heap[w.heap.size + 1]? = some (.cells #[.slice none 0 0] 31 (0, 0)) := by rw [ew1]; exact blk_new' (by show _ = (Array.push _ _).size; rw [Array.size_push])
  have c9 : w.cell? ⟨g, 9, none⟩ = some (.slice A q.length c) := (blk_cell h.x 9).trans rfl
  have H := Aside0.mk h
  have FC' := Aside0.mk FC
  have EW := Aside0.mk ew1
  have HB1 := Aside0.mk hb1
  have HB2 := Aside0.mk hb2
  have DO := Aside0.mk HDO
  clear HDO h FC ew1 hf hb1 hb2 hFq hlc
  go_enter_defers Try.func82, Try.ntmps82
  go_wp2_with (go_at_call 122; rw [← EW.out]; refine FC'.out.mono ?_; rintro e w2 ⟨hf2, he⟩; subst he; (unfold sv))
  have hF2 := hf1.trans hf2 (fun _ h => .inl h)
  have hs2 := hF2.size
  obtain ⟨w3, ew3⟩ : ∃ w3, w3 = w2.alloc (.cells #[.int .i64 l, .func (.func F) #[] #[]] 175) := ⟨_, rfl⟩
  have hf3 : Fr (fun _ => False) w2 w3 := by rw [ew3]; exact (Fr.refl _ w2).alloc _
  have hb3 : w3.heap[w2.heap.size]? = some (.cells #[.int .i64 l, .func (.func F) #[] #[]] 175 (0, 0)) := by rw [ew3]; exact blk_new w2 _
  rw [← ew3]
  have hF3 := hF2.trans hf3 (fun _ h => .inl h)
  have d0 : w3.cell? ⟨w2.heap.size, 0, none⟩ = some (.int .i64 l) := (blk_cell hb3 0).trans rfl
  have e1 : w3.cell? ⟨w2.heap.size, 1, none⟩ = some (.func (.func F) #[] #[]) := (blk_cell hb3 1).trans rfl
  have d1 : w3.cell? ⟨w.heap.size, 0, none⟩ = some (.int .u8 n) := (hf2.trans hf3 (fun _ h => .inl h)).cellA ((blk_cell HB1.out 0).trans rfl)
  replace c9 := hF3.cellA c9
  clear ew3
  refine wp_region_free (S := fun w' => w'.cell? ⟨w2.heap.size, 0, none⟩ = some (.int .i64 l) ∧ w'.cell? ⟨w.heap.size, 0, none⟩ = some (.int .u8 n) ∧ w'.cell? ⟨g, 9, none⟩ = some (.slice A q.length c)) 4 (.pointer (some ⟨w.heap.size + 1, 0, none⟩)) (by kernel_rfl) (by kernel_rfl) rfl ⟨d0, d1, c9⟩ ?_
  intro hS
  refine wpAnyH_take (i := 0) (v := ?_) rfl (by kernel_rfl) (by kernel_rfl) (by kernel_rfl) (fun _ _ _ h => h) (Or.inl ⟨by rfl, ?_⟩) hS ?_
  rotate_left
  · intro w4 h4
    obtain ⟨k0, k1, k9⟩ := h4
    go_simp
    try with_reducible rfl
  simp only [List.getElem_toArray, List.getElem_cons_zero, List.getElem_cons_succ, Act.put, List.setIfInBounds_toArray, List.set_cons_zero, List.set_cons_succ]
  refine wpAnyH_take (i := 1) (v := ?_) rfl (by kernel_rfl) (by kernel_rfl) (by kernel_rfl) (fun _ _ _ h => h) (Or.inl ⟨by rfl, ?_⟩) hS ?_
  rotate_left
  · intro w4 h4
    obtain ⟨k0, k1, k9⟩ := h4
    go_simp
    try with_reducible rfl
  simp only [List.getElem_toArray, List.getElem_cons_zero, List.getElem_cons_succ, Act.put, List.setIfInBounds_toArray, List.set_cons_zero, List.set_cons_succ]
  refine wpAnyH_take (i := 2) (v := ?_) rfl (by kernel_rfl) (by kernel_rfl) (by kernel_rfl) (fun _ _ _ h => h) (Or.inl ⟨by rfl, ?_⟩) hS ?_
  rotate_left
  · intro w4 h4
    obtain ⟨k0, k1, k9⟩ := h4
    go_simp
    try with_reducible rfl
  simp only [List.getElem_toArray, List.getElem_cons_zero, List.getElem_cons_succ, Act.put, List.setIfInBounds_toArray, List.set_cons_zero, List.set_cons_succ]
  refine wpAnyH_take (i := 3) (v := ?_) rfl (by kernel_rfl) (by kernel_rfl) (by kernel_rfl) (fun _ _ _ h => h) (Or.inl ⟨by rfl, ?_⟩) hS ?_
  rotate_left
  · intro w4 h4
    obtain ⟨k0, k1, k9⟩ := h4
    go_simp
    try with_reducible rfl
  simp only [List.getElem_toArray, List.getElem_cons_zero, List.getElem_cons_succ, Act.put, List.setIfInBounds_toArray, List.set_cons_zero, List.set_cons_succ]
  refine wpAnyH_take (i := 4) (v := ?_) rfl (by kernel_rfl) (by kernel_rfl) (by kernel_rfl) (fun _ _ _ h => h) (Or.inl ⟨by rfl, ?_⟩) hS ?_
  rotate_left
  · intro w4 h4
    obtain ⟨k0, k1, k9⟩ := h4
    go_simp
    try with_reducible rfl
  simp only [List.getElem_toArray, List.getElem_cons_zero, List.getElem_cons_succ, Act.put, List.setIfInBounds_toArray, List.set_cons_zero, List.set_cons_succ]
  refine wpAnyH_take (i := 5) (v := ?_) rfl (by kernel_rfl) (by kernel_rfl) (by kernel_rfl) (fun _ _ _ h => h) (Or.inl ⟨by rfl, ?_⟩) hS ?_
  rotate_left
  · intro w4 h4
    obtain ⟨k0, k1, k9⟩ := h4
    go_simp
    try with_reducible rfl
  simp only [List.getElem_toArray, List.getElem_cons_zero, List.getElem_cons_succ, Act.put, List.setIfInBounds_toArray, List.set_cons_zero, List.set_cons_succ]
  refine wpAnyH_take (i := 6) (v := ?_) rfl (by kernel_rfl) (by kernel_rfl) (by kernel_rfl) (fun _ _ _ h => h) (Or.inl ⟨by rfl, ?_⟩) hS ?_
  rotate_left
  · intro w4 h4
    obtain ⟨k0, k1, k9⟩ := h4
    go_simp
    try with_reducible rfl
  simp only [List.getElem_toArray, List.getElem_cons_zero, List.getElem_cons_succ, Act.put, List.setIfInBounds_toArray, List.set_cons_zero, List.set_cons_succ]
  refine wpAnyH_take (i := 7) (v := ?_) rfl (by kernel_rfl) (by kernel_rfl) (by kernel_rfl) (fun _ _ _ h => h) (Or.inl ⟨by rfl, ?_⟩) hS ?_
  rotate_left
  · intro w4 h4
    obtain ⟨k0, k1, k9⟩ := h4
    go_simp
    try with_reducible rfl
  simp only [List.getElem_toArray, List.getElem_cons_zero, List.getElem_cons_succ, Act.put, List.setIfInBounds_toArray, List.set_cons_zero, List.set_cons_succ]
  refine wpAnyH_take (i := 8) (v := ?_) rfl (by kernel_rfl) (by kernel_rfl) (by kernel_rfl) (fun _ _ _ h => h) (Or.inl ⟨by rfl, ?_⟩) hS ?_
  rotate_left
  · intro w4 h4
    obtain ⟨k0, k1, k9⟩ := h4
    go_simp
    try with_reducible rfl
  simp only [List.getElem_toArray, List.getElem_cons_zero, List.getElem_cons_succ, Act.put, List.setIfInBounds_toArray, List.set_cons_zero, List.set_cons_succ]
  refine wpAnyH_take (i := 9) (v := ?_) rfl (by kernel_rfl) (by kernel_rfl) (by kernel_rfl) (fun _ _ _ h => h) (Or.inl ⟨by rfl, ?_⟩) hS ?_
  rotate_left
  · intro w4 h4
    obtain ⟨k0, k1, k9⟩ := h4
    go_simp
    try with_reducible rfl
  simp only [List.getElem_toArray, List.getElem_cons_zero, List.getElem_cons_succ, Act.put, List.setIfInBounds_toArray, List.set_cons_zero, List.set_cons_succ]
  refine wpAnyH_take (i := 10) (v := ?_) rfl (by kernel_rfl) (by kernel_rfl) (by kernel_rfl) (fun _ _ _ h => h) (Or.inl ⟨by rfl, ?_⟩) hS ?_
  rotate_left
  · intro w4 h4
    obtain ⟨k0, k1, k9⟩ := h4
    go_simp
    try with_reducible rfl
  simp only [List.getElem_toArray, List.getElem_cons_zero, List.getElem_cons_succ, Act.put, List.setIfInBounds_toArray, List.set_cons_zero, List.set_cons_succ]
  refine wpAnyH_take (i := 11) (v := ?_) rfl (by kernel_rfl) (by kernel_rfl) (by kernel_rfl) (fun _ _ _ h => h) (Or.inl ⟨by rfl, ?_⟩) hS ?_
  rotate_left
  · intro w4 h4
    obtain ⟨k0, k1, k9⟩ := h4
    go_simp
    try with_reducible rfl
  simp only [List.getElem_toArray, List.getElem_cons_zero, List.getElem_cons_succ, Act.put, List.setIfInBounds_toArray, List.set_cons_zero, List.set_cons_succ]
  refine wpAnyH_take (i := 12) (v := ?_) rfl (by kernel_rfl) (by kernel_rfl) (by kernel_rfl) (fun _ _ _ h => h) (Or.inl ⟨by rfl, ?_⟩) hS ?_
  rotate_left
  · intro w4 h4
    obtain ⟨k0, k1, k9⟩ := h4
    go_simp
    try with_reducible rfl
  simp only [List.getElem_toArray, List.getElem_cons_zero, List.getElem_cons_succ, Act.put, List.setIfInBounds_toArray, List.set_cons_zero, List.set_cons_succ]
  refine wpAnyH_take (i := 13) (v := ?_) rfl (by kernel_rfl) (by kernel_rfl) (by kernel_rfl) (fun _ _ _ h => h) (Or.inl ⟨by rfl, ?_⟩) hS ?_
  rotate_left
  · intro w4 h4
    obtain ⟨k0, k1, k9⟩ := h4
    go_simp
    try with_reducible rfl
  simp only [List.getElem_toArray, List.getElem_cons_zero, List.getElem_cons_succ, Act.put, List.setIfInBounds_toArray, List.set_cons_zero, List.set_cons_succ]
  refine wpAnyH_take (i := 14) (v := ?_) rfl (by kernel_rfl) (by kernel_rfl) (by kernel_rfl) (fun _ _ _ h => h) (Or.inl ⟨by rfl, ?_⟩) hS ?_
  rotate_left
  · intro w4 h4
    obtain ⟨k0, k1, k9⟩ := h4
    go_simp
    try with_reducible rfl
  simp only [List.getElem_toArray, List.getElem_cons_zero, List.getElem_cons_succ, Act.put, List.setIfInBounds_toArray, List.set_cons_zero, List.set_cons_succ]
  refine wpAnyH_take (i := 15) (v := ?_) rfl (by kernel_rfl) (by kernel_rfl) (by kernel_rfl) (fun _ _ _ h => h) (Or.inl ⟨by rfl, ?_⟩) hS ?_
  rotate_left
  · intro w4 h4
    obtain ⟨k0, k1, k9⟩ := h4
    go_simp
    try with_reducible rfl
  simp only [List.getElem_toArray, List.getElem_cons_zero, List.getElem_cons_succ, Act.put, List.setIfInBounds_toArray, List.set_cons_zero, List.set_cons_succ]
  refine wpAnyH_take (i := 16) (v := ?_) rfl (by kernel_rfl) (by kernel_rfl) (by kernel_rfl) (fun _ _ _ h => h) (Or.inl ⟨by rfl, ?_⟩) hS ?_
  rotate_left
  · intro w4 h4
    obtain ⟨k0, k1, k9⟩ := h4
    go_simp
    try with_reducible rfl
  simp only [List.getElem_toArray, List.getElem_cons_zero, List.getElem_cons_succ, Act.put, List.setIfInBounds_toArray, List.set_cons_zero, List.set_cons_succ]
  refine wpAnyH_take (i := 17) (v := ?_) rfl (by kernel_rfl) (by kernel_rfl) (by kernel_rfl) (fun _ _ _ h => h) (Or.inl ⟨by rfl, ?_⟩) hS ?_
  rotate_left
  · intro w4 h4
    obtain ⟨k0, k1, k9⟩ := h4
    go_simp
    try with_reducible rfl
  simp only [List.getElem_toArray, List.getElem_cons_zero, List.getElem_cons_succ, Act.put, List.setIfInBounds_toArray, List.set_cons_zero, List.set_cons_succ]
  refine wpAnyH_take (i := 18) (v := ?_) rfl (by kernel_rfl) (by kernel_rfl) (by kernel_rfl) (fun _ _ _ h => h) (Or.inl ⟨by rfl, ?_⟩) hS ?_
  rotate_left
  · intro w4 h4
    obtain ⟨k0, k1, k9⟩ := h4
    go_simp
    try with_reducible rfl
  simp only [List.getElem_toArray, List.getElem_cons_zero, List.getElem_cons_succ, Act.put, List.setIfInBounds_toArray, List.set_cons_zero, List.set_cons_succ]
  refine wpAnyH_take (i := 19) (v := ?_) rfl (by kernel_rfl) (by kernel_rfl) (by kernel_rfl) (fun _ _ _ h => h) (Or.inl ⟨by rfl, ?_⟩) hS ?_
  rotate_left
  · intro w4 h4
    obtain ⟨k0, k1, k9⟩ := h4
    go_simp
    try with_reducible rfl
  simp only [List.getElem_toArray, List.getElem_cons_zero, List.getElem_cons_succ, Act.put, List.setIfInBounds_toArray, List.set_cons_zero, List.set_cons_succ]
  refine wpAnyH_take (i := 20) (v := ?_) rfl (by kernel_rfl) (by kernel_rfl) (by kernel_rfl) (fun _ _ _ h => h) (Or.inl ⟨by rfl, ?_⟩) hS ?_
  rotate_left
  · intro w4 h4
    obtain ⟨k0, k1, k9⟩ := h4
    go_simp
    try with_reducible rfl
  simp only [List.getElem_toArray, List.getElem_cons_zero, List.getElem_cons_succ, Act.put, List.setIfInBounds_toArray, List.set_cons_zero, List.set_cons_succ]
  refine wpAnyH_take (i := 21) (v := ?_) rfl (by kernel_rfl) (by kernel_rfl) (by kernel_rfl) (fun _ _ _ h => h) (Or.inl ⟨by rfl, ?_⟩) hS ?_
  rotate_left
  · intro w4 h4
    obtain ⟨k0, k1, k9⟩ := h4
    go_simp
    try with_reducible rfl
  simp only [List.getElem_toArray, List.getElem_cons_zero, List.getElem_cons_succ, Act.put, List.setIfInBounds_toArray, List.set_cons_zero, List.set_cons_succ]
  refine wpAnyH_take (i := 22) (v := ?_) rfl (by kernel_rfl) (by kernel_rfl) (by kernel_rfl) (fun _ _ _ h => h) (Or.inl ⟨by rfl, ?_⟩) hS ?_
  rotate_left
  · intro w4 h4
    obtain ⟨k0, k1, k9⟩ := h4
    go_simp
    try with_reducible rfl
  simp only [List.getElem_toArray, List.getElem_cons_zero, List.getElem_cons_succ, Act.put, List.setIfInBounds_toArray, List.set_cons_zero, List.set_cons_succ]
  refine wpAnyH_take (i := 23) (v := ?_) rfl (by kernel_rfl) (by kernel_rfl) (by kernel_rfl) (fun _ _ _ h => h) (Or.inl ⟨by rfl, ?_⟩) hS ?_
  rotate_left
  · intro w4 h4
    obtain ⟨k0, k1, k9⟩ := h4
    go_simp
    try with_reducible rfl
  simp only [List.getElem_toArray, List.getElem_cons_zero, List.getElem_cons_succ, Act.put, List.setIfInBounds_toArray, List.set_cons_zero, List.set_cons_succ]
  refine wpAnyH_take (i := 24) (v := ?_) rfl (by kernel_rfl) (by kernel_rfl) (by kernel_rfl) (fun _ _ _ h => h) (Or.inl ⟨by rfl, ?_⟩) hS ?_
  rotate_left
  · intro w4 h4
    obtain ⟨k0, k1, k9⟩ := h4
    go_simp
    try with_reducible rfl
  simp only [List.getElem_toArray, List.getElem_cons_zero, List.getElem_cons_succ, Act.put, List.setIfInBounds_toArray, List.set_cons_zero, List.set_cons_succ]
  refine wpAnyH_ready (rs := [25]) (by kernel_rfl) (by simp) ?_
  refine AllReadyH.cons rfl (fun K hK => ?_) AllReadyH.nil
  go_simp
  refine (unless_yes _ _).mono ?_
  rintro e w' ⟨rfl, rfl⟩
  show K _ _
  refine hK.out _ _ hS (fun hHeld => ?_)
  clear hK hHeld hS
  try simp only [List.getElem_toArray, List.getElem_cons_zero, List.getElem_cons_succ, Act.put, List.setIfInBounds_toArray, List.set_cons_zero, List.set_cons_succ]
  refine wpAnyH_done (by kernel_rfl) ?_ _
  simp only [QFree, Exit.then]
  go_wp2
  obtain ⟨w4, ew4⟩ : ∃ w4, w4 = w3.drew := ⟨_, rfl⟩
  have hf4 : Fr (fun _ => False) w1 w4 := by rw [ew4]; exact (hf2.trans hf3 (fun _ h => .inl h)).drew
  replace d1 : w4.cell? ⟨w.heap.size, 0, none⟩ = some (.int .u8 n) := by rw [ew4]; exact d1
  replace e1 : w4.cell? ⟨w2.heap.size, 1, none⟩ = some (.func (.func F) #[] #[]) := by rw [ew4]; exact e1
  rw [← ew4]
  have h2lt : w2.heap.size < w4.heap.size := by rw [ew4]; exact blk_lt hb3
  have hs1 := blk_lt HB2.out
  have hs2' := hf2.size
  clear ew4 d0 c9
  have hlt1 : w.heap.size < w4.heap.size := by have := hf4.size; omega
  have hg4 : g < w4.heap.size := by omega
  have HBL := Aside0.mk (show ([IntKind.u8.wrap (n + 64)] : List Int).length + b.length ≤ 140737488355328 by show 1 + _ ≤ _; omega)
  have hz2 := blk_lt HB2.out
  have hb24 := hf4.blk HB2.out (fun h => h)
  have c0 : w4.cell? ⟨w.heap.size + 1, 0, none⟩ = some (.slice none 0 0) := (blk_cell hb24 0).trans rfl
  have z0 := blk_frozen hb24 0
  have hn1 : ¬ (w.heap.size = g ∨ w.heap.size = w.heap.size + 1) := by omega
  have hn2 : ¬ (w2.heap.size = g ∨ w2.heap.size = w.heap.size + 1) := by omega
  go_region_held3 (fun w' => w'.cell? ⟨w.heap.size, 0, none⟩ = some (.int .u8 n) ∧ w'.cell? ⟨w2.heap.size, 1, none⟩ = some (.func (.func F) #[] #[]))
    (refine ⟨(Fr.cell (w := w4) (S := fun i => i = g ∨ i = w.heap.size + 1) ?_ hlt1 hn1).trans d1, (Fr.cell (w := w4) (S := fun i => i = g ∨ i = w.heap.size + 1) ?_ h2lt hn2).trans e1⟩ <;> (repeat (first | exact Fr.refl _ _ | exact hF7 | exact hF5 | refine Fr.alloc ?_ _ | refine Fr.drew ?_ | refine Fr.setCell ?_ (.inl (.inr rfl)) _)))
    (first | (refine (DO.out w4.drew _ ((H.out.fr hf1).fr hf4.drew)).mono ?_; rintro e w5 ⟨he, hrest⟩; obtain ⟨v5, rfl, hv5⟩ := he; have hF5 : Fr (fun i => i = g ∨ i = w.heap.size + 1) w4 w5 := Fr.trans (Fr.refl _ _).drew hrest.1 (fun i h => .inl (.inl h)); have hb25 : w5.heap[w.heap.size + 1]? = some (.cells #[.slice none 0 0] 31 (0, 0)) := hrest.1.blk (w := w4.drew) hb24 (show ¬ _ = g by omega)) | (refine (DO.out (w4.alloc (.cells #[.int .u8 (IntKind.u8.wrap (n + 64))] 5)).drew _ ((H.out.fr hf1).fr (hf4.alloc _).drew)).mono ?_; rintro e w5 ⟨he, hrest⟩; obtain ⟨v5, rfl, hv5⟩ := he; have hF5 : Fr (fun i => i = g ∨ i = w.heap.size + 1) w4 w5 := Fr.trans ((Fr.refl _ _).alloc _).drew hrest.1 (fun i h => .inl (.inl h)); have hb25 : w5.heap[w.heap.size + 1]? = some (.cells #[.slice none 0 0] 31 (0, 0)) := hrest.1.blk (w := (w4.alloc _).drew) (blk_alloc hb24 _) (show ¬ _ = g by omega); have hb45 : w5.heap[w4.heap.size]? = some (.cells #[.int .u8 (IntKind.u8.wrap (n + 64))] 5 (0, 0)) := hrest.1.blk (w := (w4.alloc _).drew) (blk_new w4 _) (show ¬ _ = g by omega)) | (refine appB_step Try.underlying31 i5 (W := w5.alloc (.cells #[.int .u8 (IntKind.u8.wrap (n + 64))] 5)) w4.heap.size rfl _ _ rfl (.slice (some ⟨w5.heap.size, 0, none⟩) 1 1) v5 [IntKind.u8.wrap (n + 64)] b rfl rfl (own_lit' w4.heap.size (blk_new w5 _) rfl hF5.size rfl (show 1 ≤ 9223372036854775807 from Nat.le_of_ble_eq_true rfl)) (hv5.now.below (below_alloc (Below.refl _ _) _)) (Nat.le_trans hF5.size (below_alloc (Below.refl _ _) _).size) HBL.out ?_; intro v6 w6 ho6 hg6 hb6; obtain ⟨A6, k6, ev6⟩ := own_slice ho6; subst ev6; have hX : w4.heap.size ≤ (World.drew w4).heap.size := Nat.le_refl _; have hF6 : Fr (fun i => i = w4.heap.size ∧ w4.heap.size < (World.drew w4).heap.size) w5 w6 := ((Fr.refl _ w5).alloc _).grown hg6 (fun k hk => .inr (Nat.le_of_eq (Option.some.inj hk))); have hF7 : Fr (fun i => i = g ∨ i = w.heap.size + 1) w4 w6 := hF5.trans hF6 (fun i h => .inr (Nat.le_of_eq h.1.symm)); have hb26 := hF6.blk hb25 (fun h => by have := h.1; omega); have c6 : w6.cell? ⟨w.heap.size + 1, 0, none⟩ = some (.slice none 0 0) := (blk_cell hb26 0).trans rfl; have z6 := blk_frozen hb26 0) | (refine appB_step Try.underlying31 i5 (W := w5) w4.heap.size rfl _ _ rfl (.slice (some ⟨w4.heap.size, 0, none⟩) 1 1) v5 [IntKind.u8.wrap (n + 64)] b rfl rfl (own_lit' w4.heap.size hb45 rfl (Nat.le_refl _) rfl (show 1 ≤ 9223372036854775807 from Nat.le_of_ble_eq_true rfl)) hv5.now hF5.size HBL.out ?_; intro v6 w6 ho6 hg6 hb6; obtain ⟨A6, k6, ev6⟩ := own_slice ho6; subst ev6; have hX : w4.heap.size ≤ (w4.alloc (.cells #[.int .u8 (IntKind.u8.wrap (n + 64))] 5)).drew.heap.size := (below_alloc (Below.refl _ _) _).size; have hF6 : Fr (fun i => i = w4.heap.size ∧ w4.heap.size < (w4.alloc (.cells #[.int .u8 (IntKind.u8.wrap (n + 64))] 5)).drew.heap.size) w5 w6 := (Fr.refl _ w5).grown hg6 (fun k hk => .inl ⟨(Option.some.inj hk).symm, by show _ < (Array.push _ _).size; rw [Array.size_push]; exact Nat.lt_succ_self _⟩); have hF7 : Fr (fun i => i = g ∨ i = w.heap.size + 1) w4 w6 := hF5.trans hF6 (fun i h => .inr (Nat.le_of_eq h.1.symm)); have hb26 := hF6.blk hb25 (fun h => by have := h.1; omega); have c6 : w6.cell? ⟨w.heap.size + 1, 0, none⟩ = some (.slice none 0 0) := (blk_cell hb26 0).trans rfl; have z6 := blk_frozen hb26 0))
  all_goals
    rename_i hHeld
    clear hHeld
    go_wp2
    have hf8 : Fr (fun i => (i = w4.heap.size ∧ w4.heap.size < _) ∨ i = w.heap.size + 1) w5 (w6.setCell ⟨w.heap.size + 1, 0, none⟩ (.slice A6 (b.length + 1) k6)) := Fr.setCell (hF6.mono (fun i h => .inl h)) (p := ⟨w.heap.size + 1, 0, none⟩) (.inl (.inr rfl)) _
    have hs4 := hf4.size
    have hs11 := hf1.size
    refine leaves_idle rfl (blk_put hb26 0 _ rfl) (MPost.ended hrest (Fr.trans (S := fun _ => False) (S' := fun _ => False) hf1 ?_ (fun _ h => .inl h)) ?_ (fun k hk => hk.2) hg ?_ hf8)
    · first | exact hf4.drew | exact (hf4.alloc _).drew
    · intro i hi
      rcases hi with ⟨h1, h2⟩ | h1
      · exact ⟨by omega, by rw [h1]; exact h2⟩
      · exact ⟨by omega, Nat.lt_of_lt_of_le (by omega) hX⟩
    · have h9 := own_rdF ho6
      rw [show [IntKind.u8.wrap (n + 64)] ++ b = (n + 64) % 256 :: b by rw [IntKind.wrap_u8]; rfl] at h9
      exact (h9.step (w1 := w6.setCell ⟨w.heap.size + 1, 0, none⟩ (.slice A6 (b.length + 1) k6)) (fun k hk _ => Below.heap_setCell w6 ⟨w.heap.size + 1, 0, none⟩ _ k (by show k ≠ w.heap.size + 1; omega))).mono (fun k hk => .inr (by omega))
end
end Go.Proofs.Ph
/- diag: a key that is told. No condition. -/
namespace Go.Proofs.Ph
open Go Go.RowKit Go.Proofs.YthjnlggommennaaW.PrintWords
attribute [local go_sem ↓] Go.wp_at_zero Go.wp_at_succ
def mKey (s : S25) (q : List Int) : Res :=
  if s.f3 ≤ 2 then if ((s.f0 != 1) = true ∧ 0 ≤ s.f2) then
    if q.drop 1 = four (key s.f2 s.f6) then ({ s with f1 := true, f2 := -1, f3 := 0 }, .inr [2])
    else ({ s with f2 := -1, f3 := if 2 < s.f3 + 1 then 12 else s.f3 + 1 }, .inl 53)
  else (s, .inl 34) else (s, .inl 54)
set_option maxHeartbeats 2000000 in
theorem key_right {w : World} {g : Nat} {P : Nat → Prop} {s : S25} {vi vd vq : Value} {q : List Int} (h : MPre w g P s vi vd vq q) (h0 : 0 ≤ s.f3) (h1 : s.f3 ≤ 2) (h2 : (s.f0 != 1) = true) (h3 : 0 ≤ s.f2) (hq : 1 ≤ q.length) (HK : Aside0 (decide (q.drop 1 = four (key s.f2 s.f6)) = true)) :
    Calls Try.prog 148 #[.pointer (some ⟨g, 0, none⟩)] w (MPost w g P vq ({ s with f1 := true, f2 := -1, f3 := 0 }, .inr [2])) := by
  have hg := blk_lt h.x
  obtain ⟨A, c, ev, hlc, hF⟩ := h.q
  subst ev
  obtain ⟨A', hcut, hR⟩ := cut_from ⟨A, c, rfl, hlc, hF⟩ 1 1 rfl hq
  have c0 : w.cell? ⟨g, 0, none⟩ = some (.int .i64 s.f0) := (blk_cell h.x 0).trans rfl
  have c2 : w.cell? ⟨g, 2, none⟩ = some (.int .i64 s.f2) := (blk_cell h.x 2).trans rfl
  have c3 : w.cell? ⟨g, 3, none⟩ = some (.int .i64 s.f3) := (blk_cell h.x 3).trans rfl
  have c6 : w.cell? ⟨g, 6, none⟩ = some (.int .i64 s.f6) := (blk_cell h.x 6).trans rfl
  have c9 : w.cell? ⟨g, 9, none⟩ = some (.slice A q.length c) := (blk_cell h.x 9).trans rfl
  have HR := Aside0.mk hR
  have H := Aside0.mk h
  have HQ := Aside0.mk hq
  clear h hR hq
  go_enter Try.func148, Try.ntmps148
  go_wp2_with (go_at_call 123; (with_reducible refine (unless_yes _ _).mono ?_); rintro e w' ⟨rfl, rfl⟩)
  go_region_held3 (fun w' => w'.cell? ⟨g, 2, none⟩ = some (.int .i64 s.f2) ∧ w'.cell? ⟨g, 6, none⟩ = some (.int .i64 s.f6) ∧ w'.cell? ⟨g, 9, none⟩ = some (.slice A q.length c)) (first | exact ⟨c2, c6, c9⟩ | exact ⟨(hf2.cell hg (fun h => h)).trans c2, (hf2.cell hg (fun h => h)).trans c6, (hf2.cell hg (fun h => h)).trans c9⟩ | exact ⟨(hf3.cell (Nat.lt_of_lt_of_le hg hf2.size) (fun h => h)).trans ((hf2.cell hg (fun h => h)).trans c2), (hf3.cell (Nat.lt_of_lt_of_le hg hf2.size) (fun h => h)).trans ((hf2.cell hg (fun h => h)).trans c6), (hf3.cell (Nat.lt_of_lt_of_le hg hf2.size) (fun h => h)).trans ((hf2.cell hg (fun h => h)).trans c9)⟩)
    (first | (go_at_call 29; refine (key_calls _ _ _).mono ?_; rintro e w' ⟨rfl, rfl⟩) | (go_at_call 172; refine (four_calls _ _).mono ?_; rintro e w2 ⟨v2, rfl, hv2, hf2⟩) | (go_at_call 173; refine (equal_calls (HR.out.step (w1 := w2) (fun k hk hlt => hf2.block k hlt (fun h => h))).now hv2.now).mono ?_; rintro e w3 ⟨he, hf3⟩; rw [HK.out] at he; subst he))
  have hf : Fr (fun k => k = g) w w3 := (Fr.refl _ w).drew.trans (hf2.trans hf3 (fun _ h => h.elim)) (fun _ h => h.elim)
  have hx3 := (hf2.trans hf3 (fun _ h => h.elim)).blk (o := _) H.out.x (fun h => h)
  rename_i hHeld
  clear hHeld hf2 hf3 hv2 c0 c2 c3 c6 c9
  have hg3 := blk_lt hx3
  have c1 : w3.cell? ⟨g, 1, none⟩ = some (.bool s.f1) := (blk_cell hx3 1).trans rfl
  have c2 : w3.cell? ⟨g, 2, none⟩ = some (.int .i64 s.f2) := (blk_cell hx3 2).trans rfl
  have c3 : w3.cell? ⟨g, 3, none⟩ = some (.int .i64 s.f3) := (blk_cell hx3 3).trans rfl
  have z1 := blk_frozen hx3 1
  have z2 := blk_frozen hx3 2
  have z3 := blk_frozen hx3 3
  go_wp2_with fail
  go_ret
  refine H.out.answer rfl rfl ?_ ?_ ?_
  · exact blk_alloc (blk_put (blk_put (blk_put hx3 2 _ rfl) 1 _ rfl) 3 _ rfl) _
  · exact hf.trans (((((Fr.refl (fun k => k = g) w3).setCell (p := ⟨g, 2, none⟩) (.inl rfl) _).setCell (p := ⟨g, 1, none⟩) (.inl rfl) _).setCell (p := ⟨g, 3, none⟩) (.inl rfl) _).alloc _) (fun _ h => .inl h)
  · exact (own_rdF (xs := [2]) (own_lit' w3.heap.size (blk_new' (by simp [World.setCell])) rfl (Nat.le_refl _) rfl (by simp))).mono (fun k hk => Or.inr (Nat.le_trans hf.size hk))
set_option maxHeartbeats 2000000 in
theorem key_wrong {n : Int} {w : World} {g : Nat} {P : Nat → Prop} {s : S25} {vi vd vq : Value} {q : List Int} (h : MPre w g P s vi vd vq q) (h0 : 0 ≤ s.f3) (h1 : s.f3 ≤ 2) (h2 : (s.f0 != 1) = true) (h3 : 0 ≤ s.f2) (hq : 1 ≤ q.length) (HK : Aside0 (decide (q.drop 1 = four (key s.f2 s.f6)) = false)) (hn : Aside0 (n = if 2 < s.f3 + 1 then 12 else s.f3 + 1)) :
    Calls Try.prog 148 #[.pointer (some ⟨g, 0, none⟩)] w (MPost w g P vq ({ s with f2 := -1, f3 := n }, .inl 53)) := by
  have hg := blk_lt h.x
  obtain ⟨A, c, ev, hlc, hF⟩ := h.q
  subst ev
  obtain ⟨A', hcut, hR⟩ := cut_from ⟨A, c, rfl, hlc, hF⟩ 1 1 rfl hq
  have c0 : w.cell? ⟨g, 0, none⟩ = some (.int .i64 s.f0) := (blk_cell h.x 0).trans rfl
  have c2 : w.cell? ⟨g, 2, none⟩ = some (.int .i64 s.f2) := (blk_cell h.x 2).trans rfl
  have c3 : w.cell? ⟨g, 3, none⟩ = some (.int .i64 s.f3) := (blk_cell h.x 3).trans rfl
  have c6 : w.cell? ⟨g, 6, none⟩ = some (.int .i64 s.f6) := (blk_cell h.x 6).trans rfl
  have c9 : w.cell? ⟨g, 9, none⟩ = some (.slice A q.length c) := (blk_cell h.x 9).trans rfl
  have HR := Aside0.mk hR
  have H := Aside0.mk h
  have HQ := Aside0.mk hq
  clear h hR hq
  go_enter Try.func148, Try.ntmps148
  go_wp2_with (go_at_call 123; (with_reducible refine (unless_yes _ _).mono ?_); rintro e w' ⟨rfl, rfl⟩)
  go_region_held3 (fun w' => w'.cell? ⟨g, 2, none⟩ = some (.int .i64 s.f2) ∧ w'.cell? ⟨g, 6, none⟩ = some (.int .i64 s.f6) ∧ w'.cell? ⟨g, 9, none⟩ = some (.slice A q.length c)) (first | exact ⟨c2, c6, c9⟩ | exact ⟨(hf2.cell hg (fun h => h)).trans c2, (hf2.cell hg (fun h => h)).trans c6, (hf2.cell hg (fun h => h)).trans c9⟩ | exact ⟨(hf3.cell (Nat.lt_of_lt_of_le hg hf2.size) (fun h => h)).trans ((hf2.cell hg (fun h => h)).trans c2), (hf3.cell (Nat.lt_of_lt_of_le hg hf2.size) (fun h => h)).trans ((hf2.cell hg (fun h => h)).trans c6), (hf3.cell (Nat.lt_of_lt_of_le hg hf2.size) (fun h => h)).trans ((hf2.cell hg (fun h => h)).trans c9)⟩)
    (first | (go_at_call 29; refine (key_calls _ _ _).mono ?_; rintro e w' ⟨rfl, rfl⟩) | (go_at_call 172; refine (four_calls _ _).mono ?_; rintro e w2 ⟨v2, rfl, hv2, hf2⟩) | (go_at_call 173; refine (equal_calls (HR.out.step (w1 := w2) (fun k hk hlt => hf2.block k hlt (fun h => h))).now hv2.now).mono ?_; rintro e w3 ⟨he, hf3⟩; rw [HK.out] at he; subst he))
  have hf : Fr (fun k => k = g) w w3 := (Fr.refl _ w).drew.trans (hf2.trans hf3 (fun _ h => h.elim)) (fun _ h => h.elim)
  have hx3 := (hf2.trans hf3 (fun _ h => h.elim)).blk (o := _) H.out.x (fun h => h)
  rename_i hHeld
  clear hHeld hf2 hf3 hv2 c0 c2 c3 c6 c9
  have hg3 := blk_lt hx3
  have c2 : w3.cell? ⟨g, 2, none⟩ = some (.int .i64 s.f2) := (blk_cell hx3 2).trans rfl
  have c3 : w3.cell? ⟨g, 3, none⟩ = some (.int .i64 s.f3) := (blk_cell hx3 3).trans rfl
  have z2 := blk_frozen hx3 2
  have z3 := blk_frozen hx3 3
  by_cases h4 : 2 < s.f3 + 1
  · have hn' := Aside0.mk (hn.out.trans (if_pos h4))
    go_wp2_with fail
    rw [← hn'.out]
    refine ⟨rfl, H.out.refuse' rfl rfl (blk_put (blk_put (blk_put hx3 2 _ rfl) 3 _ rfl) 3 _ rfl) (hf.trans ((((Fr.refl (fun k => k = g) w3).setCell (p := ⟨g, 2, none⟩) (.inl rfl) _).setCell (p := ⟨g, 3, none⟩) (.inl rfl) _).setCell (p := ⟨g, 3, none⟩) (.inl rfl) _) (fun _ h => .inl h))⟩
  · have hn' := Aside0.mk (hn.out.trans (if_neg h4))
    go_wp2_with fail
    rw [← hn'.out]
    refine ⟨rfl, H.out.refuse' rfl rfl (blk_put (blk_put hx3 2 _ rfl) 3 _ rfl) (hf.trans (((Fr.refl (fun k => k = g) w3).setCell (p := ⟨g, 2, none⟩) (.inl rfl) _).setCell (p := ⟨g, 3, none⟩) (.inl rfl) _) (fun _ h => .inl h))⟩
end Go.Proofs.Ph
/- diag: the item of a number. No condition. -/
namespace Go.Proofs.Ph
open Go Go.RowKit Go.Proofs.YthjnlggommennaaW.PrintWords
attribute [local go_sem ↓] Go.wp_at_zero Go.wp_at_succ
/-- Which items count: all (function 177), or those that may be written (178). -/
def fits (F : Nat) (x : S47) : Bool := if F = 177 then true else x.f1
def isIt (F : Nat) (id : Int) (x : S47) : Bool := (x.f0 == id) && fits F x
set_option maxHeartbeats 1000000 in
theorem asks_calls {w : World} {F bi bs : Nat} {id : Int} {x : S47} {v2 : Value} (hF : F = 177 ∨ F = 178) (hi : w.cell? ⟨bi, 0, none⟩ = some (.int .i64 id)) (hs : w.cell? ⟨bs, 0, none⟩ = some (.func (.func F) #[] #[])) :
    Calls Try.prog 181 #[.agg #[.int .i64 x.f0, .bool x.f1, v2], .pointer (some ⟨bi, 0, none⟩), .pointer (some ⟨bs, 0, none⟩)] w fun e w' => e = .returned (.bool (isIt F id x)) ∧ Fr (fun _ => False) w w' := by
  have hbi := World.block_lt_of_cell? w _ hi
  have hbs := World.block_lt_of_cell? w _ hs
  obtain ⟨b, eb⟩ : ∃ b, b = isIt F id x := ⟨_, rfl⟩
  rw [← eb]
  unfold isIt fits at eb
  obtain ⟨f0, f1, f2⟩ := x
  by_cases h1 : (f0 == id) = true
  · rcases hF with rfl | rfl
    · have eb' := Aside0.mk (eb.trans (by simp [h1] : _ = true))
      clear eb
      go_enter Try.func181, Try.ntmps181
      go_wp2
      go_ret
      exact ⟨by rw [eb'.out]; rfl, ((Fr.refl _ w).alloc _).alloc _⟩
    · have eb' := Aside0.mk (eb.trans (by simp [h1] : _ = f1))
      clear eb
      go_enter Try.func181, Try.ntmps181
      go_wp2
      go_ret
      exact ⟨by rw [eb'.out]; rfl, ((Fr.refl _ w).alloc _).alloc _⟩
  · have h1' : (f0 == id) = false := by simpa using h1
    have eb' := Aside0.mk (eb.trans (by simp [h1'] : _ = false))
    clear eb h1
    go_enter Try.func181, Try.ntmps181
    go_wp2
    go_ret
    exact ⟨by rw [eb'.out]; rfl, (Fr.refl _ w).alloc _⟩
/-- The place of the first that fits; -1: there is none. -/
def findAt (p : S47 → Bool) : List S47 → Nat → Int
  | [], _ => -1
  | x :: l, k => if p x then k else findAt p l (k + 1)
theorem findAt_range (p : S47 → Bool) (l : List S47) (k : Nat) : findAt p l k = -1 ∨ ∃ j, j < l.length ∧ findAt p l k = ((k + j : Nat) : Int) ∧ p (l.getD j z47) = true := by
  induction l generalizing k with
  | nil => exact .inl rfl
  | cons x l ih =>
    unfold findAt
    by_cases h : p x = true
    · rw [if_pos h]; exact .inr ⟨0, by simp, rfl, by simpa using h⟩
    · rw [if_neg h]
      rcases ih (k + 1) with h2 | ⟨j, hj, h2, h3⟩
      · exact .inl h2
      · exact .inr ⟨j + 1, by simpa using hj, by rw [h2]; congr 1; omega, by simpa using h3⟩
theorem findAt_step (p : S47 → Bool) (l : List S47) (k : Nat) (h : k < l.length) : findAt p (l.drop k) k = if p (l.getD k z47) then (k : Int) else findAt p (l.drop (k + 1)) (k + 1) := by
  rw [List.drop_eq_getElem_cons h, findAt, List.getD_eq_getElem?_getD, List.getElem?_eq_getElem h]
  rfl
set_option maxHeartbeats 1000000 in
theorem index_calls {w : World} {F bi bs : Nat} {id : Int} {v : Value} {l : List S47} (hv : Rd k47 w v l) (hF : F = 177 ∨ F = 178) (hi : w.cell? ⟨bi, 0, none⟩ = some (.int .i64 id)) (hs : w.cell? ⟨bs, 0, none⟩ = some (.func (.func F) #[] #[])) :
    Calls Try.prog 180 #[v, .func (.func 181) #[] #[.pointer (some ⟨bi, 0, none⟩), .pointer (some ⟨bs, 0, none⟩)]] w fun e w' => e = .returned (.int .i64 (findAt (isIt F id) l 0)) ∧ Fr (fun _ => False) w w' := by
  have hm := hv.max
  obtain ⟨A, c, ev, hlc, hC⟩ := hv
  subst ev
  have hbi := World.block_lt_of_cell? w _ hi
  have hbs := World.block_lt_of_cell? w _ hs
  have HC := Aside0.mk hC
  have HI := Aside0.mk hi
  have HS := Aside0.mk hs
  clear hC hi hs
  go_enter Try.func180, Try.ntmps180
  go_wp2
  go_loopw [8] (fun t wr => ∃ k : Nat, k ≤ l.length ∧ t = .int .i64 k ∧ Aside0 (findAt (isIt F id) (l.drop k) k = findAt (isIt F id) l 0) ∧ Aside0 (Fr (fun _ => False) w wr)) (fun t _ => l.length - (intOf t).toNat)
  case atStart => exact ⟨0, Nat.zero_le _, rfl, ⟨rfl⟩, ⟨Fr.refl _ _⟩⟩
  case round =>
    obtain ⟨k, hk, rfl, hT, hD⟩ := hrel
    by_cases hlt : k < l.length
    · obtain ⟨ad, A2, c2, e1, x0, x1, x2, -, -⟩ := at_T47 HC.out (k : Int) (by omega) (by omega)
      subst e1
      have hb := Fr.below hD.out (fun _ h => h.elim)
      replace x0 := pw_cell_below hb x0
      replace x1 := pw_cell_below hb x1
      replace x2 := pw_cell_below hb x2
      rw [show ((k : Int)).toNat = k from rfl] at x0 x1 x2
      obtain ⟨x, ex⟩ : ∃ x, x = rd_T47 l k := ⟨_, rfl⟩
      rw [← ex] at x0 x1 x2
      have hst := findAt_step (isIt F id) l k hlt
      have HST := Aside0.mk (hT.out.symm.trans hst)
      have EX := Aside0.mk ex
      clear hst ex hT
      have hb1 : (0 : Int) ≤ (k : Int) := by omega
      have hb2 : (k : Int) < (l.length : Int) := by omega
      by_cases hp : isIt F id x = true
      · have HP := Aside0.mk hp
        clear hp
        go_wp2_with (go_at_call 181; refine (asks_calls hF ((hD.out.cell hbi (fun h => h)).trans HI.out) ((hD.out.cell hbs (fun h => h)).trans HS.out)).mono ?_; rintro e w2 ⟨he, hf2⟩; rw [HP.out] at he; subst he)
        go_ret
        exact ⟨by rw [HST.out, show l.getD k z47 = x from EX.out.symm, if_pos HP.out]; rfl, hD.out.trans hf2 (fun _ h => h.elim)⟩
      · have HP := Aside0.mk (show isIt F id x = false by simpa using hp)
        clear hp
        go_wp2_with (go_at_call 181; refine (asks_calls hF ((hD.out.cell hbi (fun h => h)).trans HI.out) ((hD.out.cell hbs (fun h => h)).trans HS.out)).mono ?_; rintro e w2 ⟨he, hf2⟩; rw [HP.out] at he; subst he)
        go_roundw
        case rel => exact ⟨k + 1, by omega, by go_num, ⟨by rw [HST.out, show l.getD k z47 = x from EX.out.symm, if_neg (by rw [HP.out]; simp)]⟩, ⟨hD.out.trans hf2 (fun _ h => h.elim)⟩⟩
        case measure => simp [intOf]; omega
    · have HT := Aside0.mk (hT.out.symm.trans (by rw [List.drop_of_length_le (by omega)]; rfl : _ = (-1 : Int)))
      have hn : ¬ ((k : Int) < (l.length : Int)) := by omega
      clear hT
      go_wp2
      go_ret
      exact ⟨by rw [HT.out]; rfl, hD.out⟩

/-- A place that was found, or a refusal. -/
def ItemPost (w : World) (k : Int) (e : Ending) (w' : World) : Prop := Fr (fun _ => False) w w' ∧ ((k = -1 ∧ e = .panicked [{ v := .iface 171 (.int .i64 49), recovered := false }]) ∨ (¬ k = -1 ∧ e = .returned (.int .i64 k)))
/-- Two bytes as a number. -/
def num2 (a b : Int) : Int := bits BinOp.or IntKind.i64 (a * 256) b
set_option maxHeartbeats 2000000 in
theorem item_calls {w : World} {g : Nat} {P : Nat → Prop} {s : S25} {vi vd vq : Value} {q : List Int} {F : Nat} (h : MPre w g P s vi vd vq q) (hq : 2 ≤ q.length) (hB : Byt q) (hF : F = 177 ∨ F = 178) :
    Calls Try.prog 176 #[.pointer (some ⟨g, 0, none⟩), .func (.func F) #[] #[]] w (ItemPost w (findAt (isIt F (num2 (q.getD 0 0) (q.getD 1 0))) s.f7 0)) := by
  obtain ⟨A, c, ev, hlc, hFq⟩ := h.q
  subst ev
  obtain ⟨Ai, ci, ei, hlci, hFi⟩ := h.i
  subst ei
  obtain ⟨ad, ea, hb⟩ := rd_at h.q.now 0 (by omega)
  subst ea
  obtain ⟨ad2, ea, hc⟩ := rd_at h.q.now 1 (by omega)
  injection ea with ea
  subst ea
  have hb' : w.cell? ad = some (.int .u8 (q.getD 0 0)) := by have := hb; rwa [show ad.add 0 = ad by simp [Addr.add]] at this
  clear hb
  obtain ⟨n, en⟩ : ∃ n, n = q.getD 0 0 := ⟨_, rfl⟩
  obtain ⟨m, em⟩ : ∃ m, m = q.getD 1 0 := ⟨_, rfl⟩
  have hn := hB.at 0
  have hm := hB.at 1
  rw [← en] at hb' hn ⊢
  rw [← em] at hc hm ⊢
  obtain ⟨hn0, hn1⟩ := hn
  obtain ⟨hm0, hm1⟩ := hm
  clear en em
  have hc' : w.cell? ⟨ad.block, ad.off + 1, none⟩ = some (.int .u8 m) := by have := hc; rwa [show ad.add 1 = ⟨ad.block, ad.off + 1, none⟩ by simp [Addr.add]] at this
  clear hc
  have hqa : 0 < q.length := by omega
  have hqb : 1 < q.length := by omega
  have hq0 : (0 : Int) < (q.length : Int) := by omega
  have hq1 : (1 : Int) < (q.length : Int) := by omega
  have hg := blk_lt h.x
  have c7 : w.cell? ⟨g, 7, none⟩ = some (.slice Ai s.f7.length ci) := (blk_cell h.x 7).trans rfl
  have c9 : w.cell? ⟨g, 9, none⟩ = some (.slice (some ad) q.length c) := (blk_cell h.x 9).trans rfl
  have H := Aside0.mk h
  clear h hFq hlc hFi hlci
  obtain ⟨at_, eat⟩ : ∃ x, x = findAt (isIt F (num2 n m)) s.f7 0 := ⟨_, rfl⟩
  rw [← eat]
  have EAT := Aside0.mk eat
  clear eat
  go_enter Try.func176, Try.ntmps176
  go_wp2
  generalize hw1 : World.alloc _ _ = w1
  have hf1 : Fr (fun _ => False) w w1 := by subst hw1; exact (Fr.refl _ w).alloc _
  have hbx : w1.heap[w.heap.size]? = some (.cells #[.func (.func F) #[] #[]] 221 (0, 0)) := by subst hw1; exact blk_new w _
  clear hw1
  replace c7 := hf1.cellA c7
  replace c9 := hf1.cellA c9
  replace hb' := hf1.cellA hb'
  replace hc' := hf1.cellA hc'
  have e1 : IntKind.i64.wrap n = n := IntWalk.i64_in _ (by omega)
  have e2 : IntKind.i64.wrap (n * 256) = n * 256 := IntWalk.i64_in _ (by omega)
  have e3 : IntKind.i64.wrap m = m := IntWalk.i64_in _ (by omega)
  go_region_held3 (fun w' => w'.cell? ⟨g, 9, none⟩ = some (.slice (some ad) q.length c) ∧ w'.cell? ad = some (.int .u8 n) ∧ w'.cell? ⟨ad.block, ad.off + 1, none⟩ = some (.int .u8 m)) (refine ⟨Fr.cellA (w := w1) ?_ c9, Fr.cellA (w := w1) ?_ hb', Fr.cellA (w := w1) ?_ hc'⟩ <;> (repeat (first | exact Fr.refl _ _ | refine Fr.alloc ?_ _ | refine Fr.drew ?_ | refine Fr.setCell ?_ (.inr (Nat.le_refl _)) _))) (fail)
  clear e1 e2 e3
  generalize hw2 : World.drew _ = w2
  have hf2 : Fr (fun _ => False) w1 w2 := by subst hw2; exact ((Fr.refl _ w1).alloc _).drew
  have hbi : w2.cell? ⟨w1.heap.size, 0, none⟩ = some (.int .i64 (num2 n m)) := by
    subst hw2
    exact (blk_cell (t := 3) (cs := #[.int .i64 (num2 n m)]) (blk_new w1 _) 0).trans rfl
  have hbs : w2.cell? ⟨w.heap.size, 0, none⟩ = some (.func (.func F) #[] #[]) := hf2.cellA ((blk_cell hbx 0).trans rfl)
  replace c7 := hf2.cellA c7
  have hf := hf1.trans hf2 (fun _ h => .inl h)
  have hv : Rd k47 w2 (.slice Ai s.f7.length ci) s.f7 := H.out.i.now.below (hf.below (fun _ h => h.elim))
  have HV := Aside0.mk hv
  rename_i hHeld
  clear hHeld hw2 hv hb' hc' c9 hf1 hf2
  have hr := findAt_range (isIt F (num2 n m)) s.f7 0
  rw [← EAT.out] at hr
  by_cases h0 : at_ = -1
  · have hge : decide (at_ ≥ 0) = false := by rw [h0]; rfl
    have hge2 : decide ((0 : Int) ≤ at_) = false := by rw [h0]; rfl
    have H0 := Aside0.mk h0
    clear h0 hr
    go_wp2_with (first | (go_at_call 180; refine (index_calls HV.out hF hbi hbs).mono ?_; rintro e w3 ⟨he, hf3⟩; rw [← EAT.out] at he; subst he) | (go_at_call 123; (with_reducible refine (unless_no _ _).mono ?_); rintro e w' ⟨rfl, rfl⟩))
    exact ⟨rfl, hf.trans hf3 (fun _ h => h.elim), .inl ⟨H0.out, rfl⟩⟩
  · have hp : 0 ≤ at_ := by rcases hr with hr | ⟨j, _, hr, _⟩ <;> omega
    have hge : decide (at_ ≥ 0) = true := decide_eq_true hp
    have hge2 : decide ((0 : Int) ≤ at_) = true := decide_eq_true hp
    have H0 := Aside0.mk h0
    clear h0 hr hp
    go_wp2_with (first | (go_at_call 180; refine (index_calls HV.out hF hbi hbs).mono ?_; rintro e w3 ⟨he, hf3⟩; rw [← EAT.out] at he; subst he) | (go_at_call 123; (with_reducible refine (unless_yes _ _).mono ?_); rintro e w' ⟨rfl, rfl⟩))
    go_ret
    exact ⟨hf.trans hf3 (fun _ h => h.elim), .inr ⟨H0.out, rfl⟩⟩
end Go.Proofs.Ph
/- diag: an item is read. No condition. -/
namespace Go.Proofs.Ph
open Go Go.RowKit Go.Proofs.YthjnlggommennaaW.PrintWords
attribute [local go_sem ↓] Go.wp_at_zero Go.wp_at_succ
def placeOf (F : Nat) (s : S25) (q : List Int) : Int := findAt (isIt F (num2 (q.getD 0 0) (q.getD 1 0))) s.f7 0
def mRead (s : S25) (q : List Int) : Res := if placeOf 177 s q = -1 then (s, .inl 49) else (s, .inr (q ++ (rd_T47 s.f7 (placeOf 177 s q)).f2))
set_option maxRecDepth 100000 in
set_option maxHeartbeats 2000000 in
theorem readItem_calls {w : World} {g : Nat} {P : Nat → Prop} {s : S25} {vi vd vq : Value} {q : List Int} (h : MPre w g P s vi vd vq q) (hq : 2 ≤ q.length) (hq2 : q.length ≤ 1000) (hB : Byt q) (hD : ∀ x ∈ s.f7, x.f2.length ≤ 1000) :
    Calls Try.prog 166 #[.pointer (some ⟨g, 0, none⟩)] w (MPost w g P vq (mRead s q)) := by
  have HIT := Aside0.mk (item_calls (F := 177) h hq hB (.inl rfl))
  obtain ⟨A, c, ev, hlc, hFq⟩ := h.q
  subst ev
  obtain ⟨Ai, ci, ei, hlci, hFi⟩ := h.i
  subst ei
  have hg := blk_lt h.x
  have c7 : w.cell? ⟨g, 7, none⟩ = some (.slice Ai s.f7.length ci) := (blk_cell h.x 7).trans rfl
  have c9 : w.cell? ⟨g, 9, none⟩ = some (.slice A q.length c) := (blk_cell h.x 9).trans rfl
  have H := Aside0.mk h
  have HB := Aside0.mk hB
  have HD := Aside0.mk hD
  clear h hFq hlc hFi hlci hB hD
  unfold mRead
  obtain ⟨k, ek⟩ : ∃ k, k = placeOf 177 s q := ⟨_, rfl⟩
  rw [← ek]
  change Aside0 (Calls Try.prog 176 _ w (ItemPost w (placeOf 177 s q))) at HIT
  rw [← ek] at HIT
  have hr := findAt_range (isIt 177 (num2 (q.getD 0 0) (q.getD 1 0))) s.f7 0
  change placeOf 177 s q = -1 ∨ _ at hr
  rw [← ek] at hr
  by_cases hk : k = -1
  · rw [if_pos hk]
    have HK := Aside0.mk hk
    clear hr hk ek
    go_enter Try.func166, Try.ntmps166
    go_wp2_with (go_at_call 176; refine HIT.out.mono ?_; rintro e w2 ⟨hf2, ⟨-, rfl⟩ | ⟨h, -⟩⟩; rotate_left; exact absurd HK.out h)
    have hx2 := hf2.blk H.out.x (fun h => h)
    exact ⟨rfl, H.out.refuse' rfl rfl hx2 (hf2.mono (fun _ h => h.elim))⟩
  · rw [if_neg hk]
    obtain ⟨j, hj, hkj, -⟩ : ∃ j, j < s.f7.length ∧ k = j ∧ True := by
      rcases hr with h | ⟨j, hj, h, _⟩
      · exact absurd h hk
      · exact ⟨j, hj, by rw [ek]; show findAt _ _ _ = _; rw [h]; simp, trivial⟩
    subst hkj
    have HK := Aside0.mk hk
    have EK := Aside0.mk ek
    clear hr hk ek
    obtain ⟨ad, A2, c2, e1, -, -, x2, hl2, hC2⟩ := at_T47 (Kd.F_now (by obtain ⟨A', c', e, hl, hF⟩ := H.out.i; injection e with e1 e2 e3; subst e1; exact hF)) (j : Int) (by omega) (by omega)
    subst e1
    rw [show ((j : Int)).toNat = j from rfl] at x2
    have hmem : rd_T47 s.f7 (j : Int) ∈ s.f7 := by
      show s.f7.getD j z47 ∈ s.f7
      rw [List.getD_eq_getElem?_getD, List.getElem?_eq_getElem hj]
      exact List.getElem_mem hj
    have hlen := HD.out _ hmem
    clear hmem
    obtain ⟨x, ex⟩ : ∃ x, x = rd_T47 s.f7 (j : Int) := ⟨_, rfl⟩
    rw [← ex] at x2 hl2 hC2 hlen ⊢
    have hRx : Rd kb w (.slice A2 x.f2.length c2) x.f2 := ⟨A2, c2, rfl, hl2, hC2⟩
    have HRX := Aside0.mk hRx
    clear ex hl2 hC2 hRx
    go_enter Try.func166, Try.ntmps166
    go_wp2_with (go_at_call 176; refine HIT.out.mono ?_; rintro e w2 ⟨hf2, ⟨h, -⟩ | ⟨-, rfl⟩⟩; exact absurd h HK.out)
    have hb2 := hf2.below (fun _ h => h.elim)
    replace c7 := hf2.cellA c7
    replace c9 := hf2.cellA c9
    replace x2 := hf2.cellA x2
    have hj0 : (0 : Int) ≤ (j : Int) := by omega
    have hj1 : (j : Int) < (s.f7.length : Int) := by omega
    go_region_held3 (fun w' => w'.cell? ⟨g, 9, none⟩ = some (.slice A q.length c) ∧ w'.cell? ⟨g, 7, none⟩ = some (.slice (some ad) s.f7.length ci) ∧ w'.cell? ⟨(ad.add (j * 3)).block, (ad.add (j * 3)).off + 2, none⟩ = some (.slice A2 x.f2.length c2))
      (refine ⟨Fr.cellA (w := w2) ?_ c9, Fr.cellA (w := w2) ?_ c7, Fr.cellA (w := w2) ?_ x2⟩ <;> (repeat (first | exact Fr.refl _ _ | exact hf4 | exact hf3 | refine Fr.drew ?_)))
      (first | (refine appB_step Try.underlying31 i5 (W := w2.drew) w2.heap.size rfl _ _ rfl (.slice none 0 0) (.slice A q.length c) [] q (by rfl) (by rfl) (own_nil _ _ _ _) ((H.out.q.step (w1 := w2.drew) (fun k hk hlt => hf2.block k hlt (fun h => h))).now) (Nat.le_refl _) (by simp; omega) ?_; intro v3 w3 ho3 hg3 hb3; have hf3 : Fr (fun _ => False) w2 w3 := (Fr.refl _ w2).drew.grown hg3 (fun k hk => .inr (hb3 k hk))) | (refine appB_step Try.underlying31 i5 (W := w3) w2.heap.size rfl _ _ rfl v3 (.slice A2 x.f2.length c2) q x.f2 (by rfl) (by rfl) ho3 ((HRX.out.below hb2).below (hf3.below (fun _ h => h.elim))) hf3.size (by omega) ?_; intro v4 w4 ho4 hg4 hb4; have hf4 : Fr (fun _ => False) w2 w4 := hf3.grown hg4 (fun k hk => .inr (hb4 k hk))))
    rename_i hHeld
    clear hHeld
    go_wp2
    go_ret
    have hf := hf2.trans hf4 (fun _ h => h.elim)
    exact H.out.answer rfl rfl (hf.blk H.out.x (fun h => h)) (hf.mono (fun _ h => h.elim)) ((own_rdF ho4).mono (fun k hk => .inr (Nat.le_trans hf2.size hk)))
end Go.Proofs.Ph
/- diag: an item is written. No condition. -/
namespace Go.Proofs.Ph
open Go Go.RowKit Go.Proofs.YthjnlggommennaaW.PrintWords
attribute [local go_sem ↓] Go.wp_at_zero Go.wp_at_succ
theorem i47 : (Try.prog.info? 47).map (fun i => (i.zero, i.size, i.bytes)) = some (some (.agg #[.int .i64 0, .bool false, .slice none 0 0]), 3, 40) := by kernel_rfl
/-- A literal without elements. -/
theorem N_lit0 {α : Type} (d : Kd α) {w : World} {base g : Nat} {e : TypeId} {ok : Nat → Prop} (h : w.heap[g]? = some (.cells #[] e (0, 0))) (hb : base ≤ g) (hk : ok g) : Kd.N d e w base ok (.slice (some ⟨g, 0, none⟩) 0 0) [] := by
  refine Kd.R_N ⟨fun k hk2 => ?_, [], ⟨by simp, .inr ⟨g, 0, #[], rfl, hb, h, Nat.le_refl _, by simp [maxLen], by simp, by simp⟩⟩, ⟨by simp, fun j p hj => by simp at hj⟩⟩
  have : g = k := by simpa [Value.ownBlock] using hk2
  exact this ▸ hk
/-- What a call that makes a row of elements that share leaves. -/
def RetN {α : Type} (d : Kd α) (t : Nat) (P : Nat → Prop) (w : World) (l : List α) (e : Ending) (w' : World) : Prop := ∃ v, e = .returned v ∧ Kd.N d t w' w.heap.size (Now w P) v l ∧ Fr (fun _ => False) w w'
set_option maxHeartbeats 1000000 in
theorem cloneItems_calls {w : World} {P : Nat → Prop} {v : Value} {xs : List S47} (hx : RdF k47 w P v xs) (hl : xs.length ≤ 1000) : Calls Try.prog 179 #[v] w (RetN k47 47 P w xs) := by
  have hx' := hx.bound
  obtain ⟨A1, c1, rfl, hc1, hF⟩ := hx'
  have HX := Aside0.mk hx
  have HF := Aside0.mk hF
  clear hx hF
  cases A1 with
  | none =>
    have he := Aside0.mk (rd_none HX.out.now)
    have kn := fun W => Lib.run_eql_slice_nil (P := Try.prog) W 22 47 none xs.length c1 0 0 Try.underlying22
    go_enter Try.func179, Try.ntmps179
    go_wp2
    go_ret
    exact ⟨_, rfl, by rw [he.out]; exact Kd.N_nil _ _ _ _ _, Fr.refl _ _⟩
  | some ad =>
    have kn := fun W => Lib.run_eql_slice_nil (P := Try.prog) W 22 47 (some ad) xs.length c1 0 0 Try.underlying22
    go_enter Try.func179, Try.ntmps179
    go_wp2_with (at_builtin; refine Kd.N_append_rows k47 (w0 := w) (W := w.alloc (.cells #[] 47)) w.heap.size rfl _ _ 22 47 _ 40 rfl Try.underlying22 i47 rfl (by decide) (by omega) (.slice (some ⟨w.heap.size, 0, none⟩) 0 0) [] xs (some ad) xs.length c1 (Now w P) (fun k => P k ∧ k < w.heap.size) rfl rfl (N_lit0 k47 (blk_new w _) (Nat.le_refl _) (.inr (Nat.le_refl _))) (Kd.F_alloc HF.out _) (fun k hk => ⟨.inl hk.1, fun e => by simp [Value.ownBlock] at e; have := hk.2; omega⟩) (fun k hk => .inr (Nat.le_trans (by simp) hk)) ((Below.refl _ _).alloc (Nat.le_refl _) _) (by simp) (by simp; omega) ?_; intro v2 w2 ho2 hb2 hg2 hat2)
    go_ret
    exact ⟨_, rfl, ho2, ((Fr.refl (fun _ => False) w).alloc _).grown hg2 (fun k hk => .inr (by simp [Value.ownBlock] at hk; omega))⟩

def setItems (s : S25) (l : List S47) : S25 := { s with f7 := l }
def setData (x : S47) (l : List Int) : S47 := { x with f2 := l }
/-- An element's bytes are set. -/
theorem N_data {W : World} {base : Nat} {ok okp : Nat → Prop} {gb n cap : Nat} {xs : List S47} (h : Kd.N k47 47 W base ok (.slice (some ⟨gb, 0, none⟩) n cap) xs) {j : Nat} (hj : j < n) {A : Option Addr} {c : Nat} {l : List Int} (hl : l.length ≤ c) (hF : Kd.F kb W okp A l.length l) (hokp : ∀ k, okp k → ok k ∧ k ≠ gb) :
    Kd.N k47 47 (W.setCell ⟨gb, j * 3 + 2, none⟩ (.slice A l.length c)) base ok (.slice (some ⟨gb, 0, none⟩) n cap) (xs.set j (setData (xs.getD j z47) l)) ∧ ∃ old, W.cell? ⟨gb, j * 3 + 2, none⟩ = some old := by
  obtain ⟨cs, hcl, hK, hcc⟩ := Kd.N_get h z47 (j : Int) (by omega) (by omega)
  obtain ⟨A2, c2, rfl, hl2, hC2⟩ := k47_open (Kd.FK_now hK)
  have hcc' : ∀ i u, ([Value.int .i64 (xs.getD j z47).f0, .bool (xs.getD j z47).f1, .slice A2 (xs.getD j z47).f2.length c2] : List Value)[i]? = some u → W.cell? ⟨gb, (j : Int).toNat * 3 + i, none⟩ = some u := fun i u hu => by
    have := hcc i u hu
    rw [add_plain] at this
    exact this
  have h1 := Kd.N_seg (okp := fun k => (okp k ∨ (ok k ∧ some k ≠ (Value.slice (some ⟨gb, 0, none⟩) n cap).ownBlock))) (seg := [Value.slice A l.length c]) (j := 2) h (j : Int) (by omega) (by omega) hcl hcc' (Nat.le_refl 3) (x' := setData (xs.getD j z47) l)
    (by exact k47_mkF W _ (setData (xs.getD j z47) l) hl (Kd.F_mono hF (fun k hk => .inl hk))) (fun k hk => by
      rcases hk with hk | ⟨hk, hn⟩
      · exact hokp k hk
      · exact ⟨hk, fun e => hn (by rw [e]; simp [Value.ownBlock])⟩)
  exact ⟨h1.1, _, hcc' 2 _ rfl⟩
def mWrite (s : S25) (q : List Int) : Res :=
  if (s.f0 != 1) = true then if s.f1 = true then if placeOf 178 s q = -1 then (s, .inl 49) else
    if ((((q.drop 2).length : Nat) : Int) == (((rd_T47 s.f7 (placeOf 178 s q)).f2.length : Nat) : Int)) = true then (setItems s (s.f7.set (placeOf 178 s q).toNat (setData (rd_T47 s.f7 (placeOf 178 s q)) (q.drop 2))), .inr (q.take 2)) else (s, .inl 19)
  else (s, .inl 51) else (s, .inl 34)
section
variable {w : World} {g : Nat} {P : Nat → Prop} {s : S25} {vi vd vq : Value} {q : List Int}
set_option maxHeartbeats 1000000 in
theorem write_plain (h : MPre w g P s vi vd vq q) (h1 : (s.f0 != 1) = false) : Calls Try.prog 167 #[.pointer (some ⟨g, 0, none⟩)] w (MPost w g P vq (s, .inl 34)) := by
  have c0 : w.cell? ⟨g, 0, none⟩ = some (.int .i64 s.f0) := (blk_cell h.x 0).trans rfl
  have H := Aside0.mk h
  clear h
  go_enter Try.func167, Try.ntmps167
  go_wp2_with (go_at_call 123; (with_reducible refine (unless_no _ _).mono ?_); rintro e w' ⟨rfl, rfl⟩)
  exact ⟨rfl, H.out.refuse⟩
set_option maxHeartbeats 1000000 in
theorem write_shut (h : MPre w g P s vi vd vq q) (h1 : (s.f0 != 1) = true) (h2 : s.f1 = false) : Calls Try.prog 167 #[.pointer (some ⟨g, 0, none⟩)] w (MPost w g P vq (s, .inl 51)) := by
  have c0 : w.cell? ⟨g, 0, none⟩ = some (.int .i64 s.f0) := (blk_cell h.x 0).trans rfl
  have c1 : w.cell? ⟨g, 1, none⟩ = some (.bool s.f1) := (blk_cell h.x 1).trans rfl
  have H := Aside0.mk h
  clear h
  go_enter Try.func167, Try.ntmps167
  go_wp2_with (go_at_call 123; first | ((with_reducible refine (unless_yes _ _).mono ?_); rintro e w' ⟨rfl, rfl⟩) | ((with_reducible refine (unless_no _ _).mono ?_); rintro e w' ⟨rfl, rfl⟩))
  exact ⟨rfl, H.out.refuse⟩
set_option maxHeartbeats 1000000 in
theorem write_none (h : MPre w g P s vi vd vq q) (h1 : (s.f0 != 1) = true) (h2 : s.f1 = true) (hq : 2 ≤ q.length) (hB : Byt q) (h3 : placeOf 178 s q = -1) : Calls Try.prog 167 #[.pointer (some ⟨g, 0, none⟩)] w (MPost w g P vq (s, .inl 49)) := by
  have HIT := Aside0.mk (item_calls (F := 178) h hq hB (.inr rfl))
  change Aside0 (Calls Try.prog 176 _ w (ItemPost w (placeOf 178 s q))) at HIT
  rw [h3] at HIT
  have c0 : w.cell? ⟨g, 0, none⟩ = some (.int .i64 s.f0) := (blk_cell h.x 0).trans rfl
  have c1 : w.cell? ⟨g, 1, none⟩ = some (.bool s.f1) := (blk_cell h.x 1).trans rfl
  have H := Aside0.mk h
  clear h h3 hB
  go_enter Try.func167, Try.ntmps167
  go_wp2_with (first | (go_at_call 123; (with_reducible refine (unless_yes _ _).mono ?_); rintro e w' ⟨rfl, rfl⟩) | (go_at_call 176; refine HIT.out.mono ?_; rintro e w2 ⟨hf2, ⟨-, rfl⟩ | ⟨h, -⟩⟩; rotate_left; exact absurd rfl h))
  exact ⟨rfl, H.out.refuse' rfl rfl (hf2.blk H.out.x (fun h => h)) (hf2.mono (fun _ h => h.elim))⟩
/-- What the last two ways share. -/
theorem cut_head {w : World} {ok : Nat → Prop} {A : Option Addr} {c : Nat} {xs : List Int} (h : RdF kb w ok (.slice A xs.length c) xs) (k : Int) (m : Nat) (hk : k = m) (hm : m ≤ xs.length) : RdF kb w ok (.slice A m c) (xs.take m) := by
  obtain ⟨A0, c0, e, hl, hF⟩ := h
  injection e with e1 e2 e3
  subst e1 e3
  have hlen : (xs.take m).length = m := by rw [List.length_take]; omega
  refine ⟨A, c, by rw [hlen], by rw [hlen]; omega, Kd.F_imp hF (fun W' hC => ?_)⟩
  rw [hlen]
  exact Kd.C_of_reads (ReadsInt.take_ (Kd.reads_of_C (d := (0 : Int)) hC) m hm)
set_option maxRecDepth 100000 in
set_option maxHeartbeats 2000000 in
theorem write_some (h : MPre w g P s vi vd vq q) (h1 : (s.f0 != 1) = true) (h2 : s.f1 = true) (hq : 3 ≤ q.length) (hq2 : q.length ≤ 1000) (hB : Byt q) (hI : s.f7.length ≤ 1000) {j : Nat} (h3 : placeOf 178 s q = j) (hj : j < s.f7.length)
    {b : Bool} (h4 : ((((q.drop 2).length : Nat) : Int) == (((rd_T47 s.f7 (j : Int)).f2.length : Nat) : Int)) = b) : Calls Try.prog 167 #[.pointer (some ⟨g, 0, none⟩)] w (MPost w g P vq (if b = true then (setItems s (s.f7.set j (setData (rd_T47 s.f7 (j : Int)) (q.drop 2))), .inr (q.take 2)) else (s, .inl 19))) := by
  have HIT := Aside0.mk (item_calls (F := 178) h (by omega) hB (.inr rfl))
  change Aside0 (Calls Try.prog 176 _ w (ItemPost w (placeOf 178 s q))) at HIT
  rw [h3] at HIT
  obtain ⟨A, c, ev, hlc, hFq⟩ := h.q
  subst ev
  obtain ⟨Ai, ci, ei, hlci, hFi⟩ := h.i
  subst ei
  obtain ⟨A', hcut, hR⟩ := cut_from ⟨A, c, rfl, hlc, hFq⟩ 2 2 rfl (by omega)
  obtain ⟨ad, A2, c2, e1, -, -, x2, -, -⟩ := at_T47 (Kd.F_now hFi) (j : Int) (by omega) (by omega)
  subst e1
  rw [show ((j : Int)).toNat = j from rfl] at x2
  obtain ⟨x, ex⟩ : ∃ x, x = rd_T47 s.f7 (j : Int) := ⟨_, rfl⟩
  rw [← ex] at x2 h4 ⊢
  have EX := Aside0.mk ex
  have hdl : (q.drop 2).length = q.length - 2 := by rw [List.length_drop]
  have c0 : w.cell? ⟨g, 0, none⟩ = some (.int .i64 s.f0) := (blk_cell h.x 0).trans rfl
  have c1 : w.cell? ⟨g, 1, none⟩ = some (.bool s.f1) := (blk_cell h.x 1).trans rfl
  have c7 : w.cell? ⟨g, 7, none⟩ = some (.slice (some ad) s.f7.length ci) := (blk_cell h.x 7).trans rfl
  have c9 : w.cell? ⟨g, 9, none⟩ = some (.slice A q.length c) := (blk_cell h.x 9).trans rfl
  rw [hdl] at h4
  have hg := blk_lt h.x
  have hj0 : (0 : Int) ≤ (j : Int) := by omega
  have hj1 : (j : Int) < (s.f7.length : Int) := by omega
  have hnj : ¬ (j : Int) = -1 := by omega
  have hcc : 2 ≤ c := by omega
  have hcc1 : (2 : Int) ≤ (c : Int) := by omega
  have hcc2 : ¬ (c : Int) < 2 := by omega
  have HR := Aside0.mk hR
  have H := Aside0.mk h
  have HF7 := Aside0.mk hFi
  clear h h3 hB hR hFq hFi ex hdl hlc hlci
  cases b with
  | false =>
    show Calls Try.prog 167 _ w (MPost w g P (.slice A q.length c) (s, .inl 19))
    go_enter Try.func167, Try.ntmps167
    go_wp2_with (first | (go_at_call 123; (with_reducible refine (unless_yes _ _).mono ?_); rintro e w' ⟨rfl, rfl⟩) | (go_at_call 176; refine HIT.out.mono ?_; rintro e w2 ⟨hf2, ⟨h, -⟩ | ⟨-, rfl⟩⟩; exact absurd h hnj; have c7 := hf2.cellA c7; have c9 := hf2.cellA c9; have x2 := hf2.cellA x2) | (go_at_call 123; (with_reducible refine (unless_no _ _).mono ?_); rintro e w' ⟨rfl, rfl⟩))
    exact ⟨rfl, H.out.refuse' rfl rfl (hf2.blk H.out.x (fun h => h)) (hf2.mono (fun _ h => h.elim))⟩
  | true =>
    show Calls Try.prog 167 _ w (MPost w g P (.slice A q.length c) (setItems s (s.f7.set j (setData x (q.drop 2))), .inr (q.take 2)))
    go_enter Try.func167, Try.ntmps167
    go_wp2_with (first | (go_at_call 123; (with_reducible refine (unless_yes _ _).mono ?_); rintro e w' ⟨rfl, rfl⟩) | (go_at_call 176; refine HIT.out.mono ?_; rintro e w2 ⟨hf2, ⟨h, -⟩ | ⟨-, rfl⟩⟩; exact absurd h hnj; have c7 := hf2.cellA c7; have c9 := hf2.cellA c9; have x2 := hf2.cellA x2) | (go_at_call 179; refine (cloneItems_calls (P := P) (H.out.i.step (w1 := w2) (fun k hk hlt => hf2.block k hlt (fun h => h))) hI).mono ?_; rintro e w3 ⟨v3, rfl, hN3, hf3⟩; obtain ⟨gb, cap, rfl, hgb, -⟩ := Kd.N_form hN3 (Nat.lt_of_le_of_lt (Nat.zero_le _) hj); have hx3 := (hf2.trans hf3 (fun _ h => h.elim)).blk H.out.x (fun h => h); have c7 : w3.cell? ⟨g, 7, none⟩ = some (.slice (some ad) s.f7.length ci) := (blk_cell hx3 7).trans rfl; have z7 := blk_frozen hx3 7))
    generalize hw4 : World.setCell _ _ _ = w4
    have hx4 : XB w4 g (setItems s s.f7) (.slice (some ⟨gb, 0, none⟩) s.f7.length cap) vd (.slice A q.length c) := by
      subst hw4
      exact blk_put hx3 7 _ rfl
    have hne : ∀ k, Now w2 P k → k ≠ g := fun k hk e => by
      subst e
      rcases hk with hk | hk
      · exact H.out.g hk
      · have := hf2.size; omega
    have hN4 : Kd.N k47 47 w4 w2.heap.size (Now w2 P) (.slice (some ⟨gb, 0, none⟩) s.f7.length cap) s.f7 := by
      subst hw4
      exact Kd.N_far (p := ⟨g, 7, none⟩) hN3 hne _
    have hf4 : Fr (fun k => k = g) w w4 := by
      subst hw4
      exact ((hf2.trans hf3 (fun _ h => h.elim)).mono (fun _ h => h.elim)).setG 7 _
    have hgb4 : w2.heap.size ≤ gb ∧ gb < w4.heap.size := ⟨hgb, Kd.N_lt hN4 gb (by simp [Value.ownBlock])⟩
    have hs4 : w2.heap.size ≤ w4.heap.size := by omega
    have hgg : gb ≠ g := by have := hf2.size; omega
    clear hw4 hx3 c7 z7 c9 x2 c0 c1 hN3
    have c7 : w4.cell? ⟨g, 7, none⟩ = some (.slice (some ⟨gb, 0, none⟩) s.f7.length cap) := (blk_cell hx4 7).trans rfl
    have hR4 := HR.out.fr hf4 (fun k hk _ e => H.out.g (e ▸ hk))
    have HR4 := Aside0.mk hR4
    clear hR4
    go_region_held3 (fun w' => w'.cell? ⟨g, 7, none⟩ = some (.slice (some ⟨gb, 0, none⟩) s.f7.length cap)) (first | exact (World.cell?_setCell_far w5 ⟨gb, j * 3 + 2, none⟩ ⟨g, 7, none⟩ _ hgg).trans (hf5.cellA c7) | (refine Fr.cellA (w := w4) ?_ c7 <;> (repeat (first | exact Fr.refl _ _ | exact hf5 | refine Fr.drew ?_))))
      (first | (go_at_call 174; refine (clone_calls (w := w4.drew) (HR4.out.now.below (below_drew (Below.refl _ _))) (by rw [List.length_drop]; omega)).mono ?_; rintro e w5 ⟨v5, rfl, hv5, hf5'⟩; have hf5 : Fr (fun _ => False) w4 w5 := (Fr.refl _ w4).drew.trans hf5' (fun _ h => h.elim); obtain ⟨A5, c5, rfl, hl5, hF5⟩ := hv5.bound; have hN5 := Kd.N_below hN4 (hf5.below (fun _ h => h.elim)); obtain ⟨hN6, old, hold⟩ := N_data hN5 hj hl5 hF5 (fun k hk => ⟨.inr (Nat.le_trans hs4 hk.1), fun e => by have h7 : w4.heap.size ≤ k := hk.1; omega⟩); obtain ⟨cells5, hb5⟩ := Kd.N_typed hN5 gb (by simp [Value.ownBlock]); have z5 := blk_frozen hb5 (j * 3 + 2)))
    rename_i hHeld
    clear hHeld
    rw [List.length_drop] at hN6
    generalize hw6 : World.setCell _ _ _ = w6
    rw [hw6] at hN6
    have hx6 : XB w6 g (setItems s s.f7) (.slice (some ⟨gb, 0, none⟩) s.f7.length cap) vd (.slice A q.length c) := by
      subst hw6
      exact blk_far (hf5.blk hx4 (fun h => h)) (p := ⟨gb, j * 3 + 2, none⟩) (fun e => hgg e.symm) _
    have hf6 : Fr (fun k => k = g) w w6 := by
      subst hw6
      exact (hf4.trans hf5 (fun _ h => h.elim)).setCell (p := ⟨gb, j * 3 + 2, none⟩) (.inr (Nat.le_trans hf2.size hgb)) _
    clear hw6 hf5 hf5' hv5 hF5 hN5 hN4 hold hb5 z5 c7 hx4 h4
    have c9 : w6.cell? ⟨g, 9, none⟩ = some (.slice A q.length c) := (blk_cell hx6 9).trans rfl
    go_wp2
    go_ret
    have hq6 : RdF kb w6 (Now w P) (.slice A q.length c) q := (H.out.q.fr hf6 (fun k hk _ e => H.out.g (e ▸ hk))).mono (fun k hk => .inl hk)
    refine ⟨⟨_, rfl, cut_head hq6 2 2 rfl (by omega)⟩, hf6, .slice (some ⟨gb, 0, none⟩) s.f7.length cap, vd, hx6, ?_, (H.out.rows hf6).2⟩
    show RdF k47 w6 (Now w P) _ (s.f7.set j (setData x (q.drop 2)))
    rw [EX.out]
    have hlen : (s.f7.set j (setData (rd_T47 s.f7 (j : Int)) (q.drop 2))).length = s.f7.length := List.length_set
    refine ⟨_, cap, by rw [hlen], by rw [hlen]; exact (Kd.N_reads' hN6).2.1, ?_⟩
    rw [hlen]
    exact Kd.F_mono (Kd.N_F hN6) (fun k hk => hk.imp_right (fun h => Nat.le_trans hf2.size h))
end
end Go.Proofs.Ph
/- diag: what any service does. No condition. -/
namespace Go.Proofs.Ph
open Go Go.RowKit Go.Proofs.YthjnlggommennaaW.PrintWords
section
variable {w : World} {g : Nat} {P : Nat → Prop} {s : S25} {vi vd vq : Value} {q : List Int}
set_option maxHeartbeats 1000000 in
theorem key_shut (h : MPre w g P s vi vd vq q) (h1 : ¬ s.f3 ≤ 2) : Calls Try.prog 148 #[.pointer (some ⟨g, 0, none⟩)] w (MPost w g P vq (s, .inl 54)) := by
  have c3 : w.cell? ⟨g, 3, none⟩ = some (.int .i64 s.f3) := (blk_cell h.x 3).trans rfl
  have H := Aside0.mk h
  clear h
  go_enter Try.func148, Try.ntmps148
  go_wp2_with (go_at_call 123; (with_reducible refine (unless_no _ _).mono ?_); rintro e w' ⟨rfl, rfl⟩)
  exact ⟨rfl, H.out.refuse⟩
set_option maxHeartbeats 1000000 in
theorem key_plain (h : MPre w g P s vi vd vq q) (h1 : s.f3 ≤ 2) (h2 : (s.f0 != 1) = false) : Calls Try.prog 148 #[.pointer (some ⟨g, 0, none⟩)] w (MPost w g P vq (s, .inl 34)) := by
  have c0 : w.cell? ⟨g, 0, none⟩ = some (.int .i64 s.f0) := (blk_cell h.x 0).trans rfl
  have c3 : w.cell? ⟨g, 3, none⟩ = some (.int .i64 s.f3) := (blk_cell h.x 3).trans rfl
  have H := Aside0.mk h
  clear h
  go_enter Try.func148, Try.ntmps148
  go_wp2_with (go_at_call 123; first | ((with_reducible refine (unless_yes _ _).mono ?_); rintro e w' ⟨rfl, rfl⟩) | ((with_reducible refine (unless_no _ _).mono ?_); rintro e w' ⟨rfl, rfl⟩))
  exact ⟨rfl, H.out.refuse⟩
set_option maxHeartbeats 1000000 in
theorem key_none (h : MPre w g P s vi vd vq q) (h1 : s.f3 ≤ 2) (h2 : (s.f0 != 1) = true) (h3 : ¬ 0 ≤ s.f2) : Calls Try.prog 148 #[.pointer (some ⟨g, 0, none⟩)] w (MPost w g P vq (s, .inl 34)) := by
  have c0 : w.cell? ⟨g, 0, none⟩ = some (.int .i64 s.f0) := (blk_cell h.x 0).trans rfl
  have c2 : w.cell? ⟨g, 2, none⟩ = some (.int .i64 s.f2) := (blk_cell h.x 2).trans rfl
  have c3 : w.cell? ⟨g, 3, none⟩ = some (.int .i64 s.f3) := (blk_cell h.x 3).trans rfl
  have h3' : decide (0 ≤ s.f2) = false := decide_eq_false h3
  have H := Aside0.mk h
  clear h h3
  go_enter Try.func148, Try.ntmps148
  go_wp2_with (go_at_call 123; first | ((with_reducible refine (unless_yes _ _).mono ?_); rintro e w' ⟨rfl, rfl⟩) | ((with_reducible refine (unless_no _ _).mono ?_); rintro e w' ⟨rfl, rfl⟩))
  exact ⟨rfl, H.out.refuse⟩
theorem key_calls' (h : MPre w g P s vi vd vq q) (h0 : 0 ≤ s.f3) (hq : 1 ≤ q.length) : Calls Try.prog 148 #[.pointer (some ⟨g, 0, none⟩)] w (MPost w g P vq (mKey s q)) := by
  unfold mKey
  by_cases h1 : s.f3 ≤ 2
  · rw [if_pos h1]
    by_cases h2 : (s.f0 != 1) = true
    · by_cases h3 : 0 ≤ s.f2
      · rw [if_pos ⟨h2, h3⟩]
        by_cases h4 : q.drop 1 = four (key s.f2 s.f6)
        · rw [if_pos h4]
          exact key_right h h0 h1 h2 h3 hq ⟨decide_eq_true h4⟩
        · rw [if_neg h4]
          exact key_wrong h h0 h1 h2 h3 hq ⟨decide_eq_false h4⟩ ⟨rfl⟩
      · rw [if_neg (fun h => h3 h.2)]
        exact key_none h h1 h2 h3
    · rw [if_neg (fun h => h2 h.1)]
      exact key_plain h h1 (by simpa using h2)
  · rw [if_neg h1]
    exact key_shut h h1
theorem write_calls (h : MPre w g P s vi vd vq q) (hq : 3 ≤ q.length) (hq2 : q.length ≤ 1000) (hB : Byt q) (hI : s.f7.length ≤ 1000) : Calls Try.prog 167 #[.pointer (some ⟨g, 0, none⟩)] w (MPost w g P vq (mWrite s q)) := by
  unfold mWrite
  by_cases h1 : (s.f0 != 1) = true
  · rw [if_pos h1]
    by_cases h2 : s.f1 = true
    · rw [if_pos h2]
      by_cases h3 : placeOf 178 s q = -1
      · rw [if_pos h3]
        exact write_none h h1 h2 (by omega) hB h3
      · rw [if_neg h3]
        obtain ⟨j, hj, hk⟩ : ∃ j, j < s.f7.length ∧ placeOf 178 s q = (j : Int) := by
          rcases findAt_range (isIt 178 (num2 (q.getD 0 0) (q.getD 1 0))) s.f7 0 with h | ⟨j, hj, h, _⟩
          · exact absurd h h3
          · exact ⟨j, hj, by show findAt _ _ _ = _; rw [h]; simp⟩
        rw [hk]
        exact write_some h h1 h2 hq hq2 hB hI hk hj rfl
    · rw [if_neg h2]
      exact write_shut h h1 (by simpa using h2)
  · rw [if_neg h1]
    exact write_plain h (by simpa using h1)
/-- What a service does. -/
def mDo (F : Nat) (s : S25) (q : List Int) : Res := match F with
  | 147 => mSeed s
  | 148 => mKey s q
  | 164 => mHand s
  | 165 => mSession s (q.getD 0 0) q
  | 166 => mRead s q
  | 167 => mWrite s q
  | 168 => mForget s
  | 170 => mMask s q
  | _ => (s, .inr [])
/-- Bounds within which a server and a question lie. -/
structure Fine (s : S25) (q : List Int) : Prop where
  wrong : 0 ≤ s.f3
  items : s.f7.length ≤ 1000
  data : ∀ x ∈ s.f7, x.f2.length ≤ 1000
  dtc : s.f8.length ≤ 600
  len : q.length ≤ 1000
  byt : Byt q
/-- Is a question as long as its service asks? -/
def fitsLen (n : Int) (q : List Int) (l : Int) : Prop := l = (q.length : Int) ∨ (l = -1 ∧ (n ≠ 46 ∨ 2 < q.length))
theorem do_calls {n l : Int} {F : Nat} (hf : mFind n q = .inr (l, F)) (hl : fitsLen n q l) (hF : Fine s q) (h : MPre w g P s vi vd vq q) :
    Calls Try.prog F #[.pointer (some ⟨g, 0, none⟩)] w (MPost w g P vq (mDo F s q)) := by
  unfold fitsLen at hl
  unfold mFind served at hf
  repeat' split at hf
  all_goals first | (cases hf; done) | (injection hf with hf; injection hf with e1 e2; subst e1 e2)
  · exact seed_calls h
  · exact key_calls' h hF.wrong (by rcases hl with hl | hl <;> omega)
  · exact session_calls h (by rcases hl with hl | hl <;> omega) hF.byt
  · exact readItem_calls h (by rcases hl with hl | hl <;> omega) hF.len hF.byt hF.data
  · exact write_calls h (by rcases hl with hl | hl <;> omega) hF.len hF.byt hF.items
  · exact forget_calls h
  · exact mask_calls h (by rcases hl with hl | hl <;> omega) hF.byt (Nat.le_trans hF.dtc (by omega))
  · exact here_calls h
  · exact hand_calls h
  · exact hand_calls h
  · exact hand_calls h
theorem do_which {n l : Int} {F : Nat} (hf : mFind n q = .inr (l, F)) : F = 147 ∨ F = 148 ∨ F = 164 ∨ F = 165 ∨ F = 166 ∨ F = 167 ∨ F = 168 ∨ F = 170 ∨ F = 171 := by
  unfold mFind served at hf
  repeat' split at hf
  all_goals first | (cases hf; done) | (injection hf with hf; injection hf with e1 e2; subst e2; simp)
theorem do_enters {n l : Int} {F : Nat} (hf : mFind n q = .inr (l, F)) (args : Array Value) (W : World) : (callFunc F args).run Try.prog W = .ok (.enter F args) W := by
  rcases do_which hf with rfl | rfl | rfl | rfl | rfl | rfl | rfl | rfl | rfl <;> simp [go_sem]
end
end Go.Proofs.Ph
/- diag: a question is answered, whatever it is. No condition. -/
namespace Go.Proofs.Ph
open Go Go.RowKit Go.Proofs.YthjnlggommennaaW.PrintWords
def fitsB (n : Int) (q : List Int) (l : Int) : Bool := l == (q.length : Int) || (l == -1 && (n != 46 || decide ((2 : Int) < (q.length : Int))))
def mAnswer (n : Int) (s : S25) (q : List Int) : S25 × List Int := match mFind n q with
  | .inl why => (s, [127, n % 256, why % 256])
  | .inr (l, F) => if fitsB n q l = true then match mDo F s q with
    | (s', .inl why) => (s', [127, n % 256, why % 256])
    | (s', .inr b) => (s', (n + 64) % 256 :: b)
  else (s, [127, n % 256, 19 % 256])
theorem four_len (n : Int) : (four n).length = 4 := rfl
theorem do_len {F : Nat} {s s' : S25} {q b : List Int} (hF : Fine s q) (h : mDo F s q = (s', .inr b)) : b.length ≤ 2000 := by
  have hq := hF.len
  have hd := hF.dtc
  unfold mDo at h
  split at h
  · unfold mSeed at h
    repeat' split at h
    all_goals first | (cases h; done) | (injection h with e1 e2; injection e2 with e2; subst e2; simp [four])
  · unfold mKey at h
    repeat' split at h
    all_goals first | (cases h; done) | (injection h with e1 e2; injection e2 with e2; subst e2; simp)
  · unfold mHand at h
    repeat' split at h
    all_goals first | (cases h; done) | (injection h with e1 e2; injection e2 with e2; subst e2; simp)
  · unfold mSession at h
    repeat' split at h
    all_goals first | (cases h; done) | (injection h with e1 e2; injection e2 with e2; subst e2; omega)
  · unfold mRead at h
    split at h
    · cases h
    · injection h with e1 e2
      injection e2 with e2
      subst e2
      rw [List.length_append]
      have : (rd_T47 s.f7 (placeOf 177 s q)).f2.length ≤ 1000 := by
        unfold rd_T47
        rw [List.getD_eq_getElem?_getD]
        rcases Nat.lt_or_ge (placeOf 177 s q).toNat s.f7.length with h | h
        · rw [List.getElem?_eq_getElem h]; exact hF.data _ (List.getElem_mem h)
        · rw [List.getElem?_eq_none h]; simp [z47]
      omega
  · unfold mWrite at h
    repeat' split at h
    all_goals first | (cases h; done) | (injection h with e1 e2; injection e2 with e2; subst e2; rw [List.length_take]; omega)
  · unfold mForget at h
    repeat' split at h
    all_goals first | (cases h; done) | (injection h with e1 e2; injection e2 with e2; subst e2; simp)
  · unfold mMask at h
    injection h with e1 e2
    injection e2 with e2
    subst e2
    have := packed_len (q.getD 0 0) s.f8
    rw [List.length_cons]
    omega
  · injection h with e1 e2
    injection e2 with e2
    subst e2
    simp
theorem answer_calls {w : World} {g : Nat} {P : Nat → Prop} {s : S25} {vi vd vq : Value} {q : List Int} {n : Int} (hn : 0 ≤ n ∧ n ≤ 255) (h : MPre w g P s vi vd vq q) (hF : Fine s q) :
    Calls Try.prog 82 #[.pointer (some ⟨g, 0, none⟩), .int .u8 n] w (MPost w g P vq ((mAnswer n s q).1, .inr (mAnswer n s q).2)) := by
  unfold mAnswer
  cases hf : mFind n q with
  | inl why => exact answer_unknown hn h hF.byt hf
  | inr lF =>
    obtain ⟨l, F⟩ := lF
    simp only []
    by_cases hfit : fitsB n q l = true
    · rw [if_pos hfit]
      have hl : fitsLen n q l := by
        unfold fitsB at hfit
        unfold fitsLen
        simp at hfit
        rcases hfit with h1 | ⟨h1, h2⟩
        · exact .inl h1
        · exact .inr ⟨h1, by rcases h2 with h2 | h2 <;> omega⟩
      have HDO : ∀ W P, MPre W g P s vi vd vq q → Calls Try.prog F #[.pointer (some ⟨g, 0, none⟩)] W (MPost W g P vq (mDo F s q)) := fun W P h => do_calls hf hl hF h
      cases hr : mDo F s q with
      | mk s' r =>
        rw [hr] at HDO
        cases r with
        | inl why =>
          simp only []
          by_cases h1 : (l == (q.length : Int)) = true
          · exact answer_no1 hn h hF.byt hf h1 (do_enters hf) HDO
          · have h1' : (l == (q.length : Int)) = false := by simpa using h1
            have h2 : (l == -1) = true := by unfold fitsB at hfit; rw [h1'] at hfit; simp at hfit; simpa using hfit.1
            by_cases h3 : (n != 46) = true
            · exact answer_no2 hn h hF.byt hf h1' h2 h3 (do_enters hf) HDO
            · have h3' : (n != 46) = false := by simpa using h3
              exact answer_no3 hn h hF.byt hf h1' h2 h3' (by unfold fitsB at hfit; rw [h1', h3'] at hfit; simp at hfit; simpa using hfit.2) (do_enters hf) HDO
        | inr b =>
          simp only []
          have hb := do_len hF hr
          by_cases h1 : (l == (q.length : Int)) = true
          · exact answer_yes1 hn h hF.byt hf h1 (do_enters hf) HDO hb
          · have h1' : (l == (q.length : Int)) = false := by simpa using h1
            have h2 : (l == -1) = true := by unfold fitsB at hfit; rw [h1'] at hfit; simp at hfit; simpa using hfit.1
            by_cases h3 : (n != 46) = true
            · exact answer_yes2 hn h hF.byt hf h1' h2 h3 (do_enters hf) HDO hb
            · have h3' : (n != 46) = false := by simpa using h3
              exact answer_yes3 hn h hF.byt hf h1' h2 h3' (by unfold fitsB at hfit; rw [h1', h3'] at hfit; simp at hfit; simpa using hfit.2) (do_enters hf) HDO hb
    · rw [if_neg hfit]
      have hfit' : fitsB n q l = false := by simpa using hfit
      unfold fitsB at hfit'
      have h1 : (l == (q.length : Int)) = false := by
        cases h1 : (l == (q.length : Int)) with
        | false => rfl
        | true => rw [h1] at hfit'; cases hfit'
      by_cases h2 : (l == -1) = true
      · rw [h1, h2] at hfit'
        have h3 : (n != 46) = false := by
          cases h3 : (n != 46) with
          | false => rfl
          | true => rw [h3] at hfit'; cases hfit'
        rw [h3] at hfit'
        exact answer_long2 hn h hF.byt hf h1 h2 h3 (by simpa using hfit')
      · exact answer_long1 hn h hF.byt hf h1 (by simpa using h2)
end Go.Proofs.Ph
/- diag: Ask. No condition. -/
namespace Go.Proofs.Ph
open Go Go.RowKit Go.Proofs.YthjnlggommennaaW.PrintWords
attribute [local go_sem ↓] Go.wp_at_zero Go.wp_at_succ
/-- A server's value. -/
def srv (s : S25) (vi vd : Value) : Value := .agg #[.int .i64 s.f0, .bool s.f1, .int .i64 s.f2, .int .i64 s.f3, .int .i64 s.f4, .int .i64 s.f5, .int .i64 s.f6, vi, vd]
/-- It reads as s. -/
def RdS (w : World) (ok : Nat → Prop) (v : Value) (s : S25) : Prop := ∃ vi vd, v = srv s vi vd ∧ RdF k47 w ok vi s.f7 ∧ RdF k161 w ok vd s.f8
def hands (n : Int) : Bool := n == 52 || n == 54 || n == 55
def quiet0 (s : S25) : S25 := { s with f4 := 0 }
def mAsk (s : S25) (q : List Int) : S25 × List Int × Bool :=
  if q.length = 0 then (s, [], false)
  else if ((mAnswer (q.getD 0 0) (quiet0 s) (q.drop 1)).2.getD 0 0 != 127 && hands (q.getD 0 0)) = true then ((mAnswer (q.getD 0 0) (quiet0 s) (q.drop 1)).1, [], true)
  else ((mAnswer (q.getD 0 0) (quiet0 s) (q.drop 1)).1, (mAnswer (q.getD 0 0) (quiet0 s) (q.drop 1)).2, false)
def AskPost (w : World) (P : Nat → Prop) (r : S25 × List Int × Bool) (e : Ending) (w' : World) : Prop :=
  ∃ vs vb, e = .returned (.tuple #[vs, vb, .bool r.2.2]) ∧ RdS w' (Now w P) vs r.1 ∧ RdF kb w' (Now w P) vb r.2.1 ∧ Fr (fun _ => False) w w'
theorem put9 {w : World} {b t : Nat} {a0 v0 a1 v1 a2 v2 a3 v3 a4 v4 a5 v5 a6 v6 a7 v7 a8 v8 : Value} (h : w.heap[b]? = some (.cells #[a0, a1, a2, a3, a4, a5, a6, a7, a8] t (0, 0))) : (((((((((w.setCell ⟨b, 0, none⟩ v0).setCell ⟨b, 1, none⟩ v1).setCell ⟨b, 2, none⟩ v2).setCell ⟨b, 3, none⟩ v3).setCell ⟨b, 4, none⟩ v4).setCell ⟨b, 5, none⟩ v5).setCell ⟨b, 6, none⟩ v6).setCell ⟨b, 7, none⟩ v7).setCell ⟨b, 8, none⟩ v8).heap[b]? = some (.cells #[v0, v1, v2, v3, v4, v5, v6, v7, v8] t (0, 0)) := by
  have h := blk_set h 0 v0
  simp only [List.setIfInBounds_toArray, List.set_cons_zero, List.set_cons_succ] at h
  have h := blk_set h 1 v1
  simp only [List.setIfInBounds_toArray, List.set_cons_zero, List.set_cons_succ] at h
  have h := blk_set h 2 v2
  simp only [List.setIfInBounds_toArray, List.set_cons_zero, List.set_cons_succ] at h
  have h := blk_set h 3 v3
  simp only [List.setIfInBounds_toArray, List.set_cons_zero, List.set_cons_succ] at h
  have h := blk_set h 4 v4
  simp only [List.setIfInBounds_toArray, List.set_cons_zero, List.set_cons_succ] at h
  have h := blk_set h 5 v5
  simp only [List.setIfInBounds_toArray, List.set_cons_zero, List.set_cons_succ] at h
  have h := blk_set h 6 v6
  simp only [List.setIfInBounds_toArray, List.set_cons_zero, List.set_cons_succ] at h
  have h := blk_set h 7 v7
  simp only [List.setIfInBounds_toArray, List.set_cons_zero, List.set_cons_succ] at h
  have h := blk_set h 8 v8
  simp only [List.setIfInBounds_toArray, List.set_cons_zero, List.set_cons_succ] at h
  exact h
theorem mAnswer_pos (n : Int) (s : S25) (q : List Int) : 0 < (mAnswer n s q).2.length := by
  unfold mAnswer
  split
  · simp
  · split
    · split <;> simp
    · simp
section
variable {w : World} {P : Nat → Prop} {s : S25} {vi vd vq : Value} {q : List Int}
set_option maxRecDepth 100000 in
set_option maxHeartbeats 2000000 in
theorem ask_none (hi : RdF k47 w P vi s.f7) (hd : RdF k161 w P vd s.f8) (hq : RdF kb w P vq q) (h0 : q.length = 0) : Calls Try.prog 41 #[srv s vi vd, vq] w (AskPost w P (s, [], false)) := by
  obtain ⟨A, c, ev, -, -⟩ := hq
  subst ev
  have HI := Aside0.mk hi
  have HD := Aside0.mk hd
  obtain ⟨Ai, ci, ei, -, -⟩ := hi
  subst ei
  obtain ⟨Ad, cd, ed, -, -⟩ := hd
  subst ed
  unfold srv
  rw [h0]
  have HZ := Aside0.mk h0
  clear h0
  go_enter Try.func41, Try.ntmps41
  go_wp2
  refine bodyPost_ret (results_ctt rfl _ _ (w.heap.size + 1) 25 _ (0, 0) _ rfl (blk_new' (by show _ = (Array.push _ _).size; rw [Array.size_push])) Try.underlying25 rfl (by kernel_rfl)) rfl ?_
  have hf : ∀ o1 o2, Fr (fun _ => False) w ((w.alloc o1).alloc o2) := fun o1 o2 => ((Fr.refl _ w).alloc o1).alloc o2
  exact ⟨_, _, rfl, ⟨_, _, rfl, (HI.out.step (fun k hk hlt => (hf _ _).block k hlt (fun h => h))).mono (fun k hk => .inl hk), (HD.out.step (fun k hk hlt => (hf _ _).block k hlt (fun h => h))).mono (fun k hk => .inl hk)⟩, RdF.nil _ _ _, hf _ _⟩

set_option maxRecDepth 100000 in
set_option maxHeartbeats 2000000 in
theorem ask_some (hi : RdF k47 w P vi s.f7) (hd : RdF k161 w P vd s.f8) (hq : RdF kb w P vq q) (h0 : 0 < q.length) (hF : Fine s q) : Calls Try.prog 41 #[srv s vi vd, vq] w (AskPost w P (mAsk s q)) := by
  obtain ⟨A, c, ev, -, -⟩ := hq.now
  subst ev
  have HI := Aside0.mk hi
  have HD := Aside0.mk hd
  have HQ := Aside0.mk hq
  obtain ⟨Ai, ci, ei, -, -⟩ := hi
  subst ei
  obtain ⟨Ad, cd, ed, -, -⟩ := hd
  subst ed
  obtain ⟨A', hcut, hR⟩ := cut_from HQ.out 1 1 rfl h0
  have HR := Aside0.mk hR
  obtain ⟨ad, ea, hb⟩ := rd_at HQ.out.now 0 h0
  subst ea
  have hb' : w.cell? ad = some (.int .u8 (q.getD 0 0)) := by have := hb; rwa [show ad.add 0 = ad by simp [Addr.add]] at this
  clear hb
  obtain ⟨n, en⟩ : ∃ n, n = q.getD 0 0 := ⟨_, rfl⟩
  have hn := hF.byt.at 0
  unfold mAsk
  rw [if_neg (by omega)]
  rw [← en] at hb' hn ⊢
  have hq' : (0 : Int) < (q.length : Int) := by omega
  have hne : ((q.length : Int) == 0) = false := beq_eq_false_iff_ne.mpr (by omega)
  have HN := Aside0.mk hn
  have HFi := Aside0.mk hF
  obtain ⟨b, eb⟩ : ∃ b, b = ((mAnswer n (quiet0 s) (q.drop 1)).2.getD 0 0 != 127 && hands n) := ⟨_, rfl⟩
  rw [← eb]
  obtain ⟨r, er⟩ : ∃ r, r = (if b = true then ((mAnswer n (quiet0 s) (q.drop 1)).1, [], true) else ((mAnswer n (quiet0 s) (q.drop 1)).1, (mAnswer n (quiet0 s) (q.drop 1)).2, false)) := ⟨_, rfl⟩
  rw [← er]
  have ER := Aside0.mk er
  have EB := Aside0.mk eb
  unfold srv
  clear hR hq hn hF en er eb
  go_enter Try.func41, Try.ntmps41
  go_wp2
  generalize hw2 : World.alloc _ _ = w2
  have hf2 : Fr (fun _ => False) w w2 := by subst hw2; exact ((Fr.refl _ w).alloc _).alloc _
  have hb1 : w2.heap[w.heap.size]? = some (.cells #[.int .i64 s.f0, .bool s.f1, .int .i64 s.f2, .int .i64 s.f3, .int .i64 0, .int .i64 s.f5, .int .i64 s.f6, .slice Ai s.f7.length ci, .slice Ad s.f8.length cd] 25 (0, 0)) := by subst hw2; exact blk_alloc (blk_new w _) _
  have hb2 : w2.heap[w.heap.size + 1]? = some (.cells #[.int .i64 0, .bool false, .int .i64 0, .int .i64 0, .int .i64 0, .int .i64 0, .int .i64 0, .slice none 0 0, .slice none 0 0] 25 (0, 0)) := by subst hw2; exact blk_new' (by show _ = (Array.push _ _).size; rw [Array.size_push])
  have d0 : w2.cell? ⟨w.heap.size, 0, none⟩ = some (.int .i64 s.f0) := (blk_cell hb1 0).trans rfl
  have d1 : w2.cell? ⟨w.heap.size, 1, none⟩ = some (.bool s.f1) := (blk_cell hb1 1).trans rfl
  have d2 : w2.cell? ⟨w.heap.size, 2, none⟩ = some (.int .i64 s.f2) := (blk_cell hb1 2).trans rfl
  have d3 : w2.cell? ⟨w.heap.size, 3, none⟩ = some (.int .i64 s.f3) := (blk_cell hb1 3).trans rfl
  have d4 : w2.cell? ⟨w.heap.size, 4, none⟩ = some (.int .i64 0) := (blk_cell hb1 4).trans rfl
  have d5 : w2.cell? ⟨w.heap.size, 5, none⟩ = some (.int .i64 s.f5) := (blk_cell hb1 5).trans rfl
  have d6 : w2.cell? ⟨w.heap.size, 6, none⟩ = some (.int .i64 s.f6) := (blk_cell hb1 6).trans rfl
  have d7 : w2.cell? ⟨w.heap.size, 7, none⟩ = some (.slice Ai s.f7.length ci) := (blk_cell hb1 7).trans rfl
  have d8 : w2.cell? ⟨w.heap.size, 8, none⟩ = some (.slice Ad s.f8.length cd) := (blk_cell hb1 8).trans rfl
  have HB2 := Aside0.mk hb2
  have hlt2 := blk_lt hb2
  clear hw2 hb1 hb2
  go_region_held3 (fun w' => w'.cell? ⟨w.heap.size, 0, none⟩ = some (.int .i64 s.f0) ∧ w'.cell? ⟨w.heap.size, 1, none⟩ = some (.bool s.f1) ∧ w'.cell? ⟨w.heap.size, 2, none⟩ = some (.int .i64 s.f2) ∧ w'.cell? ⟨w.heap.size, 3, none⟩ = some (.int .i64 s.f3) ∧ w'.cell? ⟨w.heap.size, 4, none⟩ = some (.int .i64 0) ∧ w'.cell? ⟨w.heap.size, 5, none⟩ = some (.int .i64 s.f5) ∧ w'.cell? ⟨w.heap.size, 6, none⟩ = some (.int .i64 s.f6) ∧ w'.cell? ⟨w.heap.size, 7, none⟩ = some (.slice Ai s.f7.length ci) ∧ w'.cell? ⟨w.heap.size, 8, none⟩ = some (.slice Ad s.f8.length cd)) (refine ⟨Fr.cellA (w := w2) ?_ d0, Fr.cellA (w := w2) ?_ d1, Fr.cellA (w := w2) ?_ d2, Fr.cellA (w := w2) ?_ d3, Fr.cellA (w := w2) ?_ d4, Fr.cellA (w := w2) ?_ d5, Fr.cellA (w := w2) ?_ d6, Fr.cellA (w := w2) ?_ d7, Fr.cellA (w := w2) ?_ d8⟩ <;> (repeat (first | exact Fr.refl _ _ | refine Fr.alloc ?_ _ | refine Fr.drew ?_))) (fail)
  rename_i hHeld
  clear hHeld d0 d1 d2 d3 d4 d5 d6 d7 d8
  generalize hw3 : World.drew _ = w3
  have hf3 : Fr (fun _ => False) w2 w3 := by subst hw3; exact ((Fr.refl _ w2).alloc _).drew
  have hx3 : XB w3 w2.heap.size (quiet0 s) (.slice Ai s.f7.length ci) (.slice Ad s.f8.length cd) (.slice A' (q.length - 1) (c - 1)) := by subst hw3; exact blk_new w2 _
  have hF3 : Fr (fun _ => False) w w3 := hf2.trans hf3 (fun _ h => .inl h)
  have hPre : MPre w3 w2.heap.size (fun k => P k ∧ k < w.heap.size) (quiet0 s) (.slice Ai s.f7.length ci) (.slice Ad s.f8.length cd) (.slice A' (q.length - 1) (c - 1)) (q.drop 1) :=
    ⟨hx3, HI.out.bound.step (fun k hk hlt => hF3.block k hlt (fun h => h)), HD.out.bound.step (fun k hk hlt => hF3.block k hlt (fun h => h)), HR.out.bound.step (fun k hk hlt => hF3.block k hlt (fun h => h)), fun h => by have := h.2; omega⟩
  have hF1 : Fine (quiet0 s) (q.drop 1) := ⟨HFi.out.wrong, HFi.out.items, HFi.out.data, HFi.out.dtc, by rw [List.length_drop]; have := HFi.out.len; omega, fun x hx => HFi.out.byt x (List.drop_subset 1 q hx)⟩
  have AC := Aside0.mk (answer_calls HN.out hPre hF1)
  have hpos := mAnswer_pos n (quiet0 s) (q.drop 1)
  obtain ⟨s4, es4⟩ : ∃ s4, s4 = (mAnswer n (quiet0 s) (q.drop 1)).1 := ⟨_, rfl⟩
  obtain ⟨l4, el4⟩ : ∃ l4, l4 = (mAnswer n (quiet0 s) (q.drop 1)).2 := ⟨_, rfl⟩
  rw [← es4, ← el4] at AC
  rw [← el4] at hpos
  rw [← es4, ← el4] at ER
  rw [← el4] at EB
  have hlt3 := blk_lt hx3
  have hadb := World.block_lt_of_cell? w _ hb'
  have hs2 := hf2.size
  replace hb' := hF3.cellA hb'
  obtain ⟨m, em⟩ : ∃ m, m = l4.getD 0 0 := ⟨_, rfl⟩
  rw [← em] at EB
  have EM := Aside0.mk em
  have hcase : ((m != 127) = false ∧ Aside0 (b = false)) ∨ ((m != 127) = true ∧ (n == 52) = true ∧ Aside0 (b = true)) ∨ ((m != 127) = true ∧ (n == 52) = false ∧ (n == 54) = true ∧ Aside0 (b = true)) ∨ ((m != 127) = true ∧ (n == 52) = false ∧ (n == 54) = false ∧ (n == 55) = true ∧ Aside0 (b = true)) ∨ ((m != 127) = true ∧ (n == 52) = false ∧ (n == 54) = false ∧ (n == 55) = false ∧ Aside0 (b = false)) := by
    have hb := EB.out
    unfold hands at hb
    cases h1 : (m != 127) <;> cases h2 : (n == 52) <;> cases h3 : (n == 54) <;> cases h4 : (n == 55) <;> rw [h1, h2, h3, h4] at hb <;> simp [hb] <;> exact ⟨trivial⟩
  have hpi : (0 : Int) < (l4.length : Int) := by omega
  have HPOS := Aside0.mk hpos
  clear hw3 es4 el4 hPre hF1 hx3 em hpos
  rcases hcase with ⟨h1, hbv⟩ | ⟨h1, h2, hbv⟩ | ⟨h1, h2, h3, hbv⟩ | ⟨h1, h2, h3, h4, hbv⟩ | ⟨h1, h2, h3, h4, hbv⟩
  all_goals
    go_wp2_with (go_at_call 82; refine AC.out.mono ?_; rintro e w4 ⟨⟨v4, rfl, hv4⟩, hf4, vi4, vd4, hx4, hi4, hd4⟩; obtain ⟨A4, c4, ev4, -, -⟩ := hv4.now; subst ev4; obtain ⟨ad4, ea4, hc4⟩ := rd_at hv4.now 0 HPOS.out; subst ea4; (rw [show ad4.add 0 = ad4 by simp [Addr.add], ← EM.out] at hc4); have HI4 := Aside0.mk hi4; have HD4 := Aside0.mk hd4; obtain ⟨Ai4, ci4, ei4, -, -⟩ := hi4; subst ei4; obtain ⟨Ad4, cd4, ed4, -, -⟩ := hd4; subst ed4; have hb24 := hf4.blk (hf3.blk HB2.out (fun h => h)) (show ¬ _ = _ by omega); have hb'4 := (World.cell?_of_block (w := w3) (hf4.block ad.block (World.block_lt_of_cell? _ _ hb') (show ¬ ad.block = w2.heap.size by omega))).trans hb'; have x0 : w4.cell? ⟨w2.heap.size, 0, none⟩ = some (.int .i64 s4.f0) := (blk_cell hx4 0).trans rfl; have x1 : w4.cell? ⟨w2.heap.size, 1, none⟩ = some (.bool s4.f1) := (blk_cell hx4 1).trans rfl; have x2 : w4.cell? ⟨w2.heap.size, 2, none⟩ = some (.int .i64 s4.f2) := (blk_cell hx4 2).trans rfl; have x3 : w4.cell? ⟨w2.heap.size, 3, none⟩ = some (.int .i64 s4.f3) := (blk_cell hx4 3).trans rfl; have x4 : w4.cell? ⟨w2.heap.size, 4, none⟩ = some (.int .i64 s4.f4) := (blk_cell hx4 4).trans rfl; have x5 : w4.cell? ⟨w2.heap.size, 5, none⟩ = some (.int .i64 s4.f5) := (blk_cell hx4 5).trans rfl; have x6 : w4.cell? ⟨w2.heap.size, 6, none⟩ = some (.int .i64 s4.f6) := (blk_cell hx4 6).trans rfl; have x7 : w4.cell? ⟨w2.heap.size, 7, none⟩ = some (.slice Ai4 s4.f7.length ci4) := (blk_cell hx4 7).trans rfl; have x8 : w4.cell? ⟨w2.heap.size, 8, none⟩ = some (.slice Ad4 s4.f8.length cd4) := (blk_cell hx4 8).trans rfl; have y0 : w4.cell? ⟨w.heap.size + 1, 0, none⟩ = some (.int .i64 0) := (blk_cell hb24 0).trans rfl; have z0 := blk_frozen hb24 0; have y1 : w4.cell? ⟨w.heap.size + 1, 1, none⟩ = some (.bool false) := (blk_cell hb24 1).trans rfl; have z1 := blk_frozen hb24 1; have y2 : w4.cell? ⟨w.heap.size + 1, 2, none⟩ = some (.int .i64 0) := (blk_cell hb24 2).trans rfl; have z2 := blk_frozen hb24 2; have y3 : w4.cell? ⟨w.heap.size + 1, 3, none⟩ = some (.int .i64 0) := (blk_cell hb24 3).trans rfl; have z3 := blk_frozen hb24 3; have y4 : w4.cell? ⟨w.heap.size + 1, 4, none⟩ = some (.int .i64 0) := (blk_cell hb24 4).trans rfl; have z4 := blk_frozen hb24 4; have y5 : w4.cell? ⟨w.heap.size + 1, 5, none⟩ = some (.int .i64 0) := (blk_cell hb24 5).trans rfl; have z5 := blk_frozen hb24 5; have y6 : w4.cell? ⟨w.heap.size + 1, 6, none⟩ = some (.int .i64 0) := (blk_cell hb24 6).trans rfl; have z6 := blk_frozen hb24 6; have y7 : w4.cell? ⟨w.heap.size + 1, 7, none⟩ = some (.slice none 0 0) := (blk_cell hb24 7).trans rfl; have z7 := blk_frozen hb24 7; have y8 : w4.cell? ⟨w.heap.size + 1, 8, none⟩ = some (.slice none 0 0) := (blk_cell hb24 8).trans rfl; have z8 := blk_frozen hb24 8;  have HV4 := Aside0.mk hv4)
    generalize hW : World.setCell _ _ _ = W
    have hfW : Fr (fun i => i = w.heap.size + 1) w4 W := by subst hW; exact ((((((((((Fr.refl (fun k => k = w.heap.size + 1) w4).setG 0 _).setG 1 _).setG 2 _).setG 3 _).setG 4 _).setG 5 _).setG 6 _).setG 7 _).setG 8 _)
    have hbW : W.heap[w.heap.size + 1]? = some (.cells #[.int .i64 s4.f0, .bool s4.f1, .int .i64 s4.f2, .int .i64 s4.f3, .int .i64 s4.f4, .int .i64 s4.f5, .int .i64 s4.f6, .slice Ai4 s4.f7.length ci4, .slice Ad4 s4.f8.length cd4] 25 (0, 0)) := by subst hW; exact put9 hb24
    have hnW : ∀ k, Now w3 (fun k => P k ∧ k < w.heap.size) k → k < w4.heap.size → ¬ k = w.heap.size + 1 := fun k hk _ => by rcases hk with hk | hk <;> omega
    have hs3 := hF3.size
    have hs4 := hf4.size
    have hFW : Fr (fun _ => False) w W := Fr.trans (S := fun _ => False) (Fr.trans (S := fun _ => False) hF3 hf4 (fun i hi => .inr (hi ▸ hs2))) hfW (fun i hi => .inr (by omega))
    have hNN : ∀ k, Now w3 (fun k => P k ∧ k < w.heap.size) k → Now w P k := fun k hk => by rcases hk with hk | hk; exact .inl hk.1; exact .inr (by omega)
    refine bodyPost_ret (results_ctt rfl _ _ (w.heap.size + 1) 25 _ (0, 0) _ rfl hbW Try.underlying25 rfl (by kernel_rfl)) rfl ?_
    rw [ER.out, hbv.out]
    first | exact ⟨_, _, rfl, ⟨_, _, rfl, (HI4.out.fr hfW hnW).mono hNN, (HD4.out.fr hfW hnW).mono hNN⟩, (HV4.out.fr hfW hnW).mono hNN, hFW⟩ | exact ⟨_, _, rfl, ⟨_, _, rfl, (HI4.out.fr hfW hnW).mono hNN, (HD4.out.fr hfW hnW).mono hNN⟩, RdF.nil _ _ _, hFW⟩
theorem ask_calls {vs : Value} (hs : RdS w P vs s) (hq : RdF kb w P vq q) (hF : Fine s q) : Calls Try.prog 41 #[vs, vq] w (AskPost w P (mAsk s q)) := by
  obtain ⟨vi, vd, rfl, hi, hd⟩ := hs
  rcases Nat.eq_zero_or_pos q.length with h0 | h0
  · have := ask_none hi hd hq h0
    unfold mAsk
    rw [if_pos h0]
    exact this
  · exact ask_some hi hd hq h0 hF
end
end Go.Proofs.Ph
/- Fresh servers; ticks. No condition. -/
namespace Go.Proofs.Ph
open Go Go.RowKit Go.Proofs.YthjnlggommennaaW.PrintWords
def low (n : Int) : Int := bits BinOp.and IntKind.i64 n 4294967295
def mNew (secret draw : Int) (l : List S47) : S25 := ⟨1, false, -1, 0, 0, low draw, low secret, l, []⟩
/-- What a call that makes a server leaves. -/
def RetS (w : World) (P : Nat → Prop) (s : S25) (e : Ending) (w' : World) : Prop := ∃ v, e = .returned v ∧ RdS w' (Now w P) v s ∧ Fr (fun _ => False) w w'
/-- The same, of no new rows. -/
def RetP (w : World) (P : Nat → Prop) (s : S25) (e : Ending) (w' : World) : Prop := ∃ v, e = .returned v ∧ RdS w' P v s ∧ Fr (fun _ => False) w w'
theorem low_calls (n : Int) (w : World) : Calls Try.prog 79 #[.int .i64 n] w fun e w' => e = .returned (.int .i64 (low n)) ∧ w = w' := by
  go_enter Try.func79, Try.ntmps79
  go_wp2
  go_ret
  exact ⟨rfl, rfl⟩
section
variable {w : World} {P : Nat → Prop}
set_option maxHeartbeats 1000000 in
theorem new_calls (a b : Int) {v : Value} {l : List S47} (hv : RdF k47 w P v l) : Calls Try.prog 35 #[.int .i64 a, .int .i64 b, v] w (RetS w P (mNew a b l)) := by
  have HV := Aside0.mk hv
  obtain ⟨A, c, ev, -, -⟩ := hv
  subst ev
  go_enter Try.func35, Try.ntmps35
  go_wp2
  generalize hW : World.alloc _ _ = W
  have hf : Fr (fun _ => False) w W := by subst hW; exact (Fr.refl _ w).alloc _
  have hb : W.heap[w.heap.size]? = some (.cells #[.int .i64 1, .bool false, .int .i64 (-1), .int .i64 0, .int .i64 0, .int .i64 (low b), .int .i64 (low a), .slice A l.length c, .slice none 0 0] 25 (0, 0)) := by subst hW; exact blk_new w _
  refine bodyPost_ret (results_cell_row rfl _ _ w.heap.size 25 _ (0, 0) _ rfl hb Try.underlying25 rfl (by kernel_rfl)) rfl ?_
  exact ⟨_, rfl, ⟨_, _, rfl, (HV.out.step (fun k hk hlt => hf.block k hlt (fun h => h))).mono (fun k hk => .inl hk), RdF.nil _ _ _⟩, hf⟩
set_option maxHeartbeats 1000000 in
theorem rnew_calls (a b : Int) {v : Value} {l : List S47} (hv : RdF k47 w P v l) : Calls Try.prog 36 #[.int .i64 a, .int .i64 b, v] w (RetS w P (mNew a b l)) := by
  have HV := Aside0.mk hv
  obtain ⟨A, c, ev, -, -⟩ := hv
  subst ev
  go_enter Try.func36, Try.ntmps36
  go_wp2_with (go_at_call 79; refine (low_calls _ _).mono ?_; rintro e w' ⟨rfl, rfl⟩)
  generalize hW : World.alloc _ _ = W
  have hf : Fr (fun _ => False) w W := by subst hW; exact (Fr.refl _ w).alloc _
  have hb : W.heap[w.heap.size]? = some (.cells #[.int .i64 1, .bool false, .int .i64 (-1), .int .i64 0, .int .i64 0, .int .i64 (low b), .int .i64 (low a), .slice A l.length c, .slice none 0 0] 25 (0, 0)) := by subst hW; exact blk_new w _
  refine bodyPost_ret (results_cell_row rfl _ _ w.heap.size 25 _ (0, 0) _ rfl hb Try.underlying25 rfl (by kernel_rfl)) rfl ?_
  exact ⟨_, rfl, ⟨_, _, rfl, (HV.out.step (fun k hk hlt => hf.block k hlt (fun h => h))).mono (fun k hk => .inl hk), RdF.nil _ _ _⟩, hf⟩
/-- One tick. -/
def tickA (s : S25) : S25 := { s with f4 := if s.f4 < 51 then s.f4 + 1 else 51 }
def tickB (s : S25) : S25 := if 50 < s.f4 then { s with f0 := 1, f1 := false, f2 := -1 } else s
def tickC (s : S25) : S25 := if 2 < s.f3 then { s with f3 := if s.f3 = 3 then 0 else s.f3 - 1 } else s
def tick (s : S25) : S25 := tickC (tickB (tickA s))
theorem tick_f7 (s : S25) : (tick s).f7 = s.f7 := by
  unfold tick tickC tickB tickA
  simp only []
  repeat' split
  all_goals rfl
theorem tick_f8 (s : S25) : (tick s).f8 = s.f8 := by
  unfold tick tickC tickB tickA
  simp only []
  repeat' split
  all_goals rfl
theorem tick_range {s : S25} (h0 : 0 ≤ s.f4 ∧ s.f4 ≤ 51) (h1 : 0 ≤ s.f3 ∧ s.f3 ≤ 12) : (0 ≤ (tick s).f4 ∧ (tick s).f4 ≤ 51) ∧ 0 ≤ (tick s).f3 ∧ (tick s).f3 ≤ 12 := by
  unfold tick tickC tickB tickA
  simp only []
  repeat' split
  all_goals (try dsimp only at *)
  all_goals omega
set_option maxRecDepth 100000 in
set_option maxHeartbeats 2000000 in
theorem rtick_calls {s : S25} {vs : Value} (hs : RdS w P vs s) (h0 : 0 ≤ s.f4 ∧ s.f4 ≤ 51) (h1 : 0 ≤ s.f3 ∧ s.f3 ≤ 12) : Calls Try.prog 81 #[vs] w (RetP w P (tick s)) := by
  obtain ⟨vi, vd, rfl, hi, hd⟩ := hs
  have HI := Aside0.mk hi
  have HD := Aside0.mk hd
  obtain ⟨Ai, ci, ei, -, -⟩ := hi
  obtain ⟨Ad, cd, ed, -, -⟩ := hd
  subst ei ed
  obtain ⟨f0, f1, f2, f3, f4, f5, f6, f7, f8⟩ := s
  simp only at h0 h1 HI HD
  obtain ⟨h0a, h0b⟩ := h0
  obtain ⟨h1a, h1b⟩ := h1
  unfold srv
  have hcase : (f4 ≤ 49 ∧ f3 ≤ 2) ∨ (f4 ≤ 49 ∧ f3 = 3) ∨ (f4 ≤ 49 ∧ 3 < f3) ∨ (f4 = 50 ∧ f3 ≤ 2) ∨ (f4 = 50 ∧ f3 = 3) ∨ (f4 = 50 ∧ 3 < f3) ∨ (f4 = 51 ∧ f3 ≤ 2) ∨ (f4 = 51 ∧ f3 = 3) ∨ (f4 = 51 ∧ 3 < f3) := by omega
  rcases hcase with ⟨ha, hb⟩ | ⟨ha, rfl⟩ | ⟨ha, hb⟩ | ⟨rfl, hb⟩ | ⟨rfl, rfl⟩ | ⟨rfl, hb⟩ | ⟨rfl, hb⟩ | ⟨rfl, rfl⟩ | ⟨rfl, hb⟩
  all_goals
    go_enter Try.func81, Try.ntmps81
    go_wp2
    refine bodyPost_ret (results_cell_row rfl _ _ (w.heap.size + 1) 25 _ (0, 0) _ rfl (blk_new' (by show _ = (Array.push _ _).size; rw [Array.size_push])) Try.underlying25 rfl (by kernel_rfl)) rfl ?_
    have hf : ∀ o1 o2, Fr (fun _ => False) w ((w.alloc o1).alloc o2) := fun o1 o2 => ((Fr.refl _ w).alloc o1).alloc o2
    refine ⟨_, rfl, ⟨.slice Ai f7.length ci, .slice Ad f8.length cd, ?_, ?_, ?_⟩, hf _ _⟩
    · clear hf HI HD
      unfold srv tick tickC tickB tickA
      simp only []
      repeat' split
      all_goals (try dsimp only at *)
      all_goals first | (exfalso; omega) | rfl
    · rw [tick_f7]
      exact (HI.out.step (fun k hk hlt => (hf _ _).block k hlt (fun h => h)))
    · rw [tick_f8]
      exact (HD.out.step (fun k hk hlt => (hf _ _).block k hlt (fun h => h)))
end
end Go.Proofs.Ph
/- Bytes as strings; rows of troubles that are alike. No condition. -/
namespace Go.Proofs.Ph
open Go Go.RowKit Go.Proofs.YthjnlggommennaaW.PrintWords
theorem str_of {w : World} {v : Value} {xs : List Int} (h : Rd kb w v xs) : (convert 31 9 v).run Try.prog w = .ok (.string (strOfNums xs)) w := by
  obtain ⟨A, c, rfl, hl, hC⟩ := h
  exact Kd.C_string Try.underlying31 Try.underlying5 Try.underlying9 hC
set_option maxHeartbeats 1000000 in
theorem same21_calls {w : World} {v1 v2 : Value} {xs : List S161} (h1 : Rd k161 w v1 xs) (h2 : Rd k161 w v2 xs) : Calls Try.prog 80 #[v1, v2] w fun e w' => e = .returned (.bool true) ∧ Fr (fun _ => False) w w' := by
  have hm := h1.max
  obtain ⟨A1, c1, rfl, -, hC1⟩ := h1
  obtain ⟨A2, c2, rfl, -, hC2⟩ := h2
  have HC1 := Aside0.mk hC1
  have HC2 := Aside0.mk hC2
  clear hC1 hC2
  go_enter Try.func80, Try.ntmps80
  go_wp2
  go_loopw [5] (fun t wr => ∃ k : Nat, k ≤ xs.length ∧ t = .int .i64 k ∧ Aside0 (Fr (fun _ => False) w wr)) (fun t _ => xs.length - (intOf t).toNat)
  case atStart => exact ⟨0, Nat.zero_le _, rfl, ⟨Fr.refl _ _⟩⟩
  case round =>
    obtain ⟨k, hk, rfl, hD⟩ := hrel
    by_cases hlt : k < xs.length
    · obtain ⟨ad1, e1, x0, x1, x2, x3⟩ := at_T161 HC1.out (k : Int) (by omega) (by omega)
      obtain ⟨ad2, e2, y0, y1, y2, y3⟩ := at_T161 HC2.out (k : Int) (by omega) (by omega)
      subst e1 e2
      have hb := Fr.below hD.out (fun _ h => h.elim)
      replace x0 := pw_cell_below hb x0
      replace x1 := pw_cell_below hb x1
      replace x2 := pw_cell_below hb x2
      replace x3 := pw_cell_below hb x3
      replace y0 := pw_cell_below hb y0
      replace y1 := pw_cell_below hb y1
      replace y2 := pw_cell_below hb y2
      replace y3 := pw_cell_below hb y3
      rw [show ((k : Int)).toNat = k from rfl] at x0 x1 x2 x3 y0 y1 y2 y3
      obtain ⟨x, ex⟩ : ∃ x, x = rd_T161 xs k := ⟨_, rfl⟩
      rw [← ex] at x0 x1 x2 x3 y0 y1 y2 y3
      have hb1 : (0 : Int) ≤ (k : Int) := by omega
      have hb2 : (k : Int) < (xs.length : Int) := by omega
      clear ex
      go_wp2
      go_quiet (fail)
      go_wp2
      go_roundw
      case rel => exact ⟨k + 1, by omega, by go_num, ⟨hD.out.drewN _⟩⟩
      case measure => simp [intOf]; omega
    · have hn : ¬ ((k : Int) < (xs.length : Int)) := by omega
      go_wp2
      go_ret
      exact ⟨rfl, hD.out⟩
end Go.Proofs.Ph
/- The reference's 'Same' of two servers that are alike. No condition. -/
namespace Go.Proofs.Ph
open Go Go.RowKit Go.Proofs.YthjnlggommennaaW.PrintWords
attribute [local go_sem ↓] Go.wp_at_zero Go.wp_at_succ
set_option maxRecDepth 100000 in
set_option maxHeartbeats 4000000 in
theorem same22_calls {w : World} {P1 P2 : Nat → Prop} {v1 v2 : Value} {s : S25} (h1 : RdS w P1 v1 s) (h2 : RdS w P2 v2 s) : Calls Try.prog 34 #[v1, v2] w fun e w' => e = .returned (.bool true) ∧ Fr (fun _ => False) w w' := by
  obtain ⟨vi1, vd1, rfl, hi1, hd1⟩ := h1
  obtain ⟨vi2, vd2, rfl, hi2, hd2⟩ := h2
  have hm := hi1.now.max
  have HD1 := Aside0.mk hd1.now
  have HD2 := Aside0.mk hd2.now
  obtain ⟨Ad1, cd1, ed1, -, -⟩ := hd1
  obtain ⟨Ad2, cd2, ed2, -, -⟩ := hd2
  subst ed1 ed2
  obtain ⟨Ai1, ci1, ei1, -, hC1⟩ := hi1.now
  obtain ⟨Ai2, ci2, ei2, -, hC2⟩ := hi2.now
  subst ei1 ei2
  have HC1 := Aside0.mk hC1
  have HC2 := Aside0.mk hC2
  unfold srv
  clear hC1 hC2 hi1 hi2
  go_enter Try.func34, Try.ntmps34
  go_wp2
  generalize hw2 : World.alloc _ _ = w2
  have hf2 : Fr (fun _ => False) w w2 := by subst hw2; exact ((Fr.refl _ w).alloc _).alloc _
  have hb1 : w2.heap[w.heap.size]? = some (.cells #[.int .i64 s.f0, .bool s.f1, .int .i64 s.f2, .int .i64 s.f3, .int .i64 s.f4, .int .i64 s.f5, .int .i64 s.f6, .slice Ai1 s.f7.length ci1, .slice Ad1 s.f8.length cd1] 25 (0, 0)) := by subst hw2; exact blk_alloc (blk_new w _) _
  have hb2 : w2.heap[w.heap.size + 1]? = some (.cells #[.int .i64 s.f0, .bool s.f1, .int .i64 s.f2, .int .i64 s.f3, .int .i64 s.f4, .int .i64 s.f5, .int .i64 s.f6, .slice Ai2 s.f7.length ci2, .slice Ad2 s.f8.length cd2] 25 (0, 0)) := by subst hw2; exact blk_new' (by show _ = (Array.push _ _).size; rw [Array.size_push])
  have HB1 := Aside0.mk hb1
  have HB2 := Aside0.mk hb2
  have hlt2 := blk_lt hb2
  clear hw2 hb1 hb2
  go_loopw [5] (fun t wr => ∃ k : Nat, k ≤ s.f7.length ∧ t = .int .i64 k ∧ Aside0 (Fr (fun _ => False) w2 wr)) (fun t _ => s.f7.length - (intOf t).toNat)
  case atStart => exact ⟨0, Nat.zero_le _, rfl, ⟨Fr.refl _ _⟩⟩
  case round =>
    obtain ⟨k, hk, rfl, hD⟩ := hrel
    have c17 : wr.cell? ⟨w.heap.size, 7, none⟩ = some (.slice Ai1 s.f7.length ci1) := hD.out.cellA ((blk_cell HB1.out 7).trans rfl)
    have c27 : wr.cell? ⟨w.heap.size + 1, 7, none⟩ = some (.slice Ai2 s.f7.length ci2) := hD.out.cellA ((blk_cell HB2.out 7).trans rfl)
    by_cases hlt : k < s.f7.length
    · obtain ⟨ad1, A1, c1, e1, x0, x1, x2, hl1, hx1⟩ := at_T47 HC1.out (k : Int) (by omega) (by omega)
      obtain ⟨ad2, A2, c2, e2, y0, y1, y2, hl2, hx2⟩ := at_T47 HC2.out (k : Int) (by omega) (by omega)
      subst e1 e2
      have hF := hf2.trans hD.out (fun _ h => .inl h)
      have hb := Fr.below hF (fun _ h => h.elim)
      replace x0 := pw_cell_below hb x0
      replace x1 := pw_cell_below hb x1
      replace x2 := pw_cell_below hb x2
      replace y0 := pw_cell_below hb y0
      replace y1 := pw_cell_below hb y1
      replace y2 := pw_cell_below hb y2
      rw [show ((k : Int)).toNat = k from rfl] at x0 x1 x2 y0 y1 y2
      obtain ⟨x, ex⟩ : ∃ x, x = rd_T47 s.f7 k := ⟨_, rfl⟩
      rw [← ex] at x0 x1 x2 y0 y1 y2 hl1 hx1 hl2 hx2
      have r1 : Rd kb w (.slice A1 x.f2.length c1) x.f2 := ⟨A1, c1, rfl, hl1, hx1⟩
      have r2 : Rd kb w (.slice A2 x.f2.length c2) x.f2 := ⟨A2, c2, rfl, hl2, hx2⟩
      have s1 : ∀ m, (convert 31 9 (.slice A1 x.f2.length c1)).run Try.prog (wr.drewN m) = .ok (.string (strOfNums x.f2)) (wr.drewN m) := fun m => str_of (r1.below (pw_below_drewN hb m))
      have s2 : ∀ m, (convert 31 9 (.slice A2 x.f2.length c2)).run Try.prog (wr.drewN m) = .ok (.string (strOfNums x.f2)) (wr.drewN m) := fun m => str_of (r2.below (pw_below_drewN hb m))
      have hb1 : (0 : Int) ≤ (k : Int) := by omega
      have hb2 : (k : Int) < (s.f7.length : Int) := by omega
      clear ex hl1 hl2 hx1 hx2 r1 r2
      go_wp2
      go_quiet (fail)
      go_wp2
      go_roundw
      case rel => exact ⟨k + 1, by omega, by go_num, ⟨hD.out.drewN _⟩⟩
      case measure => simp [intOf]; omega
    · have hn : ¬ ((k : Int) < (s.f7.length : Int)) := by omega
      have d10 : wr.cell? ⟨w.heap.size, 0, none⟩ = some (.int .i64 s.f0) := hD.out.cellA ((blk_cell HB1.out 0).trans rfl)
      have d11 : wr.cell? ⟨w.heap.size, 1, none⟩ = some (.bool s.f1) := hD.out.cellA ((blk_cell HB1.out 1).trans rfl)
      have d12 : wr.cell? ⟨w.heap.size, 2, none⟩ = some (.int .i64 s.f2) := hD.out.cellA ((blk_cell HB1.out 2).trans rfl)
      have d13 : wr.cell? ⟨w.heap.size, 3, none⟩ = some (.int .i64 s.f3) := hD.out.cellA ((blk_cell HB1.out 3).trans rfl)
      have d14 : wr.cell? ⟨w.heap.size, 4, none⟩ = some (.int .i64 s.f4) := hD.out.cellA ((blk_cell HB1.out 4).trans rfl)
      have d15 : wr.cell? ⟨w.heap.size, 5, none⟩ = some (.int .i64 s.f5) := hD.out.cellA ((blk_cell HB1.out 5).trans rfl)
      have d16 : wr.cell? ⟨w.heap.size, 6, none⟩ = some (.int .i64 s.f6) := hD.out.cellA ((blk_cell HB1.out 6).trans rfl)
      have d18 : wr.cell? ⟨w.heap.size, 8, none⟩ = some (.slice Ad1 s.f8.length cd1) := hD.out.cellA ((blk_cell HB1.out 8).trans rfl)
      have d20 : wr.cell? ⟨w.heap.size + 1, 0, none⟩ = some (.int .i64 s.f0) := hD.out.cellA ((blk_cell HB2.out 0).trans rfl)
      have d21 : wr.cell? ⟨w.heap.size + 1, 1, none⟩ = some (.bool s.f1) := hD.out.cellA ((blk_cell HB2.out 1).trans rfl)
      have d22 : wr.cell? ⟨w.heap.size + 1, 2, none⟩ = some (.int .i64 s.f2) := hD.out.cellA ((blk_cell HB2.out 2).trans rfl)
      have d23 : wr.cell? ⟨w.heap.size + 1, 3, none⟩ = some (.int .i64 s.f3) := hD.out.cellA ((blk_cell HB2.out 3).trans rfl)
      have d24 : wr.cell? ⟨w.heap.size + 1, 4, none⟩ = some (.int .i64 s.f4) := hD.out.cellA ((blk_cell HB2.out 4).trans rfl)
      have d25 : wr.cell? ⟨w.heap.size + 1, 5, none⟩ = some (.int .i64 s.f5) := hD.out.cellA ((blk_cell HB2.out 5).trans rfl)
      have d26 : wr.cell? ⟨w.heap.size + 1, 6, none⟩ = some (.int .i64 s.f6) := hD.out.cellA ((blk_cell HB2.out 6).trans rfl)
      have d28 : wr.cell? ⟨w.heap.size + 1, 8, none⟩ = some (.slice Ad2 s.f8.length cd2) := hD.out.cellA ((blk_cell HB2.out 8).trans rfl)
      have hF := hf2.trans hD.out (fun _ h => .inl h)
      have hb := Fr.below hF (fun _ h => h.elim)
      have SC := Aside0.mk (same21_calls (HD1.out.below hb) (HD2.out.below hb))
      go_wp2_with (go_at_call 80; refine SC.out.mono ?_; rintro e w5 ⟨rfl, hf5⟩)
      go_ret
      exact ⟨rfl, hF.trans hf5 (fun _ h => .inl h)⟩
end Go.Proofs.Ph
/- Many ticks. No condition. -/
namespace Go.Proofs.Ph
open Go Go.RowKit Go.Proofs.YthjnlggommennaaW.PrintWords
def ticks : Nat → S25 → S25
  | 0, s => s
  | k + 1, s => tick (ticks k s)
theorem ticks_range {s : S25} (h0 : 0 ≤ s.f4 ∧ s.f4 ≤ 51) (h1 : 0 ≤ s.f3 ∧ s.f3 ≤ 12) : ∀ k, (0 ≤ (ticks k s).f4 ∧ (ticks k s).f4 ≤ 51) ∧ 0 ≤ (ticks k s).f3 ∧ (ticks k s).f3 ≤ 12
  | 0 => ⟨h0, h1⟩
  | k + 1 => tick_range (ticks_range h0 h1 k).1 (ticks_range h0 h1 k).2
/-- A server's cells in a block. -/
def SB (w : World) (ok : Nat → Prop) (b : Nat) (s : S25) : Prop := ∃ vi vd, w.heap[b]? = some (.cells #[.int .i64 s.f0, .bool s.f1, .int .i64 s.f2, .int .i64 s.f3, .int .i64 s.f4, .int .i64 s.f5, .int .i64 s.f6, vi, vd] 25 (0, 0)) ∧ RdF k47 w ok vi s.f7 ∧ RdF k161 w ok vd s.f8
section
variable {w : World} {P : Nat → Prop}
set_option maxRecDepth 100000 in
set_option maxHeartbeats 4000000 in
theorem rTick_calls {s : S25} {vs : Value} {n : Int} (hs : RdS w P vs s) (h0 : 0 ≤ s.f4 ∧ s.f4 ≤ 51) (h1 : 0 ≤ s.f3 ∧ s.f3 ≤ 12) : Calls Try.prog 40 #[vs, .int .i64 n] w (RetP w P (ticks (min n.toNat 70) s)) := by
  obtain ⟨vi, vd, rfl, hi, hd⟩ := hs
  have HI := Aside0.mk hi.bound
  have HD := Aside0.mk hd.bound
  obtain ⟨Ai, ci, ei, -, -⟩ := hi
  obtain ⟨Ad, cd, ed, -, -⟩ := hd
  subst ei ed
  have H0 := Aside0.mk h0
  have H1 := Aside0.mk h1
  unfold srv
  obtain ⟨r, er⟩ : ∃ r, r = ticks (min n.toNat 70) s := ⟨_, rfl⟩
  rw [← er]
  have ER := Aside0.mk er
  clear h0 h1 er
  go_enter Try.func40, Try.ntmps40
  go_wp2
  generalize hw2 : World.alloc _ _ = w2
  have hf2 : Fr (fun _ => False) w w2 := by subst hw2; exact ((Fr.refl _ w).alloc _).alloc _
  have hb1 : SB w2 (fun k => P k ∧ k < w.heap.size) w.heap.size s := by subst hw2; exact ⟨_, _, blk_alloc (blk_new w _) _, HI.out.step (fun k hk hlt => (((Fr.refl (fun _ => False) w).alloc _).alloc _).block k hlt (fun h => h)), HD.out.step (fun k hk hlt => (((Fr.refl (fun _ => False) w).alloc _).alloc _).block k hlt (fun h => h))⟩
  have hb2 : w2.heap[w.heap.size + 1]? = some (.cells #[.int .i64 0, .bool false, .int .i64 0, .int .i64 0, .int .i64 0, .int .i64 0, .int .i64 0, .slice none 0 0, .slice none 0 0] 25 (0, 0)) := by subst hw2; exact blk_new' (by show _ = (Array.push _ _).size; rw [Array.size_push])
  have hlt2 := blk_lt hb2
  have HB1 := Aside0.mk hb1
  have HB2 := Aside0.mk hb2
  clear hw2 hb1 hb2
  go_loopw [5] (fun t wr => ∃ k : Nat, k ≤ 70 ∧ (k ≤ n.toNat) ∧ t = .int .i64 k ∧ Aside0 (SB wr (fun k => P k ∧ k < w.heap.size) w.heap.size (ticks k s)) ∧ Aside0 (Fr (fun i => i = w.heap.size) w2 wr)) (fun t _ => 70 - (intOf t).toNat)
  case atStart => exact ⟨0, by omega, by omega, rfl, HB1, ⟨Fr.refl _ _⟩⟩
  case round =>
    obtain ⟨k, hk, hkn, rfl, hS, hD⟩ := hrel
    obtain ⟨s5, es5⟩ : ∃ s5, s5 = ticks k s := ⟨_, rfl⟩
    have hr5 := ticks_range H0.out H1.out k
    rw [← es5] at hS hr5
    have ES5 := Aside0.mk es5
    obtain ⟨vi5, vd5, hb5, hi5, hd5⟩ := hS.out
    have HI5 := Aside0.mk hi5
    have HD5 := Aside0.mk hd5
    obtain ⟨Ai5, ci5, ei5, -, -⟩ := hi5
    obtain ⟨Ad5, cd5, ed5, -, -⟩ := hd5
    subst ei5 ed5
    have HB5 := Aside0.mk hb5
    have hlt5 := blk_lt hb5
    have hb2r := hD.out.blk HB2.out (by show ¬ _ = w.heap.size; omega)
    have d0 : wr.cell? ⟨w.heap.size, 0, none⟩ = some (.int .i64 s5.f0) := (blk_cell hb5 0).trans rfl
    have d1 : wr.cell? ⟨w.heap.size, 1, none⟩ = some (.bool s5.f1) := (blk_cell hb5 1).trans rfl
    have d2 : wr.cell? ⟨w.heap.size, 2, none⟩ = some (.int .i64 s5.f2) := (blk_cell hb5 2).trans rfl
    have d3 : wr.cell? ⟨w.heap.size, 3, none⟩ = some (.int .i64 s5.f3) := (blk_cell hb5 3).trans rfl
    have d4 : wr.cell? ⟨w.heap.size, 4, none⟩ = some (.int .i64 s5.f4) := (blk_cell hb5 4).trans rfl
    have d5 : wr.cell? ⟨w.heap.size, 5, none⟩ = some (.int .i64 s5.f5) := (blk_cell hb5 5).trans rfl
    have d6 : wr.cell? ⟨w.heap.size, 6, none⟩ = some (.int .i64 s5.f6) := (blk_cell hb5 6).trans rfl
    have d7 : wr.cell? ⟨w.heap.size, 7, none⟩ = some (.slice Ai5 s5.f7.length ci5) := (blk_cell hb5 7).trans rfl
    have d8 : wr.cell? ⟨w.heap.size, 8, none⟩ = some (.slice Ad5 s5.f8.length cd5) := (blk_cell hb5 8).trans rfl
    have HB2r := Aside0.mk hb2r
    clear es5 hb5 hS hb2r
    by_cases hlt : (k : Int) < n
    · by_cases hlt2 : k < 70
      · have hb1 : (k : Int) < 70 := by omega
        have TC := Aside0.mk (rtick_calls (P := fun k => P k ∧ k < w.heap.size) (s := s5) (w := wr) ⟨_, _, rfl, HI5.out, HD5.out⟩ hr5.1 hr5.2)
        unfold srv at TC
        obtain ⟨s6, es6⟩ : ∃ s6, s6 = tick s5 := ⟨_, rfl⟩
        rw [← es6] at TC
        have ES6 := Aside0.mk es6
        clear es6 hr5
        go_wp2_with (go_at_call 81; refine TC.out.mono ?_; rintro e w4 ⟨v4, rfl, ⟨vi4, vd4, ev4, hi4, hd4⟩, hf4⟩; (unfold srv at ev4); subst ev4; have hb4 := hf4.blk HB5.out (fun h => h); have HB4 := Aside0.mk hb4; have HI4 := Aside0.mk hi4; have HD4 := Aside0.mk hd4; obtain ⟨Ai4, ci4, ei4, -, -⟩ := hi4; obtain ⟨Ad4, cd4, ed4, -, -⟩ := hd4; subst ei4 ed4; clear d0 d1 d2 d3 d4 d5 d6 d7 d8; have d0 : w4.cell? ⟨w.heap.size, 0, none⟩ = some (.int .i64 s5.f0) := (blk_cell hb4 0).trans rfl; have z0 := blk_frozen hb4 0; have d1 : w4.cell? ⟨w.heap.size, 1, none⟩ = some (.bool s5.f1) := (blk_cell hb4 1).trans rfl; have z1 := blk_frozen hb4 1; have d2 : w4.cell? ⟨w.heap.size, 2, none⟩ = some (.int .i64 s5.f2) := (blk_cell hb4 2).trans rfl; have z2 := blk_frozen hb4 2; have d3 : w4.cell? ⟨w.heap.size, 3, none⟩ = some (.int .i64 s5.f3) := (blk_cell hb4 3).trans rfl; have z3 := blk_frozen hb4 3; have d4 : w4.cell? ⟨w.heap.size, 4, none⟩ = some (.int .i64 s5.f4) := (blk_cell hb4 4).trans rfl; have z4 := blk_frozen hb4 4; have d5 : w4.cell? ⟨w.heap.size, 5, none⟩ = some (.int .i64 s5.f5) := (blk_cell hb4 5).trans rfl; have z5 := blk_frozen hb4 5; have d6 : w4.cell? ⟨w.heap.size, 6, none⟩ = some (.int .i64 s5.f6) := (blk_cell hb4 6).trans rfl; have z6 := blk_frozen hb4 6; have d7 : w4.cell? ⟨w.heap.size, 7, none⟩ = some (.slice Ai5 s5.f7.length ci5) := (blk_cell hb4 7).trans rfl; have z7 := blk_frozen hb4 7; have d8 : w4.cell? ⟨w.heap.size, 8, none⟩ = some (.slice Ad5 s5.f8.length cd5) := (blk_cell hb4 8).trans rfl; have z8 := blk_frozen hb4 8; clear hb4)
        generalize hW : World.setCell _ _ _ = W
        have hfW : Fr (fun i => i = w.heap.size) w4 W := by subst hW; exact ((((((((((Fr.refl (fun i => i = w.heap.size) w4).setG 0 _).setG 1 _).setG 2 _).setG 3 _).setG 4 _).setG 5 _).setG 6 _).setG 7 _).setG 8 _)
        have hbW : W.heap[w.heap.size]? = some (.cells #[.int .i64 s6.f0, .bool s6.f1, .int .i64 s6.f2, .int .i64 s6.f3, .int .i64 s6.f4, .int .i64 s6.f5, .int .i64 s6.f6, .slice Ai4 s6.f7.length ci4, .slice Ad4 s6.f8.length cd4] 25 (0, 0)) := by subst hW; exact put9 HB4.out
        clear hW
        go_wp2
        go_roundw
        case rel => exact ⟨k + 1, by omega, by omega, by go_num, ⟨by show SB W _ _ (tick (ticks k s)); rw [← ES5.out, ← ES6.out]; exact ⟨_, _, hbW, HI4.out.fr hfW (fun k hk _ e => by have := hk.2; omega), HD4.out.fr hfW (fun k hk _ e => by have := hk.2; omega)⟩⟩, ⟨(hD.out.trans hf4 (fun _ h => h.elim)).trans hfW (fun _ h => .inl h)⟩⟩
        case measure => simp [intOf]; omega
      · have hb1 : ¬ (k : Int) < 70 := by omega
        have hrr := Aside0.mk (show r = s5 by rw [ER.out, ES5.out]; congr 1; omega)
        have y0 : wr.cell? ⟨w.heap.size + 1, 0, none⟩ = some (.int .i64 0) := (blk_cell HB2r.out 0).trans rfl
        have z0 := blk_frozen HB2r.out 0
        have y1 : wr.cell? ⟨w.heap.size + 1, 1, none⟩ = some (.bool false) := (blk_cell HB2r.out 1).trans rfl
        have z1 := blk_frozen HB2r.out 1
        have y2 : wr.cell? ⟨w.heap.size + 1, 2, none⟩ = some (.int .i64 0) := (blk_cell HB2r.out 2).trans rfl
        have z2 := blk_frozen HB2r.out 2
        have y3 : wr.cell? ⟨w.heap.size + 1, 3, none⟩ = some (.int .i64 0) := (blk_cell HB2r.out 3).trans rfl
        have z3 := blk_frozen HB2r.out 3
        have y4 : wr.cell? ⟨w.heap.size + 1, 4, none⟩ = some (.int .i64 0) := (blk_cell HB2r.out 4).trans rfl
        have z4 := blk_frozen HB2r.out 4
        have y5 : wr.cell? ⟨w.heap.size + 1, 5, none⟩ = some (.int .i64 0) := (blk_cell HB2r.out 5).trans rfl
        have z5 := blk_frozen HB2r.out 5
        have y6 : wr.cell? ⟨w.heap.size + 1, 6, none⟩ = some (.int .i64 0) := (blk_cell HB2r.out 6).trans rfl
        have z6 := blk_frozen HB2r.out 6
        have y7 : wr.cell? ⟨w.heap.size + 1, 7, none⟩ = some (.slice none 0 0) := (blk_cell HB2r.out 7).trans rfl
        have z7 := blk_frozen HB2r.out 7
        have y8 : wr.cell? ⟨w.heap.size + 1, 8, none⟩ = some (.slice none 0 0) := (blk_cell HB2r.out 8).trans rfl
        have z8 := blk_frozen HB2r.out 8
        go_wp2
        generalize hW : World.setCell _ _ _ = W
        have hfW : Fr (fun i => i = w.heap.size + 1) wr W := by subst hW; exact ((((((((((Fr.refl (fun i => i = w.heap.size + 1) wr).setG 0 _).setG 1 _).setG 2 _).setG 3 _).setG 4 _).setG 5 _).setG 6 _).setG 7 _).setG 8 _)
        have hbW : W.heap[w.heap.size + 1]? = some (.cells #[.int .i64 s5.f0, .bool s5.f1, .int .i64 s5.f2, .int .i64 s5.f3, .int .i64 s5.f4, .int .i64 s5.f5, .int .i64 s5.f6, .slice Ai5 s5.f7.length ci5, .slice Ad5 s5.f8.length cd5] 25 (0, 0)) := by subst hW; exact put9 HB2r.out
        refine bodyPost_ret (results_cell_row rfl _ _ (w.heap.size + 1) 25 _ (0, 0) _ rfl hbW Try.underlying25 rfl (by kernel_rfl)) rfl ?_
        rw [hrr.out]
        exact ⟨_, rfl, ⟨_, _, rfl, (HI5.out.fr hfW (fun k hk _ e => by have := hk.2; omega)).mono (fun k hk => hk.1), (HD5.out.fr hfW (fun k hk _ e => by have := hk.2; omega)).mono (fun k hk => hk.1)⟩, Fr.trans (S := fun _ => False) (Fr.trans (S := fun _ => False) hf2 hD.out (fun i hi => .inr (by omega))) hfW (fun i hi => .inr (by omega))⟩
    · have hrr := Aside0.mk (show r = s5 by rw [ER.out, ES5.out]; congr 1; omega)
      have y0 : wr.cell? ⟨w.heap.size + 1, 0, none⟩ = some (.int .i64 0) := (blk_cell HB2r.out 0).trans rfl
      have z0 := blk_frozen HB2r.out 0
      have y1 : wr.cell? ⟨w.heap.size + 1, 1, none⟩ = some (.bool false) := (blk_cell HB2r.out 1).trans rfl
      have z1 := blk_frozen HB2r.out 1
      have y2 : wr.cell? ⟨w.heap.size + 1, 2, none⟩ = some (.int .i64 0) := (blk_cell HB2r.out 2).trans rfl
      have z2 := blk_frozen HB2r.out 2
      have y3 : wr.cell? ⟨w.heap.size + 1, 3, none⟩ = some (.int .i64 0) := (blk_cell HB2r.out 3).trans rfl
      have z3 := blk_frozen HB2r.out 3
      have y4 : wr.cell? ⟨w.heap.size + 1, 4, none⟩ = some (.int .i64 0) := (blk_cell HB2r.out 4).trans rfl
      have z4 := blk_frozen HB2r.out 4
      have y5 : wr.cell? ⟨w.heap.size + 1, 5, none⟩ = some (.int .i64 0) := (blk_cell HB2r.out 5).trans rfl
      have z5 := blk_frozen HB2r.out 5
      have y6 : wr.cell? ⟨w.heap.size + 1, 6, none⟩ = some (.int .i64 0) := (blk_cell HB2r.out 6).trans rfl
      have z6 := blk_frozen HB2r.out 6
      have y7 : wr.cell? ⟨w.heap.size + 1, 7, none⟩ = some (.slice none 0 0) := (blk_cell HB2r.out 7).trans rfl
      have z7 := blk_frozen HB2r.out 7
      have y8 : wr.cell? ⟨w.heap.size + 1, 8, none⟩ = some (.slice none 0 0) := (blk_cell HB2r.out 8).trans rfl
      have z8 := blk_frozen HB2r.out 8
      go_wp2
      generalize hW : World.setCell _ _ _ = W
      have hfW : Fr (fun i => i = w.heap.size + 1) wr W := by subst hW; exact ((((((((((Fr.refl (fun i => i = w.heap.size + 1) wr).setG 0 _).setG 1 _).setG 2 _).setG 3 _).setG 4 _).setG 5 _).setG 6 _).setG 7 _).setG 8 _)
      have hbW : W.heap[w.heap.size + 1]? = some (.cells #[.int .i64 s5.f0, .bool s5.f1, .int .i64 s5.f2, .int .i64 s5.f3, .int .i64 s5.f4, .int .i64 s5.f5, .int .i64 s5.f6, .slice Ai5 s5.f7.length ci5, .slice Ad5 s5.f8.length cd5] 25 (0, 0)) := by subst hW; exact put9 HB2r.out
      refine bodyPost_ret (results_cell_row rfl _ _ (w.heap.size + 1) 25 _ (0, 0) _ rfl hbW Try.underlying25 rfl (by kernel_rfl)) rfl ?_
      rw [hrr.out]
      exact ⟨_, rfl, ⟨_, _, rfl, (HI5.out.fr hfW (fun k hk _ e => by have := hk.2; omega)).mono (fun k hk => hk.1), (HD5.out.fr hfW (fun k hk _ e => by have := hk.2; omega)).mono (fun k hk => hk.1)⟩, Fr.trans (S := fun _ => False) (Fr.trans (S := fun _ => False) hf2 hD.out (fun i hi => .inr (by omega))) hfW (fun i hi => .inr (by omega))⟩
end
end Go.Proofs.Ph
/- dtc: may a trouble be so? No condition. -/
namespace Go.Proofs.Ph
open Go Go.RowKit Go.Proofs.YthjnlggommennaaW.PrintWords
def hs (t : S161) (b : Int) : Bool := bits BinOp.and IntKind.i64 t.f1 b != 0
/-- A trouble's four cells. -/
structure TC (w : World) (ad : Addr) (t : S161) : Prop where
  c0 : w.cell? ad = some (.int .i64 t.f0)
  c1 : w.cell? ⟨ad.block, ad.off + 1, none⟩ = some (.int .i64 t.f1)
  c2 : w.cell? ⟨ad.block, ad.off + 2, none⟩ = some (.int .i64 t.f2)
  c3 : w.cell? ⟨ad.block, ad.off + 3, none⟩ = some (.int .i64 t.f3)
theorem TC.fr {w w1 : World} {ad : Addr} {t : S161} (h : TC w ad t) (hf : Fr (fun _ => False) w w1) : TC w1 ad t := ⟨hf.cellA h.c0, hf.cellA h.c1, hf.cellA h.c2, hf.cellA h.c3⟩
section
variable {w : World} {ad : Addr} {t : S161}
theorem has_calls (b : Int) (h : TC w ad t) : Calls Try.prog 142 #[.agg #[.pointer (some ad)], .int .i64 b] w fun e w' => e = .returned (.bool (hs t b)) ∧ Fr (fun _ => False) w w' := by
  have c1 := h.c1
  have hlt := World.block_lt_of_cell? w _ c1
  go_enter Try.func142, Try.ntmps142
  go_wp2
  go_ret
  exact ⟨rfl, (Fr.refl _ w).alloc _⟩
/-- May a trouble be so? -/
def tOk (t : S161) : Bool := (t.f0 / 65536 == 0) && (t.f1 / 16 == 0) && (hs t 2 || !hs t 1) && decide (-4 ≤ t.f2) && decide (t.f2 ≤ 4) && decide (0 ≤ t.f3) && decide (t.f3 ≤ 2) && (t.f3 == 0 || hs t 4)
set_option maxRecDepth 100000 in
set_option maxHeartbeats 4000000 in
theorem tOk_a (h : TC w ad t) (hA : (t.f0 / 65536 == 0) = true) (hB : (t.f1 / 16 == 0) = true) (hC : decide (-4 ≤ t.f2) = true) (hD : decide (t.f2 ≤ 4) = true) (hE : decide (0 ≤ t.f3) = true) (hF : decide (t.f3 ≤ 2) = true) (h2 : Aside0 (hs t 2 = true)) (h3 : (t.f3 == 0) = true) : Calls Try.prog 119 #[.agg #[.pointer (some ad)]] w fun e w' => e = .returned (.bool true) ∧ Fr (fun _ => False) w w' := by
  have x0 := h.c0
  have x1 := h.c1
  have x2 := h.c2
  have x3 := h.c3
  have hlt := World.block_lt_of_cell? w _ x0
  have H := Aside0.mk h
  have hf1 := ((Fr.refl (fun _ => False) w).alloc (.cells #[.pointer (some ad)] 168))
  clear h
  obtain ⟨q0, hq0⟩ : ∃ q, t.f0 / 65536 = q := ⟨_, rfl⟩
  obtain ⟨q1, hq1⟩ : ∃ q, t.f1 / 16 = q := ⟨_, rfl⟩
  rw [hq0] at hA
  rw [hq1] at hB
  go_enter Try.func119, Try.ntmps119
  go_wp2_with (first | (go_at_call 142; (with_reducible refine (has_calls 2 (H.out.fr hf1)).mono ?_); rintro e w2 ⟨he, hf2'⟩; rw [h2.out] at he; subst he; have hb2 := hf2'.blk (blk_new w _) (fun h => h); have hlt2 := blk_lt hb2; have y2 : w2.cell? ⟨w.heap.size, 0, none⟩ = some (.pointer (some ad)) := (blk_cell hb2 0).trans rfl; have hf2 : Fr (fun _ => False) (w.alloc (.cells #[.pointer (some ad)] 168)) w2 := hf2'; have T2 := (H.out.fr hf1).fr hf2; have a2 := T2.c0; have b2 := T2.c1; have c2 := T2.c2; have d2 := T2.c3))
  go_ret
  exact ⟨rfl, hf1.trans hf2 (fun _ h => .inl h)⟩
set_option maxRecDepth 100000 in
set_option maxHeartbeats 4000000 in
theorem tOk_b (h : TC w ad t) (hA : (t.f0 / 65536 == 0) = true) (hB : (t.f1 / 16 == 0) = true) (hC : decide (-4 ≤ t.f2) = true) (hD : decide (t.f2 ≤ 4) = true) (hE : decide (0 ≤ t.f3) = true) (hF : decide (t.f3 ≤ 2) = true) (h2 : Aside0 (hs t 2 = true)) (h3 : (t.f3 == 0) = false) (h4 : Aside0 (hs t 4 = true)) : Calls Try.prog 119 #[.agg #[.pointer (some ad)]] w fun e w' => e = .returned (.bool true) ∧ Fr (fun _ => False) w w' := by
  have x0 := h.c0
  have x1 := h.c1
  have x2 := h.c2
  have x3 := h.c3
  have hlt := World.block_lt_of_cell? w _ x0
  have H := Aside0.mk h
  have hf1 := ((Fr.refl (fun _ => False) w).alloc (.cells #[.pointer (some ad)] 168))
  clear h
  obtain ⟨q0, hq0⟩ : ∃ q, t.f0 / 65536 = q := ⟨_, rfl⟩
  obtain ⟨q1, hq1⟩ : ∃ q, t.f1 / 16 = q := ⟨_, rfl⟩
  rw [hq0] at hA
  rw [hq1] at hB
  go_enter Try.func119, Try.ntmps119
  go_wp2_with (first | (go_at_call 142; (with_reducible refine (has_calls 2 (H.out.fr hf1)).mono ?_); rintro e w2 ⟨he, hf2'⟩; rw [h2.out] at he; subst he; have hb2 := hf2'.blk (blk_new w _) (fun h => h); have hlt2 := blk_lt hb2; have y2 : w2.cell? ⟨w.heap.size, 0, none⟩ = some (.pointer (some ad)) := (blk_cell hb2 0).trans rfl; have hf2 : Fr (fun _ => False) (w.alloc (.cells #[.pointer (some ad)] 168)) w2 := hf2'; have T2 := (H.out.fr hf1).fr hf2; have a2 := T2.c0; have b2 := T2.c1; have c2 := T2.c2; have d2 := T2.c3) | (go_at_call 142; (with_reducible refine (has_calls 4 ((H.out.fr hf1).fr hf2)).mono ?_); rintro e w3 ⟨he, hf3'⟩; rw [h4.out] at he; subst he; have hb3 := hf3'.blk hb2 (fun h => h); have hlt3 := blk_lt hb3; have y3 : w3.cell? ⟨w.heap.size, 0, none⟩ = some (.pointer (some ad)) := (blk_cell hb3 0).trans rfl; have hf3 : Fr (fun _ => False) (w.alloc (.cells #[.pointer (some ad)] 168)) w3 := hf2.trans hf3' (fun _ h => .inl h); have T3 := (H.out.fr hf1).fr hf3; have a3 := T3.c0; have b3 := T3.c1; have c3 := T3.c2; have d3 := T3.c3))
  go_ret
  exact ⟨rfl, hf1.trans hf3 (fun _ h => .inl h)⟩
set_option maxRecDepth 100000 in
set_option maxHeartbeats 4000000 in
theorem tOk_c (h : TC w ad t) (hA : (t.f0 / 65536 == 0) = true) (hB : (t.f1 / 16 == 0) = true) (hC : decide (-4 ≤ t.f2) = true) (hD : decide (t.f2 ≤ 4) = true) (hE : decide (0 ≤ t.f3) = true) (hF : decide (t.f3 ≤ 2) = true) (h2 : Aside0 (hs t 2 = false)) (h1 : Aside0 (hs t 1 = false)) (h3 : (t.f3 == 0) = true) : Calls Try.prog 119 #[.agg #[.pointer (some ad)]] w fun e w' => e = .returned (.bool true) ∧ Fr (fun _ => False) w w' := by
  have x0 := h.c0
  have x1 := h.c1
  have x2 := h.c2
  have x3 := h.c3
  have hlt := World.block_lt_of_cell? w _ x0
  have H := Aside0.mk h
  have hf1 := ((Fr.refl (fun _ => False) w).alloc (.cells #[.pointer (some ad)] 168))
  clear h
  obtain ⟨q0, hq0⟩ : ∃ q, t.f0 / 65536 = q := ⟨_, rfl⟩
  obtain ⟨q1, hq1⟩ : ∃ q, t.f1 / 16 = q := ⟨_, rfl⟩
  rw [hq0] at hA
  rw [hq1] at hB
  go_enter Try.func119, Try.ntmps119
  go_wp2_with (first | (go_at_call 142; (with_reducible refine (has_calls 2 (H.out.fr hf1)).mono ?_); rintro e w2 ⟨he, hf2'⟩; rw [h2.out] at he; subst he; have hb2 := hf2'.blk (blk_new w _) (fun h => h); have hlt2 := blk_lt hb2; have y2 : w2.cell? ⟨w.heap.size, 0, none⟩ = some (.pointer (some ad)) := (blk_cell hb2 0).trans rfl; have hf2 : Fr (fun _ => False) (w.alloc (.cells #[.pointer (some ad)] 168)) w2 := hf2'; have T2 := (H.out.fr hf1).fr hf2; have a2 := T2.c0; have b2 := T2.c1; have c2 := T2.c2; have d2 := T2.c3) | (go_at_call 142; (with_reducible refine (has_calls 1 ((H.out.fr hf1).fr hf2)).mono ?_); rintro e w3 ⟨he, hf3'⟩; rw [h1.out] at he; subst he; have hb3 := hf3'.blk hb2 (fun h => h); have hlt3 := blk_lt hb3; have y3 : w3.cell? ⟨w.heap.size, 0, none⟩ = some (.pointer (some ad)) := (blk_cell hb3 0).trans rfl; have hf3 : Fr (fun _ => False) (w.alloc (.cells #[.pointer (some ad)] 168)) w3 := hf2.trans hf3' (fun _ h => .inl h); have T3 := (H.out.fr hf1).fr hf3; have a3 := T3.c0; have b3 := T3.c1; have c3 := T3.c2; have d3 := T3.c3))
  go_ret
  exact ⟨rfl, hf1.trans hf3 (fun _ h => .inl h)⟩
set_option maxRecDepth 100000 in
set_option maxHeartbeats 4000000 in
theorem tOk_d (h : TC w ad t) (hA : (t.f0 / 65536 == 0) = true) (hB : (t.f1 / 16 == 0) = true) (hC : decide (-4 ≤ t.f2) = true) (hD : decide (t.f2 ≤ 4) = true) (hE : decide (0 ≤ t.f3) = true) (hF : decide (t.f3 ≤ 2) = true) (h2 : Aside0 (hs t 2 = false)) (h1 : Aside0 (hs t 1 = false)) (h3 : (t.f3 == 0) = false) (h4 : Aside0 (hs t 4 = true)) : Calls Try.prog 119 #[.agg #[.pointer (some ad)]] w fun e w' => e = .returned (.bool true) ∧ Fr (fun _ => False) w w' := by
  have x0 := h.c0
  have x1 := h.c1
  have x2 := h.c2
  have x3 := h.c3
  have hlt := World.block_lt_of_cell? w _ x0
  have H := Aside0.mk h
  have hf1 := ((Fr.refl (fun _ => False) w).alloc (.cells #[.pointer (some ad)] 168))
  clear h
  obtain ⟨q0, hq0⟩ : ∃ q, t.f0 / 65536 = q := ⟨_, rfl⟩
  obtain ⟨q1, hq1⟩ : ∃ q, t.f1 / 16 = q := ⟨_, rfl⟩
  rw [hq0] at hA
  rw [hq1] at hB
  go_enter Try.func119, Try.ntmps119
  go_wp2_with (first | (go_at_call 142; (with_reducible refine (has_calls 2 (H.out.fr hf1)).mono ?_); rintro e w2 ⟨he, hf2'⟩; rw [h2.out] at he; subst he; have hb2 := hf2'.blk (blk_new w _) (fun h => h); have hlt2 := blk_lt hb2; have y2 : w2.cell? ⟨w.heap.size, 0, none⟩ = some (.pointer (some ad)) := (blk_cell hb2 0).trans rfl; have hf2 : Fr (fun _ => False) (w.alloc (.cells #[.pointer (some ad)] 168)) w2 := hf2'; have T2 := (H.out.fr hf1).fr hf2; have a2 := T2.c0; have b2 := T2.c1; have c2 := T2.c2; have d2 := T2.c3) | (go_at_call 142; (with_reducible refine (has_calls 1 ((H.out.fr hf1).fr hf2)).mono ?_); rintro e w3 ⟨he, hf3'⟩; rw [h1.out] at he; subst he; have hb3 := hf3'.blk hb2 (fun h => h); have hlt3 := blk_lt hb3; have y3 : w3.cell? ⟨w.heap.size, 0, none⟩ = some (.pointer (some ad)) := (blk_cell hb3 0).trans rfl; have hf3 : Fr (fun _ => False) (w.alloc (.cells #[.pointer (some ad)] 168)) w3 := hf2.trans hf3' (fun _ h => .inl h); have T3 := (H.out.fr hf1).fr hf3; have a3 := T3.c0; have b3 := T3.c1; have c3 := T3.c2; have d3 := T3.c3) | (go_at_call 142; (with_reducible refine (has_calls 4 ((H.out.fr hf1).fr hf3)).mono ?_); rintro e w4 ⟨he, hf4'⟩; rw [h4.out] at he; subst he; have hb4 := hf4'.blk hb3 (fun h => h); have hlt4 := blk_lt hb4; have y4 : w4.cell? ⟨w.heap.size, 0, none⟩ = some (.pointer (some ad)) := (blk_cell hb4 0).trans rfl; have hf4 : Fr (fun _ => False) (w.alloc (.cells #[.pointer (some ad)] 168)) w4 := hf3.trans hf4' (fun _ h => .inl h); have T4 := (H.out.fr hf1).fr hf4; have a4 := T4.c0; have b4 := T4.c1; have c4 := T4.c2; have d4 := T4.c3))
  go_ret
  exact ⟨rfl, hf1.trans hf4 (fun _ h => .inl h)⟩
end
end Go.Proofs.Ph
/- dtc: troubles that may be so. No condition. -/
namespace Go.Proofs.Ph
open Go Go.RowKit Go.Proofs.YthjnlggommennaaW.PrintWords
theorem tOk_yes {w : World} {ad : Addr} {t : S161} (h : TC w ad t) (ht : tOk t = true) : Calls Try.prog 119 #[.agg #[.pointer (some ad)]] w fun e w' => e = .returned (.bool true) ∧ Fr (fun _ => False) w w' := by
  unfold tOk at ht
  simp only [Bool.and_eq_true] at ht
  obtain ⟨⟨⟨⟨⟨⟨⟨hA, hB⟩, h2⟩, hC⟩, hD⟩, hE⟩, hF⟩, h3⟩ := ht
  cases e2 : hs t 2 with
  | true =>
    cases e3 : (t.f3 == 0) with
    | true => exact tOk_a h hA hB hC hD hE hF ⟨e2⟩ e3
    | false => exact tOk_b h hA hB hC hD hE hF ⟨e2⟩ e3 ⟨by rw [e3] at h3; simpa using h3⟩
  | false =>
    have e1 : hs t 1 = false := by rw [e2] at h2; simpa using h2
    cases e3 : (t.f3 == 0) with
    | true => exact tOk_c h hA hB hC hD hE hF ⟨e2⟩ ⟨e1⟩ e3
    | false => exact tOk_d h hA hB hC hD hE hF ⟨e2⟩ ⟨e1⟩ e3 ⟨by rw [e3] at h3; simpa using h3⟩
end Go.Proofs.Ph
