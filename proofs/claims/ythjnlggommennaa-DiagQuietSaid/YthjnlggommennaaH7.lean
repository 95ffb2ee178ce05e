/- Part 8 of the proof of DiagHands, for every input: D17. No condition. -/
import Derived.Test.YthjnlggommennaaH6
import Derived.Deep.RegionHeld3
import Derived.Deep.DrawnRows
set_option linter.unusedVariables false
set_option linter.unusedSimpArgs false
set_option linter.unusedSectionVars false
/- diag: a service answers, or refuses. No condition. -/
namespace Go.Proofs.Ph
open Go Go.RowKit Go.Proofs.YthjnlggommennaaW.PrintWords
attribute [local go_sem ↓] Go.wp_at_zero Go.wp_at_succ
section
variable {w : World} {g : Nat} {P : Nat → Prop} {s : S25} {vi vd vq : Value} {q : List Int} {n : Int}
/-- An end: the result's cell is set, and new blocks. -/
theorem MPost.ended {w w1 w2 w' : World} {S : Nat → Prop} {v : Value} {l : List Int} {s' : S25} (h : Fr (fun i => i = g) w1 w2 ∧ ∃ vi vd,XB w2 g s' vi vd vq ∧ RdF k47 w2 (Now w1 P) vi s'.f7 ∧ RdF k161 w2 (Now w1 P) vd s'.f8) (hf1 : Fr (fun _ => False) w w1) (hS : ∀ i,S i → w.heap.size ≤ i ∧ i < w1.heap.size) (hP : ∀ k,P k → k < w.heap.size) (hg : g < w.heap.size)
    (hv : RdF kb w' (Now w P) v l) (hf : Fr S w2 w') : MPost w g P vq (s', .inr l) (.returned v) w' := by
  obtain ⟨hF, vi, vd, hx, hi, hd⟩ := h
  have hN : ∀ k, Now w1 P k → Now w P k := fun k hk => hk.imp_right (fun h => Nat.le_trans hf1.size h)
  have hne : ∀ k, Now w1 P k → ¬ S k := fun k hk e => by
    have := hS k e
    rcases hk with hk | hk
    · have := hP k hk
      omega
    · omega
  exact ⟨⟨v,rfl,hv⟩,Fr.trans (S := fun i => i = g) (Fr.trans (S := fun i => i = g) (hf1.mono (fun _ h => h.elim)) hF (fun _ h => .inl h)) hf (fun i hi => .inr (hS i hi).1),vi,vd,hf.blk hx (fun h => by have := hS g h; omega),
    (hi.fr hf (fun k hk _ => hne k hk)).mono hN, (hd.fr hf (fun k hk _ => hne k hk)).mono hN⟩
set_option maxRecDepth 100000 in
set_option maxHeartbeats 4000000 in
theorem answer_no1 {l : Int} {F : Nat} (hn : 0 ≤ n ∧ n ≤ 255) (h : MPre w g P s vi vd vq q) (hB : Byt q) (hf : mFind n q = .inr (l,F)) (hl : (l == (q.length : Int)) = true) (hcf : ∀ (args : Array Value) (W : World),(callFunc F args).run Try.prog W = .ok (.enter F args) W) {s' : S25} {why : Int} (HDO : ∀ W P,MPre W g P s vi vd vq q → Calls Try.prog F #[.pointer (some ⟨g,0,none⟩)] W (MPost W g P vq (s',.inl why))) :
    Calls Try.prog 82 #[.pointer (some ⟨g, 0, none⟩), .int .u8 n] w (MPost w g P vq (s', .inr [127, n % 256, why % 256])) := by
  refine Calls.mono ?_ (fun e w' h => MPost.unbound h)
  replace h := h.bound
  have hg := blk_lt h.x
  obtain ⟨A, c, ev, hlc, hFq⟩ := h.q
  subst ev
  obtain ⟨w1, ew1⟩ : ∃ w1, w1 = (w.alloc (.cells #[.int .u8 n] 5)).alloc (.cells #[.slice none 0 0] 31) := ⟨_, rfl⟩
  have hf1 : Fr (fun _ => False) w w1 := by rw [ew1]; exact ((Fr.refl _ w).alloc _).alloc _
  have FC := find_calls (n := n) (h.fr hf1) hB
  rw [hf] at FC
  have hb1 : w1.heap[w.heap.size]? = some (.cells #[.int .u8 n] 5 (0, 0)) := by rw [ew1]; exact blk_alloc (blk_new w _) _
  have hb2 : w1.heap[w.heap.size + 1]? = some (.cells #[.slice none 0 0] 31 (0,0)) := by rw [ew1]; exact blk_new' (by show _ = (Array.push _ _).size; rw [Array.size_push])
  have c9 : w.cell? ⟨g, 9, none⟩ = some (.slice A q.length c) := (blk_cell h.x 9).trans rfl
  have H := Aside0.mk h
  have FC' := Aside0.mk FC
  have EW := Aside0.mk ew1
  have HB1 := Aside0.mk hb1
  have HB2 := Aside0.mk hb2
  have DO := Aside0.mk HDO
  clear HDO h FC ew1 hf hb1 hb2 hFq hlc
  go_enter_defers Try.func82, Try.ntmps82
  go_wp2_with (go_at_call 122; rw [← EW.out]; refine FC'.out.mono ?_; rintro e w2 ⟨hf2, he⟩; subst he; (unfold sv))
  have hF2 := hf1.trans hf2 (fun _ h => .inl h)
  have hs2 := hF2.size
  obtain ⟨w3, ew3⟩ : ∃ w3, w3 = w2.alloc (.cells #[.int .i64 l, .func (.func F) #[] #[]] 175) := ⟨_, rfl⟩
  have hf3 : Fr (fun _ => False) w2 w3 := by rw [ew3]; exact (Fr.refl _ w2).alloc _
  have hb3 : w3.heap[w2.heap.size]? = some (.cells #[.int .i64 l, .func (.func F) #[] #[]] 175 (0, 0)) := by rw [ew3]; exact blk_new w2 _
  rw [← ew3]
  have hF3 := hF2.trans hf3 (fun _ h => .inl h)
  have d0 : w3.cell? ⟨w2.heap.size, 0, none⟩ = some (.int .i64 l) := (blk_cell hb3 0).trans rfl
  have e1 : w3.cell? ⟨w2.heap.size, 1, none⟩ = some (.func (.func F) #[] #[]) := (blk_cell hb3 1).trans rfl
  have d1 : w3.cell? ⟨w.heap.size, 0, none⟩ = some (.int .u8 n) := (hf2.trans hf3 (fun _ h => .inl h)).cellA ((blk_cell HB1.out 0).trans rfl)
  replace c9 := hF3.cellA c9
  clear ew3
  refine wp_region_free (S := fun w' => w'.cell? ⟨w2.heap.size,0,none⟩ = some (.int .i64 l) ∧ w'.cell? ⟨w.heap.size,0,none⟩ = some (.int .u8 n) ∧ w'.cell? ⟨g,9,none⟩ = some (.slice A q.length c)) 4 (.pointer (some ⟨w.heap.size + 1,0,none⟩)) (by kernel_rfl) (by kernel_rfl) rfl ⟨d0,d1,c9⟩ ?_
  intro hS
  refine wpAnyH_take (i := 0) (v := ?_) rfl (by kernel_rfl) (by kernel_rfl) (by kernel_rfl) (fun _ _ _ h => h) (Or.inl ⟨by rfl, ?_⟩) hS ?_
  rotate_left
  · intro w4 h4
    obtain ⟨k0, k1, k9⟩ := h4
    go_simp
    try with_reducible rfl
  simp only [List.getElem_toArray,List.getElem_cons_zero,List.getElem_cons_succ,Act.put,List.setIfInBounds_toArray,List.set_cons_zero,List.set_cons_succ]
  refine wpAnyH_take (i := 1) (v := ?_) rfl (by kernel_rfl) (by kernel_rfl) (by kernel_rfl) (fun _ _ _ h => h) (Or.inl ⟨by rfl, ?_⟩) hS ?_
  rotate_left
  · intro w4 h4
    obtain ⟨k0, k1, k9⟩ := h4
    go_simp
    try with_reducible rfl
  simp only [List.getElem_toArray,List.getElem_cons_zero,List.getElem_cons_succ,Act.put,List.setIfInBounds_toArray,List.set_cons_zero,List.set_cons_succ]
  refine wpAnyH_take (i := 2) (v := ?_) rfl (by kernel_rfl) (by kernel_rfl) (by kernel_rfl) (fun _ _ _ h => h) (Or.inl ⟨by rfl, ?_⟩) hS ?_
  rotate_left
  · intro w4 h4
    obtain ⟨k0, k1, k9⟩ := h4
    go_simp
    try with_reducible rfl
  simp only [List.getElem_toArray,List.getElem_cons_zero,List.getElem_cons_succ,Act.put,List.setIfInBounds_toArray,List.set_cons_zero,List.set_cons_succ]
  refine wpAnyH_take (i := 3) (v := ?_) rfl (by kernel_rfl) (by kernel_rfl) (by kernel_rfl) (fun _ _ _ h => h) (Or.inl ⟨by rfl, ?_⟩) hS ?_
  rotate_left
  · intro w4 h4
    obtain ⟨k0, k1, k9⟩ := h4
    go_simp
    try with_reducible rfl
  simp only [List.getElem_toArray,List.getElem_cons_zero,List.getElem_cons_succ,Act.put,List.setIfInBounds_toArray,List.set_cons_zero,List.set_cons_succ]
  refine wpAnyH_take (i := 4) (v := ?_) rfl (by kernel_rfl) (by kernel_rfl) (by kernel_rfl) (fun _ _ _ h => h) (Or.inl ⟨by rfl, ?_⟩) hS ?_
  rotate_left
  · intro w4 h4
    obtain ⟨k0, k1, k9⟩ := h4
    go_simp
    try with_reducible rfl
  simp only [List.getElem_toArray,List.getElem_cons_zero,List.getElem_cons_succ,Act.put,List.setIfInBounds_toArray,List.set_cons_zero,List.set_cons_succ]
  refine wpAnyH_take (i := 5) (v := ?_) rfl (by kernel_rfl) (by kernel_rfl) (by kernel_rfl) (fun _ _ _ h => h) (Or.inl ⟨by rfl, ?_⟩) hS ?_
  rotate_left
  · intro w4 h4
    obtain ⟨k0, k1, k9⟩ := h4
    go_simp
    try with_reducible rfl
  simp only [List.getElem_toArray,List.getElem_cons_zero,List.getElem_cons_succ,Act.put,List.setIfInBounds_toArray,List.set_cons_zero,List.set_cons_succ]
  refine wpAnyH_take (i := 6) (v := ?_) rfl (by kernel_rfl) (by kernel_rfl) (by kernel_rfl) (fun _ _ _ h => h) (Or.inl ⟨by rfl, ?_⟩) hS ?_
  rotate_left
  · intro w4 h4
    obtain ⟨k0, k1, k9⟩ := h4
    go_simp
    try with_reducible rfl
  simp only [List.getElem_toArray,List.getElem_cons_zero,List.getElem_cons_succ,Act.put,List.setIfInBounds_toArray,List.set_cons_zero,List.set_cons_succ]
  refine wpAnyH_take (i := 7) (v := ?_) rfl (by kernel_rfl) (by kernel_rfl) (by kernel_rfl) (fun _ _ _ h => h) (Or.inl ⟨by rfl, ?_⟩) hS ?_
  rotate_left
  · intro w4 h4
    obtain ⟨k0, k1, k9⟩ := h4
    go_simp
    try with_reducible rfl
  simp only [List.getElem_toArray,List.getElem_cons_zero,List.getElem_cons_succ,Act.put,List.setIfInBounds_toArray,List.set_cons_zero,List.set_cons_succ]
  refine wpAnyH_take (i := 8) (v := ?_) rfl (by kernel_rfl) (by kernel_rfl) (by kernel_rfl) (fun _ _ _ h => h) (Or.inl ⟨by rfl, ?_⟩) hS ?_
  rotate_left
  · intro w4 h4
    obtain ⟨k0, k1, k9⟩ := h4
    go_simp
    try with_reducible rfl
  simp only [List.getElem_toArray,List.getElem_cons_zero,List.getElem_cons_succ,Act.put,List.setIfInBounds_toArray,List.set_cons_zero,List.set_cons_succ]
  refine wpAnyH_take (i := 9) (v := undef) rfl (by kernel_rfl) (by kernel_rfl) (by kernel_rfl) (fun _ _ _ h => h) (Or.inr ⟨by rfl, rfl⟩) hS ?_
  simp only [List.getElem_toArray,List.getElem_cons_zero,List.getElem_cons_succ,Act.put,List.setIfInBounds_toArray,List.set_cons_zero,List.set_cons_succ]
  refine wpAnyH_take (i := 10) (v := undef) rfl (by kernel_rfl) (by kernel_rfl) (by kernel_rfl) (fun _ _ _ h => h) (Or.inr ⟨by rfl, rfl⟩) hS ?_
  simp only [List.getElem_toArray,List.getElem_cons_zero,List.getElem_cons_succ,Act.put,List.setIfInBounds_toArray,List.set_cons_zero,List.set_cons_succ]
  refine wpAnyH_take (i := 11) (v := undef) rfl (by kernel_rfl) (by kernel_rfl) (by kernel_rfl) (fun _ _ _ h => h) (Or.inr ⟨by rfl, rfl⟩) hS ?_
  simp only [List.getElem_toArray,List.getElem_cons_zero,List.getElem_cons_succ,Act.put,List.setIfInBounds_toArray,List.set_cons_zero,List.set_cons_succ]
  refine wpAnyH_take (i := 12) (v := undef) rfl (by kernel_rfl) (by kernel_rfl) (by kernel_rfl) (fun _ _ _ h => h) (Or.inr ⟨by rfl, rfl⟩) hS ?_
  simp only [List.getElem_toArray,List.getElem_cons_zero,List.getElem_cons_succ,Act.put,List.setIfInBounds_toArray,List.set_cons_zero,List.set_cons_succ]
  refine wpAnyH_take (i := 13) (v := undef) rfl (by kernel_rfl) (by kernel_rfl) (by kernel_rfl) (fun _ _ _ h => h) (Or.inr ⟨by rfl, rfl⟩) hS ?_
  simp only [List.getElem_toArray,List.getElem_cons_zero,List.getElem_cons_succ,Act.put,List.setIfInBounds_toArray,List.set_cons_zero,List.set_cons_succ]
  refine wpAnyH_take (i := 14) (v := undef) rfl (by kernel_rfl) (by kernel_rfl) (by kernel_rfl) (fun _ _ _ h => h) (Or.inr ⟨by rfl, rfl⟩) hS ?_
  simp only [List.getElem_toArray,List.getElem_cons_zero,List.getElem_cons_succ,Act.put,List.setIfInBounds_toArray,List.set_cons_zero,List.set_cons_succ]
  refine wpAnyH_take (i := 15) (v := undef) rfl (by kernel_rfl) (by kernel_rfl) (by kernel_rfl) (fun _ _ _ h => h) (Or.inr ⟨by rfl, rfl⟩) hS ?_
  simp only [List.getElem_toArray,List.getElem_cons_zero,List.getElem_cons_succ,Act.put,List.setIfInBounds_toArray,List.set_cons_zero,List.set_cons_succ]
  refine wpAnyH_take (i := 16) (v := undef) rfl (by kernel_rfl) (by kernel_rfl) (by kernel_rfl) (fun _ _ _ h => h) (Or.inr ⟨by rfl, rfl⟩) hS ?_
  simp only [List.getElem_toArray,List.getElem_cons_zero,List.getElem_cons_succ,Act.put,List.setIfInBounds_toArray,List.set_cons_zero,List.set_cons_succ]
  refine wpAnyH_take (i := 17) (v := undef) rfl (by kernel_rfl) (by kernel_rfl) (by kernel_rfl) (fun _ _ _ h => h) (Or.inr ⟨by rfl, rfl⟩) hS ?_
  simp only [List.getElem_toArray,List.getElem_cons_zero,List.getElem_cons_succ,Act.put,List.setIfInBounds_toArray,List.set_cons_zero,List.set_cons_succ]
  refine wpAnyH_take (i := 18) (v := undef) rfl (by kernel_rfl) (by kernel_rfl) (by kernel_rfl) (fun _ _ _ h => h) (Or.inr ⟨by rfl, rfl⟩) hS ?_
  simp only [List.getElem_toArray,List.getElem_cons_zero,List.getElem_cons_succ,Act.put,List.setIfInBounds_toArray,List.set_cons_zero,List.set_cons_succ]
  refine wpAnyH_take (i := 19) (v := undef) rfl (by kernel_rfl) (by kernel_rfl) (by kernel_rfl) (fun _ _ _ h => h) (Or.inr ⟨by rfl, rfl⟩) hS ?_
  simp only [List.getElem_toArray,List.getElem_cons_zero,List.getElem_cons_succ,Act.put,List.setIfInBounds_toArray,List.set_cons_zero,List.set_cons_succ]
  refine wpAnyH_take (i := 20) (v := undef) rfl (by kernel_rfl) (by kernel_rfl) (by kernel_rfl) (fun _ _ _ h => h) (Or.inr ⟨by rfl, rfl⟩) hS ?_
  simp only [List.getElem_toArray,List.getElem_cons_zero,List.getElem_cons_succ,Act.put,List.setIfInBounds_toArray,List.set_cons_zero,List.set_cons_succ]
  refine wpAnyH_take (i := 21) (v := undef) rfl (by kernel_rfl) (by kernel_rfl) (by kernel_rfl) (fun _ _ _ h => h) (Or.inr ⟨by rfl, rfl⟩) hS ?_
  simp only [List.getElem_toArray,List.getElem_cons_zero,List.getElem_cons_succ,Act.put,List.setIfInBounds_toArray,List.set_cons_zero,List.set_cons_succ]
  refine wpAnyH_take (i := 22) (v := undef) rfl (by kernel_rfl) (by kernel_rfl) (by kernel_rfl) (fun _ _ _ h => h) (Or.inr ⟨by rfl, rfl⟩) hS ?_
  simp only [List.getElem_toArray,List.getElem_cons_zero,List.getElem_cons_succ,Act.put,List.setIfInBounds_toArray,List.set_cons_zero,List.set_cons_succ]
  refine wpAnyH_take (i := 23) (v := undef) rfl (by kernel_rfl) (by kernel_rfl) (by kernel_rfl) (fun _ _ _ h => h) (Or.inr ⟨by rfl, rfl⟩) hS ?_
  simp only [List.getElem_toArray,List.getElem_cons_zero,List.getElem_cons_succ,Act.put,List.setIfInBounds_toArray,List.set_cons_zero,List.set_cons_succ]
  refine wpAnyH_take (i := 24) (v := ?_) rfl (by kernel_rfl) (by kernel_rfl) (by kernel_rfl) (fun _ _ _ h => h) (Or.inl ⟨by rfl, ?_⟩) hS ?_
  rotate_left
  · intro w4 h4
    obtain ⟨k0, k1, k9⟩ := h4
    go_simp
    try with_reducible rfl
  simp only [List.getElem_toArray,List.getElem_cons_zero,List.getElem_cons_succ,Act.put,List.setIfInBounds_toArray,List.set_cons_zero,List.set_cons_succ]
  refine wpAnyH_ready (rs := [25]) (by kernel_rfl) (by simp) ?_
  refine AllReadyH.cons rfl (fun K hK => ?_) AllReadyH.nil
  go_simp
  refine (unless_yes _ _).mono ?_
  rintro e w' ⟨rfl, rfl⟩
  show K _ _
  refine hK.out _ _ hS (fun hHeld => ?_)
  clear hK hHeld hS
  try simp only [List.getElem_toArray,List.getElem_cons_zero,List.getElem_cons_succ,Act.put,List.setIfInBounds_toArray,List.set_cons_zero,List.set_cons_succ]
  refine wpAnyH_done (by kernel_rfl) ?_ _
  simp only [QFree, Exit.then]
  go_wp2
  obtain ⟨w4, ew4⟩ : ∃ w4, w4 = w3.drew := ⟨_, rfl⟩
  have hf4 : Fr (fun _ => False) w1 w4 := by rw [ew4]; exact (hf2.trans hf3 (fun _ h => .inl h)).drew
  replace d1 : w4.cell? ⟨w.heap.size, 0, none⟩ = some (.int .u8 n) := by rw [ew4]; exact d1
  replace e1 : w4.cell? ⟨w2.heap.size, 1, none⟩ = some (.func (.func F) #[] #[]) := by rw [ew4]; exact e1
  rw [← ew4]
  have h2lt : w2.heap.size < w4.heap.size := by rw [ew4]; exact blk_lt hb3
  have hs1 := blk_lt HB2.out
  have hs2' := hf2.size
  clear ew4 d0 c9
  refine wp_region_free (S := fun w' => w'.cell? ⟨w.heap.size,0,none⟩ = some (.int .u8 n) ∧ w'.cell? ⟨w2.heap.size,1,none⟩ = some (.func (.func F) #[] #[])) 4 (.pointer (some ⟨w.heap.size + 1,0,none⟩)) (by kernel_rfl) (by kernel_rfl) rfl ⟨d1,e1⟩ ?_
  intro hS
  refine wpAnyH_take (i := 0) (v := ?_) rfl (by kernel_rfl) (by kernel_rfl) (by kernel_rfl) (fun _ _ _ h => h) (Or.inl ⟨by rfl, ?_⟩) hS ?_
  rotate_left
  · intro w4 h4
    obtain ⟨k0, k1⟩ := h4
    go_simp
    try with_reducible rfl
  try simp only [List.getElem_toArray,List.getElem_cons_zero,List.getElem_cons_succ,Act.put,List.setIfInBounds_toArray,List.set_cons_zero,List.set_cons_succ]
  refine wpAnyH_take (i := 1) (v := ?_) rfl (by kernel_rfl) (by kernel_rfl) (by kernel_rfl) (fun _ _ _ h => h) (Or.inl ⟨by rfl, ?_⟩) hS ?_
  rotate_left
  · intro w4 h4
    obtain ⟨k0, k1⟩ := h4
    go_simp
    try with_reducible rfl
  try simp only [List.getElem_toArray,List.getElem_cons_zero,List.getElem_cons_succ,Act.put,List.setIfInBounds_toArray,List.set_cons_zero,List.set_cons_succ]
  refine wpAnyH_take (i := 3) (v := ?_) rfl (by kernel_rfl) (by kernel_rfl) (by kernel_rfl) (fun _ _ _ h => h) (Or.inl ⟨by rfl, ?_⟩) hS ?_
  rotate_left
  · intro w4 h4
    obtain ⟨k0, k1⟩ := h4
    go_simp
    try with_reducible rfl
  try simp only [List.getElem_toArray,List.getElem_cons_zero,List.getElem_cons_succ,Act.put,List.setIfInBounds_toArray,List.set_cons_zero,List.set_cons_succ]
  refine wpAnyH_take (i := 4) (v := ?_) rfl (by kernel_rfl) (by kernel_rfl) (by kernel_rfl) (fun _ _ _ h => h) (Or.inl ⟨by rfl, ?_⟩) hS ?_
  rotate_left
  · intro w4 h4
    obtain ⟨k0, k1⟩ := h4
    go_simp
    try with_reducible rfl
  try simp only [List.getElem_toArray,List.getElem_cons_zero,List.getElem_cons_succ,Act.put,List.setIfInBounds_toArray,List.set_cons_zero,List.set_cons_succ]
  refine wpAnyH_take (i := 5) (v := ?_) rfl (by kernel_rfl) (by kernel_rfl) (by kernel_rfl) (fun _ _ _ h => h) (Or.inl ⟨by rfl, ?_⟩) hS ?_
  rotate_left
  · intro w4 h4
    obtain ⟨k0, k1⟩ := h4
    go_simp
    try with_reducible rfl
  try simp only [List.getElem_toArray,List.getElem_cons_zero,List.getElem_cons_succ,Act.put,List.setIfInBounds_toArray,List.set_cons_zero,List.set_cons_succ]
  have hf6 : Fr (fun _ => False) w4 (w4.alloc (.cells #[.int .u8 (IntKind.u8.wrap (n + 64))] 5)).drew := ((Fr.refl _ w4).alloc _).drew
  refine wpAnyH_ready (rs := [2, 6]) (by kernel_rfl) (by simp) ?_
  refine AllReadyH.cons rfl (fun K hK => ?_) (AllReadyH.cons rfl (fun K hK => ?_) AllReadyH.nil)
  · go_simp
    refine hK.out _ _ ⟨hf6.cellA d1, hf6.cellA e1⟩ (fun hHeld => ?_)
    clear hK hHeld
    try simp only [List.getElem_toArray,List.getElem_cons_zero,List.getElem_cons_succ,Act.put,List.setIfInBounds_toArray,List.set_cons_zero,List.set_cons_succ]
    refine wpAnyH_ready (rs := [6]) (by kernel_rfl) (by simp) ?_
    refine AllReadyH.cons rfl (fun K hK => ?_) AllReadyH.nil
    go_simp
    refine (DO.out _ _ ((H.out.fr hf1).fr (hf4.trans hf6 (fun _ h => .inl h)))).mono ?_
    rintro e w' ⟨he, hrest⟩
    have he' : e = _ := he
    subst he'
    intro tmps ht
    have hf5 : Fr (fun _ => False) w1 _ := hf4.trans hf6 (fun _ h => .inl h)
    have hb1 : w'.heap[w.heap.size]? = some (.cells #[.int .u8 n] 5 (0, 0)) := hrest.1.blk (hf5.blk HB1.out (fun h => h)) (by show ¬ _ = g; omega)
    have hb2 : w'.heap[w.heap.size + 1]? = some (.cells #[.slice none 0 0] 31 (0,0)) := hrest.1.blk (hf5.blk HB2.out (fun h => h)) (by show ¬ _ = g; omega)
    refine leaves_refused hn ht hb1 hb2 rfl ?_
    intro v w'' hv hf
    have hsz := hrest.1.size
    have hs5 := hf5.size
    exact MPost.denied (b2 := w.heap.size + 1) (MPost.from (w1 := _) ⟨he,hrest⟩ hf5) hf1 (by omega) hs1 (fun hk => by have := hk.2; omega) (by omega) (hv.mono (fun k hk => .inr (by omega))) hf
  · go_simp
    refine (DO.out w4.drew _ ((H.out.fr hf1).fr hf4.drew)).mono ?_
    rintro e w' ⟨he, hrest⟩
    have he' : e = _ := he
    subst he'
    intro tmps ht
    have hf5 : Fr (fun _ => False) w1 w4.drew := hf4.drew
    have hb1 : w'.heap[w.heap.size]? = some (.cells #[.int .u8 n] 5 (0, 0)) := hrest.1.blk (hf5.blk HB1.out (fun h => h)) (by show ¬ _ = g; omega)
    have hb2 : w'.heap[w.heap.size + 1]? = some (.cells #[.slice none 0 0] 31 (0,0)) := hrest.1.blk (hf5.blk HB2.out (fun h => h)) (by show ¬ _ = g; omega)
    refine leaves_refused hn ht hb1 hb2 rfl ?_
    intro v w'' hv hf
    have hsz := hrest.1.size
    have hs5 := hf5.size
    exact MPost.denied (b2 := w.heap.size + 1) (MPost.from (w1 := w4.drew) ⟨he,hrest⟩ hf5) hf1 (by omega) hs1 (fun hk => by have := hk.2; omega) (by omega) (hv.mono (fun k hk => .inr (by omega))) hf
set_option maxRecDepth 100000 in
set_option maxHeartbeats 4000000 in
theorem answer_no2 {l : Int} {F : Nat} (hn : 0 ≤ n ∧ n ≤ 255) (h : MPre w g P s vi vd vq q) (hB : Byt q) (hf : mFind n q = .inr (l,F)) (hl : (l == (q.length : Int)) = false) (hl2 : (l == -1) = true) (hl3 : (n != 46) = true) (hcf : ∀ (args : Array Value) (W : World),(callFunc F args).run Try.prog W = .ok (.enter F args) W) {s' : S25} {why : Int} (HDO : ∀ W P,MPre W g P s vi vd vq q → Calls Try.prog F #[.pointer (some ⟨g,0,none⟩)] W (MPost W g P vq (s',.inl why))) :
    Calls Try.prog 82 #[.pointer (some ⟨g, 0, none⟩), .int .u8 n] w (MPost w g P vq (s', .inr [127, n % 256, why % 256])) := by
  refine Calls.mono ?_ (fun e w' h => MPost.unbound h)
  replace h := h.bound
  have hg := blk_lt h.x
  obtain ⟨A, c, ev, hlc, hFq⟩ := h.q
  subst ev
  obtain ⟨w1, ew1⟩ : ∃ w1, w1 = (w.alloc (.cells #[.int .u8 n] 5)).alloc (.cells #[.slice none 0 0] 31) := ⟨_, rfl⟩
  have hf1 : Fr (fun _ => False) w w1 := by rw [ew1]; exact ((Fr.refl _ w).alloc _).alloc _
  have FC := find_calls (n := n) (h.fr hf1) hB
  rw [hf] at FC
  have hb1 : w1.heap[w.heap.size]? = some (.cells #[.int .u8 n] 5 (0, 0)) := by rw [ew1]; exact blk_alloc (blk_new w _) _
  have hb2 : w1.heap[w.heap.size + 1]? = some (.cells #[.slice none 0 0] 31 (0,0)) := by rw [ew1]; exact blk_new' (by show _ = (Array.push _ _).size; rw [Array.size_push])
  have c9 : w.cell? ⟨g, 9, none⟩ = some (.slice A q.length c) := (blk_cell h.x 9).trans rfl
  have H := Aside0.mk h
  have FC' := Aside0.mk FC
  have EW := Aside0.mk ew1
  have HB1 := Aside0.mk hb1
  have HB2 := Aside0.mk hb2
  have DO := Aside0.mk HDO
  clear HDO h FC ew1 hf hb1 hb2 hFq hlc
  go_enter_defers Try.func82, Try.ntmps82
  go_wp2_with (go_at_call 122; rw [← EW.out]; refine FC'.out.mono ?_; rintro e w2 ⟨hf2, he⟩; subst he; (unfold sv))
  have hF2 := hf1.trans hf2 (fun _ h => .inl h)
  have hs2 := hF2.size
  obtain ⟨w3, ew3⟩ : ∃ w3, w3 = w2.alloc (.cells #[.int .i64 l, .func (.func F) #[] #[]] 175) := ⟨_, rfl⟩
  have hf3 : Fr (fun _ => False) w2 w3 := by rw [ew3]; exact (Fr.refl _ w2).alloc _
  have hb3 : w3.heap[w2.heap.size]? = some (.cells #[.int .i64 l, .func (.func F) #[] #[]] 175 (0, 0)) := by rw [ew3]; exact blk_new w2 _
  rw [← ew3]
  have hF3 := hF2.trans hf3 (fun _ h => .inl h)
  have d0 : w3.cell? ⟨w2.heap.size, 0, none⟩ = some (.int .i64 l) := (blk_cell hb3 0).trans rfl
  have e1 : w3.cell? ⟨w2.heap.size, 1, none⟩ = some (.func (.func F) #[] #[]) := (blk_cell hb3 1).trans rfl
  have d1 : w3.cell? ⟨w.heap.size, 0, none⟩ = some (.int .u8 n) := (hf2.trans hf3 (fun _ h => .inl h)).cellA ((blk_cell HB1.out 0).trans rfl)
  replace c9 := hF3.cellA c9
  clear ew3
  refine wp_region_free (S := fun w' => w'.cell? ⟨w2.heap.size,0,none⟩ = some (.int .i64 l) ∧ w'.cell? ⟨w.heap.size,0,none⟩ = some (.int .u8 n) ∧ w'.cell? ⟨g,9,none⟩ = some (.slice A q.length c)) 4 (.pointer (some ⟨w.heap.size + 1,0,none⟩)) (by kernel_rfl) (by kernel_rfl) rfl ⟨d0,d1,c9⟩ ?_
  intro hS
  refine wpAnyH_take (i := 0) (v := ?_) rfl (by kernel_rfl) (by kernel_rfl) (by kernel_rfl) (fun _ _ _ h => h) (Or.inl ⟨by rfl, ?_⟩) hS ?_
  rotate_left
  · intro w4 h4
    obtain ⟨k0, k1, k9⟩ := h4
    go_simp
    try with_reducible rfl
  simp only [List.getElem_toArray,List.getElem_cons_zero,List.getElem_cons_succ,Act.put,List.setIfInBounds_toArray,List.set_cons_zero,List.set_cons_succ]
  refine wpAnyH_take (i := 1) (v := ?_) rfl (by kernel_rfl) (by kernel_rfl) (by kernel_rfl) (fun _ _ _ h => h) (Or.inl ⟨by rfl, ?_⟩) hS ?_
  rotate_left
  · intro w4 h4
    obtain ⟨k0, k1, k9⟩ := h4
    go_simp
    try with_reducible rfl
  simp only [List.getElem_toArray,List.getElem_cons_zero,List.getElem_cons_succ,Act.put,List.setIfInBounds_toArray,List.set_cons_zero,List.set_cons_succ]
  refine wpAnyH_take (i := 2) (v := ?_) rfl (by kernel_rfl) (by kernel_rfl) (by kernel_rfl) (fun _ _ _ h => h) (Or.inl ⟨by rfl, ?_⟩) hS ?_
  rotate_left
  · intro w4 h4
    obtain ⟨k0, k1, k9⟩ := h4
    go_simp
    try with_reducible rfl
  simp only [List.getElem_toArray,List.getElem_cons_zero,List.getElem_cons_succ,Act.put,List.setIfInBounds_toArray,List.set_cons_zero,List.set_cons_succ]
  refine wpAnyH_take (i := 3) (v := ?_) rfl (by kernel_rfl) (by kernel_rfl) (by kernel_rfl) (fun _ _ _ h => h) (Or.inl ⟨by rfl, ?_⟩) hS ?_
  rotate_left
  · intro w4 h4
    obtain ⟨k0, k1, k9⟩ := h4
    go_simp
    try with_reducible rfl
  simp only [List.getElem_toArray,List.getElem_cons_zero,List.getElem_cons_succ,Act.put,List.setIfInBounds_toArray,List.set_cons_zero,List.set_cons_succ]
  refine wpAnyH_take (i := 4) (v := ?_) rfl (by kernel_rfl) (by kernel_rfl) (by kernel_rfl) (fun _ _ _ h => h) (Or.inl ⟨by rfl, ?_⟩) hS ?_
  rotate_left
  · intro w4 h4
    obtain ⟨k0, k1, k9⟩ := h4
    go_simp
    try with_reducible rfl
  simp only [List.getElem_toArray,List.getElem_cons_zero,List.getElem_cons_succ,Act.put,List.setIfInBounds_toArray,List.set_cons_zero,List.set_cons_succ]
  refine wpAnyH_take (i := 5) (v := ?_) rfl (by kernel_rfl) (by kernel_rfl) (by kernel_rfl) (fun _ _ _ h => h) (Or.inl ⟨by rfl, ?_⟩) hS ?_
  rotate_left
  · intro w4 h4
    obtain ⟨k0, k1, k9⟩ := h4
    go_simp
    try with_reducible rfl
  simp only [List.getElem_toArray,List.getElem_cons_zero,List.getElem_cons_succ,Act.put,List.setIfInBounds_toArray,List.set_cons_zero,List.set_cons_succ]
  refine wpAnyH_take (i := 6) (v := ?_) rfl (by kernel_rfl) (by kernel_rfl) (by kernel_rfl) (fun _ _ _ h => h) (Or.inl ⟨by rfl, ?_⟩) hS ?_
  rotate_left
  · intro w4 h4
    obtain ⟨k0, k1, k9⟩ := h4
    go_simp
    try with_reducible rfl
  simp only [List.getElem_toArray,List.getElem_cons_zero,List.getElem_cons_succ,Act.put,List.setIfInBounds_toArray,List.set_cons_zero,List.set_cons_succ]
  refine wpAnyH_take (i := 7) (v := ?_) rfl (by kernel_rfl) (by kernel_rfl) (by kernel_rfl) (fun _ _ _ h => h) (Or.inl ⟨by rfl, ?_⟩) hS ?_
  rotate_left
  · intro w4 h4
    obtain ⟨k0, k1, k9⟩ := h4
    go_simp
    try with_reducible rfl
  simp only [List.getElem_toArray,List.getElem_cons_zero,List.getElem_cons_succ,Act.put,List.setIfInBounds_toArray,List.set_cons_zero,List.set_cons_succ]
  refine wpAnyH_take (i := 8) (v := ?_) rfl (by kernel_rfl) (by kernel_rfl) (by kernel_rfl) (fun _ _ _ h => h) (Or.inl ⟨by rfl, ?_⟩) hS ?_
  rotate_left
  · intro w4 h4
    obtain ⟨k0, k1, k9⟩ := h4
    go_simp
    try with_reducible rfl
  simp only [List.getElem_toArray,List.getElem_cons_zero,List.getElem_cons_succ,Act.put,List.setIfInBounds_toArray,List.set_cons_zero,List.set_cons_succ]
  refine wpAnyH_take (i := 9) (v := ?_) rfl (by kernel_rfl) (by kernel_rfl) (by kernel_rfl) (fun _ _ _ h => h) (Or.inl ⟨by rfl, ?_⟩) hS ?_
  rotate_left
  · intro w4 h4
    obtain ⟨k0, k1, k9⟩ := h4
    go_simp
    try with_reducible rfl
  simp only [List.getElem_toArray,List.getElem_cons_zero,List.getElem_cons_succ,Act.put,List.setIfInBounds_toArray,List.set_cons_zero,List.set_cons_succ]
  refine wpAnyH_take (i := 10) (v := ?_) rfl (by kernel_rfl) (by kernel_rfl) (by kernel_rfl) (fun _ _ _ h => h) (Or.inl ⟨by rfl, ?_⟩) hS ?_
  rotate_left
  · intro w4 h4
    obtain ⟨k0, k1, k9⟩ := h4
    go_simp
    try with_reducible rfl
  simp only [List.getElem_toArray,List.getElem_cons_zero,List.getElem_cons_succ,Act.put,List.setIfInBounds_toArray,List.set_cons_zero,List.set_cons_succ]
  refine wpAnyH_take (i := 11) (v := ?_) rfl (by kernel_rfl) (by kernel_rfl) (by kernel_rfl) (fun _ _ _ h => h) (Or.inl ⟨by rfl, ?_⟩) hS ?_
  rotate_left
  · intro w4 h4
    obtain ⟨k0, k1, k9⟩ := h4
    go_simp
    try with_reducible rfl
  simp only [List.getElem_toArray,List.getElem_cons_zero,List.getElem_cons_succ,Act.put,List.setIfInBounds_toArray,List.set_cons_zero,List.set_cons_succ]
  refine wpAnyH_take (i := 12) (v := ?_) rfl (by kernel_rfl) (by kernel_rfl) (by kernel_rfl) (fun _ _ _ h => h) (Or.inl ⟨by rfl, ?_⟩) hS ?_
  rotate_left
  · intro w4 h4
    obtain ⟨k0, k1, k9⟩ := h4
    go_simp
    try with_reducible rfl
  simp only [List.getElem_toArray,List.getElem_cons_zero,List.getElem_cons_succ,Act.put,List.setIfInBounds_toArray,List.set_cons_zero,List.set_cons_succ]
  refine wpAnyH_take (i := 13) (v := ?_) rfl (by kernel_rfl) (by kernel_rfl) (by kernel_rfl) (fun _ _ _ h => h) (Or.inl ⟨by rfl, ?_⟩) hS ?_
  rotate_left
  · intro w4 h4
    obtain ⟨k0, k1, k9⟩ := h4
    go_simp
    try with_reducible rfl
  simp only [List.getElem_toArray,List.getElem_cons_zero,List.getElem_cons_succ,Act.put,List.setIfInBounds_toArray,List.set_cons_zero,List.set_cons_succ]
  refine wpAnyH_take (i := 14) (v := ?_) rfl (by kernel_rfl) (by kernel_rfl) (by kernel_rfl) (fun _ _ _ h => h) (Or.inl ⟨by rfl, ?_⟩) hS ?_
  rotate_left
  · intro w4 h4
    obtain ⟨k0, k1, k9⟩ := h4
    go_simp
    try with_reducible rfl
  simp only [List.getElem_toArray,List.getElem_cons_zero,List.getElem_cons_succ,Act.put,List.setIfInBounds_toArray,List.set_cons_zero,List.set_cons_succ]
  refine wpAnyH_take (i := 15) (v := ?_) rfl (by kernel_rfl) (by kernel_rfl) (by kernel_rfl) (fun _ _ _ h => h) (Or.inl ⟨by rfl, ?_⟩) hS ?_
  rotate_left
  · intro w4 h4
    obtain ⟨k0, k1, k9⟩ := h4
    go_simp
    try with_reducible rfl
  simp only [List.getElem_toArray,List.getElem_cons_zero,List.getElem_cons_succ,Act.put,List.setIfInBounds_toArray,List.set_cons_zero,List.set_cons_succ]
  refine wpAnyH_take (i := 16) (v := undef) rfl (by kernel_rfl) (by kernel_rfl) (by kernel_rfl) (fun _ _ _ h => h) (Or.inr ⟨by rfl, rfl⟩) hS ?_
  simp only [List.getElem_toArray,List.getElem_cons_zero,List.getElem_cons_succ,Act.put,List.setIfInBounds_toArray,List.set_cons_zero,List.set_cons_succ]
  refine wpAnyH_take (i := 17) (v := undef) rfl (by kernel_rfl) (by kernel_rfl) (by kernel_rfl) (fun _ _ _ h => h) (Or.inr ⟨by rfl, rfl⟩) hS ?_
  simp only [List.getElem_toArray,List.getElem_cons_zero,List.getElem_cons_succ,Act.put,List.setIfInBounds_toArray,List.set_cons_zero,List.set_cons_succ]
  refine wpAnyH_take (i := 18) (v := undef) rfl (by kernel_rfl) (by kernel_rfl) (by kernel_rfl) (fun _ _ _ h => h) (Or.inr ⟨by rfl, rfl⟩) hS ?_
  simp only [List.getElem_toArray,List.getElem_cons_zero,List.getElem_cons_succ,Act.put,List.setIfInBounds_toArray,List.set_cons_zero,List.set_cons_succ]
  refine wpAnyH_take (i := 19) (v := undef) rfl (by kernel_rfl) (by kernel_rfl) (by kernel_rfl) (fun _ _ _ h => h) (Or.inr ⟨by rfl, rfl⟩) hS ?_
  simp only [List.getElem_toArray,List.getElem_cons_zero,List.getElem_cons_succ,Act.put,List.setIfInBounds_toArray,List.set_cons_zero,List.set_cons_succ]
  refine wpAnyH_take (i := 20) (v := undef) rfl (by kernel_rfl) (by kernel_rfl) (by kernel_rfl) (fun _ _ _ h => h) (Or.inr ⟨by rfl, rfl⟩) hS ?_
  simp only [List.getElem_toArray,List.getElem_cons_zero,List.getElem_cons_succ,Act.put,List.setIfInBounds_toArray,List.set_cons_zero,List.set_cons_succ]
  refine wpAnyH_take (i := 21) (v := undef) rfl (by kernel_rfl) (by kernel_rfl) (by kernel_rfl) (fun _ _ _ h => h) (Or.inr ⟨by rfl, rfl⟩) hS ?_
  simp only [List.getElem_toArray,List.getElem_cons_zero,List.getElem_cons_succ,Act.put,List.setIfInBounds_toArray,List.set_cons_zero,List.set_cons_succ]
  refine wpAnyH_take (i := 22) (v := ?_) rfl (by kernel_rfl) (by kernel_rfl) (by kernel_rfl) (fun _ _ _ h => h) (Or.inl ⟨by rfl, ?_⟩) hS ?_
  rotate_left
  · intro w4 h4
    obtain ⟨k0, k1, k9⟩ := h4
    go_simp
    try with_reducible rfl
  simp only [List.getElem_toArray,List.getElem_cons_zero,List.getElem_cons_succ,Act.put,List.setIfInBounds_toArray,List.set_cons_zero,List.set_cons_succ]
  refine wpAnyH_take (i := 23) (v := ?_) rfl (by kernel_rfl) (by kernel_rfl) (by kernel_rfl) (fun _ _ _ h => h) (Or.inl ⟨by rfl, ?_⟩) hS ?_
  rotate_left
  · intro w4 h4
    obtain ⟨k0, k1, k9⟩ := h4
    go_simp
    try with_reducible rfl
  simp only [List.getElem_toArray,List.getElem_cons_zero,List.getElem_cons_succ,Act.put,List.setIfInBounds_toArray,List.set_cons_zero,List.set_cons_succ]
  refine wpAnyH_take (i := 24) (v := ?_) rfl (by kernel_rfl) (by kernel_rfl) (by kernel_rfl) (fun _ _ _ h => h) (Or.inl ⟨by rfl, ?_⟩) hS ?_
  rotate_left
  · intro w4 h4
    obtain ⟨k0, k1, k9⟩ := h4
    go_simp
    try with_reducible rfl
  simp only [List.getElem_toArray,List.getElem_cons_zero,List.getElem_cons_succ,Act.put,List.setIfInBounds_toArray,List.set_cons_zero,List.set_cons_succ]
  refine wpAnyH_ready (rs := [25]) (by kernel_rfl) (by simp) ?_
  refine AllReadyH.cons rfl (fun K hK => ?_) AllReadyH.nil
  go_simp
  refine (unless_yes _ _).mono ?_
  rintro e w' ⟨rfl, rfl⟩
  show K _ _
  refine hK.out _ _ hS (fun hHeld => ?_)
  clear hK hHeld hS
  try simp only [List.getElem_toArray,List.getElem_cons_zero,List.getElem_cons_succ,Act.put,List.setIfInBounds_toArray,List.set_cons_zero,List.set_cons_succ]
  refine wpAnyH_done (by kernel_rfl) ?_ _
  simp only [QFree, Exit.then]
  go_wp2
  obtain ⟨w4, ew4⟩ : ∃ w4, w4 = w3.drew := ⟨_, rfl⟩
  have hf4 : Fr (fun _ => False) w1 w4 := by rw [ew4]; exact (hf2.trans hf3 (fun _ h => .inl h)).drew
  replace d1 : w4.cell? ⟨w.heap.size, 0, none⟩ = some (.int .u8 n) := by rw [ew4]; exact d1
  replace e1 : w4.cell? ⟨w2.heap.size, 1, none⟩ = some (.func (.func F) #[] #[]) := by rw [ew4]; exact e1
  rw [← ew4]
  have h2lt : w2.heap.size < w4.heap.size := by rw [ew4]; exact blk_lt hb3
  have hs1 := blk_lt HB2.out
  have hs2' := hf2.size
  clear ew4 d0 c9
  refine wp_region_free (S := fun w' => w'.cell? ⟨w.heap.size,0,none⟩ = some (.int .u8 n) ∧ w'.cell? ⟨w2.heap.size,1,none⟩ = some (.func (.func F) #[] #[])) 4 (.pointer (some ⟨w.heap.size + 1,0,none⟩)) (by kernel_rfl) (by kernel_rfl) rfl ⟨d1,e1⟩ ?_
  intro hS
  refine wpAnyH_take (i := 0) (v := ?_) rfl (by kernel_rfl) (by kernel_rfl) (by kernel_rfl) (fun _ _ _ h => h) (Or.inl ⟨by rfl, ?_⟩) hS ?_
  rotate_left
  · intro w4 h4
    obtain ⟨k0, k1⟩ := h4
    go_simp
    try with_reducible rfl
  try simp only [List.getElem_toArray,List.getElem_cons_zero,List.getElem_cons_succ,Act.put,List.setIfInBounds_toArray,List.set_cons_zero,List.set_cons_succ]
  refine wpAnyH_take (i := 1) (v := ?_) rfl (by kernel_rfl) (by kernel_rfl) (by kernel_rfl) (fun _ _ _ h => h) (Or.inl ⟨by rfl, ?_⟩) hS ?_
  rotate_left
  · intro w4 h4
    obtain ⟨k0, k1⟩ := h4
    go_simp
    try with_reducible rfl
  try simp only [List.getElem_toArray,List.getElem_cons_zero,List.getElem_cons_succ,Act.put,List.setIfInBounds_toArray,List.set_cons_zero,List.set_cons_succ]
  refine wpAnyH_take (i := 3) (v := ?_) rfl (by kernel_rfl) (by kernel_rfl) (by kernel_rfl) (fun _ _ _ h => h) (Or.inl ⟨by rfl, ?_⟩) hS ?_
  rotate_left
  · intro w4 h4
    obtain ⟨k0, k1⟩ := h4
    go_simp
    try with_reducible rfl
  try simp only [List.getElem_toArray,List.getElem_cons_zero,List.getElem_cons_succ,Act.put,List.setIfInBounds_toArray,List.set_cons_zero,List.set_cons_succ]
  refine wpAnyH_take (i := 4) (v := ?_) rfl (by kernel_rfl) (by kernel_rfl) (by kernel_rfl) (fun _ _ _ h => h) (Or.inl ⟨by rfl, ?_⟩) hS ?_
  rotate_left
  · intro w4 h4
    obtain ⟨k0, k1⟩ := h4
    go_simp
    try with_reducible rfl
  try simp only [List.getElem_toArray,List.getElem_cons_zero,List.getElem_cons_succ,Act.put,List.setIfInBounds_toArray,List.set_cons_zero,List.set_cons_succ]
  refine wpAnyH_take (i := 5) (v := ?_) rfl (by kernel_rfl) (by kernel_rfl) (by kernel_rfl) (fun _ _ _ h => h) (Or.inl ⟨by rfl, ?_⟩) hS ?_
  rotate_left
  · intro w4 h4
    obtain ⟨k0, k1⟩ := h4
    go_simp
    try with_reducible rfl
  try simp only [List.getElem_toArray,List.getElem_cons_zero,List.getElem_cons_succ,Act.put,List.setIfInBounds_toArray,List.set_cons_zero,List.set_cons_succ]
  have hf6 : Fr (fun _ => False) w4 (w4.alloc (.cells #[.int .u8 (IntKind.u8.wrap (n + 64))] 5)).drew := ((Fr.refl _ w4).alloc _).drew
  refine wpAnyH_ready (rs := [2, 6]) (by kernel_rfl) (by simp) ?_
  refine AllReadyH.cons rfl (fun K hK => ?_) (AllReadyH.cons rfl (fun K hK => ?_) AllReadyH.nil)
  · go_simp
    refine hK.out _ _ ⟨hf6.cellA d1, hf6.cellA e1⟩ (fun hHeld => ?_)
    clear hK hHeld
    try simp only [List.getElem_toArray,List.getElem_cons_zero,List.getElem_cons_succ,Act.put,List.setIfInBounds_toArray,List.set_cons_zero,List.set_cons_succ]
    refine wpAnyH_ready (rs := [6]) (by kernel_rfl) (by simp) ?_
    refine AllReadyH.cons rfl (fun K hK => ?_) AllReadyH.nil
    go_simp
    refine (DO.out _ _ ((H.out.fr hf1).fr (hf4.trans hf6 (fun _ h => .inl h)))).mono ?_
    rintro e w' ⟨he, hrest⟩
    have he' : e = _ := he
    subst he'
    intro tmps ht
    have hf5 : Fr (fun _ => False) w1 _ := hf4.trans hf6 (fun _ h => .inl h)
    have hb1 : w'.heap[w.heap.size]? = some (.cells #[.int .u8 n] 5 (0, 0)) := hrest.1.blk (hf5.blk HB1.out (fun h => h)) (by show ¬ _ = g; omega)
    have hb2 : w'.heap[w.heap.size + 1]? = some (.cells #[.slice none 0 0] 31 (0,0)) := hrest.1.blk (hf5.blk HB2.out (fun h => h)) (by show ¬ _ = g; omega)
    refine leaves_refused hn ht hb1 hb2 rfl ?_
    intro v w'' hv hf
    have hsz := hrest.1.size
    have hs5 := hf5.size
    exact MPost.denied (b2 := w.heap.size + 1) (MPost.from (w1 := _) ⟨he,hrest⟩ hf5) hf1 (by omega) hs1 (fun hk => by have := hk.2; omega) (by omega) (hv.mono (fun k hk => .inr (by omega))) hf
  · go_simp
    refine (DO.out w4.drew _ ((H.out.fr hf1).fr hf4.drew)).mono ?_
    rintro e w' ⟨he, hrest⟩
    have he' : e = _ := he
    subst he'
    intro tmps ht
    have hf5 : Fr (fun _ => False) w1 w4.drew := hf4.drew
    have hb1 : w'.heap[w.heap.size]? = some (.cells #[.int .u8 n] 5 (0, 0)) := hrest.1.blk (hf5.blk HB1.out (fun h => h)) (by show ¬ _ = g; omega)
    have hb2 : w'.heap[w.heap.size + 1]? = some (.cells #[.slice none 0 0] 31 (0,0)) := hrest.1.blk (hf5.blk HB2.out (fun h => h)) (by show ¬ _ = g; omega)
    refine leaves_refused hn ht hb1 hb2 rfl ?_
    intro v w'' hv hf
    have hsz := hrest.1.size
    have hs5 := hf5.size
    exact MPost.denied (b2 := w.heap.size + 1) (MPost.from (w1 := w4.drew) ⟨he,hrest⟩ hf5) hf1 (by omega) hs1 (fun hk => by have := hk.2; omega) (by omega) (hv.mono (fun k hk => .inr (by omega))) hf
set_option maxRecDepth 100000 in
set_option maxHeartbeats 4000000 in
theorem answer_no3 {l : Int} {F : Nat} (hn : 0 ≤ n ∧ n ≤ 255) (h : MPre w g P s vi vd vq q) (hB : Byt q) (hf : mFind n q = .inr (l,F)) (hl : (l == (q.length : Int)) = false) (hl2 : (l == -1) = true) (hl3 : (n != 46) = false) (hl4 : decide ((2 : Int) < (q.length : Int)) = true) (hcf : ∀ (args : Array Value) (W : World),(callFunc F args).run Try.prog W = .ok (.enter F args) W) {s' : S25} {why : Int} (HDO : ∀ W P,MPre W g P s vi vd vq q → Calls Try.prog F #[.pointer (some ⟨g,0,none⟩)] W (MPost W g P vq (s',.inl why))) :
    Calls Try.prog 82 #[.pointer (some ⟨g, 0, none⟩), .int .u8 n] w (MPost w g P vq (s', .inr [127, n % 256, why % 256])) := by
  refine Calls.mono ?_ (fun e w' h => MPost.unbound h)
  replace h := h.bound
  have hg := blk_lt h.x
  obtain ⟨A, c, ev, hlc, hFq⟩ := h.q
  subst ev
  obtain ⟨w1, ew1⟩ : ∃ w1, w1 = (w.alloc (.cells #[.int .u8 n] 5)).alloc (.cells #[.slice none 0 0] 31) := ⟨_, rfl⟩
  have hf1 : Fr (fun _ => False) w w1 := by rw [ew1]; exact ((Fr.refl _ w).alloc _).alloc _
  have FC := find_calls (n := n) (h.fr hf1) hB
  rw [hf] at FC
  have hb1 : w1.heap[w.heap.size]? = some (.cells #[.int .u8 n] 5 (0, 0)) := by rw [ew1]; exact blk_alloc (blk_new w _) _
  have hb2 : w1.heap[w.heap.size + 1]? = some (.cells #[.slice none 0 0] 31 (0,0)) := by rw [ew1]; exact blk_new' (by show _ = (Array.push _ _).size; rw [Array.size_push])
  have c9 : w.cell? ⟨g, 9, none⟩ = some (.slice A q.length c) := (blk_cell h.x 9).trans rfl
  have H := Aside0.mk h
  have FC' := Aside0.mk FC
  have EW := Aside0.mk ew1
  have HB1 := Aside0.mk hb1
  have HB2 := Aside0.mk hb2
  have DO := Aside0.mk HDO
  clear HDO h FC ew1 hf hb1 hb2 hFq hlc
  go_enter_defers Try.func82, Try.ntmps82
  go_wp2_with (go_at_call 122; rw [← EW.out]; refine FC'.out.mono ?_; rintro e w2 ⟨hf2, he⟩; subst he; (unfold sv))
  have hF2 := hf1.trans hf2 (fun _ h => .inl h)
  have hs2 := hF2.size
  obtain ⟨w3, ew3⟩ : ∃ w3, w3 = w2.alloc (.cells #[.int .i64 l, .func (.func F) #[] #[]] 175) := ⟨_, rfl⟩
  have hf3 : Fr (fun _ => False) w2 w3 := by rw [ew3]; exact (Fr.refl _ w2).alloc _
  have hb3 : w3.heap[w2.heap.size]? = some (.cells #[.int .i64 l, .func (.func F) #[] #[]] 175 (0, 0)) := by rw [ew3]; exact blk_new w2 _
  rw [← ew3]
  have hF3 := hF2.trans hf3 (fun _ h => .inl h)
  have d0 : w3.cell? ⟨w2.heap.size, 0, none⟩ = some (.int .i64 l) := (blk_cell hb3 0).trans rfl
  have e1 : w3.cell? ⟨w2.heap.size, 1, none⟩ = some (.func (.func F) #[] #[]) := (blk_cell hb3 1).trans rfl
  have d1 : w3.cell? ⟨w.heap.size, 0, none⟩ = some (.int .u8 n) := (hf2.trans hf3 (fun _ h => .inl h)).cellA ((blk_cell HB1.out 0).trans rfl)
  replace c9 := hF3.cellA c9
  clear ew3
  refine wp_region_free (S := fun w' => w'.cell? ⟨w2.heap.size,0,none⟩ = some (.int .i64 l) ∧ w'.cell? ⟨w.heap.size,0,none⟩ = some (.int .u8 n) ∧ w'.cell? ⟨g,9,none⟩ = some (.slice A q.length c)) 4 (.pointer (some ⟨w.heap.size + 1,0,none⟩)) (by kernel_rfl) (by kernel_rfl) rfl ⟨d0,d1,c9⟩ ?_
  intro hS
  refine wpAnyH_take (i := 0) (v := ?_) rfl (by kernel_rfl) (by kernel_rfl) (by kernel_rfl) (fun _ _ _ h => h) (Or.inl ⟨by rfl, ?_⟩) hS ?_
  rotate_left
  · intro w4 h4
    obtain ⟨k0, k1, k9⟩ := h4
    go_simp
    try with_reducible rfl
  simp only [List.getElem_toArray,List.getElem_cons_zero,List.getElem_cons_succ,Act.put,List.setIfInBounds_toArray,List.set_cons_zero,List.set_cons_succ]
  refine wpAnyH_take (i := 1) (v := ?_) rfl (by kernel_rfl) (by kernel_rfl) (by kernel_rfl) (fun _ _ _ h => h) (Or.inl ⟨by rfl, ?_⟩) hS ?_
  rotate_left
  · intro w4 h4
    obtain ⟨k0, k1, k9⟩ := h4
    go_simp
    try with_reducible rfl
  simp only [List.getElem_toArray,List.getElem_cons_zero,List.getElem_cons_succ,Act.put,List.setIfInBounds_toArray,List.set_cons_zero,List.set_cons_succ]
  refine wpAnyH_take (i := 2) (v := ?_) rfl (by kernel_rfl) (by kernel_rfl) (by kernel_rfl) (fun _ _ _ h => h) (Or.inl ⟨by rfl, ?_⟩) hS ?_
  rotate_left
  · intro w4 h4
    obtain ⟨k0, k1, k9⟩ := h4
    go_simp
    try with_reducible rfl
  simp only [List.getElem_toArray,List.getElem_cons_zero,List.getElem_cons_succ,Act.put,List.setIfInBounds_toArray,List.set_cons_zero,List.set_cons_succ]
  refine wpAnyH_take (i := 3) (v := ?_) rfl (by kernel_rfl) (by kernel_rfl) (by kernel_rfl) (fun _ _ _ h => h) (Or.inl ⟨by rfl, ?_⟩) hS ?_
  rotate_left
  · intro w4 h4
    obtain ⟨k0, k1, k9⟩ := h4
    go_simp
    try with_reducible rfl
  simp only [List.getElem_toArray,List.getElem_cons_zero,List.getElem_cons_succ,Act.put,List.setIfInBounds_toArray,List.set_cons_zero,List.set_cons_succ]
  refine wpAnyH_take (i := 4) (v := ?_) rfl (by kernel_rfl) (by kernel_rfl) (by kernel_rfl) (fun _ _ _ h => h) (Or.inl ⟨by rfl, ?_⟩) hS ?_
  rotate_left
  · intro w4 h4
    obtain ⟨k0, k1, k9⟩ := h4
    go_simp
    try with_reducible rfl
  simp only [List.getElem_toArray,List.getElem_cons_zero,List.getElem_cons_succ,Act.put,List.setIfInBounds_toArray,List.set_cons_zero,List.set_cons_succ]
  refine wpAnyH_take (i := 5) (v := ?_) rfl (by kernel_rfl) (by kernel_rfl) (by kernel_rfl) (fun _ _ _ h => h) (Or.inl ⟨by rfl, ?_⟩) hS ?_
  rotate_left
  · intro w4 h4
    obtain ⟨k0, k1, k9⟩ := h4
    go_simp
    try with_reducible rfl
  simp only [List.getElem_toArray,List.getElem_cons_zero,List.getElem_cons_succ,Act.put,List.setIfInBounds_toArray,List.set_cons_zero,List.set_cons_succ]
  refine wpAnyH_take (i := 6) (v := ?_) rfl (by kernel_rfl) (by kernel_rfl) (by kernel_rfl) (fun _ _ _ h => h) (Or.inl ⟨by rfl, ?_⟩) hS ?_
  rotate_left
  · intro w4 h4
    obtain ⟨k0, k1, k9⟩ := h4
    go_simp
    try with_reducible rfl
  simp only [List.getElem_toArray,List.getElem_cons_zero,List.getElem_cons_succ,Act.put,List.setIfInBounds_toArray,List.set_cons_zero,List.set_cons_succ]
  refine wpAnyH_take (i := 7) (v := ?_) rfl (by kernel_rfl) (by kernel_rfl) (by kernel_rfl) (fun _ _ _ h => h) (Or.inl ⟨by rfl, ?_⟩) hS ?_
  rotate_left
  · intro w4 h4
    obtain ⟨k0, k1, k9⟩ := h4
    go_simp
    try with_reducible rfl
  simp only [List.getElem_toArray,List.getElem_cons_zero,List.getElem_cons_succ,Act.put,List.setIfInBounds_toArray,List.set_cons_zero,List.set_cons_succ]
  refine wpAnyH_take (i := 8) (v := ?_) rfl (by kernel_rfl) (by kernel_rfl) (by kernel_rfl) (fun _ _ _ h => h) (Or.inl ⟨by rfl, ?_⟩) hS ?_
  rotate_left
  · intro w4 h4
    obtain ⟨k0, k1, k9⟩ := h4
    go_simp
    try with_reducible rfl
  simp only [List.getElem_toArray,List.getElem_cons_zero,List.getElem_cons_succ,Act.put,List.setIfInBounds_toArray,List.set_cons_zero,List.set_cons_succ]
  refine wpAnyH_take (i := 9) (v := ?_) rfl (by kernel_rfl) (by kernel_rfl) (by kernel_rfl) (fun _ _ _ h => h) (Or.inl ⟨by rfl, ?_⟩) hS ?_
  rotate_left
  · intro w4 h4
    obtain ⟨k0, k1, k9⟩ := h4
    go_simp
    try with_reducible rfl
  simp only [List.getElem_toArray,List.getElem_cons_zero,List.getElem_cons_succ,Act.put,List.setIfInBounds_toArray,List.set_cons_zero,List.set_cons_succ]
  refine wpAnyH_take (i := 10) (v := ?_) rfl (by kernel_rfl) (by kernel_rfl) (by kernel_rfl) (fun _ _ _ h => h) (Or.inl ⟨by rfl, ?_⟩) hS ?_
  rotate_left
  · intro w4 h4
    obtain ⟨k0, k1, k9⟩ := h4
    go_simp
    try with_reducible rfl
  simp only [List.getElem_toArray,List.getElem_cons_zero,List.getElem_cons_succ,Act.put,List.setIfInBounds_toArray,List.set_cons_zero,List.set_cons_succ]
  refine wpAnyH_take (i := 11) (v := ?_) rfl (by kernel_rfl) (by kernel_rfl) (by kernel_rfl) (fun _ _ _ h => h) (Or.inl ⟨by rfl, ?_⟩) hS ?_
  rotate_left
  · intro w4 h4
    obtain ⟨k0, k1, k9⟩ := h4
    go_simp
    try with_reducible rfl
  simp only [List.getElem_toArray,List.getElem_cons_zero,List.getElem_cons_succ,Act.put,List.setIfInBounds_toArray,List.set_cons_zero,List.set_cons_succ]
  refine wpAnyH_take (i := 12) (v := ?_) rfl (by kernel_rfl) (by kernel_rfl) (by kernel_rfl) (fun _ _ _ h => h) (Or.inl ⟨by rfl, ?_⟩) hS ?_
  rotate_left
  · intro w4 h4
    obtain ⟨k0, k1, k9⟩ := h4
    go_simp
    try with_reducible rfl
  simp only [List.getElem_toArray,List.getElem_cons_zero,List.getElem_cons_succ,Act.put,List.setIfInBounds_toArray,List.set_cons_zero,List.set_cons_succ]
  refine wpAnyH_take (i := 13) (v := ?_) rfl (by kernel_rfl) (by kernel_rfl) (by kernel_rfl) (fun _ _ _ h => h) (Or.inl ⟨by rfl, ?_⟩) hS ?_
  rotate_left
  · intro w4 h4
    obtain ⟨k0, k1, k9⟩ := h4
    go_simp
    try with_reducible rfl
  simp only [List.getElem_toArray,List.getElem_cons_zero,List.getElem_cons_succ,Act.put,List.setIfInBounds_toArray,List.set_cons_zero,List.set_cons_succ]
  refine wpAnyH_take (i := 14) (v := ?_) rfl (by kernel_rfl) (by kernel_rfl) (by kernel_rfl) (fun _ _ _ h => h) (Or.inl ⟨by rfl, ?_⟩) hS ?_
  rotate_left
  · intro w4 h4
    obtain ⟨k0, k1, k9⟩ := h4
    go_simp
    try with_reducible rfl
  simp only [List.getElem_toArray,List.getElem_cons_zero,List.getElem_cons_succ,Act.put,List.setIfInBounds_toArray,List.set_cons_zero,List.set_cons_succ]
  refine wpAnyH_take (i := 15) (v := ?_) rfl (by kernel_rfl) (by kernel_rfl) (by kernel_rfl) (fun _ _ _ h => h) (Or.inl ⟨by rfl, ?_⟩) hS ?_
  rotate_left
  · intro w4 h4
    obtain ⟨k0, k1, k9⟩ := h4
    go_simp
    try with_reducible rfl
  simp only [List.getElem_toArray,List.getElem_cons_zero,List.getElem_cons_succ,Act.put,List.setIfInBounds_toArray,List.set_cons_zero,List.set_cons_succ]
  refine wpAnyH_take (i := 16) (v := ?_) rfl (by kernel_rfl) (by kernel_rfl) (by kernel_rfl) (fun _ _ _ h => h) (Or.inl ⟨by rfl, ?_⟩) hS ?_
  rotate_left
  · intro w4 h4
    obtain ⟨k0, k1, k9⟩ := h4
    go_simp
    try with_reducible rfl
  simp only [List.getElem_toArray,List.getElem_cons_zero,List.getElem_cons_succ,Act.put,List.setIfInBounds_toArray,List.set_cons_zero,List.set_cons_succ]
  refine wpAnyH_take (i := 17) (v := ?_) rfl (by kernel_rfl) (by kernel_rfl) (by kernel_rfl) (fun _ _ _ h => h) (Or.inl ⟨by rfl, ?_⟩) hS ?_
  rotate_left
  · intro w4 h4
    obtain ⟨k0, k1, k9⟩ := h4
    go_simp
    try with_reducible rfl
  simp only [List.getElem_toArray,List.getElem_cons_zero,List.getElem_cons_succ,Act.put,List.setIfInBounds_toArray,List.set_cons_zero,List.set_cons_succ]
  refine wpAnyH_take (i := 18) (v := ?_) rfl (by kernel_rfl) (by kernel_rfl) (by kernel_rfl) (fun _ _ _ h => h) (Or.inl ⟨by rfl, ?_⟩) hS ?_
  rotate_left
  · intro w4 h4
    obtain ⟨k0, k1, k9⟩ := h4
    go_simp
    try with_reducible rfl
  simp only [List.getElem_toArray,List.getElem_cons_zero,List.getElem_cons_succ,Act.put,List.setIfInBounds_toArray,List.set_cons_zero,List.set_cons_succ]
  refine wpAnyH_take (i := 19) (v := ?_) rfl (by kernel_rfl) (by kernel_rfl) (by kernel_rfl) (fun _ _ _ h => h) (Or.inl ⟨by rfl, ?_⟩) hS ?_
  rotate_left
  · intro w4 h4
    obtain ⟨k0, k1, k9⟩ := h4
    go_simp
    try with_reducible rfl
  simp only [List.getElem_toArray,List.getElem_cons_zero,List.getElem_cons_succ,Act.put,List.setIfInBounds_toArray,List.set_cons_zero,List.set_cons_succ]
  refine wpAnyH_take (i := 20) (v := ?_) rfl (by kernel_rfl) (by kernel_rfl) (by kernel_rfl) (fun _ _ _ h => h) (Or.inl ⟨by rfl, ?_⟩) hS ?_
  rotate_left
  · intro w4 h4
    obtain ⟨k0, k1, k9⟩ := h4
    go_simp
    try with_reducible rfl
  simp only [List.getElem_toArray,List.getElem_cons_zero,List.getElem_cons_succ,Act.put,List.setIfInBounds_toArray,List.set_cons_zero,List.set_cons_succ]
  refine wpAnyH_take (i := 21) (v := ?_) rfl (by kernel_rfl) (by kernel_rfl) (by kernel_rfl) (fun _ _ _ h => h) (Or.inl ⟨by rfl, ?_⟩) hS ?_
  rotate_left
  · intro w4 h4
    obtain ⟨k0, k1, k9⟩ := h4
    go_simp
    try with_reducible rfl
  simp only [List.getElem_toArray,List.getElem_cons_zero,List.getElem_cons_succ,Act.put,List.setIfInBounds_toArray,List.set_cons_zero,List.set_cons_succ]
  refine wpAnyH_take (i := 22) (v := ?_) rfl (by kernel_rfl) (by kernel_rfl) (by kernel_rfl) (fun _ _ _ h => h) (Or.inl ⟨by rfl, ?_⟩) hS ?_
  rotate_left
  · intro w4 h4
    obtain ⟨k0, k1, k9⟩ := h4
    go_simp
    try with_reducible rfl
  simp only [List.getElem_toArray,List.getElem_cons_zero,List.getElem_cons_succ,Act.put,List.setIfInBounds_toArray,List.set_cons_zero,List.set_cons_succ]
  refine wpAnyH_take (i := 23) (v := ?_) rfl (by kernel_rfl) (by kernel_rfl) (by kernel_rfl) (fun _ _ _ h => h) (Or.inl ⟨by rfl, ?_⟩) hS ?_
  rotate_left
  · intro w4 h4
    obtain ⟨k0, k1, k9⟩ := h4
    go_simp
    try with_reducible rfl
  simp only [List.getElem_toArray,List.getElem_cons_zero,List.getElem_cons_succ,Act.put,List.setIfInBounds_toArray,List.set_cons_zero,List.set_cons_succ]
  refine wpAnyH_take (i := 24) (v := ?_) rfl (by kernel_rfl) (by kernel_rfl) (by kernel_rfl) (fun _ _ _ h => h) (Or.inl ⟨by rfl, ?_⟩) hS ?_
  rotate_left
  · intro w4 h4
    obtain ⟨k0, k1, k9⟩ := h4
    go_simp
    try with_reducible rfl
  simp only [List.getElem_toArray,List.getElem_cons_zero,List.getElem_cons_succ,Act.put,List.setIfInBounds_toArray,List.set_cons_zero,List.set_cons_succ]
  refine wpAnyH_ready (rs := [25]) (by kernel_rfl) (by simp) ?_
  refine AllReadyH.cons rfl (fun K hK => ?_) AllReadyH.nil
  go_simp
  refine (unless_yes _ _).mono ?_
  rintro e w' ⟨rfl, rfl⟩
  show K _ _
  refine hK.out _ _ hS (fun hHeld => ?_)
  clear hK hHeld hS
  try simp only [List.getElem_toArray,List.getElem_cons_zero,List.getElem_cons_succ,Act.put,List.setIfInBounds_toArray,List.set_cons_zero,List.set_cons_succ]
  refine wpAnyH_done (by kernel_rfl) ?_ _
  simp only [QFree, Exit.then]
  go_wp2
  obtain ⟨w4, ew4⟩ : ∃ w4, w4 = w3.drew := ⟨_, rfl⟩
  have hf4 : Fr (fun _ => False) w1 w4 := by rw [ew4]; exact (hf2.trans hf3 (fun _ h => .inl h)).drew
  replace d1 : w4.cell? ⟨w.heap.size, 0, none⟩ = some (.int .u8 n) := by rw [ew4]; exact d1
  replace e1 : w4.cell? ⟨w2.heap.size, 1, none⟩ = some (.func (.func F) #[] #[]) := by rw [ew4]; exact e1
  rw [← ew4]
  have h2lt : w2.heap.size < w4.heap.size := by rw [ew4]; exact blk_lt hb3
  have hs1 := blk_lt HB2.out
  have hs2' := hf2.size
  clear ew4 d0 c9
  refine wp_region_free (S := fun w' => w'.cell? ⟨w.heap.size,0,none⟩ = some (.int .u8 n) ∧ w'.cell? ⟨w2.heap.size,1,none⟩ = some (.func (.func F) #[] #[])) 4 (.pointer (some ⟨w.heap.size + 1,0,none⟩)) (by kernel_rfl) (by kernel_rfl) rfl ⟨d1,e1⟩ ?_
  intro hS
  refine wpAnyH_take (i := 0) (v := ?_) rfl (by kernel_rfl) (by kernel_rfl) (by kernel_rfl) (fun _ _ _ h => h) (Or.inl ⟨by rfl, ?_⟩) hS ?_
  rotate_left
  · intro w4 h4
    obtain ⟨k0, k1⟩ := h4
    go_simp
    try with_reducible rfl
  try simp only [List.getElem_toArray,List.getElem_cons_zero,List.getElem_cons_succ,Act.put,List.setIfInBounds_toArray,List.set_cons_zero,List.set_cons_succ]
  refine wpAnyH_take (i := 1) (v := ?_) rfl (by kernel_rfl) (by kernel_rfl) (by kernel_rfl) (fun _ _ _ h => h) (Or.inl ⟨by rfl, ?_⟩) hS ?_
  rotate_left
  · intro w4 h4
    obtain ⟨k0, k1⟩ := h4
    go_simp
    try with_reducible rfl
  try simp only [List.getElem_toArray,List.getElem_cons_zero,List.getElem_cons_succ,Act.put,List.setIfInBounds_toArray,List.set_cons_zero,List.set_cons_succ]
  refine wpAnyH_take (i := 3) (v := ?_) rfl (by kernel_rfl) (by kernel_rfl) (by kernel_rfl) (fun _ _ _ h => h) (Or.inl ⟨by rfl, ?_⟩) hS ?_
  rotate_left
  · intro w4 h4
    obtain ⟨k0, k1⟩ := h4
    go_simp
    try with_reducible rfl
  try simp only [List.getElem_toArray,List.getElem_cons_zero,List.getElem_cons_succ,Act.put,List.setIfInBounds_toArray,List.set_cons_zero,List.set_cons_succ]
  refine wpAnyH_take (i := 4) (v := ?_) rfl (by kernel_rfl) (by kernel_rfl) (by kernel_rfl) (fun _ _ _ h => h) (Or.inl ⟨by rfl, ?_⟩) hS ?_
  rotate_left
  · intro w4 h4
    obtain ⟨k0, k1⟩ := h4
    go_simp
    try with_reducible rfl
  try simp only [List.getElem_toArray,List.getElem_cons_zero,List.getElem_cons_succ,Act.put,List.setIfInBounds_toArray,List.set_cons_zero,List.set_cons_succ]
  refine wpAnyH_take (i := 5) (v := ?_) rfl (by kernel_rfl) (by kernel_rfl) (by kernel_rfl) (fun _ _ _ h => h) (Or.inl ⟨by rfl, ?_⟩) hS ?_
  rotate_left
  · intro w4 h4
    obtain ⟨k0, k1⟩ := h4
    go_simp
    try with_reducible rfl
  try simp only [List.getElem_toArray,List.getElem_cons_zero,List.getElem_cons_succ,Act.put,List.setIfInBounds_toArray,List.set_cons_zero,List.set_cons_succ]
  have hf6 : Fr (fun _ => False) w4 (w4.alloc (.cells #[.int .u8 (IntKind.u8.wrap (n + 64))] 5)).drew := ((Fr.refl _ w4).alloc _).drew
  refine wpAnyH_ready (rs := [2, 6]) (by kernel_rfl) (by simp) ?_
  refine AllReadyH.cons rfl (fun K hK => ?_) (AllReadyH.cons rfl (fun K hK => ?_) AllReadyH.nil)
  · go_simp
    refine hK.out _ _ ⟨hf6.cellA d1, hf6.cellA e1⟩ (fun hHeld => ?_)
    clear hK hHeld
    try simp only [List.getElem_toArray,List.getElem_cons_zero,List.getElem_cons_succ,Act.put,List.setIfInBounds_toArray,List.set_cons_zero,List.set_cons_succ]
    refine wpAnyH_ready (rs := [6]) (by kernel_rfl) (by simp) ?_
    refine AllReadyH.cons rfl (fun K hK => ?_) AllReadyH.nil
    go_simp
    refine (DO.out _ _ ((H.out.fr hf1).fr (hf4.trans hf6 (fun _ h => .inl h)))).mono ?_
    rintro e w' ⟨he, hrest⟩
    have he' : e = _ := he
    subst he'
    intro tmps ht
    have hf5 : Fr (fun _ => False) w1 _ := hf4.trans hf6 (fun _ h => .inl h)
    have hb1 : w'.heap[w.heap.size]? = some (.cells #[.int .u8 n] 5 (0, 0)) := hrest.1.blk (hf5.blk HB1.out (fun h => h)) (by show ¬ _ = g; omega)
    have hb2 : w'.heap[w.heap.size + 1]? = some (.cells #[.slice none 0 0] 31 (0,0)) := hrest.1.blk (hf5.blk HB2.out (fun h => h)) (by show ¬ _ = g; omega)
    refine leaves_refused hn ht hb1 hb2 rfl ?_
    intro v w'' hv hf
    have hsz := hrest.1.size
    have hs5 := hf5.size
    exact MPost.denied (b2 := w.heap.size + 1) (MPost.from (w1 := _) ⟨he,hrest⟩ hf5) hf1 (by omega) hs1 (fun hk => by have := hk.2; omega) (by omega) (hv.mono (fun k hk => .inr (by omega))) hf
  · go_simp
    refine (DO.out w4.drew _ ((H.out.fr hf1).fr hf4.drew)).mono ?_
    rintro e w' ⟨he, hrest⟩
    have he' : e = _ := he
    subst he'
    intro tmps ht
    have hf5 : Fr (fun _ => False) w1 w4.drew := hf4.drew
    have hb1 : w'.heap[w.heap.size]? = some (.cells #[.int .u8 n] 5 (0, 0)) := hrest.1.blk (hf5.blk HB1.out (fun h => h)) (by show ¬ _ = g; omega)
    have hb2 : w'.heap[w.heap.size + 1]? = some (.cells #[.slice none 0 0] 31 (0,0)) := hrest.1.blk (hf5.blk HB2.out (fun h => h)) (by show ¬ _ = g; omega)
    refine leaves_refused hn ht hb1 hb2 rfl ?_
    intro v w'' hv hf
    have hsz := hrest.1.size
    have hs5 := hf5.size
    exact MPost.denied (b2 := w.heap.size + 1) (MPost.from (w1 := w4.drew) ⟨he,hrest⟩ hf5) hf1 (by omega) hs1 (fun hk => by have := hk.2; omega) (by omega) (hv.mono (fun k hk => .inr (by omega))) hf
set_option maxRecDepth 100000 in
set_option maxHeartbeats 4000000 in
theorem answer_yes1 {l : Int} {F : Nat} (hn : 0 ≤ n ∧ n ≤ 255) (h : MPre w g P s vi vd vq q) (hB : Byt q) (hf : mFind n q = .inr (l,F)) (hl : (l == (q.length : Int)) = true) (hcf : ∀ (args : Array Value) (W : World),(callFunc F args).run Try.prog W = .ok (.enter F args) W) {s' : S25} {b : List Int} (HDO : ∀ W P,MPre W g P s vi vd vq q → Calls Try.prog F #[.pointer (some ⟨g,0,none⟩)] W (MPost W g P vq (s',.inr b))) (hbl : b.length ≤ 2000) :
    Calls Try.prog 82 #[.pointer (some ⟨g, 0, none⟩), .int .u8 n] w (MPost w g P vq (s', .inr ((n + 64) % 256 :: b))) := by
  refine Calls.mono ?_ (fun e w' h => MPost.unbound h)
  replace h := h.bound
  have hg := blk_lt h.x
  obtain ⟨A, c, ev, hlc, hFq⟩ := h.q
  subst ev
  obtain ⟨w1, ew1⟩ : ∃ w1, w1 = (w.alloc (.cells #[.int .u8 n] 5)).alloc (.cells #[.slice none 0 0] 31) := ⟨_, rfl⟩
  have hf1 : Fr (fun _ => False) w w1 := by rw [ew1]; exact ((Fr.refl _ w).alloc _).alloc _
  have FC := find_calls (n := n) (h.fr hf1) hB
  rw [hf] at FC
  have hb1 : w1.heap[w.heap.size]? = some (.cells #[.int .u8 n] 5 (0, 0)) := by rw [ew1]; exact blk_alloc (blk_new w _) _
  have hb2 : w1.heap[w.heap.size + 1]? = some (.cells #[.slice none 0 0] 31 (0,0)) := by rw [ew1]; exact blk_new' (by show _ = (Array.push _ _).size; rw [Array.size_push])
  have c9 : w.cell? ⟨g, 9, none⟩ = some (.slice A q.length c) := (blk_cell h.x 9).trans rfl
  have H := Aside0.mk h
  have FC' := Aside0.mk FC
  have EW := Aside0.mk ew1
  have HB1 := Aside0.mk hb1
  have HB2 := Aside0.mk hb2
  have DO := Aside0.mk HDO
  clear HDO h FC ew1 hf hb1 hb2 hFq hlc
  go_enter_defers Try.func82, Try.ntmps82
  go_wp2_with (go_at_call 122; rw [← EW.out]; refine FC'.out.mono ?_; rintro e w2 ⟨hf2, he⟩; subst he; (unfold sv))
  have hF2 := hf1.trans hf2 (fun _ h => .inl h)
  have hs2 := hF2.size
  obtain ⟨w3, ew3⟩ : ∃ w3, w3 = w2.alloc (.cells #[.int .i64 l, .func (.func F) #[] #[]] 175) := ⟨_, rfl⟩
  have hf3 : Fr (fun _ => False) w2 w3 := by rw [ew3]; exact (Fr.refl _ w2).alloc _
  have hb3 : w3.heap[w2.heap.size]? = some (.cells #[.int .i64 l, .func (.func F) #[] #[]] 175 (0, 0)) := by rw [ew3]; exact blk_new w2 _
  rw [← ew3]
  have hF3 := hF2.trans hf3 (fun _ h => .inl h)
  have d0 : w3.cell? ⟨w2.heap.size, 0, none⟩ = some (.int .i64 l) := (blk_cell hb3 0).trans rfl
  have e1 : w3.cell? ⟨w2.heap.size, 1, none⟩ = some (.func (.func F) #[] #[]) := (blk_cell hb3 1).trans rfl
  have d1 : w3.cell? ⟨w.heap.size, 0, none⟩ = some (.int .u8 n) := (hf2.trans hf3 (fun _ h => .inl h)).cellA ((blk_cell HB1.out 0).trans rfl)
  replace c9 := hF3.cellA c9
  clear ew3
  refine wp_region_free (S := fun w' => w'.cell? ⟨w2.heap.size,0,none⟩ = some (.int .i64 l) ∧ w'.cell? ⟨w.heap.size,0,none⟩ = some (.int .u8 n) ∧ w'.cell? ⟨g,9,none⟩ = some (.slice A q.length c)) 4 (.pointer (some ⟨w.heap.size + 1,0,none⟩)) (by kernel_rfl) (by kernel_rfl) rfl ⟨d0,d1,c9⟩ ?_
  intro hS
  refine wpAnyH_take (i := 0) (v := ?_) rfl (by kernel_rfl) (by kernel_rfl) (by kernel_rfl) (fun _ _ _ h => h) (Or.inl ⟨by rfl, ?_⟩) hS ?_
  rotate_left
  · intro w4 h4
    obtain ⟨k0, k1, k9⟩ := h4
    go_simp
    try with_reducible rfl
  simp only [List.getElem_toArray,List.getElem_cons_zero,List.getElem_cons_succ,Act.put,List.setIfInBounds_toArray,List.set_cons_zero,List.set_cons_succ]
  refine wpAnyH_take (i := 1) (v := ?_) rfl (by kernel_rfl) (by kernel_rfl) (by kernel_rfl) (fun _ _ _ h => h) (Or.inl ⟨by rfl, ?_⟩) hS ?_
  rotate_left
  · intro w4 h4
    obtain ⟨k0, k1, k9⟩ := h4
    go_simp
    try with_reducible rfl
  simp only [List.getElem_toArray,List.getElem_cons_zero,List.getElem_cons_succ,Act.put,List.setIfInBounds_toArray,List.set_cons_zero,List.set_cons_succ]
  refine wpAnyH_take (i := 2) (v := ?_) rfl (by kernel_rfl) (by kernel_rfl) (by kernel_rfl) (fun _ _ _ h => h) (Or.inl ⟨by rfl, ?_⟩) hS ?_
  rotate_left
  · intro w4 h4
    obtain ⟨k0, k1, k9⟩ := h4
    go_simp
    try with_reducible rfl
  simp only [List.getElem_toArray,List.getElem_cons_zero,List.getElem_cons_succ,Act.put,List.setIfInBounds_toArray,List.set_cons_zero,List.set_cons_succ]
  refine wpAnyH_take (i := 3) (v := ?_) rfl (by kernel_rfl) (by kernel_rfl) (by kernel_rfl) (fun _ _ _ h => h) (Or.inl ⟨by rfl, ?_⟩) hS ?_
  rotate_left
  · intro w4 h4
    obtain ⟨k0, k1, k9⟩ := h4
    go_simp
    try with_reducible rfl
  simp only [List.getElem_toArray,List.getElem_cons_zero,List.getElem_cons_succ,Act.put,List.setIfInBounds_toArray,List.set_cons_zero,List.set_cons_succ]
  refine wpAnyH_take (i := 4) (v := ?_) rfl (by kernel_rfl) (by kernel_rfl) (by kernel_rfl) (fun _ _ _ h => h) (Or.inl ⟨by rfl, ?_⟩) hS ?_
  rotate_left
  · intro w4 h4
    obtain ⟨k0, k1, k9⟩ := h4
    go_simp
    try with_reducible rfl
  simp only [List.getElem_toArray,List.getElem_cons_zero,List.getElem_cons_succ,Act.put,List.setIfInBounds_toArray,List.set_cons_zero,List.set_cons_succ]
  refine wpAnyH_take (i := 5) (v := ?_) rfl (by kernel_rfl) (by kernel_rfl) (by kernel_rfl) (fun _ _ _ h => h) (Or.inl ⟨by rfl, ?_⟩) hS ?_
  rotate_left
  · intro w4 h4
    obtain ⟨k0, k1, k9⟩ := h4
    go_simp
    try with_reducible rfl
  simp only [List.getElem_toArray,List.getElem_cons_zero,List.getElem_cons_succ,Act.put,List.setIfInBounds_toArray,List.set_cons_zero,List.set_cons_succ]
  refine wpAnyH_take (i := 6) (v := ?_) rfl (by kernel_rfl) (by kernel_rfl) (by kernel_rfl) (fun _ _ _ h => h) (Or.inl ⟨by rfl, ?_⟩) hS ?_
  rotate_left
  · intro w4 h4
    obtain ⟨k0, k1, k9⟩ := h4
    go_simp
    try with_reducible rfl
  simp only [List.getElem_toArray,List.getElem_cons_zero,List.getElem_cons_succ,Act.put,List.setIfInBounds_toArray,List.set_cons_zero,List.set_cons_succ]
  refine wpAnyH_take (i := 7) (v := ?_) rfl (by kernel_rfl) (by kernel_rfl) (by kernel_rfl) (fun _ _ _ h => h) (Or.inl ⟨by rfl, ?_⟩) hS ?_
  rotate_left
  · intro w4 h4
    obtain ⟨k0, k1, k9⟩ := h4
    go_simp
    try with_reducible rfl
  simp only [List.getElem_toArray,List.getElem_cons_zero,List.getElem_cons_succ,Act.put,List.setIfInBounds_toArray,List.set_cons_zero,List.set_cons_succ]
  refine wpAnyH_take (i := 8) (v := ?_) rfl (by kernel_rfl) (by kernel_rfl) (by kernel_rfl) (fun _ _ _ h => h) (Or.inl ⟨by rfl, ?_⟩) hS ?_
  rotate_left
  · intro w4 h4
    obtain ⟨k0, k1, k9⟩ := h4
    go_simp
    try with_reducible rfl
  simp only [List.getElem_toArray,List.getElem_cons_zero,List.getElem_cons_succ,Act.put,List.setIfInBounds_toArray,List.set_cons_zero,List.set_cons_succ]
  refine wpAnyH_take (i := 9) (v := undef) rfl (by kernel_rfl) (by kernel_rfl) (by kernel_rfl) (fun _ _ _ h => h) (Or.inr ⟨by rfl, rfl⟩) hS ?_
  simp only [List.getElem_toArray,List.getElem_cons_zero,List.getElem_cons_succ,Act.put,List.setIfInBounds_toArray,List.set_cons_zero,List.set_cons_succ]
  refine wpAnyH_take (i := 10) (v := undef) rfl (by kernel_rfl) (by kernel_rfl) (by kernel_rfl) (fun _ _ _ h => h) (Or.inr ⟨by rfl, rfl⟩) hS ?_
  simp only [List.getElem_toArray,List.getElem_cons_zero,List.getElem_cons_succ,Act.put,List.setIfInBounds_toArray,List.set_cons_zero,List.set_cons_succ]
  refine wpAnyH_take (i := 11) (v := undef) rfl (by kernel_rfl) (by kernel_rfl) (by kernel_rfl) (fun _ _ _ h => h) (Or.inr ⟨by rfl, rfl⟩) hS ?_
  simp only [List.getElem_toArray,List.getElem_cons_zero,List.getElem_cons_succ,Act.put,List.setIfInBounds_toArray,List.set_cons_zero,List.set_cons_succ]
  refine wpAnyH_take (i := 12) (v := undef) rfl (by kernel_rfl) (by kernel_rfl) (by kernel_rfl) (fun _ _ _ h => h) (Or.inr ⟨by rfl, rfl⟩) hS ?_
  simp only [List.getElem_toArray,List.getElem_cons_zero,List.getElem_cons_succ,Act.put,List.setIfInBounds_toArray,List.set_cons_zero,List.set_cons_succ]
  refine wpAnyH_take (i := 13) (v := undef) rfl (by kernel_rfl) (by kernel_rfl) (by kernel_rfl) (fun _ _ _ h => h) (Or.inr ⟨by rfl, rfl⟩) hS ?_
  simp only [List.getElem_toArray,List.getElem_cons_zero,List.getElem_cons_succ,Act.put,List.setIfInBounds_toArray,List.set_cons_zero,List.set_cons_succ]
  refine wpAnyH_take (i := 14) (v := undef) rfl (by kernel_rfl) (by kernel_rfl) (by kernel_rfl) (fun _ _ _ h => h) (Or.inr ⟨by rfl, rfl⟩) hS ?_
  simp only [List.getElem_toArray,List.getElem_cons_zero,List.getElem_cons_succ,Act.put,List.setIfInBounds_toArray,List.set_cons_zero,List.set_cons_succ]
  refine wpAnyH_take (i := 15) (v := undef) rfl (by kernel_rfl) (by kernel_rfl) (by kernel_rfl) (fun _ _ _ h => h) (Or.inr ⟨by rfl, rfl⟩) hS ?_
  simp only [List.getElem_toArray,List.getElem_cons_zero,List.getElem_cons_succ,Act.put,List.setIfInBounds_toArray,List.set_cons_zero,List.set_cons_succ]
  refine wpAnyH_take (i := 16) (v := undef) rfl (by kernel_rfl) (by kernel_rfl) (by kernel_rfl) (fun _ _ _ h => h) (Or.inr ⟨by rfl, rfl⟩) hS ?_
  simp only [List.getElem_toArray,List.getElem_cons_zero,List.getElem_cons_succ,Act.put,List.setIfInBounds_toArray,List.set_cons_zero,List.set_cons_succ]
  refine wpAnyH_take (i := 17) (v := undef) rfl (by kernel_rfl) (by kernel_rfl) (by kernel_rfl) (fun _ _ _ h => h) (Or.inr ⟨by rfl, rfl⟩) hS ?_
  simp only [List.getElem_toArray,List.getElem_cons_zero,List.getElem_cons_succ,Act.put,List.setIfInBounds_toArray,List.set_cons_zero,List.set_cons_succ]
  refine wpAnyH_take (i := 18) (v := undef) rfl (by kernel_rfl) (by kernel_rfl) (by kernel_rfl) (fun _ _ _ h => h) (Or.inr ⟨by rfl, rfl⟩) hS ?_
  simp only [List.getElem_toArray,List.getElem_cons_zero,List.getElem_cons_succ,Act.put,List.setIfInBounds_toArray,List.set_cons_zero,List.set_cons_succ]
  refine wpAnyH_take (i := 19) (v := undef) rfl (by kernel_rfl) (by kernel_rfl) (by kernel_rfl) (fun _ _ _ h => h) (Or.inr ⟨by rfl, rfl⟩) hS ?_
  simp only [List.getElem_toArray,List.getElem_cons_zero,List.getElem_cons_succ,Act.put,List.setIfInBounds_toArray,List.set_cons_zero,List.set_cons_succ]
  refine wpAnyH_take (i := 20) (v := undef) rfl (by kernel_rfl) (by kernel_rfl) (by kernel_rfl) (fun _ _ _ h => h) (Or.inr ⟨by rfl, rfl⟩) hS ?_
  simp only [List.getElem_toArray,List.getElem_cons_zero,List.getElem_cons_succ,Act.put,List.setIfInBounds_toArray,List.set_cons_zero,List.set_cons_succ]
  refine wpAnyH_take (i := 21) (v := undef) rfl (by kernel_rfl) (by kernel_rfl) (by kernel_rfl) (fun _ _ _ h => h) (Or.inr ⟨by rfl, rfl⟩) hS ?_
  simp only [List.getElem_toArray,List.getElem_cons_zero,List.getElem_cons_succ,Act.put,List.setIfInBounds_toArray,List.set_cons_zero,List.set_cons_succ]
  refine wpAnyH_take (i := 22) (v := undef) rfl (by kernel_rfl) (by kernel_rfl) (by kernel_rfl) (fun _ _ _ h => h) (Or.inr ⟨by rfl, rfl⟩) hS ?_
  simp only [List.getElem_toArray,List.getElem_cons_zero,List.getElem_cons_succ,Act.put,List.setIfInBounds_toArray,List.set_cons_zero,List.set_cons_succ]
  refine wpAnyH_take (i := 23) (v := undef) rfl (by kernel_rfl) (by kernel_rfl) (by kernel_rfl) (fun _ _ _ h => h) (Or.inr ⟨by rfl, rfl⟩) hS ?_
  simp only [List.getElem_toArray,List.getElem_cons_zero,List.getElem_cons_succ,Act.put,List.setIfInBounds_toArray,List.set_cons_zero,List.set_cons_succ]
  refine wpAnyH_take (i := 24) (v := ?_) rfl (by kernel_rfl) (by kernel_rfl) (by kernel_rfl) (fun _ _ _ h => h) (Or.inl ⟨by rfl, ?_⟩) hS ?_
  rotate_left
  · intro w4 h4
    obtain ⟨k0, k1, k9⟩ := h4
    go_simp
    try with_reducible rfl
  simp only [List.getElem_toArray,List.getElem_cons_zero,List.getElem_cons_succ,Act.put,List.setIfInBounds_toArray,List.set_cons_zero,List.set_cons_succ]
  refine wpAnyH_ready (rs := [25]) (by kernel_rfl) (by simp) ?_
  refine AllReadyH.cons rfl (fun K hK => ?_) AllReadyH.nil
  go_simp
  refine (unless_yes _ _).mono ?_
  rintro e w' ⟨rfl, rfl⟩
  show K _ _
  refine hK.out _ _ hS (fun hHeld => ?_)
  clear hK hHeld hS
  try simp only [List.getElem_toArray,List.getElem_cons_zero,List.getElem_cons_succ,Act.put,List.setIfInBounds_toArray,List.set_cons_zero,List.set_cons_succ]
  refine wpAnyH_done (by kernel_rfl) ?_ _
  simp only [QFree, Exit.then]
  go_wp2
  obtain ⟨w4, ew4⟩ : ∃ w4, w4 = w3.drew := ⟨_, rfl⟩
  have hf4 : Fr (fun _ => False) w1 w4 := by rw [ew4]; exact (hf2.trans hf3 (fun _ h => .inl h)).drew
  replace d1 : w4.cell? ⟨w.heap.size, 0, none⟩ = some (.int .u8 n) := by rw [ew4]; exact d1
  replace e1 : w4.cell? ⟨w2.heap.size, 1, none⟩ = some (.func (.func F) #[] #[]) := by rw [ew4]; exact e1
  rw [← ew4]
  have h2lt : w2.heap.size < w4.heap.size := by rw [ew4]; exact blk_lt hb3
  have hs1 := blk_lt HB2.out
  have hs2' := hf2.size
  clear ew4 d0 c9
  have hlt1 : w.heap.size < w4.heap.size := by have := hf4.size; omega
  have hg4 : g < w4.heap.size := by omega
  have HBL := Aside0.mk (show ([IntKind.u8.wrap (n + 64)] : List Int).length + b.length ≤ 140737488355328 by show 1 + _ ≤ _; omega)
  have hz2 := blk_lt HB2.out
  have hb24 := hf4.blk HB2.out (fun h => h)
  have c0 : w4.cell? ⟨w.heap.size + 1, 0, none⟩ = some (.slice none 0 0) := (blk_cell hb24 0).trans rfl
  have z0 := blk_frozen hb24 0
  have hn1 : ¬ (w.heap.size = g ∨ w.heap.size = w.heap.size + 1) := by omega
  have hn2 : ¬ (w2.heap.size = g ∨ w2.heap.size = w.heap.size + 1) := by omega
  go_region_held3 (fun w' => w'.cell? ⟨w.heap.size, 0, none⟩ = some (.int .u8 n) ∧ w'.cell? ⟨w2.heap.size, 1, none⟩ = some (.func (.func F) #[] #[]))
    (refine ⟨(Fr.cell (w := w4) (S := fun i => i = g ∨ i = w.heap.size + 1) ?_ hlt1 hn1).trans d1,(Fr.cell (w := w4) (S := fun i => i = g ∨ i = w.heap.size + 1) ?_ h2lt hn2).trans e1⟩ <;> (repeat (first | exact Fr.refl _ _ | exact hF7 | exact hF5 | refine Fr.alloc ?_ _ | refine Fr.drew ?_ | refine Fr.setCell ?_ (.inl (.inr rfl)) _)))
    (first | (refine (DO.out w4.drew _ ((H.out.fr hf1).fr hf4.drew)).mono ?_; rintro e w5 ⟨he,hrest⟩; obtain ⟨v5,rfl,hv5⟩ := he; have hF5 : Fr (fun i => i = g ∨ i = w.heap.size + 1) w4 w5 := Fr.trans (Fr.refl _ _).drew hrest.1 (fun i h => .inl (.inl h)); have hb25 : w5.heap[w.heap.size + 1]? = some (.cells #[.slice none 0 0] 31 (0,0)) := hrest.1.blk (w := w4.drew) hb24 (show ¬ _ = g by omega)) | (refine (DO.out (w4.alloc (.cells #[.int .u8 (IntKind.u8.wrap (n + 64))] 5)).drew _ ((H.out.fr hf1).fr (hf4.alloc _).drew)).mono ?_; rintro e w5 ⟨he,hrest⟩; obtain ⟨v5,rfl,hv5⟩ := he; have hF5 : Fr (fun i => i = g ∨ i = w.heap.size + 1) w4 w5 := Fr.trans ((Fr.refl _ _).alloc _).drew hrest.1 (fun i h => .inl (.inl h)); have hb25 : w5.heap[w.heap.size + 1]? = some (.cells #[.slice none 0 0] 31 (0,0)) := hrest.1.blk (w := (w4.alloc _).drew) (blk_alloc hb24 _) (show ¬ _ = g by omega); have hb45 : w5.heap[w4.heap.size]? = some (.cells #[.int .u8 (IntKind.u8.wrap (n + 64))] 5 (0,0)) := hrest.1.blk (w := (w4.alloc _).drew) (blk_new w4 _) (show ¬ _ = g by omega)) | (refine appB_step Try.underlying31 i5 (W := w5.alloc (.cells #[.int .u8 (IntKind.u8.wrap (n + 64))] 5)) w4.heap.size rfl _ _ rfl (.slice (some ⟨w5.heap.size,0,none⟩) 1 1) v5 [IntKind.u8.wrap (n + 64)] b rfl rfl (own_lit' w4.heap.size (blk_new w5 _) rfl hF5.size rfl (show 1 ≤ 9223372036854775807 from Nat.le_of_ble_eq_true rfl)) (hv5.now.below (below_alloc (Below.refl _ _) _)) (Nat.le_trans hF5.size (below_alloc (Below.refl _ _) _).size) HBL.out ?_; intro v6 w6 ho6 hg6 hb6; obtain ⟨A6,k6,ev6⟩ := own_slice ho6; subst ev6; have hX : w4.heap.size ≤ (World.drew w4).heap.size := Nat.le_refl _; have hF6 : Fr (fun i => i = w4.heap.size ∧ w4.heap.size < (World.drew w4).heap.size) w5 w6 := ((Fr.refl _ w5).alloc _).grown hg6 (fun k hk => .inr (Nat.le_of_eq (Option.some.inj hk))); have hF7 : Fr (fun i => i = g ∨ i = w.heap.size + 1) w4 w6 := hF5.trans hF6 (fun i h => .inr (Nat.le_of_eq h.1.symm)); have hb26 := hF6.blk hb25 (fun h => by have := h.1; omega); have c6 : w6.cell? ⟨w.heap.size + 1,0,none⟩ = some (.slice none 0 0) := (blk_cell hb26 0).trans rfl; have z6 := blk_frozen hb26 0) | (refine appB_step Try.underlying31 i5 (W := w5) w4.heap.size rfl _ _ rfl (.slice (some ⟨w4.heap.size,0,none⟩) 1 1) v5 [IntKind.u8.wrap (n + 64)] b rfl rfl (own_lit' w4.heap.size hb45 rfl (Nat.le_refl _) rfl (show 1 ≤ 9223372036854775807 from Nat.le_of_ble_eq_true rfl)) hv5.now hF5.size HBL.out ?_; intro v6 w6 ho6 hg6 hb6; obtain ⟨A6,k6,ev6⟩ := own_slice ho6; subst ev6; have hX : w4.heap.size ≤ (w4.alloc (.cells #[.int .u8 (IntKind.u8.wrap (n + 64))] 5)).drew.heap.size := (below_alloc (Below.refl _ _) _).size; have hF6 : Fr (fun i => i = w4.heap.size ∧ w4.heap.size < (w4.alloc (.cells #[.int .u8 (IntKind.u8.wrap (n + 64))] 5)).drew.heap.size) w5 w6 := (Fr.refl _ w5).grown hg6 (fun k hk => .inl ⟨(Option.some.inj hk).symm,by show _ < (Array.push _ _).size; rw [Array.size_push]; exact Nat.lt_succ_self _⟩); have hF7 : Fr (fun i => i = g ∨ i = w.heap.size + 1) w4 w6 := hF5.trans hF6 (fun i h => .inr (Nat.le_of_eq h.1.symm)); have hb26 := hF6.blk hb25 (fun h => by have := h.1; omega); have c6 : w6.cell? ⟨w.heap.size + 1,0,none⟩ = some (.slice none 0 0) := (blk_cell hb26 0).trans rfl; have z6 := blk_frozen hb26 0))
  all_goals
    rename_i hHeld
    clear hHeld
    go_wp2
    have hf8 : Fr (fun i => (i = w4.heap.size ∧ w4.heap.size < _) ∨ i = w.heap.size + 1) w5 (w6.setCell ⟨w.heap.size + 1,0,none⟩ (.slice A6 (b.length + 1) k6)) := Fr.setCell (hF6.mono (fun i h => .inl h)) (p := ⟨w.heap.size + 1,0,none⟩) (.inl (.inr rfl)) _
    have hs4 := hf4.size
    have hs11 := hf1.size
    refine leaves_idle rfl (blk_put hb26 0 _ rfl) (MPost.ended hrest (Fr.trans (S := fun _ => False) (S' := fun _ => False) hf1 ?_ (fun _ h => .inl h)) ?_ (fun k hk => hk.2) hg ?_ hf8)
    · first | exact hf4.drew | exact (hf4.alloc _).drew
    · intro i hi
      rcases hi with ⟨h1, h2⟩ | h1
      · exact ⟨by omega, by rw [h1]; exact h2⟩
      · exact ⟨by omega, Nat.lt_of_lt_of_le (by omega) hX⟩
    · have h9 := own_rdF ho6
      rw [show [IntKind.u8.wrap (n + 64)] ++ b = (n + 64) % 256 :: b by rw [IntKind.wrap_u8]; rfl] at h9
      exact (h9.step (w1 := w6.setCell ⟨w.heap.size + 1,0,none⟩ (.slice A6 (b.length + 1) k6)) (fun k hk _ => Below.heap_setCell w6 ⟨w.heap.size + 1,0,none⟩ _ k (by show k ≠ w.heap.size + 1; omega))).mono (fun k hk => .inr (by omega))
set_option maxRecDepth 100000 in
set_option maxHeartbeats 4000000 in
theorem answer_yes2 {l : Int} {F : Nat} (hn : 0 ≤ n ∧ n ≤ 255) (h : MPre w g P s vi vd vq q) (hB : Byt q) (hf : mFind n q = .inr (l,F)) (hl : (l == (q.length : Int)) = false) (hl2 : (l == -1) = true) (hl3 : (n != 46) = true) (hcf : ∀ (args : Array Value) (W : World),(callFunc F args).run Try.prog W = .ok (.enter F args) W) {s' : S25} {b : List Int} (HDO : ∀ W P,MPre W g P s vi vd vq q → Calls Try.prog F #[.pointer (some ⟨g,0,none⟩)] W (MPost W g P vq (s',.inr b))) (hbl : b.length ≤ 2000) :
    Calls Try.prog 82 #[.pointer (some ⟨g, 0, none⟩), .int .u8 n] w (MPost w g P vq (s', .inr ((n + 64) % 256 :: b))) := by
  refine Calls.mono ?_ (fun e w' h => MPost.unbound h)
  replace h := h.bound
  have hg := blk_lt h.x
  obtain ⟨A, c, ev, hlc, hFq⟩ := h.q
  subst ev
  obtain ⟨w1, ew1⟩ : ∃ w1, w1 = (w.alloc (.cells #[.int .u8 n] 5)).alloc (.cells #[.slice none 0 0] 31) := ⟨_, rfl⟩
  have hf1 : Fr (fun _ => False) w w1 := by rw [ew1]; exact ((Fr.refl _ w).alloc _).alloc _
  have FC := find_calls (n := n) (h.fr hf1) hB
  rw [hf] at FC
  have hb1 : w1.heap[w.heap.size]? = some (.cells #[.int .u8 n] 5 (0, 0)) := by rw [ew1]; exact blk_alloc (blk_new w _) _
  have hb2 : w1.heap[w.heap.size + 1]? = some (.cells #[.slice none 0 0] 31 (0,0)) := by rw [ew1]; exact blk_new' (by show _ = (Array.push _ _).size; rw [Array.size_push])
  have c9 : w.cell? ⟨g, 9, none⟩ = some (.slice A q.length c) := (blk_cell h.x 9).trans rfl
  have H := Aside0.mk h
  have FC' := Aside0.mk FC
  have EW := Aside0.mk ew1
  have HB1 := Aside0.mk hb1
  have HB2 := Aside0.mk hb2
  have DO := Aside0.mk HDO
  clear HDO h FC ew1 hf hb1 hb2 hFq hlc
  go_enter_defers Try.func82, Try.ntmps82
  go_wp2_with (go_at_call 122; rw [← EW.out]; refine FC'.out.mono ?_; rintro e w2 ⟨hf2, he⟩; subst he; (unfold sv))
  have hF2 := hf1.trans hf2 (fun _ h => .inl h)
  have hs2 := hF2.size
  obtain ⟨w3, ew3⟩ : ∃ w3, w3 = w2.alloc (.cells #[.int .i64 l, .func (.func F) #[] #[]] 175) := ⟨_, rfl⟩
  have hf3 : Fr (fun _ => False) w2 w3 := by rw [ew3]; exact (Fr.refl _ w2).alloc _
  have hb3 : w3.heap[w2.heap.size]? = some (.cells #[.int .i64 l, .func (.func F) #[] #[]] 175 (0, 0)) := by rw [ew3]; exact blk_new w2 _
  rw [← ew3]
  have hF3 := hF2.trans hf3 (fun _ h => .inl h)
  have d0 : w3.cell? ⟨w2.heap.size, 0, none⟩ = some (.int .i64 l) := (blk_cell hb3 0).trans rfl
  have e1 : w3.cell? ⟨w2.heap.size, 1, none⟩ = some (.func (.func F) #[] #[]) := (blk_cell hb3 1).trans rfl
  have d1 : w3.cell? ⟨w.heap.size, 0, none⟩ = some (.int .u8 n) := (hf2.trans hf3 (fun _ h => .inl h)).cellA ((blk_cell HB1.out 0).trans rfl)
  replace c9 := hF3.cellA c9
  clear ew3
  refine wp_region_free (S := fun w' => w'.cell? ⟨w2.heap.size,0,none⟩ = some (.int .i64 l) ∧ w'.cell? ⟨w.heap.size,0,none⟩ = some (.int .u8 n) ∧ w'.cell? ⟨g,9,none⟩ = some (.slice A q.length c)) 4 (.pointer (some ⟨w.heap.size + 1,0,none⟩)) (by kernel_rfl) (by kernel_rfl) rfl ⟨d0,d1,c9⟩ ?_
  intro hS
  refine wpAnyH_take (i := 0) (v := ?_) rfl (by kernel_rfl) (by kernel_rfl) (by kernel_rfl) (fun _ _ _ h => h) (Or.inl ⟨by rfl, ?_⟩) hS ?_
  rotate_left
  · intro w4 h4
    obtain ⟨k0, k1, k9⟩ := h4
    go_simp
    try with_reducible rfl
  simp only [List.getElem_toArray,List.getElem_cons_zero,List.getElem_cons_succ,Act.put,List.setIfInBounds_toArray,List.set_cons_zero,List.set_cons_succ]
  refine wpAnyH_take (i := 1) (v := ?_) rfl (by kernel_rfl) (by kernel_rfl) (by kernel_rfl) (fun _ _ _ h => h) (Or.inl ⟨by rfl, ?_⟩) hS ?_
  rotate_left
  · intro w4 h4
    obtain ⟨k0, k1, k9⟩ := h4
    go_simp
    try with_reducible rfl
  simp only [List.getElem_toArray,List.getElem_cons_zero,List.getElem_cons_succ,Act.put,List.setIfInBounds_toArray,List.set_cons_zero,List.set_cons_succ]
  refine wpAnyH_take (i := 2) (v := ?_) rfl (by kernel_rfl) (by kernel_rfl) (by kernel_rfl) (fun _ _ _ h => h) (Or.inl ⟨by rfl, ?_⟩) hS ?_
  rotate_left
  · intro w4 h4
    obtain ⟨k0, k1, k9⟩ := h4
    go_simp
    try with_reducible rfl
  simp only [List.getElem_toArray,List.getElem_cons_zero,List.getElem_cons_succ,Act.put,List.setIfInBounds_toArray,List.set_cons_zero,List.set_cons_succ]
  refine wpAnyH_take (i := 3) (v := ?_) rfl (by kernel_rfl) (by kernel_rfl) (by kernel_rfl) (fun _ _ _ h => h) (Or.inl ⟨by rfl, ?_⟩) hS ?_
  rotate_left
  · intro w4 h4
    obtain ⟨k0, k1, k9⟩ := h4
    go_simp
    try with_reducible rfl
  simp only [List.getElem_toArray,List.getElem_cons_zero,List.getElem_cons_succ,Act.put,List.setIfInBounds_toArray,List.set_cons_zero,List.set_cons_succ]
  refine wpAnyH_take (i := 4) (v := ?_) rfl (by kernel_rfl) (by kernel_rfl) (by kernel_rfl) (fun _ _ _ h => h) (Or.inl ⟨by rfl, ?_⟩) hS ?_
  rotate_left
  · intro w4 h4
    obtain ⟨k0, k1, k9⟩ := h4
    go_simp
    try with_reducible rfl
  simp only [List.getElem_toArray,List.getElem_cons_zero,List.getElem_cons_succ,Act.put,List.setIfInBounds_toArray,List.set_cons_zero,List.set_cons_succ]
  refine wpAnyH_take (i := 5) (v := ?_) rfl (by kernel_rfl) (by kernel_rfl) (by kernel_rfl) (fun _ _ _ h => h) (Or.inl ⟨by rfl, ?_⟩) hS ?_
  rotate_left
  · intro w4 h4
    obtain ⟨k0, k1, k9⟩ := h4
    go_simp
    try with_reducible rfl
  simp only [List.getElem_toArray,List.getElem_cons_zero,List.getElem_cons_succ,Act.put,List.setIfInBounds_toArray,List.set_cons_zero,List.set_cons_succ]
  refine wpAnyH_take (i := 6) (v := ?_) rfl (by kernel_rfl) (by kernel_rfl) (by kernel_rfl) (fun _ _ _ h => h) (Or.inl ⟨by rfl, ?_⟩) hS ?_
  rotate_left
  · intro w4 h4
    obtain ⟨k0, k1, k9⟩ := h4
    go_simp
    try with_reducible rfl
  simp only [List.getElem_toArray,List.getElem_cons_zero,List.getElem_cons_succ,Act.put,List.setIfInBounds_toArray,List.set_cons_zero,List.set_cons_succ]
  refine wpAnyH_take (i := 7) (v := ?_) rfl (by kernel_rfl) (by kernel_rfl) (by kernel_rfl) (fun _ _ _ h => h) (Or.inl ⟨by rfl, ?_⟩) hS ?_
  rotate_left
  · intro w4 h4
    obtain ⟨k0, k1, k9⟩ := h4
    go_simp
    try with_reducible rfl
  simp only [List.getElem_toArray,List.getElem_cons_zero,List.getElem_cons_succ,Act.put,List.setIfInBounds_toArray,List.set_cons_zero,List.set_cons_succ]
  refine wpAnyH_take (i := 8) (v := ?_) rfl (by kernel_rfl) (by kernel_rfl) (by kernel_rfl) (fun _ _ _ h => h) (Or.inl ⟨by rfl, ?_⟩) hS ?_
  rotate_left
  · intro w4 h4
    obtain ⟨k0, k1, k9⟩ := h4
    go_simp
    try with_reducible rfl
  simp only [List.getElem_toArray,List.getElem_cons_zero,List.getElem_cons_succ,Act.put,List.setIfInBounds_toArray,List.set_cons_zero,List.set_cons_succ]
  refine wpAnyH_take (i := 9) (v := ?_) rfl (by kernel_rfl) (by kernel_rfl) (by kernel_rfl) (fun _ _ _ h => h) (Or.inl ⟨by rfl, ?_⟩) hS ?_
  rotate_left
  · intro w4 h4
    obtain ⟨k0, k1, k9⟩ := h4
    go_simp
    try with_reducible rfl
  simp only [List.getElem_toArray,List.getElem_cons_zero,List.getElem_cons_succ,Act.put,List.setIfInBounds_toArray,List.set_cons_zero,List.set_cons_succ]
  refine wpAnyH_take (i := 10) (v := ?_) rfl (by kernel_rfl) (by kernel_rfl) (by kernel_rfl) (fun _ _ _ h => h) (Or.inl ⟨by rfl, ?_⟩) hS ?_
  rotate_left
  · intro w4 h4
    obtain ⟨k0, k1, k9⟩ := h4
    go_simp
    try with_reducible rfl
  simp only [List.getElem_toArray,List.getElem_cons_zero,List.getElem_cons_succ,Act.put,List.setIfInBounds_toArray,List.set_cons_zero,List.set_cons_succ]
  refine wpAnyH_take (i := 11) (v := ?_) rfl (by kernel_rfl) (by kernel_rfl) (by kernel_rfl) (fun _ _ _ h => h) (Or.inl ⟨by rfl, ?_⟩) hS ?_
  rotate_left
  · intro w4 h4
    obtain ⟨k0, k1, k9⟩ := h4
    go_simp
    try with_reducible rfl
  simp only [List.getElem_toArray,List.getElem_cons_zero,List.getElem_cons_succ,Act.put,List.setIfInBounds_toArray,List.set_cons_zero,List.set_cons_succ]
  refine wpAnyH_take (i := 12) (v := ?_) rfl (by kernel_rfl) (by kernel_rfl) (by kernel_rfl) (fun _ _ _ h => h) (Or.inl ⟨by rfl, ?_⟩) hS ?_
  rotate_left
  · intro w4 h4
    obtain ⟨k0, k1, k9⟩ := h4
    go_simp
    try with_reducible rfl
  simp only [List.getElem_toArray,List.getElem_cons_zero,List.getElem_cons_succ,Act.put,List.setIfInBounds_toArray,List.set_cons_zero,List.set_cons_succ]
  refine wpAnyH_take (i := 13) (v := ?_) rfl (by kernel_rfl) (by kernel_rfl) (by kernel_rfl) (fun _ _ _ h => h) (Or.inl ⟨by rfl, ?_⟩) hS ?_
  rotate_left
  · intro w4 h4
    obtain ⟨k0, k1, k9⟩ := h4
    go_simp
    try with_reducible rfl
  simp only [List.getElem_toArray,List.getElem_cons_zero,List.getElem_cons_succ,Act.put,List.setIfInBounds_toArray,List.set_cons_zero,List.set_cons_succ]
  refine wpAnyH_take (i := 14) (v := ?_) rfl (by kernel_rfl) (by kernel_rfl) (by kernel_rfl) (fun _ _ _ h => h) (Or.inl ⟨by rfl, ?_⟩) hS ?_
  rotate_left
  · intro w4 h4
    obtain ⟨k0, k1, k9⟩ := h4
    go_simp
    try with_reducible rfl
  simp only [List.getElem_toArray,List.getElem_cons_zero,List.getElem_cons_succ,Act.put,List.setIfInBounds_toArray,List.set_cons_zero,List.set_cons_succ]
  refine wpAnyH_take (i := 15) (v := ?_) rfl (by kernel_rfl) (by kernel_rfl) (by kernel_rfl) (fun _ _ _ h => h) (Or.inl ⟨by rfl, ?_⟩) hS ?_
  rotate_left
  · intro w4 h4
    obtain ⟨k0, k1, k9⟩ := h4
    go_simp
    try with_reducible rfl
  simp only [List.getElem_toArray,List.getElem_cons_zero,List.getElem_cons_succ,Act.put,List.setIfInBounds_toArray,List.set_cons_zero,List.set_cons_succ]
  refine wpAnyH_take (i := 16) (v := undef) rfl (by kernel_rfl) (by kernel_rfl) (by kernel_rfl) (fun _ _ _ h => h) (Or.inr ⟨by rfl, rfl⟩) hS ?_
  simp only [List.getElem_toArray,List.getElem_cons_zero,List.getElem_cons_succ,Act.put,List.setIfInBounds_toArray,List.set_cons_zero,List.set_cons_succ]
  refine wpAnyH_take (i := 17) (v := undef) rfl (by kernel_rfl) (by kernel_rfl) (by kernel_rfl) (fun _ _ _ h => h) (Or.inr ⟨by rfl, rfl⟩) hS ?_
  simp only [List.getElem_toArray,List.getElem_cons_zero,List.getElem_cons_succ,Act.put,List.setIfInBounds_toArray,List.set_cons_zero,List.set_cons_succ]
  refine wpAnyH_take (i := 18) (v := undef) rfl (by kernel_rfl) (by kernel_rfl) (by kernel_rfl) (fun _ _ _ h => h) (Or.inr ⟨by rfl, rfl⟩) hS ?_
  simp only [List.getElem_toArray,List.getElem_cons_zero,List.getElem_cons_succ,Act.put,List.setIfInBounds_toArray,List.set_cons_zero,List.set_cons_succ]
  refine wpAnyH_take (i := 19) (v := undef) rfl (by kernel_rfl) (by kernel_rfl) (by kernel_rfl) (fun _ _ _ h => h) (Or.inr ⟨by rfl, rfl⟩) hS ?_
  simp only [List.getElem_toArray,List.getElem_cons_zero,List.getElem_cons_succ,Act.put,List.setIfInBounds_toArray,List.set_cons_zero,List.set_cons_succ]
  refine wpAnyH_take (i := 20) (v := undef) rfl (by kernel_rfl) (by kernel_rfl) (by kernel_rfl) (fun _ _ _ h => h) (Or.inr ⟨by rfl, rfl⟩) hS ?_
  simp only [List.getElem_toArray,List.getElem_cons_zero,List.getElem_cons_succ,Act.put,List.setIfInBounds_toArray,List.set_cons_zero,List.set_cons_succ]
  refine wpAnyH_take (i := 21) (v := undef) rfl (by kernel_rfl) (by kernel_rfl) (by kernel_rfl) (fun _ _ _ h => h) (Or.inr ⟨by rfl, rfl⟩) hS ?_
  simp only [List.getElem_toArray,List.getElem_cons_zero,List.getElem_cons_succ,Act.put,List.setIfInBounds_toArray,List.set_cons_zero,List.set_cons_succ]
  refine wpAnyH_take (i := 22) (v := ?_) rfl (by kernel_rfl) (by kernel_rfl) (by kernel_rfl) (fun _ _ _ h => h) (Or.inl ⟨by rfl, ?_⟩) hS ?_
  rotate_left
  · intro w4 h4
    obtain ⟨k0, k1, k9⟩ := h4
    go_simp
    try with_reducible rfl
  simp only [List.getElem_toArray,List.getElem_cons_zero,List.getElem_cons_succ,Act.put,List.setIfInBounds_toArray,List.set_cons_zero,List.set_cons_succ]
  refine wpAnyH_take (i := 23) (v := ?_) rfl (by kernel_rfl) (by kernel_rfl) (by kernel_rfl) (fun _ _ _ h => h) (Or.inl ⟨by rfl, ?_⟩) hS ?_
  rotate_left
  · intro w4 h4
    obtain ⟨k0, k1, k9⟩ := h4
    go_simp
    try with_reducible rfl
  simp only [List.getElem_toArray,List.getElem_cons_zero,List.getElem_cons_succ,Act.put,List.setIfInBounds_toArray,List.set_cons_zero,List.set_cons_succ]
  refine wpAnyH_take (i := 24) (v := ?_) rfl (by kernel_rfl) (by kernel_rfl) (by kernel_rfl) (fun _ _ _ h => h) (Or.inl ⟨by rfl, ?_⟩) hS ?_
  rotate_left
  · intro w4 h4
    obtain ⟨k0, k1, k9⟩ := h4
    go_simp
    try with_reducible rfl
  simp only [List.getElem_toArray,List.getElem_cons_zero,List.getElem_cons_succ,Act.put,List.setIfInBounds_toArray,List.set_cons_zero,List.set_cons_succ]
  refine wpAnyH_ready (rs := [25]) (by kernel_rfl) (by simp) ?_
  refine AllReadyH.cons rfl (fun K hK => ?_) AllReadyH.nil
  go_simp
  refine (unless_yes _ _).mono ?_
  rintro e w' ⟨rfl, rfl⟩
  show K _ _
  refine hK.out _ _ hS (fun hHeld => ?_)
  clear hK hHeld hS
  try simp only [List.getElem_toArray,List.getElem_cons_zero,List.getElem_cons_succ,Act.put,List.setIfInBounds_toArray,List.set_cons_zero,List.set_cons_succ]
  refine wpAnyH_done (by kernel_rfl) ?_ _
  simp only [QFree, Exit.then]
  go_wp2
  obtain ⟨w4, ew4⟩ : ∃ w4, w4 = w3.drew := ⟨_, rfl⟩
  have hf4 : Fr (fun _ => False) w1 w4 := by rw [ew4]; exact (hf2.trans hf3 (fun _ h => .inl h)).drew
  replace d1 : w4.cell? ⟨w.heap.size, 0, none⟩ = some (.int .u8 n) := by rw [ew4]; exact d1
  replace e1 : w4.cell? ⟨w2.heap.size, 1, none⟩ = some (.func (.func F) #[] #[]) := by rw [ew4]; exact e1
  rw [← ew4]
  have h2lt : w2.heap.size < w4.heap.size := by rw [ew4]; exact blk_lt hb3
  have hs1 := blk_lt HB2.out
  have hs2' := hf2.size
  clear ew4 d0 c9
  have hlt1 : w.heap.size < w4.heap.size := by have := hf4.size; omega
  have hg4 : g < w4.heap.size := by omega
  have HBL := Aside0.mk (show ([IntKind.u8.wrap (n + 64)] : List Int).length + b.length ≤ 140737488355328 by show 1 + _ ≤ _; omega)
  have hz2 := blk_lt HB2.out
  have hb24 := hf4.blk HB2.out (fun h => h)
  have c0 : w4.cell? ⟨w.heap.size + 1, 0, none⟩ = some (.slice none 0 0) := (blk_cell hb24 0).trans rfl
  have z0 := blk_frozen hb24 0
  have hn1 : ¬ (w.heap.size = g ∨ w.heap.size = w.heap.size + 1) := by omega
  have hn2 : ¬ (w2.heap.size = g ∨ w2.heap.size = w.heap.size + 1) := by omega
  go_region_held3 (fun w' => w'.cell? ⟨w.heap.size, 0, none⟩ = some (.int .u8 n) ∧ w'.cell? ⟨w2.heap.size, 1, none⟩ = some (.func (.func F) #[] #[]))
    (refine ⟨(Fr.cell (w := w4) (S := fun i => i = g ∨ i = w.heap.size + 1) ?_ hlt1 hn1).trans d1,(Fr.cell (w := w4) (S := fun i => i = g ∨ i = w.heap.size + 1) ?_ h2lt hn2).trans e1⟩ <;> (repeat (first | exact Fr.refl _ _ | exact hF7 | exact hF5 | refine Fr.alloc ?_ _ | refine Fr.drew ?_ | refine Fr.setCell ?_ (.inl (.inr rfl)) _)))
    (first | (refine (DO.out w4.drew _ ((H.out.fr hf1).fr hf4.drew)).mono ?_; rintro e w5 ⟨he,hrest⟩; obtain ⟨v5,rfl,hv5⟩ := he; have hF5 : Fr (fun i => i = g ∨ i = w.heap.size + 1) w4 w5 := Fr.trans (Fr.refl _ _).drew hrest.1 (fun i h => .inl (.inl h)); have hb25 : w5.heap[w.heap.size + 1]? = some (.cells #[.slice none 0 0] 31 (0,0)) := hrest.1.blk (w := w4.drew) hb24 (show ¬ _ = g by omega)) | (refine (DO.out (w4.alloc (.cells #[.int .u8 (IntKind.u8.wrap (n + 64))] 5)).drew _ ((H.out.fr hf1).fr (hf4.alloc _).drew)).mono ?_; rintro e w5 ⟨he,hrest⟩; obtain ⟨v5,rfl,hv5⟩ := he; have hF5 : Fr (fun i => i = g ∨ i = w.heap.size + 1) w4 w5 := Fr.trans ((Fr.refl _ _).alloc _).drew hrest.1 (fun i h => .inl (.inl h)); have hb25 : w5.heap[w.heap.size + 1]? = some (.cells #[.slice none 0 0] 31 (0,0)) := hrest.1.blk (w := (w4.alloc _).drew) (blk_alloc hb24 _) (show ¬ _ = g by omega); have hb45 : w5.heap[w4.heap.size]? = some (.cells #[.int .u8 (IntKind.u8.wrap (n + 64))] 5 (0,0)) := hrest.1.blk (w := (w4.alloc _).drew) (blk_new w4 _) (show ¬ _ = g by omega)) | (refine appB_step Try.underlying31 i5 (W := w5.alloc (.cells #[.int .u8 (IntKind.u8.wrap (n + 64))] 5)) w4.heap.size rfl _ _ rfl (.slice (some ⟨w5.heap.size,0,none⟩) 1 1) v5 [IntKind.u8.wrap (n + 64)] b rfl rfl (own_lit' w4.heap.size (blk_new w5 _) rfl hF5.size rfl (show 1 ≤ 9223372036854775807 from Nat.le_of_ble_eq_true rfl)) (hv5.now.below (below_alloc (Below.refl _ _) _)) (Nat.le_trans hF5.size (below_alloc (Below.refl _ _) _).size) HBL.out ?_; intro v6 w6 ho6 hg6 hb6; obtain ⟨A6,k6,ev6⟩ := own_slice ho6; subst ev6; have hX : w4.heap.size ≤ (World.drew w4).heap.size := Nat.le_refl _; have hF6 : Fr (fun i => i = w4.heap.size ∧ w4.heap.size < (World.drew w4).heap.size) w5 w6 := ((Fr.refl _ w5).alloc _).grown hg6 (fun k hk => .inr (Nat.le_of_eq (Option.some.inj hk))); have hF7 : Fr (fun i => i = g ∨ i = w.heap.size + 1) w4 w6 := hF5.trans hF6 (fun i h => .inr (Nat.le_of_eq h.1.symm)); have hb26 := hF6.blk hb25 (fun h => by have := h.1; omega); have c6 : w6.cell? ⟨w.heap.size + 1,0,none⟩ = some (.slice none 0 0) := (blk_cell hb26 0).trans rfl; have z6 := blk_frozen hb26 0) | (refine appB_step Try.underlying31 i5 (W := w5) w4.heap.size rfl _ _ rfl (.slice (some ⟨w4.heap.size,0,none⟩) 1 1) v5 [IntKind.u8.wrap (n + 64)] b rfl rfl (own_lit' w4.heap.size hb45 rfl (Nat.le_refl _) rfl (show 1 ≤ 9223372036854775807 from Nat.le_of_ble_eq_true rfl)) hv5.now hF5.size HBL.out ?_; intro v6 w6 ho6 hg6 hb6; obtain ⟨A6,k6,ev6⟩ := own_slice ho6; subst ev6; have hX : w4.heap.size ≤ (w4.alloc (.cells #[.int .u8 (IntKind.u8.wrap (n + 64))] 5)).drew.heap.size := (below_alloc (Below.refl _ _) _).size; have hF6 : Fr (fun i => i = w4.heap.size ∧ w4.heap.size < (w4.alloc (.cells #[.int .u8 (IntKind.u8.wrap (n + 64))] 5)).drew.heap.size) w5 w6 := (Fr.refl _ w5).grown hg6 (fun k hk => .inl ⟨(Option.some.inj hk).symm,by show _ < (Array.push _ _).size; rw [Array.size_push]; exact Nat.lt_succ_self _⟩); have hF7 : Fr (fun i => i = g ∨ i = w.heap.size + 1) w4 w6 := hF5.trans hF6 (fun i h => .inr (Nat.le_of_eq h.1.symm)); have hb26 := hF6.blk hb25 (fun h => by have := h.1; omega); have c6 : w6.cell? ⟨w.heap.size + 1,0,none⟩ = some (.slice none 0 0) := (blk_cell hb26 0).trans rfl; have z6 := blk_frozen hb26 0))
  all_goals
    rename_i hHeld
    clear hHeld
    go_wp2
    have hf8 : Fr (fun i => (i = w4.heap.size ∧ w4.heap.size < _) ∨ i = w.heap.size + 1) w5 (w6.setCell ⟨w.heap.size + 1,0,none⟩ (.slice A6 (b.length + 1) k6)) := Fr.setCell (hF6.mono (fun i h => .inl h)) (p := ⟨w.heap.size + 1,0,none⟩) (.inl (.inr rfl)) _
    have hs4 := hf4.size
    have hs11 := hf1.size
    refine leaves_idle rfl (blk_put hb26 0 _ rfl) (MPost.ended hrest (Fr.trans (S := fun _ => False) (S' := fun _ => False) hf1 ?_ (fun _ h => .inl h)) ?_ (fun k hk => hk.2) hg ?_ hf8)
    · first | exact hf4.drew | exact (hf4.alloc _).drew
    · intro i hi
      rcases hi with ⟨h1, h2⟩ | h1
      · exact ⟨by omega, by rw [h1]; exact h2⟩
      · exact ⟨by omega, Nat.lt_of_lt_of_le (by omega) hX⟩
    · have h9 := own_rdF ho6
      rw [show [IntKind.u8.wrap (n + 64)] ++ b = (n + 64) % 256 :: b by rw [IntKind.wrap_u8]; rfl] at h9
      exact (h9.step (w1 := w6.setCell ⟨w.heap.size + 1,0,none⟩ (.slice A6 (b.length + 1) k6)) (fun k hk _ => Below.heap_setCell w6 ⟨w.heap.size + 1,0,none⟩ _ k (by show k ≠ w.heap.size + 1; omega))).mono (fun k hk => .inr (by omega))
set_option maxRecDepth 100000 in
set_option maxHeartbeats 4000000 in
theorem answer_yes3 {l : Int} {F : Nat} (hn : 0 ≤ n ∧ n ≤ 255) (h : MPre w g P s vi vd vq q) (hB : Byt q) (hf : mFind n q = .inr (l,F)) (hl : (l == (q.length : Int)) = false) (hl2 : (l == -1) = true) (hl3 : (n != 46) = false) (hl4 : decide ((2 : Int) < (q.length : Int)) = true) (hcf : ∀ (args : Array Value) (W : World),(callFunc F args).run Try.prog W = .ok (.enter F args) W) {s' : S25} {b : List Int} (HDO : ∀ W P,MPre W g P s vi vd vq q → Calls Try.prog F #[.pointer (some ⟨g,0,none⟩)] W (MPost W g P vq (s',.inr b))) (hbl : b.length ≤ 2000) :
    Calls Try.prog 82 #[.pointer (some ⟨g, 0, none⟩), .int .u8 n] w (MPost w g P vq (s', .inr ((n + 64) % 256 :: b))) := by
  refine Calls.mono ?_ (fun e w' h => MPost.unbound h)
  replace h := h.bound
  have hg := blk_lt h.x
  obtain ⟨A, c, ev, hlc, hFq⟩ := h.q
  subst ev
  obtain ⟨w1, ew1⟩ : ∃ w1, w1 = (w.alloc (.cells #[.int .u8 n] 5)).alloc (.cells #[.slice none 0 0] 31) := ⟨_, rfl⟩
  have hf1 : Fr (fun _ => False) w w1 := by rw [ew1]; exact ((Fr.refl _ w).alloc _).alloc _
  have FC := find_calls (n := n) (h.fr hf1) hB
  rw [hf] at FC
  have hb1 : w1.heap[w.heap.size]? = some (.cells #[.int .u8 n] 5 (0, 0)) := by rw [ew1]; exact blk_alloc (blk_new w _) _
  have hb2 : w1.heap[w.heap.size + 1]? = some (.cells #[.slice none 0 0] 31 (0,0)) := by rw [ew1]; exact blk_new' (by show _ = (Array.push _ _).size; rw [Array.size_push])
  have c9 : w.cell? ⟨g, 9, none⟩ = some (.slice A q.length c) := (blk_cell h.x 9).trans rfl
  have H := Aside0.mk h
  have FC' := Aside0.mk FC
  have EW := Aside0.mk ew1
  have HB1 := Aside0.mk hb1
  have HB2 := Aside0.mk hb2
  have DO := Aside0.mk HDO
  clear HDO h FC ew1 hf hb1 hb2 hFq hlc
  go_enter_defers Try.func82, Try.ntmps82
  go_wp2_with (go_at_call 122; rw [← EW.out]; refine FC'.out.mono ?_; rintro e w2 ⟨hf2, he⟩; subst he; (unfold sv))
  have hF2 := hf1.trans hf2 (fun _ h => .inl h)
  have hs2 := hF2.size
  obtain ⟨w3, ew3⟩ : ∃ w3, w3 = w2.alloc (.cells #[.int .i64 l, .func (.func F) #[] #[]] 175) := ⟨_, rfl⟩
  have hf3 : Fr (fun _ => False) w2 w3 := by rw [ew3]; exact (Fr.refl _ w2).alloc _
  have hb3 : w3.heap[w2.heap.size]? = some (.cells #[.int .i64 l, .func (.func F) #[] #[]] 175 (0, 0)) := by rw [ew3]; exact blk_new w2 _
  rw [← ew3]
  have hF3 := hF2.trans hf3 (fun _ h => .inl h)
  have d0 : w3.cell? ⟨w2.heap.size, 0, none⟩ = some (.int .i64 l) := (blk_cell hb3 0).trans rfl
  have e1 : w3.cell? ⟨w2.heap.size, 1, none⟩ = some (.func (.func F) #[] #[]) := (blk_cell hb3 1).trans rfl
  have d1 : w3.cell? ⟨w.heap.size, 0, none⟩ = some (.int .u8 n) := (hf2.trans hf3 (fun _ h => .inl h)).cellA ((blk_cell HB1.out 0).trans rfl)
  replace c9 := hF3.cellA c9
  clear ew3
  refine wp_region_free (S := fun w' => w'.cell? ⟨w2.heap.size,0,none⟩ = some (.int .i64 l) ∧ w'.cell? ⟨w.heap.size,0,none⟩ = some (.int .u8 n) ∧ w'.cell? ⟨g,9,none⟩ = some (.slice A q.length c)) 4 (.pointer (some ⟨w.heap.size + 1,0,none⟩)) (by kernel_rfl) (by kernel_rfl) rfl ⟨d0,d1,c9⟩ ?_
  intro hS
  refine wpAnyH_take (i := 0) (v := ?_) rfl (by kernel_rfl) (by kernel_rfl) (by kernel_rfl) (fun _ _ _ h => h) (Or.inl ⟨by rfl, ?_⟩) hS ?_
  rotate_left
  · intro w4 h4
    obtain ⟨k0, k1, k9⟩ := h4
    go_simp
    try with_reducible rfl
  simp only [List.getElem_toArray,List.getElem_cons_zero,List.getElem_cons_succ,Act.put,List.setIfInBounds_toArray,List.set_cons_zero,List.set_cons_succ]
  refine wpAnyH_take (i := 1) (v := ?_) rfl (by kernel_rfl) (by kernel_rfl) (by kernel_rfl) (fun _ _ _ h => h) (Or.inl ⟨by rfl, ?_⟩) hS ?_
  rotate_left
  · intro w4 h4
    obtain ⟨k0, k1, k9⟩ := h4
    go_simp
    try with_reducible rfl
  simp only [List.getElem_toArray,List.getElem_cons_zero,List.getElem_cons_succ,Act.put,List.setIfInBounds_toArray,List.set_cons_zero,List.set_cons_succ]
  refine wpAnyH_take (i := 2) (v := ?_) rfl (by kernel_rfl) (by kernel_rfl) (by kernel_rfl) (fun _ _ _ h => h) (Or.inl ⟨by rfl, ?_⟩) hS ?_
  rotate_left
  · intro w4 h4
    obtain ⟨k0, k1, k9⟩ := h4
    go_simp
    try with_reducible rfl
  simp only [List.getElem_toArray,List.getElem_cons_zero,List.getElem_cons_succ,Act.put,List.setIfInBounds_toArray,List.set_cons_zero,List.set_cons_succ]
  refine wpAnyH_take (i := 3) (v := ?_) rfl (by kernel_rfl) (by kernel_rfl) (by kernel_rfl) (fun _ _ _ h => h) (Or.inl ⟨by rfl, ?_⟩) hS ?_
  rotate_left
  · intro w4 h4
    obtain ⟨k0, k1, k9⟩ := h4
    go_simp
    try with_reducible rfl
  simp only [List.getElem_toArray,List.getElem_cons_zero,List.getElem_cons_succ,Act.put,List.setIfInBounds_toArray,List.set_cons_zero,List.set_cons_succ]
  refine wpAnyH_take (i := 4) (v := ?_) rfl (by kernel_rfl) (by kernel_rfl) (by kernel_rfl) (fun _ _ _ h => h) (Or.inl ⟨by rfl, ?_⟩) hS ?_
  rotate_left
  · intro w4 h4
    obtain ⟨k0, k1, k9⟩ := h4
    go_simp
    try with_reducible rfl
  simp only [List.getElem_toArray,List.getElem_cons_zero,List.getElem_cons_succ,Act.put,List.setIfInBounds_toArray,List.set_cons_zero,List.set_cons_succ]
  refine wpAnyH_take (i := 5) (v := ?_) rfl (by kernel_rfl) (by kernel_rfl) (by kernel_rfl) (fun _ _ _ h => h) (Or.inl ⟨by rfl, ?_⟩) hS ?_
  rotate_left
  · intro w4 h4
    obtain ⟨k0, k1, k9⟩ := h4
    go_simp
    try with_reducible rfl
  simp only [List.getElem_toArray,List.getElem_cons_zero,List.getElem_cons_succ,Act.put,List.setIfInBounds_toArray,List.set_cons_zero,List.set_cons_succ]
  refine wpAnyH_take (i := 6) (v := ?_) rfl (by kernel_rfl) (by kernel_rfl) (by kernel_rfl) (fun _ _ _ h => h) (Or.inl ⟨by rfl, ?_⟩) hS ?_
  rotate_left
  · intro w4 h4
    obtain ⟨k0, k1, k9⟩ := h4
    go_simp
    try with_reducible rfl
  simp only [List.getElem_toArray,List.getElem_cons_zero,List.getElem_cons_succ,Act.put,List.setIfInBounds_toArray,List.set_cons_zero,List.set_cons_succ]
  refine wpAnyH_take (i := 7) (v := ?_) rfl (by kernel_rfl) (by kernel_rfl) (by kernel_rfl) (fun _ _ _ h => h) (Or.inl ⟨by rfl, ?_⟩) hS ?_
  rotate_left
  · intro w4 h4
    obtain ⟨k0, k1, k9⟩ := h4
    go_simp
    try with_reducible rfl
  simp only [List.getElem_toArray,List.getElem_cons_zero,List.getElem_cons_succ,Act.put,List.setIfInBounds_toArray,List.set_cons_zero,List.set_cons_succ]
  refine wpAnyH_take (i := 8) (v := ?_) rfl (by kernel_rfl) (by kernel_rfl) (by kernel_rfl) (fun _ _ _ h => h) (Or.inl ⟨by rfl, ?_⟩) hS ?_
  rotate_left
  · intro w4 h4
    obtain ⟨k0, k1, k9⟩ := h4
    go_simp
    try with_reducible rfl
  simp only [List.getElem_toArray,List.getElem_cons_zero,List.getElem_cons_succ,Act.put,List.setIfInBounds_toArray,List.set_cons_zero,List.set_cons_succ]
  refine wpAnyH_take (i := 9) (v := ?_) rfl (by kernel_rfl) (by kernel_rfl) (by kernel_rfl) (fun _ _ _ h => h) (Or.inl ⟨by rfl, ?_⟩) hS ?_
  rotate_left
  · intro w4 h4
    obtain ⟨k0, k1, k9⟩ := h4
    go_simp
    try with_reducible rfl
  simp only [List.getElem_toArray,List.getElem_cons_zero,List.getElem_cons_succ,Act.put,List.setIfInBounds_toArray,List.set_cons_zero,List.set_cons_succ]
  refine wpAnyH_take (i := 10) (v := ?_) rfl (by kernel_rfl) (by kernel_rfl) (by kernel_rfl) (fun _ _ _ h => h) (Or.inl ⟨by rfl, ?_⟩) hS ?_
  rotate_left
  · intro w4 h4
    obtain ⟨k0, k1, k9⟩ := h4
    go_simp
    try with_reducible rfl
  simp only [List.getElem_toArray,List.getElem_cons_zero,List.getElem_cons_succ,Act.put,List.setIfInBounds_toArray,List.set_cons_zero,List.set_cons_succ]
  refine wpAnyH_take (i := 11) (v := ?_) rfl (by kernel_rfl) (by kernel_rfl) (by kernel_rfl) (fun _ _ _ h => h) (Or.inl ⟨by rfl, ?_⟩) hS ?_
  rotate_left
  · intro w4 h4
    obtain ⟨k0, k1, k9⟩ := h4
    go_simp
    try with_reducible rfl
  simp only [List.getElem_toArray,List.getElem_cons_zero,List.getElem_cons_succ,Act.put,List.setIfInBounds_toArray,List.set_cons_zero,List.set_cons_succ]
  refine wpAnyH_take (i := 12) (v := ?_) rfl (by kernel_rfl) (by kernel_rfl) (by kernel_rfl) (fun _ _ _ h => h) (Or.inl ⟨by rfl, ?_⟩) hS ?_
  rotate_left
  · intro w4 h4
    obtain ⟨k0, k1, k9⟩ := h4
    go_simp
    try with_reducible rfl
  simp only [List.getElem_toArray,List.getElem_cons_zero,List.getElem_cons_succ,Act.put,List.setIfInBounds_toArray,List.set_cons_zero,List.set_cons_succ]
  refine wpAnyH_take (i := 13) (v := ?_) rfl (by kernel_rfl) (by kernel_rfl) (by kernel_rfl) (fun _ _ _ h => h) (Or.inl ⟨by rfl, ?_⟩) hS ?_
  rotate_left
  · intro w4 h4
    obtain ⟨k0, k1, k9⟩ := h4
    go_simp
    try with_reducible rfl
  simp only [List.getElem_toArray,List.getElem_cons_zero,List.getElem_cons_succ,Act.put,List.setIfInBounds_toArray,List.set_cons_zero,List.set_cons_succ]
  refine wpAnyH_take (i := 14) (v := ?_) rfl (by kernel_rfl) (by kernel_rfl) (by kernel_rfl) (fun _ _ _ h => h) (Or.inl ⟨by rfl, ?_⟩) hS ?_
  rotate_left
  · intro w4 h4
    obtain ⟨k0, k1, k9⟩ := h4
    go_simp
    try with_reducible rfl
  simp only [List.getElem_toArray,List.getElem_cons_zero,List.getElem_cons_succ,Act.put,List.setIfInBounds_toArray,List.set_cons_zero,List.set_cons_succ]
  refine wpAnyH_take (i := 15) (v := ?_) rfl (by kernel_rfl) (by kernel_rfl) (by kernel_rfl) (fun _ _ _ h => h) (Or.inl ⟨by rfl, ?_⟩) hS ?_
  rotate_left
  · intro w4 h4
    obtain ⟨k0, k1, k9⟩ := h4
    go_simp
    try with_reducible rfl
  simp only [List.getElem_toArray,List.getElem_cons_zero,List.getElem_cons_succ,Act.put,List.setIfInBounds_toArray,List.set_cons_zero,List.set_cons_succ]
  refine wpAnyH_take (i := 16) (v := ?_) rfl (by kernel_rfl) (by kernel_rfl) (by kernel_rfl) (fun _ _ _ h => h) (Or.inl ⟨by rfl, ?_⟩) hS ?_
  rotate_left
  · intro w4 h4
    obtain ⟨k0, k1, k9⟩ := h4
    go_simp
    try with_reducible rfl
  simp only [List.getElem_toArray,List.getElem_cons_zero,List.getElem_cons_succ,Act.put,List.setIfInBounds_toArray,List.set_cons_zero,List.set_cons_succ]
  refine wpAnyH_take (i := 17) (v := ?_) rfl (by kernel_rfl) (by kernel_rfl) (by kernel_rfl) (fun _ _ _ h => h) (Or.inl ⟨by rfl, ?_⟩) hS ?_
  rotate_left
  · intro w4 h4
    obtain ⟨k0, k1, k9⟩ := h4
    go_simp
    try with_reducible rfl
  simp only [List.getElem_toArray,List.getElem_cons_zero,List.getElem_cons_succ,Act.put,List.setIfInBounds_toArray,List.set_cons_zero,List.set_cons_succ]
  refine wpAnyH_take (i := 18) (v := ?_) rfl (by kernel_rfl) (by kernel_rfl) (by kernel_rfl) (fun _ _ _ h => h) (Or.inl ⟨by rfl, ?_⟩) hS ?_
  rotate_left
  · intro w4 h4
    obtain ⟨k0, k1, k9⟩ := h4
    go_simp
    try with_reducible rfl
  simp only [List.getElem_toArray,List.getElem_cons_zero,List.getElem_cons_succ,Act.put,List.setIfInBounds_toArray,List.set_cons_zero,List.set_cons_succ]
  refine wpAnyH_take (i := 19) (v := ?_) rfl (by kernel_rfl) (by kernel_rfl) (by kernel_rfl) (fun _ _ _ h => h) (Or.inl ⟨by rfl, ?_⟩) hS ?_
  rotate_left
  · intro w4 h4
    obtain ⟨k0, k1, k9⟩ := h4
    go_simp
    try with_reducible rfl
  simp only [List.getElem_toArray,List.getElem_cons_zero,List.getElem_cons_succ,Act.put,List.setIfInBounds_toArray,List.set_cons_zero,List.set_cons_succ]
  refine wpAnyH_take (i := 20) (v := ?_) rfl (by kernel_rfl) (by kernel_rfl) (by kernel_rfl) (fun _ _ _ h => h) (Or.inl ⟨by rfl, ?_⟩) hS ?_
  rotate_left
  · intro w4 h4
    obtain ⟨k0, k1, k9⟩ := h4
    go_simp
    try with_reducible rfl
  simp only [List.getElem_toArray,List.getElem_cons_zero,List.getElem_cons_succ,Act.put,List.setIfInBounds_toArray,List.set_cons_zero,List.set_cons_succ]
  refine wpAnyH_take (i := 21) (v := ?_) rfl (by kernel_rfl) (by kernel_rfl) (by kernel_rfl) (fun _ _ _ h => h) (Or.inl ⟨by rfl, ?_⟩) hS ?_
  rotate_left
  · intro w4 h4
    obtain ⟨k0, k1, k9⟩ := h4
    go_simp
    try with_reducible rfl
  simp only [List.getElem_toArray,List.getElem_cons_zero,List.getElem_cons_succ,Act.put,List.setIfInBounds_toArray,List.set_cons_zero,List.set_cons_succ]
  refine wpAnyH_take (i := 22) (v := ?_) rfl (by kernel_rfl) (by kernel_rfl) (by kernel_rfl) (fun _ _ _ h => h) (Or.inl ⟨by rfl, ?_⟩) hS ?_
  rotate_left
  · intro w4 h4
    obtain ⟨k0, k1, k9⟩ := h4
    go_simp
    try with_reducible rfl
  simp only [List.getElem_toArray,List.getElem_cons_zero,List.getElem_cons_succ,Act.put,List.setIfInBounds_toArray,List.set_cons_zero,List.set_cons_succ]
  refine wpAnyH_take (i := 23) (v := ?_) rfl (by kernel_rfl) (by kernel_rfl) (by kernel_rfl) (fun _ _ _ h => h) (Or.inl ⟨by rfl, ?_⟩) hS ?_
  rotate_left
  · intro w4 h4
    obtain ⟨k0, k1, k9⟩ := h4
    go_simp
    try with_reducible rfl
  simp only [List.getElem_toArray,List.getElem_cons_zero,List.getElem_cons_succ,Act.put,List.setIfInBounds_toArray,List.set_cons_zero,List.set_cons_succ]
  refine wpAnyH_take (i := 24) (v := ?_) rfl (by kernel_rfl) (by kernel_rfl) (by kernel_rfl) (fun _ _ _ h => h) (Or.inl ⟨by rfl, ?_⟩) hS ?_
  rotate_left
  · intro w4 h4
    obtain ⟨k0, k1, k9⟩ := h4
    go_simp
    try with_reducible rfl
  simp only [List.getElem_toArray,List.getElem_cons_zero,List.getElem_cons_succ,Act.put,List.setIfInBounds_toArray,List.set_cons_zero,List.set_cons_succ]
  refine wpAnyH_ready (rs := [25]) (by kernel_rfl) (by simp) ?_
  refine AllReadyH.cons rfl (fun K hK => ?_) AllReadyH.nil
  go_simp
  refine (unless_yes _ _).mono ?_
  rintro e w' ⟨rfl, rfl⟩
  show K _ _
  refine hK.out _ _ hS (fun hHeld => ?_)
  clear hK hHeld hS
  try simp only [List.getElem_toArray,List.getElem_cons_zero,List.getElem_cons_succ,Act.put,List.setIfInBounds_toArray,List.set_cons_zero,List.set_cons_succ]
  refine wpAnyH_done (by kernel_rfl) ?_ _
  simp only [QFree, Exit.then]
  go_wp2
  obtain ⟨w4, ew4⟩ : ∃ w4, w4 = w3.drew := ⟨_, rfl⟩
  have hf4 : Fr (fun _ => False) w1 w4 := by rw [ew4]; exact (hf2.trans hf3 (fun _ h => .inl h)).drew
  replace d1 : w4.cell? ⟨w.heap.size, 0, none⟩ = some (.int .u8 n) := by rw [ew4]; exact d1
  replace e1 : w4.cell? ⟨w2.heap.size, 1, none⟩ = some (.func (.func F) #[] #[]) := by rw [ew4]; exact e1
  rw [← ew4]
  have h2lt : w2.heap.size < w4.heap.size := by rw [ew4]; exact blk_lt hb3
  have hs1 := blk_lt HB2.out
  have hs2' := hf2.size
  clear ew4 d0 c9
  have hlt1 : w.heap.size < w4.heap.size := by have := hf4.size; omega
  have hg4 : g < w4.heap.size := by omega
  have HBL := Aside0.mk (show ([IntKind.u8.wrap (n + 64)] : List Int).length + b.length ≤ 140737488355328 by show 1 + _ ≤ _; omega)
  have hz2 := blk_lt HB2.out
  have hb24 := hf4.blk HB2.out (fun h => h)
  have c0 : w4.cell? ⟨w.heap.size + 1, 0, none⟩ = some (.slice none 0 0) := (blk_cell hb24 0).trans rfl
  have z0 := blk_frozen hb24 0
  have hn1 : ¬ (w.heap.size = g ∨ w.heap.size = w.heap.size + 1) := by omega
  have hn2 : ¬ (w2.heap.size = g ∨ w2.heap.size = w.heap.size + 1) := by omega
  go_region_held3 (fun w' => w'.cell? ⟨w.heap.size, 0, none⟩ = some (.int .u8 n) ∧ w'.cell? ⟨w2.heap.size, 1, none⟩ = some (.func (.func F) #[] #[]))
    (refine ⟨(Fr.cell (w := w4) (S := fun i => i = g ∨ i = w.heap.size + 1) ?_ hlt1 hn1).trans d1,(Fr.cell (w := w4) (S := fun i => i = g ∨ i = w.heap.size + 1) ?_ h2lt hn2).trans e1⟩ <;> (repeat (first | exact Fr.refl _ _ | exact hF7 | exact hF5 | refine Fr.alloc ?_ _ | refine Fr.drew ?_ | refine Fr.setCell ?_ (.inl (.inr rfl)) _)))
    (first | (refine (DO.out w4.drew _ ((H.out.fr hf1).fr hf4.drew)).mono ?_; rintro e w5 ⟨he,hrest⟩; obtain ⟨v5,rfl,hv5⟩ := he; have hF5 : Fr (fun i => i = g ∨ i = w.heap.size + 1) w4 w5 := Fr.trans (Fr.refl _ _).drew hrest.1 (fun i h => .inl (.inl h)); have hb25 : w5.heap[w.heap.size + 1]? = some (.cells #[.slice none 0 0] 31 (0,0)) := hrest.1.blk (w := w4.drew) hb24 (show ¬ _ = g by omega)) | (refine (DO.out (w4.alloc (.cells #[.int .u8 (IntKind.u8.wrap (n + 64))] 5)).drew _ ((H.out.fr hf1).fr (hf4.alloc _).drew)).mono ?_; rintro e w5 ⟨he,hrest⟩; obtain ⟨v5,rfl,hv5⟩ := he; have hF5 : Fr (fun i => i = g ∨ i = w.heap.size + 1) w4 w5 := Fr.trans ((Fr.refl _ _).alloc _).drew hrest.1 (fun i h => .inl (.inl h)); have hb25 : w5.heap[w.heap.size + 1]? = some (.cells #[.slice none 0 0] 31 (0,0)) := hrest.1.blk (w := (w4.alloc _).drew) (blk_alloc hb24 _) (show ¬ _ = g by omega); have hb45 : w5.heap[w4.heap.size]? = some (.cells #[.int .u8 (IntKind.u8.wrap (n + 64))] 5 (0,0)) := hrest.1.blk (w := (w4.alloc _).drew) (blk_new w4 _) (show ¬ _ = g by omega)) | (refine appB_step Try.underlying31 i5 (W := w5.alloc (.cells #[.int .u8 (IntKind.u8.wrap (n + 64))] 5)) w4.heap.size rfl _ _ rfl (.slice (some ⟨w5.heap.size,0,none⟩) 1 1) v5 [IntKind.u8.wrap (n + 64)] b rfl rfl (own_lit' w4.heap.size (blk_new w5 _) rfl hF5.size rfl (show 1 ≤ 9223372036854775807 from Nat.le_of_ble_eq_true rfl)) (hv5.now.below (below_alloc (Below.refl _ _) _)) (Nat.le_trans hF5.size (below_alloc (Below.refl _ _) _).size) HBL.out ?_; intro v6 w6 ho6 hg6 hb6; obtain ⟨A6,k6,ev6⟩ := own_slice ho6; subst ev6; have hX : w4.heap.size ≤ (World.drew w4).heap.size := Nat.le_refl _; have hF6 : Fr (fun i => i = w4.heap.size ∧ w4.heap.size < (World.drew w4).heap.size) w5 w6 := ((Fr.refl _ w5).alloc _).grown hg6 (fun k hk => .inr (Nat.le_of_eq (Option.some.inj hk))); have hF7 : Fr (fun i => i = g ∨ i = w.heap.size + 1) w4 w6 := hF5.trans hF6 (fun i h => .inr (Nat.le_of_eq h.1.symm)); have hb26 := hF6.blk hb25 (fun h => by have := h.1; omega); have c6 : w6.cell? ⟨w.heap.size + 1,0,none⟩ = some (.slice none 0 0) := (blk_cell hb26 0).trans rfl; have z6 := blk_frozen hb26 0) | (refine appB_step Try.underlying31 i5 (W := w5) w4.heap.size rfl _ _ rfl (.slice (some ⟨w4.heap.size,0,none⟩) 1 1) v5 [IntKind.u8.wrap (n + 64)] b rfl rfl (own_lit' w4.heap.size hb45 rfl (Nat.le_refl _) rfl (show 1 ≤ 9223372036854775807 from Nat.le_of_ble_eq_true rfl)) hv5.now hF5.size HBL.out ?_; intro v6 w6 ho6 hg6 hb6; obtain ⟨A6,k6,ev6⟩ := own_slice ho6; subst ev6; have hX : w4.heap.size ≤ (w4.alloc (.cells #[.int .u8 (IntKind.u8.wrap (n + 64))] 5)).drew.heap.size := (below_alloc (Below.refl _ _) _).size; have hF6 : Fr (fun i => i = w4.heap.size ∧ w4.heap.size < (w4.alloc (.cells #[.int .u8 (IntKind.u8.wrap (n + 64))] 5)).drew.heap.size) w5 w6 := (Fr.refl _ w5).grown hg6 (fun k hk => .inl ⟨(Option.some.inj hk).symm,by show _ < (Array.push _ _).size; rw [Array.size_push]; exact Nat.lt_succ_self _⟩); have hF7 : Fr (fun i => i = g ∨ i = w.heap.size + 1) w4 w6 := hF5.trans hF6 (fun i h => .inr (Nat.le_of_eq h.1.symm)); have hb26 := hF6.blk hb25 (fun h => by have := h.1; omega); have c6 : w6.cell? ⟨w.heap.size + 1,0,none⟩ = some (.slice none 0 0) := (blk_cell hb26 0).trans rfl; have z6 := blk_frozen hb26 0))
  all_goals
    rename_i hHeld
    clear hHeld
    go_wp2
    have hf8 : Fr (fun i => (i = w4.heap.size ∧ w4.heap.size < _) ∨ i = w.heap.size + 1) w5 (w6.setCell ⟨w.heap.size + 1,0,none⟩ (.slice A6 (b.length + 1) k6)) := Fr.setCell (hF6.mono (fun i h => .inl h)) (p := ⟨w.heap.size + 1,0,none⟩) (.inl (.inr rfl)) _
    have hs4 := hf4.size
    have hs11 := hf1.size
    refine leaves_idle rfl (blk_put hb26 0 _ rfl) (MPost.ended hrest (Fr.trans (S := fun _ => False) (S' := fun _ => False) hf1 ?_ (fun _ h => .inl h)) ?_ (fun k hk => hk.2) hg ?_ hf8)
    · first | exact hf4.drew | exact (hf4.alloc _).drew
    · intro i hi
      rcases hi with ⟨h1, h2⟩ | h1
      · exact ⟨by omega, by rw [h1]; exact h2⟩
      · exact ⟨by omega, Nat.lt_of_lt_of_le (by omega) hX⟩
    · have h9 := own_rdF ho6
      rw [show [IntKind.u8.wrap (n + 64)] ++ b = (n + 64) % 256 :: b by rw [IntKind.wrap_u8]; rfl] at h9
      exact (h9.step (w1 := w6.setCell ⟨w.heap.size + 1,0,none⟩ (.slice A6 (b.length + 1) k6)) (fun k hk _ => Below.heap_setCell w6 ⟨w.heap.size + 1,0,none⟩ _ k (by show k ≠ w.heap.size + 1; omega))).mono (fun k hk => .inr (by omega))
end
end Go.Proofs.Ph
