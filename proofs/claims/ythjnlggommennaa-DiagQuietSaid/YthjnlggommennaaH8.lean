/- Part 9 of the proof of DiagHands, for every input: D3, D5, D6, D7. No condition. -/
import Derived.Test.YthjnlggommennaaH3
import Derived.Deep.RegionHeld3
import Derived.Deep.DrawnRows
import Derived.IntWalk
set_option linter.unusedVariables false
set_option linter.unusedSimpArgs false
set_option linter.unusedSectionVars false
/- diag: a key that is told. No condition. -/
namespace Go.Proofs.Ph
open Go Go.RowKit Go.Proofs.YthjnlggommennaaW.PrintWords
attribute [local go_sem ↓] Go.wp_at_zero Go.wp_at_succ
def mKey (s : S25) (q : List Int) : Res :=
  if s.f3 ≤ 2 then if ((s.f0 != 1) = true ∧ 0 ≤ s.f2) then
    if q.drop 1 = four (key s.f2 s.f6) then ({ s with f1 := true, f2 := -1, f3 := 0 }, .inr [2])
    else ({ s with f2 := -1, f3 := if 2 < s.f3 + 1 then 12 else s.f3 + 1 }, .inl 53)
  else (s, .inl 34) else (s, .inl 54)
set_option maxHeartbeats 2000000 in
theorem key_right {w : World} {g : Nat} {P : Nat → Prop} {s : S25} {vi vd vq : Value} {q : List Int} (h : MPre w g P s vi vd vq q) (h0 : 0 ≤ s.f3) (h1 : s.f3 ≤ 2) (h2 : (s.f0 != 1) = true) (h3 : 0 ≤ s.f2) (hq : 1 ≤ q.length) (HK : Aside0 (decide (q.drop 1 = four (key s.f2 s.f6)) = true)) :
    Calls Try.prog 148 #[.pointer (some ⟨g, 0, none⟩)] w (MPost w g P vq ({ s with f1 := true, f2 := -1, f3 := 0 }, .inr [2])) := by
  have hg := blk_lt h.x
  obtain ⟨A, c, ev, hlc, hF⟩ := h.q
  subst ev
  obtain ⟨A', hcut, hR⟩ := cut_from ⟨A, c, rfl, hlc, hF⟩ 1 1 rfl hq
  have c0 : w.cell? ⟨g, 0, none⟩ = some (.int .i64 s.f0) := (blk_cell h.x 0).trans rfl
  have c2 : w.cell? ⟨g, 2, none⟩ = some (.int .i64 s.f2) := (blk_cell h.x 2).trans rfl
  have c3 : w.cell? ⟨g, 3, none⟩ = some (.int .i64 s.f3) := (blk_cell h.x 3).trans rfl
  have c6 : w.cell? ⟨g, 6, none⟩ = some (.int .i64 s.f6) := (blk_cell h.x 6).trans rfl
  have c9 : w.cell? ⟨g, 9, none⟩ = some (.slice A q.length c) := (blk_cell h.x 9).trans rfl
  have HR := Aside0.mk hR
  have H := Aside0.mk h
  have HQ := Aside0.mk hq
  clear h hR hq
  go_enter Try.func148, Try.ntmps148
  go_wp2_with (go_at_call 123; (with_reducible refine (unless_yes _ _).mono ?_); rintro e w' ⟨rfl, rfl⟩)
  go_region_held3 (fun w' => w'.cell? ⟨g,2,none⟩ = some (.int .i64 s.f2) ∧ w'.cell? ⟨g,6,none⟩ = some (.int .i64 s.f6) ∧ w'.cell? ⟨g,9,none⟩ = some (.slice A q.length c)) (first | exact ⟨c2,c6,c9⟩ | exact ⟨(hf2.cell hg (fun h => h)).trans c2,(hf2.cell hg (fun h => h)).trans c6,(hf2.cell hg (fun h => h)).trans c9⟩ | exact ⟨(hf3.cell (Nat.lt_of_lt_of_le hg hf2.size) (fun h => h)).trans ((hf2.cell hg (fun h => h)).trans c2),(hf3.cell (Nat.lt_of_lt_of_le hg hf2.size) (fun h => h)).trans ((hf2.cell hg (fun h => h)).trans c6),(hf3.cell (Nat.lt_of_lt_of_le hg hf2.size) (fun h => h)).trans ((hf2.cell hg (fun h => h)).trans c9)⟩)
    (first | (go_at_call 29; refine (key_calls _ _ _).mono ?_; rintro e w' ⟨rfl,rfl⟩) | (go_at_call 172; refine (four_calls _ _).mono ?_; rintro e w2 ⟨v2,rfl,hv2,hf2⟩) | (go_at_call 173; refine (equal_calls (HR.out.step (w1 := w2) (fun k hk hlt => hf2.block k hlt (fun h => h))).now hv2.now).mono ?_; rintro e w3 ⟨he,hf3⟩; rw [HK.out] at he; subst he))
  have hf : Fr (fun k => k = g) w w3 := (Fr.refl _ w).drew.trans (hf2.trans hf3 (fun _ h => h.elim)) (fun _ h => h.elim)
  have hx3 := (hf2.trans hf3 (fun _ h => h.elim)).blk (o := _) H.out.x (fun h => h)
  rename_i hHeld
  clear hHeld hf2 hf3 hv2 c0 c2 c3 c6 c9
  have hg3 := blk_lt hx3
  have c1 : w3.cell? ⟨g, 1, none⟩ = some (.bool s.f1) := (blk_cell hx3 1).trans rfl
  have c2 : w3.cell? ⟨g, 2, none⟩ = some (.int .i64 s.f2) := (blk_cell hx3 2).trans rfl
  have c3 : w3.cell? ⟨g, 3, none⟩ = some (.int .i64 s.f3) := (blk_cell hx3 3).trans rfl
  have z1 := blk_frozen hx3 1
  have z2 := blk_frozen hx3 2
  have z3 := blk_frozen hx3 3
  go_wp2_with fail
  go_ret
  refine H.out.answer rfl rfl ?_ ?_ ?_
  · exact blk_alloc (blk_put (blk_put (blk_put hx3 2 _ rfl) 1 _ rfl) 3 _ rfl) _
  · exact hf.trans (((((Fr.refl (fun k => k = g) w3).setCell (p := ⟨g,2,none⟩) (.inl rfl) _).setCell (p := ⟨g,1,none⟩) (.inl rfl) _).setCell (p := ⟨g,3,none⟩) (.inl rfl) _).alloc _) (fun _ h => .inl h)
  · exact (own_rdF (xs := [2]) (own_lit' w3.heap.size (blk_new' (by simp [World.setCell])) rfl (Nat.le_refl _) rfl (by simp))).mono (fun k hk => Or.inr (Nat.le_trans hf.size hk))
set_option maxHeartbeats 2000000 in
theorem key_wrong {n : Int} {w : World} {g : Nat} {P : Nat → Prop} {s : S25} {vi vd vq : Value} {q : List Int} (h : MPre w g P s vi vd vq q) (h0 : 0 ≤ s.f3) (h1 : s.f3 ≤ 2) (h2 : (s.f0 != 1) = true) (h3 : 0 ≤ s.f2) (hq : 1 ≤ q.length) (HK : Aside0 (decide (q.drop 1 = four (key s.f2 s.f6)) = false)) (hn : Aside0 (n = if 2 < s.f3 + 1 then 12 else s.f3 + 1)) :
    Calls Try.prog 148 #[.pointer (some ⟨g, 0, none⟩)] w (MPost w g P vq ({ s with f2 := -1, f3 := n }, .inl 53)) := by
  have hg := blk_lt h.x
  obtain ⟨A, c, ev, hlc, hF⟩ := h.q
  subst ev
  obtain ⟨A', hcut, hR⟩ := cut_from ⟨A, c, rfl, hlc, hF⟩ 1 1 rfl hq
  have c0 : w.cell? ⟨g, 0, none⟩ = some (.int .i64 s.f0) := (blk_cell h.x 0).trans rfl
  have c2 : w.cell? ⟨g, 2, none⟩ = some (.int .i64 s.f2) := (blk_cell h.x 2).trans rfl
  have c3 : w.cell? ⟨g, 3, none⟩ = some (.int .i64 s.f3) := (blk_cell h.x 3).trans rfl
  have c6 : w.cell? ⟨g, 6, none⟩ = some (.int .i64 s.f6) := (blk_cell h.x 6).trans rfl
  have c9 : w.cell? ⟨g, 9, none⟩ = some (.slice A q.length c) := (blk_cell h.x 9).trans rfl
  have HR := Aside0.mk hR
  have H := Aside0.mk h
  have HQ := Aside0.mk hq
  clear h hR hq
  go_enter Try.func148, Try.ntmps148
  go_wp2_with (go_at_call 123; (with_reducible refine (unless_yes _ _).mono ?_); rintro e w' ⟨rfl, rfl⟩)
  go_region_held3 (fun w' => w'.cell? ⟨g,2,none⟩ = some (.int .i64 s.f2) ∧ w'.cell? ⟨g,6,none⟩ = some (.int .i64 s.f6) ∧ w'.cell? ⟨g,9,none⟩ = some (.slice A q.length c)) (first | exact ⟨c2,c6,c9⟩ | exact ⟨(hf2.cell hg (fun h => h)).trans c2,(hf2.cell hg (fun h => h)).trans c6,(hf2.cell hg (fun h => h)).trans c9⟩ | exact ⟨(hf3.cell (Nat.lt_of_lt_of_le hg hf2.size) (fun h => h)).trans ((hf2.cell hg (fun h => h)).trans c2),(hf3.cell (Nat.lt_of_lt_of_le hg hf2.size) (fun h => h)).trans ((hf2.cell hg (fun h => h)).trans c6),(hf3.cell (Nat.lt_of_lt_of_le hg hf2.size) (fun h => h)).trans ((hf2.cell hg (fun h => h)).trans c9)⟩)
    (first | (go_at_call 29; refine (key_calls _ _ _).mono ?_; rintro e w' ⟨rfl,rfl⟩) | (go_at_call 172; refine (four_calls _ _).mono ?_; rintro e w2 ⟨v2,rfl,hv2,hf2⟩) | (go_at_call 173; refine (equal_calls (HR.out.step (w1 := w2) (fun k hk hlt => hf2.block k hlt (fun h => h))).now hv2.now).mono ?_; rintro e w3 ⟨he,hf3⟩; rw [HK.out] at he; subst he))
  have hf : Fr (fun k => k = g) w w3 := (Fr.refl _ w).drew.trans (hf2.trans hf3 (fun _ h => h.elim)) (fun _ h => h.elim)
  have hx3 := (hf2.trans hf3 (fun _ h => h.elim)).blk (o := _) H.out.x (fun h => h)
  rename_i hHeld
  clear hHeld hf2 hf3 hv2 c0 c2 c3 c6 c9
  have hg3 := blk_lt hx3
  have c2 : w3.cell? ⟨g, 2, none⟩ = some (.int .i64 s.f2) := (blk_cell hx3 2).trans rfl
  have c3 : w3.cell? ⟨g, 3, none⟩ = some (.int .i64 s.f3) := (blk_cell hx3 3).trans rfl
  have z2 := blk_frozen hx3 2
  have z3 := blk_frozen hx3 3
  by_cases h4 : 2 < s.f3 + 1
  · have hn' := Aside0.mk (hn.out.trans (if_pos h4))
    go_wp2_with fail
    rw [← hn'.out]
    refine ⟨rfl,H.out.refuse' rfl rfl (blk_put (blk_put (blk_put hx3 2 _ rfl) 3 _ rfl) 3 _ rfl) (hf.trans ((((Fr.refl (fun k => k = g) w3).setCell (p := ⟨g,2,none⟩) (.inl rfl) _).setCell (p := ⟨g,3,none⟩) (.inl rfl) _).setCell (p := ⟨g,3,none⟩) (.inl rfl) _) (fun _ h => .inl h))⟩
  · have hn' := Aside0.mk (hn.out.trans (if_neg h4))
    go_wp2_with fail
    rw [← hn'.out]
    refine ⟨rfl,H.out.refuse' rfl rfl (blk_put (blk_put hx3 2 _ rfl) 3 _ rfl) (hf.trans (((Fr.refl (fun k => k = g) w3).setCell (p := ⟨g,2,none⟩) (.inl rfl) _).setCell (p := ⟨g,3,none⟩) (.inl rfl) _) (fun _ h => .inl h))⟩
end Go.Proofs.Ph
/- diag: the item of a number. No condition. -/
namespace Go.Proofs.Ph
open Go Go.RowKit Go.Proofs.YthjnlggommennaaW.PrintWords
attribute [local go_sem ↓] Go.wp_at_zero Go.wp_at_succ
/-- Which items count: all (function 177), or those that may be written (178). -/
def fits (F : Nat) (x : S47) : Bool := if F = 177 then true else x.f1
def isIt (F : Nat) (id : Int) (x : S47) : Bool := (x.f0 == id) && fits F x
set_option maxHeartbeats 1000000 in
theorem asks_calls {w : World} {F bi bs : Nat} {id : Int} {x : S47} {v2 : Value} (hF : F = 177 ∨ F = 178) (hi : w.cell? ⟨bi,0,none⟩ = some (.int .i64 id)) (hs : w.cell? ⟨bs,0,none⟩ = some (.func (.func F) #[] #[])) :
    Calls Try.prog 181 #[.agg #[.int .i64 x.f0,.bool x.f1,v2],.pointer (some ⟨bi,0,none⟩),.pointer (some ⟨bs,0,none⟩)] w fun e w' => e = .returned (.bool (isIt F id x)) ∧ Fr (fun _ => False) w w' := by
  have hbi := World.block_lt_of_cell? w _ hi
  have hbs := World.block_lt_of_cell? w _ hs
  obtain ⟨b, eb⟩ : ∃ b, b = isIt F id x := ⟨_, rfl⟩
  rw [← eb]
  unfold isIt fits at eb
  obtain ⟨f0, f1, f2⟩ := x
  by_cases h1 : (f0 == id) = true
  · rcases hF with rfl | rfl
    · have eb' := Aside0.mk (eb.trans (by simp [h1] : _ = true))
      clear eb
      go_enter Try.func181, Try.ntmps181
      go_wp2
      go_ret
      exact ⟨by rw [eb'.out]; rfl, ((Fr.refl _ w).alloc _).alloc _⟩
    · have eb' := Aside0.mk (eb.trans (by simp [h1] : _ = f1))
      clear eb
      go_enter Try.func181, Try.ntmps181
      go_wp2
      go_ret
      exact ⟨by rw [eb'.out]; rfl, ((Fr.refl _ w).alloc _).alloc _⟩
  · have h1' : (f0 == id) = false := by simpa using h1
    have eb' := Aside0.mk (eb.trans (by simp [h1'] : _ = false))
    clear eb h1
    go_enter Try.func181, Try.ntmps181
    go_wp2
    go_ret
    exact ⟨by rw [eb'.out]; rfl, (Fr.refl _ w).alloc _⟩
/-- The place of the first that fits; -1: there is none. -/
def findAt (p : S47 → Bool) : List S47 → Nat → Int
  | [], _ => -1
  | x :: l, k => if p x then k else findAt p l (k + 1)
theorem findAt_range (p : S47 → Bool) (l : List S47) (k : Nat) : findAt p l k = -1 ∨ ∃ j,j < l.length ∧ findAt p l k = ((k + j : Nat) : Int) ∧ p (l.getD j z47) = true := by
  induction l generalizing k with
  | nil => exact .inl rfl
  | cons x l ih =>
    unfold findAt
    by_cases h : p x = true
    · rw [if_pos h]; exact .inr ⟨0, by simp, rfl, by simpa using h⟩
    · rw [if_neg h]
      rcases ih (k + 1) with h2 | ⟨j, hj, h2, h3⟩
      · exact .inl h2
      · exact .inr ⟨j + 1, by simpa using hj, by rw [h2]; congr 1; omega, by simpa using h3⟩
theorem findAt_step (p : S47 → Bool) (l : List S47) (k : Nat) (h : k < l.length) : findAt p (l.drop k) k = if p (l.getD k z47) then (k : Int) else findAt p (l.drop (k + 1)) (k + 1) := by
  rw [List.drop_eq_getElem_cons h, findAt, List.getD_eq_getElem?_getD, List.getElem?_eq_getElem h]
  rfl
set_option maxHeartbeats 1000000 in
theorem index_calls {w : World} {F bi bs : Nat} {id : Int} {v : Value} {l : List S47} (hv : Rd k47 w v l) (hF : F = 177 ∨ F = 178) (hi : w.cell? ⟨bi,0,none⟩ = some (.int .i64 id)) (hs : w.cell? ⟨bs,0,none⟩ = some (.func (.func F) #[] #[])) :
    Calls Try.prog 180 #[v,.func (.func 181) #[] #[.pointer (some ⟨bi,0,none⟩),.pointer (some ⟨bs,0,none⟩)]] w fun e w' => e = .returned (.int .i64 (findAt (isIt F id) l 0)) ∧ Fr (fun _ => False) w w' := by
  have hm := hv.max
  obtain ⟨A, c, ev, hlc, hC⟩ := hv
  subst ev
  have hbi := World.block_lt_of_cell? w _ hi
  have hbs := World.block_lt_of_cell? w _ hs
  have HC := Aside0.mk hC
  have HI := Aside0.mk hi
  have HS := Aside0.mk hs
  clear hC hi hs
  go_enter Try.func180, Try.ntmps180
  go_wp2
  go_loopw [8] (fun t wr => ∃ k : Nat,k ≤ l.length ∧ t = .int .i64 k ∧ Aside0 (findAt (isIt F id) (l.drop k) k = findAt (isIt F id) l 0) ∧ Aside0 (Fr (fun _ => False) w wr)) (fun t _ => l.length - (intOf t).toNat)
  case atStart => exact ⟨0, Nat.zero_le _, rfl, ⟨rfl⟩, ⟨Fr.refl _ _⟩⟩
  case round =>
    obtain ⟨k, hk, rfl, hT, hD⟩ := hrel
    by_cases hlt : k < l.length
    · obtain ⟨ad, A2, c2, e1, x0, x1, x2, -, -⟩ := at_T47 HC.out (k : Int) (by omega) (by omega)
      subst e1
      have hb := Fr.below hD.out (fun _ h => h.elim)
      replace x0 := pw_cell_below hb x0
      replace x1 := pw_cell_below hb x1
      replace x2 := pw_cell_below hb x2
      rw [show ((k : Int)).toNat = k from rfl] at x0 x1 x2
      obtain ⟨x, ex⟩ : ∃ x, x = rd_T47 l k := ⟨_, rfl⟩
      rw [← ex] at x0 x1 x2
      have hst := findAt_step (isIt F id) l k hlt
      have HST := Aside0.mk (hT.out.symm.trans hst)
      have EX := Aside0.mk ex
      clear hst ex hT
      have hb1 : (0 : Int) ≤ (k : Int) := by omega
      have hb2 : (k : Int) < (l.length : Int) := by omega
      by_cases hp : isIt F id x = true
      · have HP := Aside0.mk hp
        clear hp
        go_wp2_with (go_at_call 181; refine (asks_calls hF ((hD.out.cell hbi (fun h => h)).trans HI.out) ((hD.out.cell hbs (fun h => h)).trans HS.out)).mono ?_; rintro e w2 ⟨he,hf2⟩; rw [HP.out] at he; subst he)
        go_ret
        exact ⟨by rw [HST.out, show l.getD k z47 = x from EX.out.symm, if_pos HP.out]; rfl, hD.out.trans hf2 (fun _ h => h.elim)⟩
      · have HP := Aside0.mk (show isIt F id x = false by simpa using hp)
        clear hp
        go_wp2_with (go_at_call 181; refine (asks_calls hF ((hD.out.cell hbi (fun h => h)).trans HI.out) ((hD.out.cell hbs (fun h => h)).trans HS.out)).mono ?_; rintro e w2 ⟨he,hf2⟩; rw [HP.out] at he; subst he)
        go_roundw
        case rel => exact ⟨k + 1,by omega,by go_num,⟨by rw [HST.out,show l.getD k z47 = x from EX.out.symm,if_neg (by rw [HP.out]; simp)]⟩,⟨hD.out.trans hf2 (fun _ h => h.elim)⟩⟩
        case measure => simp [intOf]; omega
    · have HT := Aside0.mk (hT.out.symm.trans (by rw [List.drop_of_length_le (by omega)]; rfl : _ = (-1 : Int)))
      have hn : ¬ ((k : Int) < (l.length : Int)) := by omega
      clear hT
      go_wp2
      go_ret
      exact ⟨by rw [HT.out]; rfl, hD.out⟩
/-- A place that was found, or a refusal. -/
def ItemPost (w : World) (k : Int) (e : Ending) (w' : World) : Prop := Fr (fun _ => False) w w' ∧ ((k = -1 ∧ e = .panicked [{ v := .iface 171 (.int .i64 49),recovered := false }]) ∨ (¬ k = -1 ∧ e = .returned (.int .i64 k)))
/-- Two bytes as a number. -/
def num2 (a b : Int) : Int := bits BinOp.or IntKind.i64 (a * 256) b
set_option maxHeartbeats 2000000 in
theorem item_calls {w : World} {g : Nat} {P : Nat → Prop} {s : S25} {vi vd vq : Value} {q : List Int} {F : Nat} (h : MPre w g P s vi vd vq q) (hq : 2 ≤ q.length) (hB : Byt q) (hF : F = 177 ∨ F = 178) :
    Calls Try.prog 176 #[.pointer (some ⟨g,0,none⟩),.func (.func F) #[] #[]] w (ItemPost w (findAt (isIt F (num2 (q.getD 0 0) (q.getD 1 0))) s.f7 0)) := by
  obtain ⟨A, c, ev, hlc, hFq⟩ := h.q
  subst ev
  obtain ⟨Ai, ci, ei, hlci, hFi⟩ := h.i
  subst ei
  obtain ⟨ad, ea, hb⟩ := rd_at h.q.now 0 (by omega)
  subst ea
  obtain ⟨ad2, ea, hc⟩ := rd_at h.q.now 1 (by omega)
  injection ea with ea
  subst ea
  have hb' : w.cell? ad = some (.int .u8 (q.getD 0 0)) := by have := hb; rwa [show ad.add 0 = ad by simp [Addr.add]] at this
  clear hb
  obtain ⟨n, en⟩ : ∃ n, n = q.getD 0 0 := ⟨_, rfl⟩
  obtain ⟨m, em⟩ : ∃ m, m = q.getD 1 0 := ⟨_, rfl⟩
  have hn := hB.at 0
  have hm := hB.at 1
  rw [← en] at hb' hn ⊢
  rw [← em] at hc hm ⊢
  obtain ⟨hn0, hn1⟩ := hn
  obtain ⟨hm0, hm1⟩ := hm
  clear en em
  have hc' : w.cell? ⟨ad.block,ad.off + 1,none⟩ = some (.int .u8 m) := by have := hc; rwa [show ad.add 1 = ⟨ad.block,ad.off + 1,none⟩ by simp [Addr.add]] at this
  clear hc
  have hqa : 0 < q.length := by omega
  have hqb : 1 < q.length := by omega
  have hq0 : (0 : Int) < (q.length : Int) := by omega
  have hq1 : (1 : Int) < (q.length : Int) := by omega
  have hg := blk_lt h.x
  have c7 : w.cell? ⟨g, 7, none⟩ = some (.slice Ai s.f7.length ci) := (blk_cell h.x 7).trans rfl
  have c9 : w.cell? ⟨g, 9, none⟩ = some (.slice (some ad) q.length c) := (blk_cell h.x 9).trans rfl
  have H := Aside0.mk h
  clear h hFq hlc hFi hlci
  obtain ⟨at_, eat⟩ : ∃ x, x = findAt (isIt F (num2 n m)) s.f7 0 := ⟨_, rfl⟩
  rw [← eat]
  have EAT := Aside0.mk eat
  clear eat
  go_enter Try.func176, Try.ntmps176
  go_wp2
  generalize hw1 : World.alloc _ _ = w1
  have hf1 : Fr (fun _ => False) w w1 := by subst hw1; exact (Fr.refl _ w).alloc _
  have hbx : w1.heap[w.heap.size]? = some (.cells #[.func (.func F) #[] #[]] 221 (0, 0)) := by subst hw1; exact blk_new w _
  clear hw1
  replace c7 := hf1.cellA c7
  replace c9 := hf1.cellA c9
  replace hb' := hf1.cellA hb'
  replace hc' := hf1.cellA hc'
  have e1 : IntKind.i64.wrap n = n := IntWalk.i64_in _ (by omega)
  have e2 : IntKind.i64.wrap (n * 256) = n * 256 := IntWalk.i64_in _ (by omega)
  have e3 : IntKind.i64.wrap m = m := IntWalk.i64_in _ (by omega)
  go_region_held3 (fun w' => w'.cell? ⟨g,9,none⟩ = some (.slice (some ad) q.length c) ∧ w'.cell? ad = some (.int .u8 n) ∧ w'.cell? ⟨ad.block,ad.off + 1,none⟩ = some (.int .u8 m)) (refine ⟨Fr.cellA (w := w1) ?_ c9,Fr.cellA (w := w1) ?_ hb',Fr.cellA (w := w1) ?_ hc'⟩ <;> (repeat (first | exact Fr.refl _ _ | refine Fr.alloc ?_ _ | refine Fr.drew ?_ | refine Fr.setCell ?_ (.inr (Nat.le_refl _)) _))) (fail)
  clear e1 e2 e3
  generalize hw2 : World.drew _ = w2
  have hf2 : Fr (fun _ => False) w1 w2 := by subst hw2; exact ((Fr.refl _ w1).alloc _).drew
  have hbi : w2.cell? ⟨w1.heap.size, 0, none⟩ = some (.int .i64 (num2 n m)) := by
    subst hw2
    exact (blk_cell (t := 3) (cs := #[.int .i64 (num2 n m)]) (blk_new w1 _) 0).trans rfl
  have hbs : w2.cell? ⟨w.heap.size, 0, none⟩ = some (.func (.func F) #[] #[]) := hf2.cellA ((blk_cell hbx 0).trans rfl)
  replace c7 := hf2.cellA c7
  have hf := hf1.trans hf2 (fun _ h => .inl h)
  have hv : Rd k47 w2 (.slice Ai s.f7.length ci) s.f7 := H.out.i.now.below (hf.below (fun _ h => h.elim))
  have HV := Aside0.mk hv
  rename_i hHeld
  clear hHeld hw2 hv hb' hc' c9 hf1 hf2
  have hr := findAt_range (isIt F (num2 n m)) s.f7 0
  rw [← EAT.out] at hr
  by_cases h0 : at_ = -1
  · have hge : decide (at_ ≥ 0) = false := by rw [h0]; rfl
    have hge2 : decide ((0 : Int) ≤ at_) = false := by rw [h0]; rfl
    have H0 := Aside0.mk h0
    clear h0 hr
    go_wp2_with (first | (go_at_call 180; refine (index_calls HV.out hF hbi hbs).mono ?_; rintro e w3 ⟨he,hf3⟩; rw [← EAT.out] at he; subst he) | (go_at_call 123; (with_reducible refine (unless_no _ _).mono ?_); rintro e w' ⟨rfl,rfl⟩))
    exact ⟨rfl, hf.trans hf3 (fun _ h => h.elim), .inl ⟨H0.out, rfl⟩⟩
  · have hp : 0 ≤ at_ := by rcases hr with hr | ⟨j, _, hr, _⟩ <;> omega
    have hge : decide (at_ ≥ 0) = true := decide_eq_true hp
    have hge2 : decide ((0 : Int) ≤ at_) = true := decide_eq_true hp
    have H0 := Aside0.mk h0
    clear h0 hr hp
    go_wp2_with (first | (go_at_call 180; refine (index_calls HV.out hF hbi hbs).mono ?_; rintro e w3 ⟨he,hf3⟩; rw [← EAT.out] at he; subst he) | (go_at_call 123; (with_reducible refine (unless_yes _ _).mono ?_); rintro e w' ⟨rfl,rfl⟩))
    go_ret
    exact ⟨hf.trans hf3 (fun _ h => h.elim), .inr ⟨H0.out, rfl⟩⟩
end Go.Proofs.Ph
/- diag: an item is read. No condition. -/
namespace Go.Proofs.Ph
open Go Go.RowKit Go.Proofs.YthjnlggommennaaW.PrintWords
attribute [local go_sem ↓] Go.wp_at_zero Go.wp_at_succ
def placeOf (F : Nat) (s : S25) (q : List Int) : Int := findAt (isIt F (num2 (q.getD 0 0) (q.getD 1 0))) s.f7 0
def mRead (s : S25) (q : List Int) : Res := if placeOf 177 s q = -1 then (s, .inl 49) else (s, .inr (q ++ (rd_T47 s.f7 (placeOf 177 s q)).f2))
set_option maxRecDepth 100000 in
set_option maxHeartbeats 2000000 in
theorem readItem_calls {w : World} {g : Nat} {P : Nat → Prop} {s : S25} {vi vd vq : Value} {q : List Int} (h : MPre w g P s vi vd vq q) (hq : 2 ≤ q.length) (hq2 : q.length ≤ 1000) (hB : Byt q) (hD : ∀ x ∈ s.f7,x.f2.length ≤ 1000) :
    Calls Try.prog 166 #[.pointer (some ⟨g, 0, none⟩)] w (MPost w g P vq (mRead s q)) := by
  have HIT := Aside0.mk (item_calls (F := 177) h hq hB (.inl rfl))
  obtain ⟨A, c, ev, hlc, hFq⟩ := h.q
  subst ev
  obtain ⟨Ai, ci, ei, hlci, hFi⟩ := h.i
  subst ei
  have hg := blk_lt h.x
  have c7 : w.cell? ⟨g, 7, none⟩ = some (.slice Ai s.f7.length ci) := (blk_cell h.x 7).trans rfl
  have c9 : w.cell? ⟨g, 9, none⟩ = some (.slice A q.length c) := (blk_cell h.x 9).trans rfl
  have H := Aside0.mk h
  have HB := Aside0.mk hB
  have HD := Aside0.mk hD
  clear h hFq hlc hFi hlci hB hD
  unfold mRead
  obtain ⟨k, ek⟩ : ∃ k, k = placeOf 177 s q := ⟨_, rfl⟩
  rw [← ek]
  change Aside0 (Calls Try.prog 176 _ w (ItemPost w (placeOf 177 s q))) at HIT
  rw [← ek] at HIT
  have hr := findAt_range (isIt 177 (num2 (q.getD 0 0) (q.getD 1 0))) s.f7 0
  change placeOf 177 s q = -1 ∨ _ at hr
  rw [← ek] at hr
  by_cases hk : k = -1
  · rw [if_pos hk]
    have HK := Aside0.mk hk
    clear hr hk ek
    go_enter Try.func166, Try.ntmps166
    go_wp2_with (go_at_call 176; refine HIT.out.mono ?_; rintro e w2 ⟨hf2, ⟨-, rfl⟩ | ⟨h, -⟩⟩; rotate_left; exact absurd HK.out h)
    have hx2 := hf2.blk H.out.x (fun h => h)
    exact ⟨rfl, H.out.refuse' rfl rfl hx2 (hf2.mono (fun _ h => h.elim))⟩
  · rw [if_neg hk]
    obtain ⟨j, hj, hkj, -⟩ : ∃ j, j < s.f7.length ∧ k = j ∧ True := by
      rcases hr with h | ⟨j, hj, h, _⟩
      · exact absurd h hk
      · exact ⟨j, hj, by rw [ek]; show findAt _ _ _ = _; rw [h]; simp, trivial⟩
    subst hkj
    have HK := Aside0.mk hk
    have EK := Aside0.mk ek
    clear hr hk ek
    obtain ⟨ad,A2,c2,e1, -, -,x2,hl2,hC2⟩ := at_T47 (Kd.F_now (by obtain ⟨A',c',e,hl,hF⟩ := H.out.i; injection e with e1 e2 e3; subst e1; exact hF)) (j : Int) (by omega) (by omega)
    subst e1
    rw [show ((j : Int)).toNat = j from rfl] at x2
    have hmem : rd_T47 s.f7 (j : Int) ∈ s.f7 := by
      show s.f7.getD j z47 ∈ s.f7
      rw [List.getD_eq_getElem?_getD, List.getElem?_eq_getElem hj]
      exact List.getElem_mem hj
    have hlen := HD.out _ hmem
    clear hmem
    obtain ⟨x, ex⟩ : ∃ x, x = rd_T47 s.f7 (j : Int) := ⟨_, rfl⟩
    rw [← ex] at x2 hl2 hC2 hlen ⊢
    have hRx : Rd kb w (.slice A2 x.f2.length c2) x.f2 := ⟨A2, c2, rfl, hl2, hC2⟩
    have HRX := Aside0.mk hRx
    clear ex hl2 hC2 hRx
    go_enter Try.func166, Try.ntmps166
    go_wp2_with (go_at_call 176; refine HIT.out.mono ?_; rintro e w2 ⟨hf2, ⟨h, -⟩ | ⟨-, rfl⟩⟩; exact absurd h HK.out)
    have hb2 := hf2.below (fun _ h => h.elim)
    replace c7 := hf2.cellA c7
    replace c9 := hf2.cellA c9
    replace x2 := hf2.cellA x2
    have hj0 : (0 : Int) ≤ (j : Int) := by omega
    have hj1 : (j : Int) < (s.f7.length : Int) := by omega
    go_region_held3 (fun w' => w'.cell? ⟨g,9,none⟩ = some (.slice A q.length c) ∧ w'.cell? ⟨g,7,none⟩ = some (.slice (some ad) s.f7.length ci) ∧ w'.cell? ⟨(ad.add (j * 3)).block,(ad.add (j * 3)).off + 2,none⟩ = some (.slice A2 x.f2.length c2))
      (refine ⟨Fr.cellA (w := w2) ?_ c9,Fr.cellA (w := w2) ?_ c7,Fr.cellA (w := w2) ?_ x2⟩ <;> (repeat (first | exact Fr.refl _ _ | exact hf4 | exact hf3 | refine Fr.drew ?_)))
      (first | (refine appB_step Try.underlying31 i5 (W := w2.drew) w2.heap.size rfl _ _ rfl (.slice none 0 0) (.slice A q.length c) [] q (by rfl) (by rfl) (own_nil _ _ _ _) ((H.out.q.step (w1 := w2.drew) (fun k hk hlt => hf2.block k hlt (fun h => h))).now) (Nat.le_refl _) (by simp; omega) ?_; intro v3 w3 ho3 hg3 hb3; have hf3 : Fr (fun _ => False) w2 w3 := (Fr.refl _ w2).drew.grown hg3 (fun k hk => .inr (hb3 k hk))) | (refine appB_step Try.underlying31 i5 (W := w3) w2.heap.size rfl _ _ rfl v3 (.slice A2 x.f2.length c2) q x.f2 (by rfl) (by rfl) ho3 ((HRX.out.below hb2).below (hf3.below (fun _ h => h.elim))) hf3.size (by omega) ?_; intro v4 w4 ho4 hg4 hb4; have hf4 : Fr (fun _ => False) w2 w4 := hf3.grown hg4 (fun k hk => .inr (hb4 k hk))))
    rename_i hHeld
    clear hHeld
    go_wp2
    go_ret
    have hf := hf2.trans hf4 (fun _ h => h.elim)
    exact H.out.answer rfl rfl (hf.blk H.out.x (fun h => h)) (hf.mono (fun _ h => h.elim)) ((own_rdF ho4).mono (fun k hk => .inr (Nat.le_trans hf2.size hk)))
end Go.Proofs.Ph
/- diag: an item is written. No condition. -/
namespace Go.Proofs.Ph
open Go Go.RowKit Go.Proofs.YthjnlggommennaaW.PrintWords
attribute [local go_sem ↓] Go.wp_at_zero Go.wp_at_succ
theorem i47 : (Try.prog.info? 47).map (fun i => (i.zero,i.size,i.bytes)) = some (some (.agg #[.int .i64 0,.bool false,.slice none 0 0]),3,40) := by kernel_rfl
/-- A literal without elements. -/
theorem N_lit0 {α : Type} (d : Kd α) {w : World} {base g : Nat} {e : TypeId} {ok : Nat → Prop} (h : w.heap[g]? = some (.cells #[] e (0,0))) (hb : base ≤ g) (hk : ok g) : Kd.N d e w base ok (.slice (some ⟨g,0,none⟩) 0 0) [] := by
  refine Kd.R_N ⟨fun k hk2 => ?_,[],⟨by simp,.inr ⟨g,0,#[],rfl,hb,h,Nat.le_refl _,by simp [maxLen],by simp,by simp⟩⟩,⟨by simp,fun j p hj => by simp at hj⟩⟩
  have : g = k := by simpa [Value.ownBlock] using hk2
  exact this ▸ hk
/-- What a call that makes a row of elements that share leaves. -/
def RetN {α : Type} (d : Kd α) (t : Nat) (P : Nat → Prop) (w : World) (l : List α) (e : Ending) (w' : World) : Prop := ∃ v,e = .returned v ∧ Kd.N d t w' w.heap.size (Now w P) v l ∧ Fr (fun _ => False) w w'
set_option maxHeartbeats 1000000 in
theorem cloneItems_calls {w : World} {P : Nat → Prop} {v : Value} {xs : List S47} (hx : RdF k47 w P v xs) (hl : xs.length ≤ 1000) : Calls Try.prog 179 #[v] w (RetN k47 47 P w xs) := by
  have hx' := hx.bound
  obtain ⟨A1, c1, rfl, hc1, hF⟩ := hx'
  have HX := Aside0.mk hx
  have HF := Aside0.mk hF
  clear hx hF
  cases A1 with
  | none =>
    have he := Aside0.mk (rd_none HX.out.now)
    have kn := fun W => Lib.run_eql_slice_nil (P := Try.prog) W 22 47 none xs.length c1 0 0 Try.underlying22
    go_enter Try.func179, Try.ntmps179
    go_wp2
    go_ret
    exact ⟨_, rfl, by rw [he.out]; exact Kd.N_nil _ _ _ _ _, Fr.refl _ _⟩
  | some ad =>
    have kn := fun W => Lib.run_eql_slice_nil (P := Try.prog) W 22 47 (some ad) xs.length c1 0 0 Try.underlying22
    go_enter Try.func179, Try.ntmps179
    go_wp2_with (at_builtin; refine Kd.N_append_rows k47 (w0 := w) (W := w.alloc (.cells #[] 47)) w.heap.size rfl _ _ 22 47 _ 40 rfl Try.underlying22 i47 rfl (by decide) (by omega) (.slice (some ⟨w.heap.size,0,none⟩) 0 0) [] xs (some ad) xs.length c1 (Now w P) (fun k => P k ∧ k < w.heap.size) rfl rfl (N_lit0 k47 (blk_new w _) (Nat.le_refl _) (.inr (Nat.le_refl _))) (Kd.F_alloc HF.out _) (fun k hk => ⟨.inl hk.1,fun e => by simp [Value.ownBlock] at e; have := hk.2; omega⟩) (fun k hk => .inr (Nat.le_trans (by simp) hk)) ((Below.refl _ _).alloc (Nat.le_refl _) _) (by simp) (by simp; omega) ?_; intro v2 w2 ho2 hb2 hg2 hat2)
    go_ret
    exact ⟨_, rfl, ho2, ((Fr.refl (fun _ => False) w).alloc _).grown hg2 (fun k hk => .inr (by simp [Value.ownBlock] at hk; omega))⟩
def setItems (s : S25) (l : List S47) : S25 := { s with f7 := l }
def setData (x : S47) (l : List Int) : S47 := { x with f2 := l }
/-- An element's bytes are set. -/
theorem N_data {W : World} {base : Nat} {ok okp : Nat → Prop} {gb n cap : Nat} {xs : List S47} (h : Kd.N k47 47 W base ok (.slice (some ⟨gb,0,none⟩) n cap) xs) {j : Nat} (hj : j < n) {A : Option Addr} {c : Nat} {l : List Int} (hl : l.length ≤ c) (hF : Kd.F kb W okp A l.length l) (hokp : ∀ k,okp k → ok k ∧ k ≠ gb) :
    Kd.N k47 47 (W.setCell ⟨gb,j * 3 + 2,none⟩ (.slice A l.length c)) base ok (.slice (some ⟨gb,0,none⟩) n cap) (xs.set j (setData (xs.getD j z47) l)) ∧ ∃ old,W.cell? ⟨gb,j * 3 + 2,none⟩ = some old := by
  obtain ⟨cs, hcl, hK, hcc⟩ := Kd.N_get h z47 (j : Int) (by omega) (by omega)
  obtain ⟨A2, c2, rfl, hl2, hC2⟩ := k47_open (Kd.FK_now hK)
  have hcc' : ∀ i u,([Value.int .i64 (xs.getD j z47).f0,.bool (xs.getD j z47).f1,.slice A2 (xs.getD j z47).f2.length c2] : List Value)[i]? = some u → W.cell? ⟨gb,(j : Int).toNat * 3 + i,none⟩ = some u := fun i u hu => by
    have := hcc i u hu
    rw [add_plain] at this
    exact this
  have h1 := Kd.N_seg (okp := fun k => (okp k ∨ (ok k ∧ some k ≠ (Value.slice (some ⟨gb,0,none⟩) n cap).ownBlock))) (seg := [Value.slice A l.length c]) (j := 2) h (j : Int) (by omega) (by omega) hcl hcc' (Nat.le_refl 3) (x' := setData (xs.getD j z47) l)
    (by exact k47_mkF W _ (setData (xs.getD j z47) l) hl (Kd.F_mono hF (fun k hk => .inl hk))) (fun k hk => by
      rcases hk with hk | ⟨hk, hn⟩
      · exact hokp k hk
      · exact ⟨hk, fun e => hn (by rw [e]; simp [Value.ownBlock])⟩)
  exact ⟨h1.1, _, hcc' 2 _ rfl⟩
def mWrite (s : S25) (q : List Int) : Res :=
  if (s.f0 != 1) = true then if s.f1 = true then if placeOf 178 s q = -1 then (s, .inl 49) else
    if ((((q.drop 2).length : Nat) : Int) == (((rd_T47 s.f7 (placeOf 178 s q)).f2.length : Nat) : Int)) = true then (setItems s (s.f7.set (placeOf 178 s q).toNat (setData (rd_T47 s.f7 (placeOf 178 s q)) (q.drop 2))),.inr (q.take 2)) else (s,.inl 19)
  else (s, .inl 51) else (s, .inl 34)
section
variable {w : World} {g : Nat} {P : Nat → Prop} {s : S25} {vi vd vq : Value} {q : List Int}
set_option maxHeartbeats 1000000 in
theorem write_plain (h : MPre w g P s vi vd vq q) (h1 : (s.f0 != 1) = false) : Calls Try.prog 167 #[.pointer (some ⟨g,0,none⟩)] w (MPost w g P vq (s,.inl 34)) := by
  have c0 : w.cell? ⟨g, 0, none⟩ = some (.int .i64 s.f0) := (blk_cell h.x 0).trans rfl
  have H := Aside0.mk h
  clear h
  go_enter Try.func167, Try.ntmps167
  go_wp2_with (go_at_call 123; (with_reducible refine (unless_no _ _).mono ?_); rintro e w' ⟨rfl, rfl⟩)
  exact ⟨rfl, H.out.refuse⟩
set_option maxHeartbeats 1000000 in
theorem write_shut (h : MPre w g P s vi vd vq q) (h1 : (s.f0 != 1) = true) (h2 : s.f1 = false) : Calls Try.prog 167 #[.pointer (some ⟨g,0,none⟩)] w (MPost w g P vq (s,.inl 51)) := by
  have c0 : w.cell? ⟨g, 0, none⟩ = some (.int .i64 s.f0) := (blk_cell h.x 0).trans rfl
  have c1 : w.cell? ⟨g, 1, none⟩ = some (.bool s.f1) := (blk_cell h.x 1).trans rfl
  have H := Aside0.mk h
  clear h
  go_enter Try.func167, Try.ntmps167
  go_wp2_with (go_at_call 123; first | ((with_reducible refine (unless_yes _ _).mono ?_); rintro e w' ⟨rfl,rfl⟩) | ((with_reducible refine (unless_no _ _).mono ?_); rintro e w' ⟨rfl,rfl⟩))
  exact ⟨rfl, H.out.refuse⟩
set_option maxHeartbeats 1000000 in
theorem write_none (h : MPre w g P s vi vd vq q) (h1 : (s.f0 != 1) = true) (h2 : s.f1 = true) (hq : 2 ≤ q.length) (hB : Byt q) (h3 : placeOf 178 s q = -1) : Calls Try.prog 167 #[.pointer (some ⟨g,0,none⟩)] w (MPost w g P vq (s,.inl 49)) := by
  have HIT := Aside0.mk (item_calls (F := 178) h hq hB (.inr rfl))
  change Aside0 (Calls Try.prog 176 _ w (ItemPost w (placeOf 178 s q))) at HIT
  rw [h3] at HIT
  have c0 : w.cell? ⟨g, 0, none⟩ = some (.int .i64 s.f0) := (blk_cell h.x 0).trans rfl
  have c1 : w.cell? ⟨g, 1, none⟩ = some (.bool s.f1) := (blk_cell h.x 1).trans rfl
  have H := Aside0.mk h
  clear h h3 hB
  go_enter Try.func167, Try.ntmps167
  go_wp2_with (first | (go_at_call 123; (with_reducible refine (unless_yes _ _).mono ?_); rintro e w' ⟨rfl,rfl⟩) | (go_at_call 176; refine HIT.out.mono ?_; rintro e w2 ⟨hf2,⟨-,rfl⟩ | ⟨h, -⟩⟩; rotate_left; exact absurd rfl h))
  exact ⟨rfl, H.out.refuse' rfl rfl (hf2.blk H.out.x (fun h => h)) (hf2.mono (fun _ h => h.elim))⟩
/-- What the last two ways share. -/
theorem cut_head {w : World} {ok : Nat → Prop} {A : Option Addr} {c : Nat} {xs : List Int} (h : RdF kb w ok (.slice A xs.length c) xs) (k : Int) (m : Nat) (hk : k = m) (hm : m ≤ xs.length) : RdF kb w ok (.slice A m c) (xs.take m) := by
  obtain ⟨A0, c0, e, hl, hF⟩ := h
  injection e with e1 e2 e3
  subst e1 e3
  have hlen : (xs.take m).length = m := by rw [List.length_take]; omega
  refine ⟨A, c, by rw [hlen], by rw [hlen]; omega, Kd.F_imp hF (fun W' hC => ?_)⟩
  rw [hlen]
  exact Kd.C_of_reads (ReadsInt.take_ (Kd.reads_of_C (d := (0 : Int)) hC) m hm)
set_option maxRecDepth 100000 in
set_option maxHeartbeats 2000000 in
theorem write_some (h : MPre w g P s vi vd vq q) (h1 : (s.f0 != 1) = true) (h2 : s.f1 = true) (hq : 3 ≤ q.length) (hq2 : q.length ≤ 1000) (hB : Byt q) (hI : s.f7.length ≤ 1000) {j : Nat} (h3 : placeOf 178 s q = j) (hj : j < s.f7.length)
    {b : Bool} (h4 : ((((q.drop 2).length : Nat) : Int) == (((rd_T47 s.f7 (j : Int)).f2.length : Nat) : Int)) = b) : Calls Try.prog 167 #[.pointer (some ⟨g,0,none⟩)] w (MPost w g P vq (if b = true then (setItems s (s.f7.set j (setData (rd_T47 s.f7 (j : Int)) (q.drop 2))),.inr (q.take 2)) else (s,.inl 19))) := by
  have HIT := Aside0.mk (item_calls (F := 178) h (by omega) hB (.inr rfl))
  change Aside0 (Calls Try.prog 176 _ w (ItemPost w (placeOf 178 s q))) at HIT
  rw [h3] at HIT
  obtain ⟨A, c, ev, hlc, hFq⟩ := h.q
  subst ev
  obtain ⟨Ai, ci, ei, hlci, hFi⟩ := h.i
  subst ei
  obtain ⟨A', hcut, hR⟩ := cut_from ⟨A, c, rfl, hlc, hFq⟩ 2 2 rfl (by omega)
  obtain ⟨ad, A2, c2, e1, -, -, x2, -, -⟩ := at_T47 (Kd.F_now hFi) (j : Int) (by omega) (by omega)
  subst e1
  rw [show ((j : Int)).toNat = j from rfl] at x2
  obtain ⟨x, ex⟩ : ∃ x, x = rd_T47 s.f7 (j : Int) := ⟨_, rfl⟩
  rw [← ex] at x2 h4 ⊢
  have EX := Aside0.mk ex
  have hdl : (q.drop 2).length = q.length - 2 := by rw [List.length_drop]
  have c0 : w.cell? ⟨g, 0, none⟩ = some (.int .i64 s.f0) := (blk_cell h.x 0).trans rfl
  have c1 : w.cell? ⟨g, 1, none⟩ = some (.bool s.f1) := (blk_cell h.x 1).trans rfl
  have c7 : w.cell? ⟨g, 7, none⟩ = some (.slice (some ad) s.f7.length ci) := (blk_cell h.x 7).trans rfl
  have c9 : w.cell? ⟨g, 9, none⟩ = some (.slice A q.length c) := (blk_cell h.x 9).trans rfl
  rw [hdl] at h4
  have hg := blk_lt h.x
  have hj0 : (0 : Int) ≤ (j : Int) := by omega
  have hj1 : (j : Int) < (s.f7.length : Int) := by omega
  have hnj : ¬ (j : Int) = -1 := by omega
  have hcc : 2 ≤ c := by omega
  have hcc1 : (2 : Int) ≤ (c : Int) := by omega
  have hcc2 : ¬ (c : Int) < 2 := by omega
  have HR := Aside0.mk hR
  have H := Aside0.mk h
  have HF7 := Aside0.mk hFi
  clear h h3 hB hR hFq hFi ex hdl hlc hlci
  cases b with
  | false =>
    show Calls Try.prog 167 _ w (MPost w g P (.slice A q.length c) (s, .inl 19))
    go_enter Try.func167, Try.ntmps167
    go_wp2_with (first | (go_at_call 123; (with_reducible refine (unless_yes _ _).mono ?_); rintro e w' ⟨rfl,rfl⟩) | (go_at_call 176; refine HIT.out.mono ?_; rintro e w2 ⟨hf2,⟨h, -⟩ | ⟨-,rfl⟩⟩; exact absurd h hnj; have c7 := hf2.cellA c7; have c9 := hf2.cellA c9; have x2 := hf2.cellA x2) | (go_at_call 123; (with_reducible refine (unless_no _ _).mono ?_); rintro e w' ⟨rfl,rfl⟩))
    exact ⟨rfl, H.out.refuse' rfl rfl (hf2.blk H.out.x (fun h => h)) (hf2.mono (fun _ h => h.elim))⟩
  | true =>
    show Calls Try.prog 167 _ w (MPost w g P (.slice A q.length c) (setItems s (s.f7.set j (setData x (q.drop 2))), .inr (q.take 2)))
    go_enter Try.func167, Try.ntmps167
    go_wp2_with (first | (go_at_call 123; (with_reducible refine (unless_yes _ _).mono ?_); rintro e w' ⟨rfl,rfl⟩) | (go_at_call 176; refine HIT.out.mono ?_; rintro e w2 ⟨hf2,⟨h, -⟩ | ⟨-,rfl⟩⟩; exact absurd h hnj; have c7 := hf2.cellA c7; have c9 := hf2.cellA c9; have x2 := hf2.cellA x2) | (go_at_call 179; refine (cloneItems_calls (P := P) (H.out.i.step (w1 := w2) (fun k hk hlt => hf2.block k hlt (fun h => h))) hI).mono ?_; rintro e w3 ⟨v3,rfl,hN3,hf3⟩; obtain ⟨gb,cap,rfl,hgb, -⟩ := Kd.N_form hN3 (Nat.lt_of_le_of_lt (Nat.zero_le _) hj); have hx3 := (hf2.trans hf3 (fun _ h => h.elim)).blk H.out.x (fun h => h); have c7 : w3.cell? ⟨g,7,none⟩ = some (.slice (some ad) s.f7.length ci) := (blk_cell hx3 7).trans rfl; have z7 := blk_frozen hx3 7))
    generalize hw4 : World.setCell _ _ _ = w4
    have hx4 : XB w4 g (setItems s s.f7) (.slice (some ⟨gb, 0, none⟩) s.f7.length cap) vd (.slice A q.length c) := by
      subst hw4
      exact blk_put hx3 7 _ rfl
    have hne : ∀ k, Now w2 P k → k ≠ g := fun k hk e => by
      subst e
      rcases hk with hk | hk
      · exact H.out.g hk
      · have := hf2.size; omega
    have hN4 : Kd.N k47 47 w4 w2.heap.size (Now w2 P) (.slice (some ⟨gb, 0, none⟩) s.f7.length cap) s.f7 := by
      subst hw4
      exact Kd.N_far (p := ⟨g, 7, none⟩) hN3 hne _
    have hf4 : Fr (fun k => k = g) w w4 := by
      subst hw4
      exact ((hf2.trans hf3 (fun _ h => h.elim)).mono (fun _ h => h.elim)).setG 7 _
    have hgb4 : w2.heap.size ≤ gb ∧ gb < w4.heap.size := ⟨hgb, Kd.N_lt hN4 gb (by simp [Value.ownBlock])⟩
    have hs4 : w2.heap.size ≤ w4.heap.size := by omega
    have hgg : gb ≠ g := by have := hf2.size; omega
    clear hw4 hx3 c7 z7 c9 x2 c0 c1 hN3
    have c7 : w4.cell? ⟨g, 7, none⟩ = some (.slice (some ⟨gb, 0, none⟩) s.f7.length cap) := (blk_cell hx4 7).trans rfl
    have hR4 := HR.out.fr hf4 (fun k hk _ e => H.out.g (e ▸ hk))
    have HR4 := Aside0.mk hR4
    clear hR4
    go_region_held3 (fun w' => w'.cell? ⟨g,7,none⟩ = some (.slice (some ⟨gb,0,none⟩) s.f7.length cap)) (first | exact (World.cell?_setCell_far w5 ⟨gb,j * 3 + 2,none⟩ ⟨g,7,none⟩ _ hgg).trans (hf5.cellA c7) | (refine Fr.cellA (w := w4) ?_ c7 <;> (repeat (first | exact Fr.refl _ _ | exact hf5 | refine Fr.drew ?_))))
      (first | (go_at_call 174; refine (clone_calls (w := w4.drew) (HR4.out.now.below (below_drew (Below.refl _ _))) (by rw [List.length_drop]; omega)).mono ?_; rintro e w5 ⟨v5,rfl,hv5,hf5'⟩; have hf5 : Fr (fun _ => False) w4 w5 := (Fr.refl _ w4).drew.trans hf5' (fun _ h => h.elim); obtain ⟨A5,c5,rfl,hl5,hF5⟩ := hv5.bound; have hN5 := Kd.N_below hN4 (hf5.below (fun _ h => h.elim)); obtain ⟨hN6,old,hold⟩ := N_data hN5 hj hl5 hF5 (fun k hk => ⟨.inr (Nat.le_trans hs4 hk.1),fun e => by have h7 : w4.heap.size ≤ k := hk.1; omega⟩); obtain ⟨cells5,hb5⟩ := Kd.N_typed hN5 gb (by simp [Value.ownBlock]); have z5 := blk_frozen hb5 (j * 3 + 2)))
    rename_i hHeld
    clear hHeld
    rw [List.length_drop] at hN6
    generalize hw6 : World.setCell _ _ _ = w6
    rw [hw6] at hN6
    have hx6 : XB w6 g (setItems s s.f7) (.slice (some ⟨gb, 0, none⟩) s.f7.length cap) vd (.slice A q.length c) := by
      subst hw6
      exact blk_far (hf5.blk hx4 (fun h => h)) (p := ⟨gb, j * 3 + 2, none⟩) (fun e => hgg e.symm) _
    have hf6 : Fr (fun k => k = g) w w6 := by
      subst hw6
      exact (hf4.trans hf5 (fun _ h => h.elim)).setCell (p := ⟨gb, j * 3 + 2, none⟩) (.inr (Nat.le_trans hf2.size hgb)) _
    clear hw6 hf5 hf5' hv5 hF5 hN5 hN4 hold hb5 z5 c7 hx4 h4
    have c9 : w6.cell? ⟨g, 9, none⟩ = some (.slice A q.length c) := (blk_cell hx6 9).trans rfl
    go_wp2
    go_ret
    have hq6 : RdF kb w6 (Now w P) (.slice A q.length c) q := (H.out.q.fr hf6 (fun k hk _ e => H.out.g (e ▸ hk))).mono (fun k hk => .inl hk)
    refine ⟨⟨_, rfl, cut_head hq6 2 2 rfl (by omega)⟩, hf6, .slice (some ⟨gb, 0, none⟩) s.f7.length cap, vd, hx6, ?_, (H.out.rows hf6).2⟩
    show RdF k47 w6 (Now w P) _ (s.f7.set j (setData x (q.drop 2)))
    rw [EX.out]
    have hlen : (s.f7.set j (setData (rd_T47 s.f7 (j : Int)) (q.drop 2))).length = s.f7.length := List.length_set
    refine ⟨_, cap, by rw [hlen], by rw [hlen]; exact (Kd.N_reads' hN6).2.1, ?_⟩
    rw [hlen]
    exact Kd.F_mono (Kd.N_F hN6) (fun k hk => hk.imp_right (fun h => Nat.le_trans hf2.size h))
end
end Go.Proofs.Ph
