/- Part 10 of the proof of DiagHands, for every input: D18, D19, D20, R2, H0. No condition. -/
import Derived.Test.YthjnlggommennaaH8
import Derived.Test.YthjnlggommennaaH4
import Derived.Test.YthjnlggommennaaH5
import Derived.Test.YthjnlggommennaaH7
set_option linter.unusedVariables false
set_option linter.unusedSimpArgs false
set_option linter.unusedSectionVars false
/- diag: what any service does. No condition. -/
namespace Go.Proofs.Ph
open Go Go.RowKit Go.Proofs.YthjnlggommennaaW.PrintWords
section
variable {w : World} {g : Nat} {P : Nat → Prop} {s : S25} {vi vd vq : Value} {q : List Int}
set_option maxHeartbeats 1000000 in
theorem key_shut (h : MPre w g P s vi vd vq q) (h1 : ¬ s.f3 ≤ 2) : Calls Try.prog 148 #[.pointer (some ⟨g,0,none⟩)] w (MPost w g P vq (s,.inl 54)) := by
  have c3 : w.cell? ⟨g, 3, none⟩ = some (.int .i64 s.f3) := (blk_cell h.x 3).trans rfl
  have H := Aside0.mk h
  clear h
  go_enter Try.func148, Try.ntmps148
  go_wp2_with (go_at_call 123; (with_reducible refine (unless_no _ _).mono ?_); rintro e w' ⟨rfl, rfl⟩)
  exact ⟨rfl, H.out.refuse⟩
set_option maxHeartbeats 1000000 in
theorem key_plain (h : MPre w g P s vi vd vq q) (h1 : s.f3 ≤ 2) (h2 : (s.f0 != 1) = false) : Calls Try.prog 148 #[.pointer (some ⟨g,0,none⟩)] w (MPost w g P vq (s,.inl 34)) := by
  have c0 : w.cell? ⟨g, 0, none⟩ = some (.int .i64 s.f0) := (blk_cell h.x 0).trans rfl
  have c3 : w.cell? ⟨g, 3, none⟩ = some (.int .i64 s.f3) := (blk_cell h.x 3).trans rfl
  have H := Aside0.mk h
  clear h
  go_enter Try.func148, Try.ntmps148
  go_wp2_with (go_at_call 123; first | ((with_reducible refine (unless_yes _ _).mono ?_); rintro e w' ⟨rfl,rfl⟩) | ((with_reducible refine (unless_no _ _).mono ?_); rintro e w' ⟨rfl,rfl⟩))
  exact ⟨rfl, H.out.refuse⟩
set_option maxHeartbeats 1000000 in
theorem key_none (h : MPre w g P s vi vd vq q) (h1 : s.f3 ≤ 2) (h2 : (s.f0 != 1) = true) (h3 : ¬ 0 ≤ s.f2) : Calls Try.prog 148 #[.pointer (some ⟨g,0,none⟩)] w (MPost w g P vq (s,.inl 34)) := by
  have c0 : w.cell? ⟨g, 0, none⟩ = some (.int .i64 s.f0) := (blk_cell h.x 0).trans rfl
  have c2 : w.cell? ⟨g, 2, none⟩ = some (.int .i64 s.f2) := (blk_cell h.x 2).trans rfl
  have c3 : w.cell? ⟨g, 3, none⟩ = some (.int .i64 s.f3) := (blk_cell h.x 3).trans rfl
  have h3' : decide (0 ≤ s.f2) = false := decide_eq_false h3
  have H := Aside0.mk h
  clear h h3
  go_enter Try.func148, Try.ntmps148
  go_wp2_with (go_at_call 123; first | ((with_reducible refine (unless_yes _ _).mono ?_); rintro e w' ⟨rfl,rfl⟩) | ((with_reducible refine (unless_no _ _).mono ?_); rintro e w' ⟨rfl,rfl⟩))
  exact ⟨rfl, H.out.refuse⟩
theorem key_calls' (h : MPre w g P s vi vd vq q) (h0 : 0 ≤ s.f3) (hq : 1 ≤ q.length) : Calls Try.prog 148 #[.pointer (some ⟨g,0,none⟩)] w (MPost w g P vq (mKey s q)) := by
  unfold mKey
  by_cases h1 : s.f3 ≤ 2
  · rw [if_pos h1]
    by_cases h2 : (s.f0 != 1) = true
    · by_cases h3 : 0 ≤ s.f2
      · rw [if_pos ⟨h2, h3⟩]
        by_cases h4 : q.drop 1 = four (key s.f2 s.f6)
        · rw [if_pos h4]
          exact key_right h h0 h1 h2 h3 hq ⟨decide_eq_true h4⟩
        · rw [if_neg h4]
          exact key_wrong h h0 h1 h2 h3 hq ⟨decide_eq_false h4⟩ ⟨rfl⟩
      · rw [if_neg (fun h => h3 h.2)]
        exact key_none h h1 h2 h3
    · rw [if_neg (fun h => h2 h.1)]
      exact key_plain h h1 (by simpa using h2)
  · rw [if_neg h1]
    exact key_shut h h1
theorem write_calls (h : MPre w g P s vi vd vq q) (hq : 3 ≤ q.length) (hq2 : q.length ≤ 1000) (hB : Byt q) (hI : s.f7.length ≤ 1000) : Calls Try.prog 167 #[.pointer (some ⟨g,0,none⟩)] w (MPost w g P vq (mWrite s q)) := by
  unfold mWrite
  by_cases h1 : (s.f0 != 1) = true
  · rw [if_pos h1]
    by_cases h2 : s.f1 = true
    · rw [if_pos h2]
      by_cases h3 : placeOf 178 s q = -1
      · rw [if_pos h3]
        exact write_none h h1 h2 (by omega) hB h3
      · rw [if_neg h3]
        obtain ⟨j, hj, hk⟩ : ∃ j, j < s.f7.length ∧ placeOf 178 s q = (j : Int) := by
          rcases findAt_range (isIt 178 (num2 (q.getD 0 0) (q.getD 1 0))) s.f7 0 with h | ⟨j, hj, h, _⟩
          · exact absurd h h3
          · exact ⟨j, hj, by show findAt _ _ _ = _; rw [h]; simp⟩
        rw [hk]
        exact write_some h h1 h2 hq hq2 hB hI hk hj rfl
    · rw [if_neg h2]
      exact write_shut h h1 (by simpa using h2)
  · rw [if_neg h1]
    exact write_plain h (by simpa using h1)
/-- What a service does. -/
def mDo (F : Nat) (s : S25) (q : List Int) : Res := match F with
  | 147 => mSeed s
  | 148 => mKey s q
  | 164 => mHand s
  | 165 => mSession s (q.getD 0 0) q
  | 166 => mRead s q
  | 167 => mWrite s q
  | 168 => mForget s
  | 170 => mMask s q
  | _ => (s, .inr [])
/-- Bounds within which a server and a question lie. -/
structure Fine (s : S25) (q : List Int) : Prop where
  wrong : 0 ≤ s.f3
  items : s.f7.length ≤ 1000
  data : ∀ x ∈ s.f7, x.f2.length ≤ 1000
  dtc : s.f8.length ≤ 600
  len : q.length ≤ 1000
  byt : Byt q
/-- Is a question as long as its service asks? -/
def fitsLen (n : Int) (q : List Int) (l : Int) : Prop := l = (q.length : Int) ∨ (l = -1 ∧ (n ≠ 46 ∨ 2 < q.length))
theorem do_calls {n l : Int} {F : Nat} (hf : mFind n q = .inr (l, F)) (hl : fitsLen n q l) (hF : Fine s q) (h : MPre w g P s vi vd vq q) :
    Calls Try.prog F #[.pointer (some ⟨g, 0, none⟩)] w (MPost w g P vq (mDo F s q)) := by
  unfold fitsLen at hl
  unfold mFind served at hf
  repeat' split at hf
  all_goals first | (cases hf; done) | (injection hf with hf; injection hf with e1 e2; subst e1 e2)
  · exact seed_calls h
  · exact key_calls' h hF.wrong (by rcases hl with hl | hl <;> omega)
  · exact session_calls h (by rcases hl with hl | hl <;> omega) hF.byt
  · exact readItem_calls h (by rcases hl with hl | hl <;> omega) hF.len hF.byt hF.data
  · exact write_calls h (by rcases hl with hl | hl <;> omega) hF.len hF.byt hF.items
  · exact forget_calls h
  · exact mask_calls h (by rcases hl with hl | hl <;> omega) hF.byt (Nat.le_trans hF.dtc (by omega))
  · exact here_calls h
  · exact hand_calls h
  · exact hand_calls h
  · exact hand_calls h
theorem do_which {n l : Int} {F : Nat} (hf : mFind n q = .inr (l,F)) : F = 147 ∨ F = 148 ∨ F = 164 ∨ F = 165 ∨ F = 166 ∨ F = 167 ∨ F = 168 ∨ F = 170 ∨ F = 171 := by
  unfold mFind served at hf
  repeat' split at hf
  all_goals first | (cases hf; done) | (injection hf with hf; injection hf with e1 e2; subst e2; simp)
theorem do_enters {n l : Int} {F : Nat} (hf : mFind n q = .inr (l,F)) (args : Array Value) (W : World) : (callFunc F args).run Try.prog W = .ok (.enter F args) W := by
  rcases do_which hf with rfl | rfl | rfl | rfl | rfl | rfl | rfl | rfl | rfl <;> simp [go_sem]
end
end Go.Proofs.Ph
/- diag: a question is answered, whatever it is. No condition. -/
namespace Go.Proofs.Ph
open Go Go.RowKit Go.Proofs.YthjnlggommennaaW.PrintWords
def fitsB (n : Int) (q : List Int) (l : Int) : Bool := l == (q.length : Int) || (l == -1 && (n != 46 || decide ((2 : Int) < (q.length : Int))))
def mAnswer (n : Int) (s : S25) (q : List Int) : S25 × List Int := match mFind n q with
  | .inl why => (s, [127, n % 256, why % 256])
  | .inr (l, F) => if fitsB n q l = true then match mDo F s q with
    | (s', .inl why) => (s', [127, n % 256, why % 256])
    | (s', .inr b) => (s', (n + 64) % 256 :: b)
  else (s, [127, n % 256, 19 % 256])
theorem do_len {F : Nat} {s s' : S25} {q b : List Int} (hF : Fine s q) (h : mDo F s q = (s', .inr b)) : b.length ≤ 2000 := by
  have hq := hF.len
  have hd := hF.dtc
  unfold mDo at h
  split at h
  · unfold mSeed at h
    repeat' split at h
    all_goals first | (cases h; done) | (injection h with e1 e2; injection e2 with e2; subst e2; simp [four])
  · unfold mKey at h
    repeat' split at h
    all_goals first | (cases h; done) | (injection h with e1 e2; injection e2 with e2; subst e2; simp)
  · unfold mHand at h
    repeat' split at h
    all_goals first | (cases h; done) | (injection h with e1 e2; injection e2 with e2; subst e2; simp)
  · unfold mSession at h
    repeat' split at h
    all_goals first | (cases h; done) | (injection h with e1 e2; injection e2 with e2; subst e2; omega)
  · unfold mRead at h
    split at h
    · cases h
    · injection h with e1 e2
      injection e2 with e2
      subst e2
      rw [List.length_append]
      have : (rd_T47 s.f7 (placeOf 177 s q)).f2.length ≤ 1000 := by
        unfold rd_T47
        rw [List.getD_eq_getElem?_getD]
        rcases Nat.lt_or_ge (placeOf 177 s q).toNat s.f7.length with h | h
        · rw [List.getElem?_eq_getElem h]; exact hF.data _ (List.getElem_mem h)
        · rw [List.getElem?_eq_none h]; simp [z47]
      omega
  · unfold mWrite at h
    repeat' split at h
    all_goals first | (cases h; done) | (injection h with e1 e2; injection e2 with e2; subst e2; rw [List.length_take]; omega)
  · unfold mForget at h
    repeat' split at h
    all_goals first | (cases h; done) | (injection h with e1 e2; injection e2 with e2; subst e2; simp)
  · unfold mMask at h
    injection h with e1 e2
    injection e2 with e2
    subst e2
    have := packed_len (q.getD 0 0) s.f8
    rw [List.length_cons]
    omega
  · injection h with e1 e2
    injection e2 with e2
    subst e2
    simp
theorem answer_calls {w : World} {g : Nat} {P : Nat → Prop} {s : S25} {vi vd vq : Value} {q : List Int} {n : Int} (hn : 0 ≤ n ∧ n ≤ 255) (h : MPre w g P s vi vd vq q) (hF : Fine s q) :
    Calls Try.prog 82 #[.pointer (some ⟨g, 0, none⟩), .int .u8 n] w (MPost w g P vq ((mAnswer n s q).1, .inr (mAnswer n s q).2)) := by
  unfold mAnswer
  cases hf : mFind n q with
  | inl why => exact answer_unknown hn h hF.byt hf
  | inr lF =>
    obtain ⟨l, F⟩ := lF
    simp only []
    by_cases hfit : fitsB n q l = true
    · rw [if_pos hfit]
      have hl : fitsLen n q l := by
        unfold fitsB at hfit
        unfold fitsLen
        simp at hfit
        rcases hfit with h1 | ⟨h1, h2⟩
        · exact .inl h1
        · exact .inr ⟨h1, by rcases h2 with h2 | h2 <;> omega⟩
      have HDO : ∀ W P,MPre W g P s vi vd vq q → Calls Try.prog F #[.pointer (some ⟨g,0,none⟩)] W (MPost W g P vq (mDo F s q)) := fun W P h => do_calls hf hl hF h
      cases hr : mDo F s q with
      | mk s' r =>
        rw [hr] at HDO
        cases r with
        | inl why =>
          simp only []
          by_cases h1 : (l == (q.length : Int)) = true
          · exact answer_no1 hn h hF.byt hf h1 (do_enters hf) HDO
          · have h1' : (l == (q.length : Int)) = false := by simpa using h1
            have h2 : (l == -1) = true := by unfold fitsB at hfit; rw [h1'] at hfit; simp at hfit; simpa using hfit.1
            by_cases h3 : (n != 46) = true
            · exact answer_no2 hn h hF.byt hf h1' h2 h3 (do_enters hf) HDO
            · have h3' : (n != 46) = false := by simpa using h3
              exact answer_no3 hn h hF.byt hf h1' h2 h3' (by unfold fitsB at hfit; rw [h1',h3'] at hfit; simp at hfit; simpa using hfit.2) (do_enters hf) HDO
        | inr b =>
          simp only []
          have hb := do_len hF hr
          by_cases h1 : (l == (q.length : Int)) = true
          · exact answer_yes1 hn h hF.byt hf h1 (do_enters hf) HDO hb
          · have h1' : (l == (q.length : Int)) = false := by simpa using h1
            have h2 : (l == -1) = true := by unfold fitsB at hfit; rw [h1'] at hfit; simp at hfit; simpa using hfit.1
            by_cases h3 : (n != 46) = true
            · exact answer_yes2 hn h hF.byt hf h1' h2 h3 (do_enters hf) HDO hb
            · have h3' : (n != 46) = false := by simpa using h3
              exact answer_yes3 hn h hF.byt hf h1' h2 h3' (by unfold fitsB at hfit; rw [h1',h3'] at hfit; simp at hfit; simpa using hfit.2) (do_enters hf) HDO hb
    · rw [if_neg hfit]
      have hfit' : fitsB n q l = false := by simpa using hfit
      unfold fitsB at hfit'
      have h1 : (l == (q.length : Int)) = false := by
        cases h1 : (l == (q.length : Int)) with
        | false => rfl
        | true => rw [h1] at hfit'; cases hfit'
      by_cases h2 : (l == -1) = true
      · rw [h1, h2] at hfit'
        have h3 : (n != 46) = false := by
          cases h3 : (n != 46) with
          | false => rfl
          | true => rw [h3] at hfit'; cases hfit'
        rw [h3] at hfit'
        exact answer_long2 hn h hF.byt hf h1 h2 h3 (by simpa using hfit')
      · exact answer_long1 hn h hF.byt hf h1 (by simpa using h2)
end Go.Proofs.Ph
/- diag: Ask. No condition. -/
namespace Go.Proofs.Ph
open Go Go.RowKit Go.Proofs.YthjnlggommennaaW.PrintWords
attribute [local go_sem ↓] Go.wp_at_zero Go.wp_at_succ
/-- A server's value. -/
def srv (s : S25) (vi vd : Value) : Value := .agg #[.int .i64 s.f0,.bool s.f1,.int .i64 s.f2,.int .i64 s.f3,.int .i64 s.f4,.int .i64 s.f5,.int .i64 s.f6,vi,vd]
/-- It reads as s. -/
def RdS (w : World) (ok : Nat → Prop) (v : Value) (s : S25) : Prop := ∃ vi vd, v = srv s vi vd ∧ RdF k47 w ok vi s.f7 ∧ RdF k161 w ok vd s.f8
def hands (n : Int) : Bool := n == 52 || n == 54 || n == 55
def quiet0 (s : S25) : S25 := { s with f4 := 0 }
def mAsk (s : S25) (q : List Int) : S25 × List Int × Bool :=
  if q.length = 0 then (s, [], false)
  else if ((mAnswer (q.getD 0 0) (quiet0 s) (q.drop 1)).2.getD 0 0 != 127 && hands (q.getD 0 0)) = true then ((mAnswer (q.getD 0 0) (quiet0 s) (q.drop 1)).1,[],true)
  else ((mAnswer (q.getD 0 0) (quiet0 s) (q.drop 1)).1, (mAnswer (q.getD 0 0) (quiet0 s) (q.drop 1)).2, false)
def AskPost (w : World) (P : Nat → Prop) (r : S25 × List Int × Bool) (e : Ending) (w' : World) : Prop :=
  ∃ vs vb, e = .returned (.tuple #[vs, vb, .bool r.2.2]) ∧ RdS w' (Now w P) vs r.1 ∧ RdF kb w' (Now w P) vb r.2.1 ∧ Fr (fun _ => False) w w'
theorem put9 {w : World} {b t : Nat} {a0 v0 a1 v1 a2 v2 a3 v3 a4 v4 a5 v5 a6 v6 a7 v7 a8 v8 : Value} (h : w.heap[b]? = some (.cells #[a0,a1,a2,a3,a4,a5,a6,a7,a8] t (0,0))) : (((((((((w.setCell ⟨b,0,none⟩ v0).setCell ⟨b,1,none⟩ v1).setCell ⟨b,2,none⟩ v2).setCell ⟨b,3,none⟩ v3).setCell ⟨b,4,none⟩ v4).setCell ⟨b,5,none⟩ v5).setCell ⟨b,6,none⟩ v6).setCell ⟨b,7,none⟩ v7).setCell ⟨b,8,none⟩ v8).heap[b]? = some (.cells #[v0,v1,v2,v3,v4,v5,v6,v7,v8] t (0,0)) := by
  have h := blk_set h 0 v0
  simp only [List.setIfInBounds_toArray, List.set_cons_zero, List.set_cons_succ] at h
  have h := blk_set h 1 v1
  simp only [List.setIfInBounds_toArray, List.set_cons_zero, List.set_cons_succ] at h
  have h := blk_set h 2 v2
  simp only [List.setIfInBounds_toArray, List.set_cons_zero, List.set_cons_succ] at h
  have h := blk_set h 3 v3
  simp only [List.setIfInBounds_toArray, List.set_cons_zero, List.set_cons_succ] at h
  have h := blk_set h 4 v4
  simp only [List.setIfInBounds_toArray, List.set_cons_zero, List.set_cons_succ] at h
  have h := blk_set h 5 v5
  simp only [List.setIfInBounds_toArray, List.set_cons_zero, List.set_cons_succ] at h
  have h := blk_set h 6 v6
  simp only [List.setIfInBounds_toArray, List.set_cons_zero, List.set_cons_succ] at h
  have h := blk_set h 7 v7
  simp only [List.setIfInBounds_toArray, List.set_cons_zero, List.set_cons_succ] at h
  have h := blk_set h 8 v8
  simp only [List.setIfInBounds_toArray, List.set_cons_zero, List.set_cons_succ] at h
  exact h
theorem mAnswer_pos (n : Int) (s : S25) (q : List Int) : 0 < (mAnswer n s q).2.length := by
  unfold mAnswer
  split
  · simp
  · split
    · split <;> simp
    · simp
section
variable {w : World} {P : Nat → Prop} {s : S25} {vi vd vq : Value} {q : List Int}
set_option maxRecDepth 100000 in
set_option maxHeartbeats 2000000 in
theorem ask_none (hi : RdF k47 w P vi s.f7) (hd : RdF k161 w P vd s.f8) (hq : RdF kb w P vq q) (h0 : q.length = 0) : Calls Try.prog 41 #[srv s vi vd,vq] w (AskPost w P (s,[],false)) := by
  obtain ⟨A, c, ev, -, -⟩ := hq
  subst ev
  have HI := Aside0.mk hi
  have HD := Aside0.mk hd
  obtain ⟨Ai, ci, ei, -, -⟩ := hi
  subst ei
  obtain ⟨Ad, cd, ed, -, -⟩ := hd
  subst ed
  unfold srv
  rw [h0]
  have HZ := Aside0.mk h0
  clear h0
  go_enter Try.func41, Try.ntmps41
  go_wp2
  refine bodyPost_ret (results_ctt rfl _ _ (w.heap.size + 1) 25 _ (0,0) _ rfl (blk_new' (by show _ = (Array.push _ _).size; rw [Array.size_push])) Try.underlying25 rfl (by kernel_rfl)) rfl ?_
  have hf : ∀ o1 o2, Fr (fun _ => False) w ((w.alloc o1).alloc o2) := fun o1 o2 => ((Fr.refl _ w).alloc o1).alloc o2
  exact ⟨_,_,rfl,⟨_,_,rfl,(HI.out.step (fun k hk hlt => (hf _ _).block k hlt (fun h => h))).mono (fun k hk => .inl hk),(HD.out.step (fun k hk hlt => (hf _ _).block k hlt (fun h => h))).mono (fun k hk => .inl hk)⟩,RdF.nil _ _ _,hf _ _⟩
set_option maxRecDepth 100000 in
set_option maxHeartbeats 2000000 in
theorem ask_some (hi : RdF k47 w P vi s.f7) (hd : RdF k161 w P vd s.f8) (hq : RdF kb w P vq q) (h0 : 0 < q.length) (hF : Fine s q) : Calls Try.prog 41 #[srv s vi vd,vq] w (AskPost w P (mAsk s q)) := by
  obtain ⟨A, c, ev, -, -⟩ := hq.now
  subst ev
  have HI := Aside0.mk hi
  have HD := Aside0.mk hd
  have HQ := Aside0.mk hq
  obtain ⟨Ai, ci, ei, -, -⟩ := hi
  subst ei
  obtain ⟨Ad, cd, ed, -, -⟩ := hd
  subst ed
  obtain ⟨A', hcut, hR⟩ := cut_from HQ.out 1 1 rfl h0
  have HR := Aside0.mk hR
  obtain ⟨ad, ea, hb⟩ := rd_at HQ.out.now 0 h0
  subst ea
  have hb' : w.cell? ad = some (.int .u8 (q.getD 0 0)) := by have := hb; rwa [show ad.add 0 = ad by simp [Addr.add]] at this
  clear hb
  obtain ⟨n, en⟩ : ∃ n, n = q.getD 0 0 := ⟨_, rfl⟩
  have hn := hF.byt.at 0
  unfold mAsk
  rw [if_neg (by omega)]
  rw [← en] at hb' hn ⊢
  have hq' : (0 : Int) < (q.length : Int) := by omega
  have hne : ((q.length : Int) == 0) = false := beq_eq_false_iff_ne.mpr (by omega)
  have HN := Aside0.mk hn
  have HFi := Aside0.mk hF
  obtain ⟨b, eb⟩ : ∃ b, b = ((mAnswer n (quiet0 s) (q.drop 1)).2.getD 0 0 != 127 && hands n) := ⟨_, rfl⟩
  rw [← eb]
  obtain ⟨r,er⟩ : ∃ r,r = (if b = true then ((mAnswer n (quiet0 s) (q.drop 1)).1,[],true) else ((mAnswer n (quiet0 s) (q.drop 1)).1,(mAnswer n (quiet0 s) (q.drop 1)).2,false)) := ⟨_,rfl⟩
  rw [← er]
  have ER := Aside0.mk er
  have EB := Aside0.mk eb
  unfold srv
  clear hR hq hn hF en er eb
  go_enter Try.func41, Try.ntmps41
  go_wp2
  generalize hw2 : World.alloc _ _ = w2
  have hf2 : Fr (fun _ => False) w w2 := by subst hw2; exact ((Fr.refl _ w).alloc _).alloc _
  have hb1 : w2.heap[w.heap.size]? = some (.cells #[.int .i64 s.f0,.bool s.f1,.int .i64 s.f2,.int .i64 s.f3,.int .i64 0,.int .i64 s.f5,.int .i64 s.f6,.slice Ai s.f7.length ci,.slice Ad s.f8.length cd] 25 (0,0)) := by subst hw2; exact blk_alloc (blk_new w _) _
  have hb2 : w2.heap[w.heap.size + 1]? = some (.cells #[.int .i64 0,.bool false,.int .i64 0,.int .i64 0,.int .i64 0,.int .i64 0,.int .i64 0,.slice none 0 0,.slice none 0 0] 25 (0,0)) := by subst hw2; exact blk_new' (by show _ = (Array.push _ _).size; rw [Array.size_push])
  have d0 : w2.cell? ⟨w.heap.size, 0, none⟩ = some (.int .i64 s.f0) := (blk_cell hb1 0).trans rfl
  have d1 : w2.cell? ⟨w.heap.size, 1, none⟩ = some (.bool s.f1) := (blk_cell hb1 1).trans rfl
  have d2 : w2.cell? ⟨w.heap.size, 2, none⟩ = some (.int .i64 s.f2) := (blk_cell hb1 2).trans rfl
  have d3 : w2.cell? ⟨w.heap.size, 3, none⟩ = some (.int .i64 s.f3) := (blk_cell hb1 3).trans rfl
  have d4 : w2.cell? ⟨w.heap.size, 4, none⟩ = some (.int .i64 0) := (blk_cell hb1 4).trans rfl
  have d5 : w2.cell? ⟨w.heap.size, 5, none⟩ = some (.int .i64 s.f5) := (blk_cell hb1 5).trans rfl
  have d6 : w2.cell? ⟨w.heap.size, 6, none⟩ = some (.int .i64 s.f6) := (blk_cell hb1 6).trans rfl
  have d7 : w2.cell? ⟨w.heap.size, 7, none⟩ = some (.slice Ai s.f7.length ci) := (blk_cell hb1 7).trans rfl
  have d8 : w2.cell? ⟨w.heap.size, 8, none⟩ = some (.slice Ad s.f8.length cd) := (blk_cell hb1 8).trans rfl
  have HB2 := Aside0.mk hb2
  have hlt2 := blk_lt hb2
  clear hw2 hb1 hb2
  go_region_held3 (fun w' => w'.cell? ⟨w.heap.size,0,none⟩ = some (.int .i64 s.f0) ∧ w'.cell? ⟨w.heap.size,1,none⟩ = some (.bool s.f1) ∧ w'.cell? ⟨w.heap.size,2,none⟩ = some (.int .i64 s.f2) ∧ w'.cell? ⟨w.heap.size,3,none⟩ = some (.int .i64 s.f3) ∧ w'.cell? ⟨w.heap.size,4,none⟩ = some (.int .i64 0) ∧ w'.cell? ⟨w.heap.size,5,none⟩ = some (.int .i64 s.f5) ∧ w'.cell? ⟨w.heap.size,6,none⟩ = some (.int .i64 s.f6) ∧ w'.cell? ⟨w.heap.size,7,none⟩ = some (.slice Ai s.f7.length ci) ∧ w'.cell? ⟨w.heap.size,8,none⟩ = some (.slice Ad s.f8.length cd)) (refine ⟨Fr.cellA (w := w2) ?_ d0,Fr.cellA (w := w2) ?_ d1,Fr.cellA (w := w2) ?_ d2,Fr.cellA (w := w2) ?_ d3,Fr.cellA (w := w2) ?_ d4,Fr.cellA (w := w2) ?_ d5,Fr.cellA (w := w2) ?_ d6,Fr.cellA (w := w2) ?_ d7,Fr.cellA (w := w2) ?_ d8⟩ <;> (repeat (first | exact Fr.refl _ _ | refine Fr.alloc ?_ _ | refine Fr.drew ?_))) (fail)
  rename_i hHeld
  clear hHeld d0 d1 d2 d3 d4 d5 d6 d7 d8
  generalize hw3 : World.drew _ = w3
  have hf3 : Fr (fun _ => False) w2 w3 := by subst hw3; exact ((Fr.refl _ w2).alloc _).drew
  have hx3 : XB w3 w2.heap.size (quiet0 s) (.slice Ai s.f7.length ci) (.slice Ad s.f8.length cd) (.slice A' (q.length - 1) (c - 1)) := by subst hw3; exact blk_new w2 _
  have hF3 : Fr (fun _ => False) w w3 := hf2.trans hf3 (fun _ h => .inl h)
  have hPre : MPre w3 w2.heap.size (fun k => P k ∧ k < w.heap.size) (quiet0 s) (.slice Ai s.f7.length ci) (.slice Ad s.f8.length cd) (.slice A' (q.length - 1) (c - 1)) (q.drop 1) :=
    ⟨hx3,HI.out.bound.step (fun k hk hlt => hF3.block k hlt (fun h => h)),HD.out.bound.step (fun k hk hlt => hF3.block k hlt (fun h => h)),HR.out.bound.step (fun k hk hlt => hF3.block k hlt (fun h => h)),fun h => by have := h.2; omega⟩
  have hF1 : Fine (quiet0 s) (q.drop 1) := ⟨HFi.out.wrong,HFi.out.items,HFi.out.data,HFi.out.dtc,by rw [List.length_drop]; have := HFi.out.len; omega,fun x hx => HFi.out.byt x (List.drop_subset 1 q hx)⟩
  have AC := Aside0.mk (answer_calls HN.out hPre hF1)
  have hpos := mAnswer_pos n (quiet0 s) (q.drop 1)
  obtain ⟨s4, es4⟩ : ∃ s4, s4 = (mAnswer n (quiet0 s) (q.drop 1)).1 := ⟨_, rfl⟩
  obtain ⟨l4, el4⟩ : ∃ l4, l4 = (mAnswer n (quiet0 s) (q.drop 1)).2 := ⟨_, rfl⟩
  rw [← es4, ← el4] at AC
  rw [← el4] at hpos
  rw [← es4, ← el4] at ER
  rw [← el4] at EB
  have hlt3 := blk_lt hx3
  have hadb := World.block_lt_of_cell? w _ hb'
  have hs2 := hf2.size
  replace hb' := hF3.cellA hb'
  obtain ⟨m, em⟩ : ∃ m, m = l4.getD 0 0 := ⟨_, rfl⟩
  rw [← em] at EB
  have EM := Aside0.mk em
  have hcase : ((m != 127) = false ∧ Aside0 (b = false)) ∨ ((m != 127) = true ∧ (n == 52) = true ∧ Aside0 (b = true)) ∨ ((m != 127) = true ∧ (n == 52) = false ∧ (n == 54) = true ∧ Aside0 (b = true)) ∨ ((m != 127) = true ∧ (n == 52) = false ∧ (n == 54) = false ∧ (n == 55) = true ∧ Aside0 (b = true)) ∨ ((m != 127) = true ∧ (n == 52) = false ∧ (n == 54) = false ∧ (n == 55) = false ∧ Aside0 (b = false)) := by
    have hb := EB.out
    unfold hands at hb
    cases h1 : (m != 127) <;> cases h2 : (n == 52) <;> cases h3 : (n == 54) <;> cases h4 : (n == 55) <;> rw [h1,h2,h3,h4] at hb <;> simp [hb] <;> exact ⟨trivial⟩
  have hpi : (0 : Int) < (l4.length : Int) := by omega
  have HPOS := Aside0.mk hpos
  clear hw3 es4 el4 hPre hF1 hx3 em hpos
  rcases hcase with ⟨h1, hbv⟩ | ⟨h1, h2, hbv⟩ | ⟨h1, h2, h3, hbv⟩ | ⟨h1, h2, h3, h4, hbv⟩ | ⟨h1, h2, h3, h4, hbv⟩
  all_goals
    go_wp2_with (go_at_call 82; refine AC.out.mono ?_; rintro e w4 ⟨⟨v4,rfl,hv4⟩,hf4,vi4,vd4,hx4,hi4,hd4⟩; obtain ⟨A4,c4,ev4, -, -⟩ := hv4.now; subst ev4; obtain ⟨ad4,ea4,hc4⟩ := rd_at hv4.now 0 HPOS.out; subst ea4; (rw [show ad4.add 0 = ad4 by simp [Addr.add], ← EM.out] at hc4); have HI4 := Aside0.mk hi4; have HD4 := Aside0.mk hd4; obtain ⟨Ai4,ci4,ei4, -, -⟩ := hi4; subst ei4; obtain ⟨Ad4,cd4,ed4, -, -⟩ := hd4; subst ed4; have hb24 := hf4.blk (hf3.blk HB2.out (fun h => h)) (show ¬ _ = _ by omega); have hb'4 := (World.cell?_of_block (w := w3) (hf4.block ad.block (World.block_lt_of_cell? _ _ hb') (show ¬ ad.block = w2.heap.size by omega))).trans hb'; have x0 : w4.cell? ⟨w2.heap.size,0,none⟩ = some (.int .i64 s4.f0) := (blk_cell hx4 0).trans rfl; have x1 : w4.cell? ⟨w2.heap.size,1,none⟩ = some (.bool s4.f1) := (blk_cell hx4 1).trans rfl; have x2 : w4.cell? ⟨w2.heap.size,2,none⟩ = some (.int .i64 s4.f2) := (blk_cell hx4 2).trans rfl; have x3 : w4.cell? ⟨w2.heap.size,3,none⟩ = some (.int .i64 s4.f3) := (blk_cell hx4 3).trans rfl; have x4 : w4.cell? ⟨w2.heap.size,4,none⟩ = some (.int .i64 s4.f4) := (blk_cell hx4 4).trans rfl; have x5 : w4.cell? ⟨w2.heap.size,5,none⟩ = some (.int .i64 s4.f5) := (blk_cell hx4 5).trans rfl; have x6 : w4.cell? ⟨w2.heap.size,6,none⟩ = some (.int .i64 s4.f6) := (blk_cell hx4 6).trans rfl; have x7 : w4.cell? ⟨w2.heap.size,7,none⟩ = some (.slice Ai4 s4.f7.length ci4) := (blk_cell hx4 7).trans rfl; have x8 : w4.cell? ⟨w2.heap.size,8,none⟩ = some (.slice Ad4 s4.f8.length cd4) := (blk_cell hx4 8).trans rfl; have y0 : w4.cell? ⟨w.heap.size + 1,0,none⟩ = some (.int .i64 0) := (blk_cell hb24 0).trans rfl; have z0 := blk_frozen hb24 0; have y1 : w4.cell? ⟨w.heap.size + 1,1,none⟩ = some (.bool false) := (blk_cell hb24 1).trans rfl; have z1 := blk_frozen hb24 1; have y2 : w4.cell? ⟨w.heap.size + 1,2,none⟩ = some (.int .i64 0) := (blk_cell hb24 2).trans rfl; have z2 := blk_frozen hb24 2; have y3 : w4.cell? ⟨w.heap.size + 1,3,none⟩ = some (.int .i64 0) := (blk_cell hb24 3).trans rfl; have z3 := blk_frozen hb24 3; have y4 : w4.cell? ⟨w.heap.size + 1,4,none⟩ = some (.int .i64 0) := (blk_cell hb24 4).trans rfl; have z4 := blk_frozen hb24 4; have y5 : w4.cell? ⟨w.heap.size + 1,5,none⟩ = some (.int .i64 0) := (blk_cell hb24 5).trans rfl; have z5 := blk_frozen hb24 5; have y6 : w4.cell? ⟨w.heap.size + 1,6,none⟩ = some (.int .i64 0) := (blk_cell hb24 6).trans rfl; have z6 := blk_frozen hb24 6; have y7 : w4.cell? ⟨w.heap.size + 1,7,none⟩ = some (.slice none 0 0) := (blk_cell hb24 7).trans rfl; have z7 := blk_frozen hb24 7; have y8 : w4.cell? ⟨w.heap.size + 1,8,none⟩ = some (.slice none 0 0) := (blk_cell hb24 8).trans rfl; have z8 := blk_frozen hb24 8;  have HV4 := Aside0.mk hv4)
    generalize hW : World.setCell _ _ _ = W
    have hfW : Fr (fun i => i = w.heap.size + 1) w4 W := by subst hW; exact ((((((((((Fr.refl (fun k => k = w.heap.size + 1) w4).setG 0 _).setG 1 _).setG 2 _).setG 3 _).setG 4 _).setG 5 _).setG 6 _).setG 7 _).setG 8 _)
    have hbW : W.heap[w.heap.size + 1]? = some (.cells #[.int .i64 s4.f0,.bool s4.f1,.int .i64 s4.f2,.int .i64 s4.f3,.int .i64 s4.f4,.int .i64 s4.f5,.int .i64 s4.f6,.slice Ai4 s4.f7.length ci4,.slice Ad4 s4.f8.length cd4] 25 (0,0)) := by subst hW; exact put9 hb24
    have hnW : ∀ k,Now w3 (fun k => P k ∧ k < w.heap.size) k → k < w4.heap.size → ¬ k = w.heap.size + 1 := fun k hk _ => by rcases hk with hk | hk <;> omega
    have hs3 := hF3.size
    have hs4 := hf4.size
    have hFW : Fr (fun _ => False) w W := Fr.trans (S := fun _ => False) (Fr.trans (S := fun _ => False) hF3 hf4 (fun i hi => .inr (hi ▸ hs2))) hfW (fun i hi => .inr (by omega))
    have hNN : ∀ k,Now w3 (fun k => P k ∧ k < w.heap.size) k → Now w P k := fun k hk => by rcases hk with hk | hk; exact .inl hk.1; exact .inr (by omega)
    refine bodyPost_ret (results_ctt rfl _ _ (w.heap.size + 1) 25 _ (0, 0) _ rfl hbW Try.underlying25 rfl (by kernel_rfl)) rfl ?_
    rw [ER.out, hbv.out]
    first | exact ⟨_,_,rfl,⟨_,_,rfl,(HI4.out.fr hfW hnW).mono hNN,(HD4.out.fr hfW hnW).mono hNN⟩,(HV4.out.fr hfW hnW).mono hNN,hFW⟩ | exact ⟨_,_,rfl,⟨_,_,rfl,(HI4.out.fr hfW hnW).mono hNN,(HD4.out.fr hfW hnW).mono hNN⟩,RdF.nil _ _ _,hFW⟩
theorem ask_calls {vs : Value} (hs : RdS w P vs s) (hq : RdF kb w P vq q) (hF : Fine s q) : Calls Try.prog 41 #[vs,vq] w (AskPost w P (mAsk s q)) := by
  obtain ⟨vi, vd, rfl, hi, hd⟩ := hs
  rcases Nat.eq_zero_or_pos q.length with h0 | h0
  · have := ask_none hi hd hq h0
    unfold mAsk
    rw [if_pos h0]
    exact this
  · exact ask_some hi hd hq h0 hF
end
end Go.Proofs.Ph
/- Fresh servers; ticks. No condition. -/
namespace Go.Proofs.Ph
open Go Go.RowKit Go.Proofs.YthjnlggommennaaW.PrintWords
def low (n : Int) : Int := bits BinOp.and IntKind.i64 n 4294967295
def mNew (secret draw : Int) (l : List S47) : S25 := ⟨1, false, -1, 0, 0, low draw, low secret, l, []⟩
/-- What a call that makes a server leaves. -/
def RetS (w : World) (P : Nat → Prop) (s : S25) (e : Ending) (w' : World) : Prop := ∃ v,e = .returned v ∧ RdS w' (Now w P) v s ∧ Fr (fun _ => False) w w'
/-- The same, of no new rows. -/
def RetP (w : World) (P : Nat → Prop) (s : S25) (e : Ending) (w' : World) : Prop := ∃ v, e = .returned v ∧ RdS w' P v s ∧ Fr (fun _ => False) w w'
section
variable {w : World} {P : Nat → Prop}
set_option maxHeartbeats 1000000 in
theorem new_calls (a b : Int) {v : Value} {l : List S47} (hv : RdF k47 w P v l) : Calls Try.prog 35 #[.int .i64 a,.int .i64 b,v] w (RetS w P (mNew a b l)) := by
  have HV := Aside0.mk hv
  obtain ⟨A, c, ev, -, -⟩ := hv
  subst ev
  go_enter Try.func35, Try.ntmps35
  go_wp2
  generalize hW : World.alloc _ _ = W
  have hf : Fr (fun _ => False) w W := by subst hW; exact (Fr.refl _ w).alloc _
  have hb : W.heap[w.heap.size]? = some (.cells #[.int .i64 1,.bool false,.int .i64 (-1),.int .i64 0,.int .i64 0,.int .i64 (low b),.int .i64 (low a),.slice A l.length c,.slice none 0 0] 25 (0,0)) := by subst hW; exact blk_new w _
  refine bodyPost_ret (results_cell_row rfl _ _ w.heap.size 25 _ (0, 0) _ rfl hb Try.underlying25 rfl (by kernel_rfl)) rfl ?_
  exact ⟨_, rfl, ⟨_, _, rfl, (HV.out.step (fun k hk hlt => hf.block k hlt (fun h => h))).mono (fun k hk => .inl hk), RdF.nil _ _ _⟩, hf⟩
/-- One tick. -/
def tickA (s : S25) : S25 := { s with f4 := if s.f4 < 51 then s.f4 + 1 else 51 }
def tickB (s : S25) : S25 := if 50 < s.f4 then { s with f0 := 1, f1 := false, f2 := -1 } else s
def tickC (s : S25) : S25 := if 2 < s.f3 then { s with f3 := if s.f3 = 3 then 0 else s.f3 - 1 } else s
def tick (s : S25) : S25 := tickC (tickB (tickA s))
theorem tick_range {s : S25} (h0 : 0 ≤ s.f4 ∧ s.f4 ≤ 51) (h1 : 0 ≤ s.f3 ∧ s.f3 ≤ 12) : (0 ≤ (tick s).f4 ∧ (tick s).f4 ≤ 51) ∧ 0 ≤ (tick s).f3 ∧ (tick s).f3 ≤ 12 := by
  unfold tick tickC tickB tickA
  simp only []
  repeat' split
  all_goals (try dsimp only at *)
  all_goals omega
end
end Go.Proofs.Ph
/- Words for laws' walks. No condition. -/
namespace Go.Proofs.Ph
open Go Go.RowKit Go.Proofs.YthjnlggommennaaW.PrintWords
abbrev T0 : Nat → Prop := fun _ => True
theorem RdF.go {α : Type} {d : Kd α} {w w1 : World} {v : Value} {xs : List α} (h : RdF d w T0 v xs) (hf : Fr (fun _ => False) w w1) : RdF d w1 T0 v xs := h.fr hf (fun _ _ _ h => h)
theorem RdF.top {α : Type} {d : Kd α} {w : World} {ok : Nat → Prop} {v : Value} {xs : List α} (h : RdF d w ok v xs) : RdF d w T0 v xs := h.mono (fun _ _ => trivial)
theorem RdS.go {w w1 : World} {v : Value} {s : S25} (h : RdS w T0 v s) (hf : Fr (fun _ => False) w w1) : RdS w1 T0 v s := by
  obtain ⟨vi, vd, e, hi, hd⟩ := h
  exact ⟨vi, vd, e, hi.go hf, hd.go hf⟩
theorem RdS.top {w : World} {ok : Nat → Prop} {v : Value} {s : S25} (h : RdS w ok v s) : RdS w T0 v s := by
  obtain ⟨vi, vd, e, hi, hd⟩ := h
  exact ⟨vi, vd, e, hi.top, hd.top⟩
theorem Fr.go {w w1 w2 : World} (h : Fr (fun _ => False) w w1) (k : Fr (fun _ => False) w1 w2) : Fr (fun _ => False) w w2 := h.trans k (fun _ h => .inl h)
theorem lit_rd {w : World} {g n : Nat} {cs : Array Value} {xs : List Int} (h : w.heap[g]? = some (.cells cs 5 (0,0))) (hc : cs.toList = nums .u8 xs) (hn : xs.length = n) (hm : n ≤ 9223372036854775807) : RdF kb w T0 (.slice (some ⟨g,0,none⟩) n n) xs :=
  (own_rdF (own_lit' g h hc (Nat.le_refl _) hn hm)).top
/-- A row of one item. -/
theorem items1 {w : World} {g1 g2 n : Nat} {id : Int} {b : Bool} {l : List Int} {cs : Array Value} (h1 : w.heap[g1]? = some (.cells cs 5 (0,0))) (hc : cs.toList = nums .u8 l) (hn : l.length = n) (hm : n ≤ 9223372036854775807)
    (h2 : w.heap[g2]? = some (.cells #[.int .i64 id,.bool b,.slice (some ⟨g1,0,none⟩) n n] 47 (0,0))) : RdF k47 w T0 (.slice (some ⟨g2,0,none⟩) 1 1) [⟨id,b,l⟩] := by
  subst hn
  refine ⟨some ⟨g2, 0, none⟩, 1, rfl, Nat.le_refl _, fun W' hW => ?_⟩
  have k1 := (hW g1 trivial (blk_lt h1)).trans h1
  have k2 := (hW g2 trivial (blk_lt h2)).trans h2
  refine ⟨rfl, by simp, fun _ => ⟨⟨g2, 0, none⟩, rfl, fun j p hj => ?_⟩⟩
  have hj0 : j = 0 := by
    have := (List.getElem?_eq_some_iff.1 hj).1
    simp at this
    exact this
  subst hj0
  obtain rfl := Option.some.inj hj
  obtain ⟨A, c, e, hl, hC⟩ := (lit_rd k1 hc rfl hm).now
  injection e with e1 e2 e3
  subst e1 e3
  refine ⟨_, ?_, k47_mk W' ⟨id, b, l⟩ (Nat.le_refl _) hC, fun i u hu => ?_⟩
  · rfl
  · rw [Nat.zero_mul, Nat.zero_add, Addr.add_lit, Nat.zero_add, blk_cell k2]
    simpa using hu
/-- A server in a variable. -/
def InB (w : World) (g : Nat) (s : S25) (vi vd : Value) : Prop := w.heap[g]? = some (.cells #[.int .i64 s.f0,.bool s.f1,.int .i64 s.f2,.int .i64 s.f3,.int .i64 s.f4,.int .i64 s.f5,.int .i64 s.f6,vi,vd] 25 (0,0))
theorem InB.go {w w1 : World} {g : Nat} {s : S25} {vi vd : Value} (h : InB w g s vi vd) (hf : Fr (fun _ => False) w w1) : InB w1 g s vi vd := hf.blk h (fun h => h)
/-- What the answer to a question is, in a world that only grew. -/
theorem ask_go {w : World} {vs vq : Value} {s : S25} {q : List Int} {r : S25 × List Int × Bool} (hs : RdS w T0 vs s) (hq : RdF kb w T0 vq q) (hF : Fine s q) (hr : mAsk s q = r) :
    Calls Try.prog 41 #[vs,vq] w fun e w' => ∃ Ai ci Ad cd Ab cb,e = .returned (.tuple #[srv r.1 (.slice Ai r.1.f7.length ci) (.slice Ad r.1.f8.length cd),.slice Ab r.2.1.length cb,.bool r.2.2]) ∧ Aside0 (RdS w' T0 (srv r.1 (.slice Ai r.1.f7.length ci) (.slice Ad r.1.f8.length cd)) r.1) ∧ Aside0 (RdF kb w' T0 (.slice Ab r.2.1.length cb) r.2.1) ∧ Aside0 (Fr (fun _ => False) w w') := by
  subst hr
  refine (ask_calls hs hq hF).mono fun e w' ⟨vs', vb, he, h1, h2, hf⟩ => ?_
  obtain ⟨vi, vd, e1, hi, hd⟩ := h1
  have H1 : RdS w' T0 vs' (mAsk s q).1 := ⟨vi, vd, e1, hi.top, hd.top⟩
  have H2 := h2.top
  obtain ⟨Ai, ci, ei, -, -⟩ := hi
  obtain ⟨Ad, cd, ed, -, -⟩ := hd
  obtain ⟨Ab, cb, eb, -, -⟩ := h2
  subst ei ed eb e1
  exact ⟨Ai, ci, Ad, cd, Ab, cb, he, ⟨H1⟩, ⟨H2⟩, ⟨hf⟩⟩
end Go.Proofs.Ph
