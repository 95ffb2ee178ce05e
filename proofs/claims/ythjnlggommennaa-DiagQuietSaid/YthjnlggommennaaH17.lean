/- Part 18 of the proof of DiagHands, for every input: F78, StubM. No condition. -/
import Derived.Test.YthjnlggommennaaH16
set_option linter.unusedVariables false
set_option linter.unusedSimpArgs false
set_option linter.unusedSectionVars false
/- The reference's Right of troubles: what it computes, for any row. No condition. -/
namespace Go.Proofs.Ph
open Go Go.RowKit Go.Proofs.YthjnlggommennaaW.PrintWords Go.Proofs.YthjnlggommennaaW.PrintLast
/-- May the trouble at place k not be so? -/
def badAt (xs : List S161) (k : Nat) : Bool := bad78 (xs.getD k z161).f0 (xs.getD k z161).f1 (xs.getD k z161).f2 (xs.getD k z161).f3 (k : Int) (xs.getD (k - 1) z161).f0
/-- May troubles be so, by the reference? -/
def rOk (xs : List S161) : Bool := decide (xs.length ≤ 16) && (List.range xs.length).all (fun k => !badAt xs k)
theorem rOk_bad {xs : List S161} {k : Nat} (h : k < xs.length) (hb : badAt xs k = true) : rOk xs = false := by
  unfold rOk
  rw [Bool.and_eq_false_iff]
  right
  rw [List.all_eq_false]
  exact ⟨k, List.mem_range.mpr h, by rw [hb]; simp⟩
theorem rOk_all {xs : List S161} (hl : xs.length ≤ 16) (h : ∀ j, j < xs.length → badAt xs j = false) : rOk xs = true := by
  unfold rOk
  rw [Bool.and_eq_true, List.all_eq_true]
  exact ⟨decide_eq_true hl, fun k hk => by rw [h k (List.mem_range.mp hk)]; rfl⟩
theorem rOk_long {xs : List S161} (hl : 16 < xs.length) : rOk xs = false := by
  unfold rOk
  rw [decide_eq_false (by omega)]
  rfl
set_option maxRecDepth 100000 in
set_option maxHeartbeats 4000000 in
theorem rRight_long {w : World} {A : Option Addr} {c : Nat} {xs : List S161} (hl : 16 < xs.length) : Calls Try.prog 78 #[.slice A xs.length c] w fun e w' => e = .returned (.bool false) ∧ Fr (fun _ => False) w w' := by
  have h1 : decide ((16 : Int) < (xs.length : Int)) = true := decide_eq_true (by omega)
  go_enter Try.func78, Try.ntmps78
  go_wp2
  go_ret
  exact ⟨rfl, Fr.refl _ _⟩
set_option maxRecDepth 100000 in
set_option maxHeartbeats 8000000 in
theorem rRight_short {w : World} {A : Option Addr} {c : Nat} {xs : List S161} (hC : Kd.C k161 w A xs.length xs) (hc : xs.length ≤ c) (hl : xs.length ≤ 16) : Calls Try.prog 78 #[.slice A xs.length c] w fun e w' => e = .returned (.bool (rOk xs)) ∧ Fr (fun _ => False) w w' := by
  have HC := Aside0.mk hC
  have h1 : decide ((16 : Int) < (xs.length : Int)) = false := decide_eq_false (by omega)
  have hli : (xs.length : Int) ≤ 16 := by omega
  obtain ⟨r, er⟩ : ∃ r, r = rOk xs := ⟨_, rfl⟩
  rw [← er]
  have ER := Aside0.mk er
  clear hC er
  go_enter Try.func78, Try.ntmps78
  go_wp2
  go_loopw [3] (fun t wr => ∃ k : Nat,k ≤ xs.length ∧ t = .int .i64 k ∧ Aside0 (∀ j,j < k → badAt xs j = false) ∧ Aside0 (Fr (fun _ => False) w wr)) (fun t _ => xs.length - (intOf t).toNat)
  case atStart => exact ⟨0, Nat.zero_le _, rfl, ⟨fun j hj => absurd hj (Nat.not_lt_zero j)⟩, ⟨Fr.refl _ _⟩⟩
  case round =>
    obtain ⟨k, hk, rfl, hall, hD⟩ := hrel
    by_cases hlt : k < xs.length
    · obtain ⟨ad, e1, x0, x1, x2, x3⟩ := at_T161 (Kd.C_below HC.out (Fr.below hD.out (fun _ h => h.elim))) (k : Int) (by omega) (by omega)
      subst e1
      obtain ⟨t, et⟩ : ∃ t, t = xs.getD k z161 := ⟨_, rfl⟩
      rw [show rd_T161 xs (k : Int) = t from et.symm] at x0 x1 x2 x3
      rw [Int.toNat_natCast] at x0 x1 x2 x3
      obtain ⟨tp, etp⟩ : ∃ t, t = xs.getD (k - 1) z161 := ⟨_, rfl⟩
      have hp : ∃ adp p,wr.cell? adp = some (.int .i64 p) ∧ (0 < (k : Int) → 1 ≤ (k : Int) ∧ (k : Int) - 1 < (xs.length : Int) ∧ wrap64 ((k : Int) - 1) = (k : Int) - 1 ∧ adp = ad.add (((k : Int).toNat - 1) * 4)) ∧ p = tp.f0 := by
        rcases Nat.eq_zero_or_pos k with hz | hpos
        · subst hz
          exact ⟨_, _, x0, fun h => absurd h (by omega), by rw [et, etp]⟩
        · obtain ⟨ad', e1', y0, -, -, -⟩ := at_T161 (Kd.C_below HC.out (Fr.below hD.out (fun _ h => h.elim))) ((k : Int) - 1) (by omega) (by omega)
          injection e1' with e1'
          subst e1'
          refine ⟨_,_,y0,fun _ => ⟨by omega,by omega,by unfold wrap64; omega,by rw [show ((k : Int) - 1).toNat = (k : Int).toNat - 1 by omega]⟩,?_⟩
          rw [etp]
          show (xs.getD ((k : Int) - 1).toNat z161).f0 = _
          rw [show ((k : Int) - 1).toNat = k - 1 by omega]
      obtain ⟨adp, p, hcp, h3, ep⟩ := hp
      obtain ⟨b, eb⟩ : ∃ b, b = bad78 t.f0 t.f1 t.f2 t.f3 (k : Int) p := ⟨_, rfl⟩
      have hbad : badAt xs k = b := by rw [eb, ep, etp, et]; rfl
      have HP := Aside0.mk h3
      have HCP := Aside0.mk hcp
      have HB := Aside0.mk hbad
      have EB := Aside0.mk eb.symm
      have hlti : (k : Int) < (xs.length : Int) := by omega
      have hk0 : (0 : Int) ≤ (k : Int) := by omega
      clear h3 hcp hbad eb et etp ep
      go_wp2
      generalize hW : World.alloc _ _ = W
      have hfW : Fr (fun _ => False) wr W := by subst hW; exact (Fr.refl _ wr).alloc _
      have hbW : W.heap[wr.heap.size]? = some (.cells #[.int .i64 t.f0,.int .i64 t.f1,.int .i64 t.f2,.int .i64 t.f3] 161 (0,0)) := by subst hW; exact blk_new wr _
      have hS : S78 wr.heap.size t.f0 t.f1 t.f2 t.f3 adp p W := ⟨(blk_cell hbW 0).trans rfl,(blk_cell hbW 1).trans rfl,(blk_cell hbW 2).trans rfl,(blk_cell hbW 3).trans rfl,hfW.cellA HCP.out⟩
      clear hW hbW x0 x1 x2 x3
      refine reg78 (fun _ o _ _ _ h => by cases o <;> exact h) HP.out _ _ _ _ _ _ _ _ _ _ _ _ _ _ _ _ _ _ _ _ _ _ _ _ _ _ _ _ _ _ _ _ _ _ _ _ _ _ _ _ _ _ _ _ _ _ _ _ _ _ _ _ _ _ _ _ _ _ _ _ _ _ _ _ _ _ _ _ _ _ _ _ _ _ _ _ _ _ _ _ _ _ _ _ _ _ _ hS ?_ _ (by kernel_rfl)
      intro x18 x19 x20 x21 x22 x23 x24 x25 x26 x27 x28 x29 x30 x31 x32 x33 x34 x35 x36 x37 x38 x39 x40 x41 x42 x43 x44 x45 x46 x47 x48 x49 x50 x51 x52 x53 x54 x55 x56 x57 x58 x59 x60 x61 x62 x63 x64 x65 x66 x67 x68 x69 x70 x71 x72 x73 x74 x75 x76 x77 x78 x79 x80 x81 x82 x83 x84 x85 x86 x87 x88 w' hf'
      rw [EB.out]
      have HF := Aside0.mk ((hD.out.trans hfW (fun _ h => .inl h)).trans hf' (fun _ h => .inl h))
      clear hS hfW hf'
      cases b with
      | true =>
        go_wp2
        go_ret
        have hr : r = false := ER.out.trans (rOk_bad hlt HB.out)
        subst hr
        exact ⟨rfl, HF.out⟩
      | false =>
        go_wp2
        go_roundw
        case rel => exact ⟨k + 1,by omega,by go_num,⟨fun j hj => by rcases Nat.lt_or_ge j k with h | h; exact hall.out j h; rw [show j = k by omega]; exact HB.out⟩,HF⟩
        case measure => simp [intOf]; omega
    · have hke : k = xs.length := by omega
      subst hke
      go_wp2
      go_ret
      have hr : r = true := ER.out.trans (rOk_all hl hall.out)
      subst hr
      exact ⟨rfl, hD.out⟩
theorem rRight_calls {w : World} {A : Option Addr} {c : Nat} {xs : List S161} (hC : Kd.C k161 w A xs.length xs) (hc : xs.length ≤ c) : Calls Try.prog 78 #[.slice A xs.length c] w fun e w' => e = .returned (.bool (rOk xs)) ∧ Fr (fun _ => False) w w' := by
  rcases Nat.lt_or_ge 16 xs.length with h | h
  · rw [rOk_long h]; exact rRight_long h
  · exact rRight_short hC hc h
end Go.Proofs.Ph
/- The reference's Right of troubles, as the print's callers take it. No condition. -/
namespace Go.Proofs.Ph
open Go Go.RowKit Go.Proofs.YthjnlggommennaaW.PrintWords
def phaetonref21_Right.f (l0 : List S161) : Option Bool := some (rOk l0)
theorem phaetonref21_Right.calls (A0 : Option Addr) (c0 : Nat) (l0 : List S161) (r : Bool) (w : World) (hr0 : Kd.C k161 w A0 l0.length l0) (hc0 : l0.length ≤ c0) (h : phaetonref21_Right.f l0 = some r) :
    Calls Try.prog 78 #[.slice A0 l0.length c0] w fun e w' => e = .returned (.bool r) ∧ Below w.heap.size w w' := by
  obtain rfl := Option.some.inj h
  exact (rRight_calls hr0 hc0).mono fun e w' hh => ⟨hh.1, hh.2.below (fun _ h => h.elim)⟩
end Go.Proofs.Ph
