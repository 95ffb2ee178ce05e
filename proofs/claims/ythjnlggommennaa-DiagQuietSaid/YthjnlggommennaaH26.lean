/- Part 27 of the proof of DiagHands, for every input: LK, MadeP, Hands, LW, Opens, Opens2. No condition. -/
import Derived.Test.YthjnlggommennaaH25
import Derived.Test.YthjnlggommennaaH19
import Derived.Test.YthjnlggommennaaH9
import Derived.Test.YthjnlggommennaaH3
import Derived.ChangeSlices
import Derived.Deep.Slices
import Derived.Deep.Fields
import Derived.ProofKit
import Derived.WalkKit
import Derived.OpenShut
import Derived.Test.YthjnlggommennaaProg
set_option linter.unusedVariables false
set_option linter.unusedSimpArgs false
set_option linter.unusedSectionVars false
/- DiagKey: its walk. No condition. -/
namespace Go.Proofs.Ph
open Go Go.RowKit Go.Proofs.YthjnlggommennaaW.PrintWords
theorem low_mod (n : Int) : bits BinOp.and IntKind.i64 n 4294967295 = n % 4294967296 := by
  show IntKind.i64.wrap ((BitVec.ofInt 64 n &&& BitVec.ofInt 64 4294967295).toNat : Int) = _
  have h1 : (BitVec.ofInt 64 4294967295).toNat = 2 ^ 32 - 1 := by decide
  rw [BitVec.toNat_and, h1, Nat.and_two_pow_sub_one_eq_mod, BitVec.toNat_ofInt, IntKind.wrap_i64]
  have h2 : (n % ((2 ^ 64 : Nat) : Int)).toNat % 2 ^ 32 = (n % 4294967296).toNat := by
    show (n % (18446744073709551616 : Int)).toNat % 4294967296 = (n % 4294967296).toNat
    omega
  rw [h2]
  omega
end Go.Proofs.Ph
/- What the reference makes of any server: plain. No condition. -/
namespace Go.Proofs.Ph
open Go Go.RowKit Go.Proofs.YthjnlggommennaaW.PrintWords
theorem and16 (n : Int) : bits BinOp.and IntKind.i64 n 65535 = n % 65536 := by
  show IntKind.i64.wrap ((BitVec.ofInt 64 n &&& BitVec.ofInt 64 65535).toNat : Int) = _
  have h1 : (BitVec.ofInt 64 65535).toNat = 2 ^ 16 - 1 := by decide
  rw [BitVec.toNat_and, h1, Nat.and_two_pow_sub_one_eq_mod, BitVec.toNat_ofInt, IntKind.wrap_i64]
  have h2 : (n % ((2 ^ 64 : Nat) : Int)).toNat % 2 ^ 16 = (n % 65536).toNat := by
    show (n % (18446744073709551616 : Int)).toNat % 65536 = (n % 65536).toNat
    omega
  rw [h2]
  omega
/-- The items that are taken over: those of a greater number, which have bytes; the first 16 are looked at. -/
def keep : Nat → Int → List S47 → List S47
  | 0, _, _ => []
  | _, _, [] => []
  | n + 1,last,x :: l => if last < x.f0 % 65536 ∧ 0 < x.f2.length then ⟨x.f0 % 65536,x.f1,x.f2.take 64⟩ :: keep n (x.f0 % 65536) l else keep n last l
def mMade (s : S25) : S25 := ⟨1 + s.f0 % 65536 % 3,s.f1,if 0 ≤ s.f2 then s.f2 % 4294967296 else -1,s.f3 % 65536 % 13,s.f4 % 65536 % 52,s.f5 % 4294967296,s.f6 % 4294967296,keep 16 (-1) s.f7,if rOk s.f8 = true then s.f8 else []⟩
open Go.Proofs.Ph.Ma in
theorem made_fin (k : Nat) (last i : Int) (b1 b2 : Bool) (a0 a2 a3 a4 a5 a6 y0 y2 y3 y4 y5 y6 : Int) (l7 : List S47) (l8 : List S161) (acc : List S47) :
    phaetonref22_Made.j2 (k + 1) last i false a0 b1 a2 a3 a4 a5 a6 l7 l8 y0 b2 y2 y3 y4 y5 y6 acc = some (y0,b2,y2,y3,y4,y5,y6,acc,if rOk l8 = true then l8 else []) := by
  simp only [phaetonref22_Made.j2, phaetonref21_Right.f, Option.bind_some]
  rw [if_neg (by decide)]
  by_cases h : rOk l8 = true
  · have hl : l8.length ≤ 16 := by
      unfold rOk at h
      simp only [Bool.and_eq_true, decide_eq_true_eq] at h
      exact h.1
    rw [if_pos h, if_pos h, if_pos (by simp; omega)]
    simp
  · rw [if_neg h, if_neg h]
open Go.Proofs.Ph.Ma in
theorem made_loop (b1 b2 : Bool) (a0 a2 a3 a4 a5 a6 y0 y2 y3 y4 y5 y6 : Int) (l7 : List S47) (l8 : List S161) (hd : ∀ x ∈ l7,x.f2.length ≤ 9223372036854775807) : ∀ (d : Nat) (k i : Nat) (last : Int) (acc : List S47),i + d = 16 → acc.length ≤ i → 2 * d + 2 ≤ k →
    phaetonref22_Made.l0 k last (i : Int) a0 b1 a2 a3 a4 a5 a6 l7 l8 y0 b2 y2 y3 y4 y5 y6 acc = some (y0,b2,y2,y3,y4,y5,y6,acc ++ keep d last (l7.drop i),if rOk l8 = true then l8 else []) := by
  intro d
  induction d with
  | zero =>
    intro k i last acc hi ha hk
    obtain ⟨k, rfl⟩ : ∃ m, k = m + 2 := ⟨k - 2, by omega⟩
    have e : keep 0 last (l7.drop i) = [] := by unfold keep; rfl
    simp only [phaetonref22_Made.l0]
    rw [e, List.append_nil, decide_eq_false (by omega)]
    split
    · exact made_fin k last i b1 b2 a0 a2 a3 a4 a5 a6 y0 y2 y3 y4 y5 y6 l7 l8 acc
    · exact made_fin k last i b1 b2 a0 a2 a3 a4 a5 a6 y0 y2 y3 y4 y5 y6 l7 l8 acc
  | succ d ih =>
    intro k i last acc hi ha hk
    obtain ⟨k, rfl⟩ : ∃ m, k = m + 2 := ⟨k - 2, by omega⟩
    have hw : wrap64 ((i : Int) + 1) = ((i + 1 : Nat) : Int) := by unfold wrap64; omega
    simp only [phaetonref22_Made.l0]
    by_cases hl : i < l7.length
    · rw [if_pos (by omega), decide_eq_true (show (i : Int) < 16 by omega)]
      obtain ⟨x, ex⟩ : ∃ x, x = l7.getD i z47 := ⟨_, rfl⟩
      have hx : rd_T47 l7 (i : Int) = x := by rw [ex]; rfl
      have hdrop : l7.drop i = x :: l7.drop (i + 1) := by
        rw [List.drop_eq_getElem_cons hl, ex, List.getD_eq_getElem?_getD, List.getElem?_eq_getElem hl]; rfl
      have hxl : x.f2.length ≤ 9223372036854775807 := by
        refine hd x ?_
        rw [ex, List.getD_eq_getElem?_getD, List.getElem?_eq_getElem hl]
        exact List.getElem_mem hl
      simp only [phaetonref22_Made.j2]
      rw [if_pos trivial, if_pos (by omega), if_pos (by omega), hx, and16, hw, hdrop]
      by_cases h1 : last < x.f0 % 65536
      · rw [if_pos h1]
        by_cases h2 : 0 < x.f2.length
        · rw [if_pos (by omega)]
          have hm : mn ((x.f2.length : Nat) : Int) 64 = ((min x.f2.length 64 : Nat) : Int) := by unfold mn; omega
          simp only [Option.bind_some]
          rw [hm,if_pos (by omega),if_pos (by omega),Int.toNat_natCast,if_pos (by simp; omega),if_pos (by omega),ih k (i + 1) _ _ (by omega) (by simp; omega) (by omega)]
          conv => rhs; rw [show keep (d + 1) last (x :: l7.drop (i + 1)) = ⟨x.f0 % 65536,x.f1,x.f2.take 64⟩ :: keep d (x.f0 % 65536) (l7.drop (i + 1)) by rw [keep,if_pos ⟨h1,h2⟩]]
          have ht : x.f2.take (min x.f2.length 64) = x.f2.take 64 := by
            rcases Nat.le_total x.f2.length 64 with h | h
            · rw [Nat.min_eq_left h, List.take_of_length_le (Nat.le_refl _), List.take_of_length_le h]
            · rw [Nat.min_eq_right h]
          rw [List.append_assoc, ht]
          rfl
        · rw [if_neg (by omega), ih k (i + 1) _ _ (by omega) (by omega) (by omega)]
          conv => rhs; rw [show keep (d + 1) last (x :: l7.drop (i + 1)) = keep d last (l7.drop (i + 1)) by rw [keep, if_neg (fun h => h2 h.2)]]
      · rw [if_neg h1, ih k (i + 1) _ _ (by omega) (by omega) (by omega)]
        conv => rhs; rw [show keep (d + 1) last (x :: l7.drop (i + 1)) = keep d last (l7.drop (i + 1)) by rw [keep, if_neg (fun h => h1 h.1)]]
    · rw [if_neg (by omega), List.drop_of_length_le (by omega), show keep (d + 1) last [] = [] by rfl, List.append_nil]
      exact made_fin k last i b1 b2 a0 a2 a3 a4 a5 a6 y0 y2 y3 y4 y5 y6 l7 l8 acc
open Go.Proofs.Ph.Ma in
theorem made_f (s : S25) (hd : ∀ x ∈ s.f7,x.f2.length ≤ 9223372036854775807) : phaetonref22_Made.f 40 s.f0 s.f1 s.f2 s.f3 s.f4 s.f5 s.f6 s.f7 s.f8 = some ((mMade s).f0,(mMade s).f1,(mMade s).f2,(mMade s).f3,(mMade s).f4,(mMade s).f5,(mMade s).f6,(mMade s).f7,(mMade s).f8) := by
  have h0 : wrap64 (1 + Int.tmod (s.f0 % 65536) 3) = 1 + s.f0 % 65536 % 3 := by
    rw [Int.tmod_eq_emod_of_nonneg (by omega)]
    unfold wrap64
    omega
  have h3 : Int.tmod (s.f3 % 65536) 13 = s.f3 % 65536 % 13 := Int.tmod_eq_emod_of_nonneg (by omega)
  have h4 : Int.tmod (s.f4 % 65536) 52 = s.f4 % 65536 % 52 := Int.tmod_eq_emod_of_nonneg (by omega)
  have hloop := fun a b c d e f g h i j k l m => made_loop a b c d e f g h i j k l m
  unfold phaetonref22_Made.f
  simp only [phaetonref22_low.f, Option.bind_some, low_mod, and16, h0, h3, h4]
  by_cases hs : 0 ≤ s.f2
  · rw [if_pos hs]
    simp only [phaetonref22_Made.j0]
    rw [show (0 : Int) = ((0 : Nat) : Int) by rfl, made_loop _ _ _ _ _ _ _ _ _ _ _ _ _ _ _ _ hd 16 39 0 (-1) [] rfl (by simp) (by omega)]
    unfold mMade
    simp only [List.nil_append, List.drop_zero, if_pos hs]
  · rw [if_neg hs]
    simp only [phaetonref22_Made.j0]
    rw [show (0 : Int) = ((0 : Nat) : Int) by rfl, made_loop _ _ _ _ _ _ _ _ _ _ _ _ _ _ _ _ hd 16 39 0 (-1) [] rfl (by simp) (by omega)]
    unfold mMade
    simp only [List.nil_append, List.drop_zero, if_neg hs]
open Go.Proofs.Ph.Ma in
/-- Made: what it computes. -/
theorem made_calls {w : World} {ok : Nat → Prop} {v : Value} {s : S25} (hs : RdS w ok v s) (hd : ∀ x ∈ s.f7,x.f2.length ≤ 9223372036854775807) : Calls Try.prog 33 #[v] w fun e w' => ∃ v',e = .returned v' ∧ RdS w' (fun k => w.heap.size ≤ k) v' (mMade s) ∧ Fr (fun _ => False) w w' := by
  obtain ⟨vi, vd, rfl, ⟨Ai, ci, rfl, hli, hi⟩, ⟨Ad, cd, rfl, hld, hdd⟩⟩ := hs
  refine (phaetonref22_Made.calls 40 _ _ _ _ _ _ _ Ai ci _ Ad cd _ _ _ _ _ _ _ _ _ _ w (Kd.F_now hi) hli (Kd.F_now hdd) hld (made_f s hd)).mono ?_
  rintro e w' ⟨v7, v8, rfl, h7, h8, hb⟩
  have g7 := Kd.R_mono (Kd.R_bound (Kd.S_R h7)) (ok' := fun k => w.heap.size ≤ k) (fun k hk => hk.2.1)
  have g8 := Kd.R_mono (Kd.R_bound h8) (ok' := fun k => w.heap.size ≤ k) (fun k hk => hk.2.1)
  obtain ⟨A7, c7, e7, l7, -⟩ := Kd.R_reads g7
  obtain ⟨A8, c8, e8, l8, -⟩ := Kd.R_reads g8
  subst e7 e8
  exact ⟨_, rfl, ⟨_, _, rfl, ⟨A7, c7, rfl, l7, Kd.R_F g7⟩, ⟨A8, c8, rfl, l8, Kd.R_F g8⟩⟩, Fr.of_below hb _⟩
end Go.Proofs.Ph
/- Which questions are handed on: plain. No condition. -/
namespace Go.Proofs.Ph
open Go Go.RowKit
/-- What 0x34, 0x36, 0x37 are answered. -/
theorem answer_load {n : Int} (hn : n = 52 ∨ n = 54 ∨ n = 55) (s : S25) (q : List Int) : mAnswer n s q = if s.f0 = 3 then if s.f1 = true then (s,[(n + 64) % 256]) else (s,[127,n % 256,51]) else (s,[127,n % 256,34]) := by
  have hf : mFind n q = .inr (-1, 164) := by
    unfold mFind served
    rcases hn with rfl | rfl | rfl <;> rfl
  have hl : fitsB n q (-1) = true := by
    unfold fitsB
    rcases hn with rfl | rfl | rfl <;> simp
  unfold mAnswer
  rw [hf]
  simp only [hl, if_true]
  show (match mHand s with | (s', .inl why) => (s', [127, n % 256, why % 256]) | (s', .inr b) => (s', (n + 64) % 256 :: b)) = _
  unfold mHand
  by_cases h3 : s.f0 = 3
  · rw [if_pos (by rw [h3]; rfl), if_pos h3]
    by_cases h1 : s.f1 = true
    · rw [if_pos h1, if_pos h1]
    · rw [if_neg h1, if_neg h1]; rfl
  · rw [if_neg (by simpa using h3), if_neg h3]; rfl
theorem hands_or {n : Int} (h : hands n = true) : n = 52 ∨ n = 54 ∨ n = 55 := by
  unfold hands at h
  simp only [Bool.or_eq_true, beq_iff_eq] at h
  omega
/-- Is a question handed on? -/
def wants (s : S25) (q : List Int) : Bool := decide (0 < q.length) && hands (q.getD 0 0) && (s.f0 == 3) && s.f1
theorem ask_wants (s : S25) (q : List Int) : (mAsk s q).2.2 = wants s q ∧ (wants s q = true → mAsk s q = (quiet0 s, [], true)) := by
  unfold mAsk wants
  by_cases h0 : q.length = 0
  · rw [if_pos h0, decide_eq_false (show ¬ 0 < q.length by omega)]
    exact ⟨rfl, fun h => by simp at h⟩
  · rw [if_neg h0, decide_eq_true (show 0 < q.length by omega)]
    cases hh : hands (q.getD 0 0) with
    | false =>
      rw [if_neg (by simp)]
      exact ⟨rfl, fun h => by simp at h⟩
    | true =>
      rw [answer_load (hands_or hh) (quiet0 s) (q.drop 1)]
      have e0 : (quiet0 s).f0 = s.f0 := rfl
      have e1 : (quiet0 s).f1 = s.f1 := rfl
      rw [e0, e1]
      by_cases h3 : s.f0 = 3
      · rw [if_pos h3]
        by_cases h1 : s.f1 = true
        · have hm : ((([(q.getD 0 0 + 64) % 256] : List Int).getD 0 0 != 127) && true) = true := by
            rcases hands_or hh with h | h | h <;> rw [h] <;> rfl
          rw [if_pos h1, if_pos hm, h1, h3]
          exact ⟨rfl, fun _ => rfl⟩
        · have h1' : s.f1 = false := by simpa using h1
          rw [if_neg h1, if_neg (by simp), h1', h3]
          exact ⟨rfl, fun h => by simp at h⟩
      · have h3' : (s.f0 == 3) = false := by simpa using h3
        rw [if_neg h3, if_neg (by simp), h3']
        exact ⟨rfl, fun h => by simp at h⟩
end Go.Proofs.Ph
/- Words for laws' walks: variables of the law's own, and rows apart from them. No condition. -/
namespace Go.Proofs.Ph
open Go Go.RowKit Go.Proofs.YthjnlggommennaaW.PrintWords
/-- Apart from the blocks of L. -/
def Off (L : List Nat) : Nat → Prop := fun k => k ∉ L
section
variable {α : Type} {d : Kd α} {w w1 w2 : World} {L L' : List Nat} {v vs : Value} {xs : List α} {s : S25}
/-- A step of the law: what is changed lies in L', and what of L' is not in L is new. -/
theorem RdF.on (h : RdF d w (Off L) v xs) (hf : Fr (fun k => k ∈ L') w w1) (hn : ∀ k ∈ L', k ∈ L ∨ w.heap.size ≤ k) : RdF d w1 (Off L') v xs := by
  have hb := h.bound
  refine (hb.step (w1 := w1) (fun k hk hlt => hf.block k hlt (fun hm => ?_))).mono (fun k hk hm => ?_)
  · rcases hn k hm with h1 | h1
    · exact hk.1 h1
    · omega
  · rcases hn k hm with h1 | h1
    · exact hk.1 h1
    · exact absurd hk.2 (by omega)
theorem RdS.on (h : RdS w (Off L) vs s) (hf : Fr (fun k => k ∈ L') w w1) (hn : ∀ k ∈ L', k ∈ L ∨ w.heap.size ≤ k) : RdS w1 (Off L') vs s := by
  obtain ⟨vi, vd, e, hi, hd⟩ := h
  exact ⟨vi, vd, e, hi.on hf hn, hd.on hf hn⟩
/-- What a call made, or shares. -/
theorem RdF.made (h : RdF d w1 (fun k => w.heap.size ≤ k) v xs) (hL : ∀ k ∈ L,k < w.heap.size) : RdF d w1 (Off L) v xs := h.mono (fun k hk hm => by have := hL k hm; omega)
theorem RdF.now_ (h : RdF d w1 (Now w (Off L)) v xs) (hL : ∀ k ∈ L, k < w.heap.size) : RdF d w1 (Off L) v xs := h.mono (fun k hk hm => by
  rcases hk with hk | hk
  · exact hk hm
  · have := hL k hm; omega)
theorem RdS.made (h : RdS w1 (fun k => w.heap.size ≤ k) vs s) (hL : ∀ k ∈ L, k < w.heap.size) : RdS w1 (Off L) vs s := by
  obtain ⟨vi, vd, e, hi, hd⟩ := h
  exact ⟨vi, vd, e, hi.made hL, hd.made hL⟩
theorem RdS.now_ (h : RdS w1 (Now w (Off L)) vs s) (hL : ∀ k ∈ L, k < w.heap.size) : RdS w1 (Off L) vs s := by
  obtain ⟨vi, vd, e, hi, hd⟩ := h
  exact ⟨vi, vd, e, hi.now_ hL, hd.now_ hL⟩
theorem RdF.off0 (h : RdF d w T0 v xs) : RdF d w (Off []) v xs := h.mono (fun k _ hm => by cases hm)
theorem Fr.calls {S : Nat → Prop} (h : Fr S w w1) (k : Fr (fun _ => False) w1 w2) : Fr S w w2 := h.trans k (fun _ h => h.elim)
theorem Fr.more {S S' : Nat → Prop} (h : Fr S w w1) (hs : ∀ i, S i → S' i) : Fr S' w w1 := h.mono hs
theorem RdS.laid {ok : Nat → Prop} (h : RdS w ok vs s) : ∃ Ai ci Ad cd,vs = .agg #[.int .i64 s.f0,.bool s.f1,.int .i64 s.f2,.int .i64 s.f3,.int .i64 s.f4,.int .i64 s.f5,.int .i64 s.f6,.slice Ai s.f7.length ci,.slice Ad s.f8.length cd] := by
  obtain ⟨vi, vd, e, ⟨Ai, ci, rfl, -, -⟩, ⟨Ad, cd, rfl, -, -⟩⟩ := h
  exact ⟨Ai, ci, Ad, cd, e⟩
end
end Go.Proofs.Ph
/- Arguments that are read as data, opened as rows of the print's kinds. No condition. -/
namespace Go.Proofs.Ph
open Go Go.RowKit Go.Deep Go.ChangeShapes Go.WideShapes Go.Proofs.YthjnlggommennaaW.PrintWords
/-- What a type's data reads as. -/
structure Opens {α : Type} (P : Program) (t : TypeId) (d : Kd α) (Wf : α → Prop) : Prop where
  sz : P.cellsOf t = d.sz
  opens : ∀ {H : Type} {enc : TypeId × Value → H} {w : World} {base : Nat} {spare : Nat → Bool} {held : Bool} {fuel : Nat} {cs : List Value} {x : DataW H × List MemPlace},DataW.trod enc P w base spare held fuel t cs = some x → ∃ a : α,d.K w a cs ∧ Wf a
theorem opens_int {P : Program} {t : TypeId} (k : IntKind) (ht : P.underlying t = some (.int k)) (hc : P.cellsOf t = 1) : Opens P t (Kd.int k) (fun n => (Lit.int k n).wf = true) :=
  ⟨hc, fun h => by
    obtain ⟨n, rfl, _, hw⟩ := DataW.trod_int ht h
    exact ⟨n, rfl, hw⟩⟩
theorem opens_bool {P : Program} {t : TypeId} (ht : P.underlying t = some .bool) (hc : P.cellsOf t = 1) : Opens P t Kd.bool (fun _ => True) :=
  ⟨hc, fun h => by
    obtain ⟨b, rfl, _⟩ := DataW.trod_bool ht h
    exact ⟨b, rfl, trivial⟩⟩
theorem cells?_get {w : World} {base : Nat} {a : Addr} {n : Nat} {cs : List Value} (h : w.cells? base a n = some cs) : cs.length = n ∧ ∀ i u,cs[i]? = some u → w.cell? (a.add i) = some u := by
  unfold World.cells? at h
  split at h
  · have hl := mapM_some_length h
    refine ⟨by simpa using hl, fun i u hi => ?_⟩
    have hlt : i < n := by
      have := (List.getElem?_eq_some_iff.1 hi).1
      simp at hl
      omega
    have := mapM_some_get h i i (by simp [hlt])
    rw [this, hi]
  · cases h
theorem opens_slice {α : Type} {P : Program} {t e : TypeId} {d : Kd α} {Wf : α → Prop} (z : α) (ht : P.underlying t = some (.slice e)) (hc : P.cellsOf t = 1) (he : Opens P e d Wf) : Opens P t (Kd.slice e d) (fun l => l.length ≤ 9223372036854775807 ∧ ∀ x ∈ l,Wf x) :=
  ⟨hc, fun {H enc w base spare held fuel cs x} h => by
    rcases DataW.trod_slice ht h with ⟨rfl, _⟩ | ⟨a, len, cap, elems, rest, n, _, rfl, _, _, hl, hm, hlen, hel, _, _⟩
    · exact ⟨[], ⟨none, 0, rfl, Nat.le_refl _, Kd.C_nil d w⟩, by simp, by simp⟩
    · have each : ∀ i,i < len → ∃ p : α,(∃ c,c.length = d.sz ∧ d.K w p c ∧ ∀ k u,c[k]? = some u → w.cell? (a.add (i * d.sz + k)) = some u) ∧ Wf p := by
        intro i hi
        have h1 := hel i hi
        rw [List.getElem?_eq_getElem (by omega), Option.bind_eq_some_iff] at h1
        obtain ⟨c, hc1, hc2⟩ := h1
        obtain ⟨p, hp, hw⟩ := he.opens hc2
        obtain ⟨g1, g2⟩ := cells?_get hc1
        refine ⟨p, ⟨c, by rw [g1, he.sz], hp, fun k u hk => ?_⟩, hw⟩
        have := g2 k u hk
        rw [he.sz] at this
        rwa [Go.Deep.add_add] at this
      letI : Inhabited α := ⟨z⟩
      obtain ⟨f, hf⟩ := Go.Deep.choose_lt each
      have hlx : ((List.range len).map f).length = len := by simp
      have hm' : len ≤ 9223372036854775807 := by unfold maxLen at hm; omega
      refine ⟨(List.range len).map f, ⟨some a, cap, by rw [hlx], by rw [hlx]; exact hl, ?_⟩, by rw [hlx]; exact hm', ?_⟩
      · refine ⟨by rw [hlx], by rw [hlx]; exact hm', fun _ => ⟨a, rfl, fun j p hj => ?_⟩⟩
        rw [List.getElem?_map, Option.map_eq_some_iff] at hj
        obtain ⟨i, hi, rfl⟩ := hj
        have hi2 := List.getElem?_eq_some_iff.1 hi
        obtain ⟨h3, h4⟩ := hi2
        simp at h3 h4
        subst h4
        exact (hf j h3).1
      · intro x hx
        obtain ⟨i, hi, rfl⟩ := List.mem_map.1 hx
        exact (hf i (List.mem_range.1 hi)).2⟩
/-- A struct's fields, each of one cell. -/
theorem opens_fields {H : Type} {enc : TypeId × Value → H} {P : Program} {w : World} {base : Nat} {spare : Nat → Bool} {held : Bool} {fuel : Nat} {t : TypeId} {fs : Array Field} {cs : List Value} {x : DataW H × List MemPlace} (ht : P.underlying t = some (.struct fs)) (hone : oneCellFields P fs = true)
    (h : DataW.trod enc P w base spare held fuel t cs = some x) : cs.length = P.cellsOf t ∧ ∃ n, ∀ (i : Nat) (f : Field),fs[i]? = some f → ∃ y,DataW.trod enc P w base spare held n f.type ((cs.drop i).take 1) = some y := by
  obtain ⟨xs, n, _, _, hl, hlen, hf⟩ := DataW.trod_struct ht h
  refine ⟨hl, n, fun i f hi => ?_⟩
  have h1 := hf i f hi
  obtain ⟨o1, o2⟩ := hone_of hone i f hi
  have hlt : i < xs.length := by
    rw [hlen]
    exact (Array.getElem?_eq_some_iff.1 hi).1
  rw [o1, o2, List.getElem?_eq_getElem hlt] at h1
  exact ⟨_, h1⟩
end Go.Proofs.Ph
/- A server, a question, rows of them: opened. No condition. -/
namespace Go.Proofs.Ph
open Go Go.RowKit Go.Deep Go.ChangeShapes Go.WideShapes Go.Proofs.YthjnlggommennaaW.PrintWords
theorem k47_heap : Kd.Heap k47 := Kd.heap_iso _ (Kd.heap_pair (Kd.heap_int .i64) (Kd.heap_pair Kd.heap_bool (Kd.heap_slice 5 (Kd.heap_int .u8))))
theorem k161_heap : Kd.Heap k161 := Kd.heap_iso _ (Kd.heap_pair (Kd.heap_int .i64) (Kd.heap_pair (Kd.heap_int .i64) (Kd.heap_pair (Kd.heap_int .i64) (Kd.heap_int .i64))))
theorem wf_u8 {n : Int} (h : (Lit.int .u8 n).wf = true) : 0 ≤ n ∧ n ≤ 255 := by
  simpa [Lit.wf, IntKind.min, IntKind.max, IntKind.bits, IntKind.signed] using h
theorem opens3 : Opens Try.prog 3 (Kd.int .i64) (fun n => (Lit.int .i64 n).wf = true) := opens_int .i64 Try.underlying3 (by kernel_rfl)
theorem opens4 : Opens Try.prog 4 Kd.bool (fun _ => True) := opens_bool Try.underlying4 (by kernel_rfl)
theorem opens5 : Opens Try.prog 5 (Kd.int .u8) (fun n => (Lit.int .u8 n).wf = true) := opens_int .u8 Try.underlying5 (by kernel_rfl)
theorem opens31 : Opens Try.prog 31 (Kd.slice 5 (Kd.int .u8)) (fun l => l.length ≤ 9223372036854775807 ∧ ∀ x ∈ l,(Lit.int .u8 x).wf = true) := opens_slice 0 Try.underlying31 (by kernel_rfl) opens5
def W47 (x : S47) : Prop := (Lit.int .i64 x.f0).wf = true ∧ x.f2.length ≤ 9223372036854775807 ∧ ∀ b ∈ x.f2, (Lit.int .u8 b).wf = true
theorem opens47 : Opens Try.prog 47 k47 W47 :=
  ⟨by kernel_rfl, fun {H enc w base spare held fuel cs x} h => by
    obtain ⟨hl, n, hf⟩ := opens_fields Try.underlying47 (by kernel_rfl) h
    rw [show Try.prog.cellsOf 47 = 3 by kernel_rfl] at hl
    obtain ⟨c0, c1, c2, rfl⟩ : ∃ c0 c1 c2, cs = [c0, c1, c2] := by
      match cs, hl with
      | [c0, c1, c2], _ => exact ⟨c0, c1, c2, rfl⟩
    obtain ⟨y0, h0⟩ := hf 0 _ rfl
    obtain ⟨y1, h1⟩ := hf 1 _ rfl
    obtain ⟨y2, h2⟩ := hf 2 _ rfl
    obtain ⟨a0, k0, w0⟩ := opens3.opens h0
    obtain ⟨a1, k1, _⟩ := opens4.opens h1
    obtain ⟨a2, k2, w2⟩ := opens31.opens h2
    exact ⟨⟨a0, a1, a2⟩, ⟨[c0], [c1, c2], rfl, k0, ⟨[c1], [c2], rfl, k1, k2⟩⟩, w0, w2⟩⟩
def W161 (x : S161) : Prop := (Lit.int .i64 x.f0).wf = true ∧ (Lit.int .i64 x.f1).wf = true ∧ (Lit.int .i64 x.f2).wf = true ∧ (Lit.int .i64 x.f3).wf = true
theorem opens161 : Opens Try.prog 161 k161 W161 :=
  ⟨by kernel_rfl, fun {H enc w base spare held fuel cs x} h => by
    obtain ⟨hl, n, hf⟩ := opens_fields Try.underlying161 (by kernel_rfl) h
    rw [show Try.prog.cellsOf 161 = 4 by kernel_rfl] at hl
    obtain ⟨c0, c1, c2, c3, rfl⟩ : ∃ c0 c1 c2 c3, cs = [c0, c1, c2, c3] := by
      match cs, hl with
      | [c0, c1, c2, c3], _ => exact ⟨c0, c1, c2, c3, rfl⟩
    obtain ⟨y0, h0⟩ := hf 0 _ rfl
    obtain ⟨y1, h1⟩ := hf 1 _ rfl
    obtain ⟨y2, h2⟩ := hf 2 _ rfl
    obtain ⟨y3, h3⟩ := hf 3 _ rfl
    obtain ⟨a0, k0, w0⟩ := opens3.opens h0
    obtain ⟨a1, k1, w1⟩ := opens3.opens h1
    obtain ⟨a2, k2, w2⟩ := opens3.opens h2
    obtain ⟨a3, k3, w3⟩ := opens3.opens h3
    exact ⟨⟨a0, a1, a2, a3⟩, ⟨[c0], [c1, c2, c3], rfl, k0, ⟨[c1], [c2, c3], rfl, k1, ⟨[c2], [c3], rfl, k2, k3⟩⟩⟩, w0, w1, w2, w3⟩⟩
theorem opens22 : Opens Try.prog 22 (Kd.slice 47 k47) (fun l => l.length ≤ 9223372036854775807 ∧ ∀ x ∈ l,W47 x) := opens_slice z47 Try.underlying22 (by kernel_rfl) opens47
theorem opens23 : Opens Try.prog 23 (Kd.slice 161 k161) (fun l => l.length ≤ 9223372036854775807 ∧ ∀ x ∈ l,W161 x) := opens_slice z161 Try.underlying23 (by kernel_rfl) opens161
/-- A server that came in. -/
structure W25 (x : S25) : Prop where
  f0 : (Lit.int .i64 x.f0).wf = true
  f2 : (Lit.int .i64 x.f2).wf = true
  f3 : (Lit.int .i64 x.f3).wf = true
  f4 : (Lit.int .i64 x.f4).wf = true
  f5 : (Lit.int .i64 x.f5).wf = true
  f6 : (Lit.int .i64 x.f6).wf = true
  f7 : x.f7.length ≤ 9223372036854775807 ∧ ∀ y ∈ x.f7, W47 y
  f8 : x.f8.length ≤ 9223372036854775807 ∧ ∀ y ∈ x.f8, W161 y
theorem cells25 : Try.prog.cellsOf 25 = 9 := by kernel_rfl
set_option maxRecDepth 20000 in
theorem open_server {H : Type} {enc : TypeId × Value → H} {W : World} {r : Reach} {base b0 : Nat} {spare : Nat → Bool} {held : Bool} {v : Value} {d : DataW H} {ps : List MemPlace} (hval : Value.okWide Try.prog W r b0 25 v) (h : DataW.Trod enc Try.prog W base spare held 25 v d ps) : ∃ s : S25,W25 s ∧ RdS W T0 v s := by
  obtain ⟨cs, rfl, hsz⟩ := okWide_struct Try.underlying25 hval
  rw [cells25] at hsz
  obtain ⟨l⟩ := cs
  obtain ⟨c0, c1, c2, c3, c4, c5, c6, c7, c8, rfl⟩ : ∃ c0 c1 c2 c3 c4 c5 c6 c7 c8, l = [c0, c1, c2, c3, c4, c5, c6, c7, c8] := by
    match l, hsz with
    | [c0, c1, c2, c3, c4, c5, c6, c7, c8], _ => exact ⟨c0, c1, c2, c3, c4, c5, c6, c7, c8, rfl⟩
  obtain ⟨fuel, hf⟩ := h
  obtain ⟨hl, n, hf⟩ := opens_fields Try.underlying25 (by kernel_rfl) hf
  obtain ⟨y0, h0⟩ := hf 0 _ rfl
  obtain ⟨y1, h1⟩ := hf 1 _ rfl
  obtain ⟨y2, h2⟩ := hf 2 _ rfl
  obtain ⟨y3, h3⟩ := hf 3 _ rfl
  obtain ⟨y4, h4⟩ := hf 4 _ rfl
  obtain ⟨y5, h5⟩ := hf 5 _ rfl
  obtain ⟨y6, h6⟩ := hf 6 _ rfl
  obtain ⟨y7, h7⟩ := hf 7 _ rfl
  obtain ⟨y8, h8⟩ := hf 8 _ rfl
  obtain ⟨a0, k0, w0⟩ := opens3.opens h0
  obtain ⟨a1, k1, w1⟩ := opens4.opens h1
  obtain ⟨a2, k2, w2⟩ := opens3.opens h2
  obtain ⟨a3, k3, w3⟩ := opens3.opens h3
  obtain ⟨a4, k4, w4⟩ := opens3.opens h4
  obtain ⟨a5, k5, w5⟩ := opens3.opens h5
  obtain ⟨a6, k6, w6⟩ := opens3.opens h6
  obtain ⟨a7, ⟨A7, n7, e7, l7, k7⟩, w7⟩ := opens22.opens h7
  obtain ⟨a8, ⟨A8, n8, e8, l8, k8⟩, w8⟩ := opens23.opens h8
  have e0 : c0 = .int .i64 a0 := by injection k0
  have e1 : c1 = .bool a1 := by injection k1
  have e2 : c2 = .int .i64 a2 := by injection k2
  have e3 : c3 = .int .i64 a3 := by injection k3
  have e4 : c4 = .int .i64 a4 := by injection k4
  have e5 : c5 = .int .i64 a5 := by injection k5
  have e6 : c6 = .int .i64 a6 := by injection k6
  have e7' : c7 = .slice A7 a7.length n7 := by injection e7
  have e8' : c8 = .slice A8 a8.length n8 := by injection e8
  subst e0 e1 e2 e3 e4 e5 e6 e7' e8'
  exact ⟨⟨a0,a1,a2,a3,a4,a5,a6,a7,a8⟩,⟨w0,w2,w3,w4,w5,w6,w7,w8⟩,_,_,rfl,⟨A7,n7,rfl,l7,(Kd.F_mono (Kd.C_F k47_heap k7) (fun _ _ => trivial))⟩,⟨A8,n8,rfl,l8,(Kd.F_mono (Kd.C_F k161_heap k8) (fun _ _ => trivial))⟩⟩
set_option maxRecDepth 20000 in
theorem open_bytes {H : Type} {enc : TypeId × Value → H} {W : World} {r : Reach} {base b0 : Nat} {spare : Nat → Bool} {held : Bool} {v : Value} {d : DataW H} {ps : List MemPlace} (hval : Value.okWide Try.prog W r b0 31 v) (h : DataW.Trod enc Try.prog W base spare held 31 v d ps) : ∃ l : List Int,l.length ≤ 9223372036854775807 ∧ Byt l ∧ RdF kb W T0 v l := by
  obtain ⟨A, len, cap, rfl⟩ := okWide_slice Try.underlying31 hval
  obtain ⟨fuel, hf⟩ := h
  obtain ⟨l, ⟨A', c, e, hl, k⟩, hw⟩ := opens31.opens hf
  have e' : Value.slice A len cap = .slice A' l.length c := by injection e
  rw [e']
  exact ⟨l, hw.1, fun x hx => wf_u8 (hw.2 x hx), A', c, rfl, hl, Kd.F_mono (Kd.C_F (Kd.heap_int .u8) k) (fun _ _ => trivial)⟩
end Go.Proofs.Ph
