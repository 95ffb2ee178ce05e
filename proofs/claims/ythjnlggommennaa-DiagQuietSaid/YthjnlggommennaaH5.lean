/- Part 6 of the proof of DiagHands, for every input: D9, Free, D14, D15. No condition. -/
import Derived.Test.YthjnlggommennaaH4
import Derived.OrdersHeld
import Derived.Defers
import Derived.WalkKit
import Derived.Recover
import Derived.Laws.Pointers
set_option linter.unusedVariables false
set_option linter.unusedSimpArgs false
set_option linter.unusedSectionVars false
/- diag: the service that a question is for. No condition. -/
namespace Go.Proofs.Ph
open Go Go.RowKit Go.Proofs.YthjnlggommennaaW.PrintWords
/-- A service of the table. -/
def served (n : Int) : Int ⊕ (Int × Nat) :=
  if n = 16 then .inr (1,165) else if n = 34 then .inr (2,166) else if n = 46 then .inr (-1,167) else if n = 20 then .inr (0,168) else if n = 25 then .inr (1,170) else if n = 62 then .inr (0,171)
  else if n = 52 then .inr (-1, 164) else if n = 54 then .inr (-1, 164) else if n = 55 then .inr (-1, 164) else .inl 17
def mFind (n : Int) (q : List Int) : Int ⊕ (Int × Nat) :=
  if n = 39 then if 0 < q.length then if q.getD 0 0 = 1 then .inr (1,147) else if q.getD 0 0 = 2 then .inr (5,148) else .inl 49 else .inl 19 else served n
def FindPost (w : World) (r : Int ⊕ (Int × Nat)) (e : Ending) (w' : World) : Prop := Fr (fun _ => False) w w' ∧ match r with
  | .inl why => e = .panicked [{ v := .iface 171 (.int .i64 why), recovered := false }]
  | .inr (l, F) => e = .returned (sv l F)
theorem seek_table (n : Int) : (∃ l F, served n = .inr (l, F) ∧ seek n table = some (sv l F)) ∨ (served n = .inl 17 ∧ seek n table = none) := by
  unfold served table seek seek seek seek seek seek seek seek seek seek
  repeat' split
  all_goals first | exact .inl ⟨_, _, rfl, rfl⟩ | exact .inr ⟨rfl, rfl⟩
set_option maxRecDepth 100000 in
set_option maxHeartbeats 2000000 in
theorem find_calls {w : World} {g : Nat} {P : Nat → Prop} {s : S25} {vi vd vq : Value} {q : List Int} {n : Int} (h : MPre w g P s vi vd vq q) (hB : Byt q) :
    Calls Try.prog 122 #[.pointer (some ⟨g, 0, none⟩), .int .u8 n] w (FindPost w (mFind n q)) := by
  have hg := blk_lt h.x
  obtain ⟨A, c, ev, hlc, hFq⟩ := h.q
  subst ev
  have c9 : w.cell? ⟨g, 9, none⟩ = some (.slice A q.length c) := (blk_cell h.x 9).trans rfl
  have H := Aside0.mk h
  clear h hFq hlc
  unfold mFind
  by_cases h1 : n = 39
  · rw [if_pos h1]
    subst h1
    by_cases h2 : 0 < q.length
    · rw [if_pos h2]
      obtain ⟨ad, ea, hb⟩ := rd_at H.out.q.now 0 h2
      subst ea
      have hb' : w.cell? ad = some (.int .u8 (q.getD 0 0)) := by have := hb; rwa [show ad.add 0 = ad by simp [Addr.add]] at this
      clear hb
      obtain ⟨m, en⟩ : ∃ m, m = q.getD 0 0 := ⟨_, rfl⟩
      rw [← en] at hb' ⊢
      clear en
      have hq' : (0 : Int) < (q.length : Int) := by omega
      replace c9 := (Fr.refl (fun _ => False) w).alloc (.cells #[.int .i64 0, .nilFunc] 175) |>.cellA c9
      replace hb' := (Fr.refl (fun _ => False) w).alloc (.cells #[.int .i64 0, .nilFunc] 175) |>.cellA hb'
      by_cases h3 : m = 1
      · subst h3
        rw [if_pos rfl]
        go_enter Try.func122, Try.ntmps122
        go_wp2_with (go_at_call 123; (with_reducible refine (unless_yes _ _).mono ?_); rintro e w' ⟨rfl, rfl⟩)
        refine bodyPost_ret (results_cell_row rfl _ _ w.heap.size 175 #[.int .i64 1,.func (.func 147) #[] #[]] (0,0) _ rfl (blk_new w _) Try.underlying175 rfl (by kernel_rfl)) rfl ?_
        exact ⟨((Fr.refl _ w).alloc _), rfl⟩
      · rw [if_neg h3]
        have h3' : (m == 1) = false := by simpa using h3
        by_cases h4 : m = 2
        · subst h4
          rw [if_pos rfl]
          clear h3
          go_enter Try.func122, Try.ntmps122
          go_wp2_with (go_at_call 123; (with_reducible refine (unless_yes _ _).mono ?_); rintro e w' ⟨rfl, rfl⟩)
          refine bodyPost_ret (results_cell_row rfl _ _ w.heap.size 175 #[.int .i64 5,.func (.func 148) #[] #[]] (0,0) _ rfl (blk_new w _) Try.underlying175 rfl (by kernel_rfl)) rfl ?_
          exact ⟨((Fr.refl _ w).alloc _), rfl⟩
        · rw [if_neg h4]
          have h4' : (m == 2) = false := by simpa using h4
          clear h3 h4
          go_enter Try.func122, Try.ntmps122
          go_wp2_with (go_at_call 123; (with_reducible refine (unless_yes _ _).mono ?_); rintro e w' ⟨rfl, rfl⟩)
          exact ⟨rfl, ((Fr.refl _ w).alloc _), rfl⟩
    · rw [if_neg h2]
      have h2' : ¬ (0 : Int) < (q.length : Int) := by omega
      replace c9 := (Fr.refl (fun _ => False) w).alloc (.cells #[.int .i64 0, .nilFunc] 175) |>.cellA c9
      go_enter Try.func122, Try.ntmps122
      go_wp2_with (go_at_call 123; (with_reducible refine (unless_no _ _).mono ?_); rintro e w' ⟨rfl, rfl⟩)
      exact ⟨rfl, ((Fr.refl _ w).alloc _), rfl⟩
  · rw [if_neg h1]
    have h1' : (n != 39) = true := by simpa using h1
    have hz := Try.zeroValue175
    rcases seek_table n with ⟨l, F, e1, e2⟩ | ⟨e1, e2⟩
    · rw [e1]
      have E2 := Aside0.mk e2
      clear h1 e1 e2
      go_enter Try.func122, Try.ntmps122
      go_wp2_with (first | (go_at_call 146; refine (services_calls _).mono ?_; rintro e w2 ⟨r,rfl,hm,hf2⟩; have hlk := run_lookup_u8 (P := Try.prog) Try.underlying208 Try.underlying5 hz hm n; rw [E2.out] at hlk; simp only [Option.getD_some,Option.isSome_some,sv] at hlk; have hbx : w2.heap[w.heap.size]? = some (.cells #[.int .i64 0,.nilFunc] 175 (0,0)) := hf2.blk (blk_new w _) (fun h => h); have hlt2 := blk_lt hbx; have d0 : w2.cell? ⟨w.heap.size,0,none⟩ = some (.int .i64 0) := (blk_cell hbx 0).trans rfl; have d1 : w2.cell? ⟨w.heap.size,1,none⟩ = some .nilFunc := (blk_cell hbx 1).trans rfl; have y0 := blk_frozen hbx 0; have y1 := blk_frozen hbx 1) | (go_at_call 123; (with_reducible refine (unless_yes _ _).mono ?_); rintro e w' ⟨rfl,rfl⟩))
      refine bodyPost_ret (results_cell_row rfl _ _ w.heap.size 175 #[.int .i64 l,.func (.func F) #[] #[]] (0,0) _ rfl (blk_alloc (blk_put (blk_put hbx 0 _ rfl) 1 _ rfl) _) Try.underlying175 rfl (by kernel_rfl)) rfl ?_
      exact ⟨((((((Fr.refl (fun _ => False) w).alloc _).trans hf2 (fun _ h => .inl h)).setCell (p := ⟨w.heap.size,0,none⟩) (.inr (Nat.le_refl _)) _).setCell (p := ⟨w.heap.size,1,none⟩) (.inr (Nat.le_refl _)) _).alloc _),rfl⟩
    · rw [e1]
      have E2 := Aside0.mk e2
      clear h1 e1 e2
      go_enter Try.func122, Try.ntmps122
      go_wp2_with (first | (go_at_call 146; refine (services_calls _).mono ?_; rintro e w2 ⟨r,rfl,hm,hf2⟩; have hlk := run_lookup_u8 (P := Try.prog) Try.underlying208 Try.underlying5 hz hm n; rw [E2.out] at hlk; simp only [Option.getD_none,Option.isSome_none] at hlk) | (go_at_call 123; (with_reducible refine (unless_no _ _).mono ?_); rintro e w' ⟨rfl,rfl⟩))
      exact ⟨rfl, (((Fr.refl (fun _ => False) w).alloc _).trans hf2 (fun _ h => .inl h)).alloc _, rfl⟩
end Go.Proofs.Ph
/- A region that draws its order, and may panic, in a function that defers. No condition. -/
namespace Go.Proofs.Ph
open Go Go.RowKit
/-- Q, but of a panic's frame nothing is known but what it defers, and what temporary t holds. -/
def QFree (t : Tmp) (v : Value) (Q : Exit → Act → World → Prop) : Exit → Act → World → Prop
  | .panic c, a, w => ∀ tmps : Array Value, tmps.getD t undef = v → Q (.panic c) { tmps := tmps, defers := a.defers } w
  | e, a, w => Q e a w
section
variable {P : Program} {ops : Array Oper} {Q : Exit → Act → World → Prop} {md : Region.Mode} {t : Tmp} {v : Value}
theorem put_keep {a : Act} {d : Option Tmp} {u : Value} (hd : d ≠ some t) (ha : a.tmps.getD t undef = v) : (a.put d u).tmps.getD t undef = v := by
  cases d with
  | none => exact ha
  | some k =>
    have hk : k ≠ t := fun e => hd (by rw [e])
    show (a.tmps.setIfInBounds k u).getD t undef = v
    rw [← ha]
    simp [Array.getD_eq_getD_getElem?, Array.getElem?_setIfInBounds_ne hk]
theorem wp_free {o : Oper} {a : Act} {w : World} {K K' : Act → World → Prop} (hd : o.dst ≠ some t) (ha : a.tmps.getD t undef = v) (h : ∀ a' w',a'.tmps.getD t undef = v → K a' w' → K' a' w')
    (hh : o.wp P a w K (QFree t v Q)) : o.wp P a w K' Q := by
  unfold Oper.wp at *
  generalize (execOp a.eval o).run P w = r at *
  cases r with
  | ok n w' =>
    cases n <;> simp only [Oper.upon] at hh ⊢ <;>
      first
        | exact h _ _ (put_keep hd ha) hh
        | exact h _ _ (put_keep (a := { a with defers := _ }) hd ha) hh
        | exact Calls.mono hh (fun e w'' he => by cases e <;> first | exact h _ _ (put_keep hd ha) he | exact he a.tmps ha | exact he)
        | exact Rows.mono hh (fun _ _ he => h _ _ (put_keep hd ha) he)
        | exact hh
  | halt x w' => cases x <;> simp only [Oper.upon] at hh ⊢ <;> first | exact hh a.tmps ha | exact hh
theorem wpOp_free {i : Nat} {a : Act} {w : World} {K K' : Act → World → Prop} (hd : ∀ o,ops[i]? = some o → o.dst ≠ some t) (ha : a.tmps.getD t undef = v) (h : ∀ a' w',a'.tmps.getD t undef = v → K a' w' → K' a' w')
    (hh : wpOp P ops (QFree t v Q) i K a w) : wpOp P ops Q i K' a w := by
  unfold wpOp at *
  cases ho : ops[i]? with
  | none => simp only [ho] at hh ⊢; exact h _ _ ha hh
  | some o =>
    simp only [ho] at hh ⊢
    split
    · rename_i hw
      simp only [hw, if_true] at hh
      exact hh.imp (wp_free (hd o ho) ha h) (fun h2 => h2)
    · rename_i hw
      simp only [hw] at hh
      exact h _ _ (put_keep (hd o ho) ha) hh
theorem wpAny_free (hd : ∀ (i : Nat) (o : Oper),ops[i]? = some o → o.dst ≠ some t) : ∀ (fuel : Nat) (listed : Array Bool) (a : Act) (w : World),a.tmps.getD t undef = v → wpAny P md ops (QFree t v Q) fuel listed a w → wpAny P md ops Q fuel listed a w
  | 0, _, _, _, _, h => h
  | fuel + 1, _, _, _, ha, h => ⟨h.1, fun i hi => wpOp_free (hd i) ha (fun a' w' ha' h' => wpAny_free hd fuel _ a' w' ha' h') (h.2 i hi)⟩
theorem wp_region_free {S : World → Prop} {id : Nat} {a : Act} {w : World} (t : Tmp) (v : Value) (hm : P.follows .mixedOrders = true) (hd : (ops.toList.all fun o => o.dst != some t) = true) (ha : a.tmps.getD t undef = v) (hS : S w.drew)
    (h : S w.drew → wpAnyH P .any ops (QFree t v Q) S ops.size (Array.replicate ops.size false) a w.drew) : (Code.region id ops true).wp P Q a w := by
  refine wp_region_any hm (wpAny_free (t := t) (v := v) ?_ _ _ _ _ ha (wpAny_of_held _ _ _ _ (h hS)))
  intro i o ho
  have hmem : o ∈ ops.toList := by
    obtain ⟨hi, rfl⟩ := Array.getElem?_eq_some_iff.1 ho
    exact Array.mem_toList_iff.2 (Array.getElem_mem hi)
  have := List.all_eq_true.1 hd o hmem
  simpa using this
end
end Go.Proofs.Ph
/- diag: a refusal is caught. No condition. -/
namespace Go.Proofs.Ph
open Go Go.RowKit Go.Proofs.YthjnlggommennaaW.PrintWords
theorem run_assert_yes (why : Int) (w : World) : (Instr.typeAssert (.iface 171 (.int .i64 why)) 20 171 true).run Try.prog w = .ok (.tuple #[.int .i64 why,.bool true]) w := by
  simp [Instr.typeAssert, run_underlying Try.underlying171]
theorem run_assert_no (w : World) : (Instr.typeAssert .nilIface 20 171 true).run Try.prog w = .ok (.tuple #[.int .i64 0, .bool false]) w := by
  have hz := Try.zeroValue171
  simp [Instr.typeAssert, run_underlying Try.underlying171, hz]
theorem catch_refused (n why : Int) {b1 b2 : Nat} {w : World} {v0 : Value} (h1 : w.cell? ⟨b1,0,none⟩ = some (.int .u8 n)) (h2 : w.heap[b2]? = some (.cells #[v0] 31 (0,0))) (hv0 : v0.oneCell' = true) (hn : 0 ≤ n ∧ n ≤ 255) :
    CallsD Try.prog 121 #[.pointer (some ⟨b1,0,none⟩),.pointer (some ⟨b2,0,none⟩)] (.panicking [{ v := .iface 171 (.int .i64 why),recovered := false }]) w fun e u' w' =>
      e = .returned (.tuple #[]) ∧ u' = .panicking [{ v := .iface 171 (.int .i64 why),recovered := true }] ∧ ∃ v,RdF kb w' (fun k => w.heap.size ≤ k) v [127,n % 256,why % 256] ∧ Fr (· = b2) w w' ∧ w'.heap[b2]? = some (.cells #[v] 31 (0,0)) := by
  refine callsD_of_wpS Try.func121 rfl fun c₀ cs hu => ?_
  apply wpS_seq
  apply wpS_region
  have hy := run_assert_yes
  have hn' := run_assert_no
  simp [wpOpsS, go_sem, recoverD, hu, Try.ntmps121, Exit.thenS, hy, hn']
  have hlt := blk_lt h2
  have c1 : w.cell? ⟨b2, 0, none⟩ = some v0 := (blk_cell h2 0).trans rfl
  have z1 := blk_frozen h2 0
  refine wpS_of_wp ?_
  simp only [List.size_toArray,List.length_cons,List.length_nil,Nat.reduceAdd,Nat.reduceSub,Array.replicate_succ,Array.replicate_zero,List.push_toArray,List.append_toArray,List.nil_append,List.cons_append,List.setIfInBounds_toArray,List.set_cons_zero,List.set_cons_succ]
  clear hy hn'
  go_wp2_with (go_at_call 31; refine (deny_calls n why w).mono ?_; rintro e w1 ⟨v1,rfl,hv1,hf1⟩; have hb1 := hf1.blk h2 (fun h => h); replace c1 := hf1.cellA c1; have z1 := blk_frozen hb1 0; have HV := Aside0.mk hv1; obtain ⟨A1,k1,ev1, -, -⟩ := hv1; subst ev1)
  have hf : Fr (· = b2) w (w1.setCell ⟨b2,0,none⟩ (.slice A1 3 k1)) := Fr.setCell (S := fun i => i = b2) (hf1.mono (fun _ h => h.elim)) (p := ⟨b2,0,none⟩) (.inl rfl) _
  refine ⟨rfl, _, rfl, .tuple #[], results_none rfl _ _ _, rfl, rfl, .slice A1 3 k1, ?_, hf, blk_put hb1 0 _ rfl⟩
  exact (HV.out.step (w1 := w1.setCell ⟨b2,0,none⟩ (.slice A1 3 k1)) (fun k hk _ => Below.heap_setCell w1 ⟨b2,0,none⟩ _ k (by show k ≠ b2; omega)))
theorem catch_idle (p q : Value) (w : World) :
    CallsD Try.prog 121 #[p, q] .returning w fun e u' w' => e = .returned (.tuple #[]) ∧ u' = .returning ∧ w' = w := by
  refine callsD_of_wpS Try.func121 rfl fun c₀ cs hu => ?_
  apply wpS_seq
  apply wpS_region
  have hy := run_assert_yes
  have hn' := run_assert_no
  simp [wpOpsS, go_sem, recoverD, hu, Try.ntmps121, Exit.thenS, hy, hn']
  refine wpS_of_wp ?_
  simp only [List.size_toArray,List.length_cons,List.length_nil,Nat.reduceAdd,Nat.reduceSub,Array.replicate_succ,Array.replicate_zero,List.push_toArray,List.append_toArray,List.nil_append,List.cons_append,List.setIfInBounds_toArray,List.set_cons_zero,List.set_cons_succ]
  clear hy hn'
  go_wp2
  cases c₀
  simp only at hu
  subst hu
  exact ⟨rfl, _, rfl, .tuple #[], results_none rfl _ _ _, rfl, rfl, rfl⟩
end Go.Proofs.Ph
/- diag: a question is answered. No condition. -/
namespace Go.Proofs.Ph
open Go Go.RowKit Go.Proofs.YthjnlggommennaaW.PrintWords
attribute [local go_sem ↓] Go.wp_at_zero Go.wp_at_succ
section
variable {w w1 w' : World} {g : Nat} {P : Nat → Prop} {s : S25} {vi vd vq : Value} {q : List Int} {r : Res} {e : Ending}
theorem MPre.fr (h : MPre w g P s vi vd vq q) (hf : Fr (fun _ => False) w w1) : MPre w1 g P s vi vd vq q :=
  ⟨hf.blk h.x (fun h => h),h.i.step (fun k _ hlt => hf.block k hlt (fun h => h)),h.d.step (fun k _ hlt => hf.block k hlt (fun h => h)),h.q.step (fun k _ hlt => hf.block k hlt (fun h => h)),h.g⟩
theorem MPost.from (h : MPost w1 g P vq r e w') (hf : Fr (fun _ => False) w w1) : MPost w g P vq r e w' := by
  have hN : ∀ k, Now w1 P k → Now w P k := fun k hk => hk.imp_right (fun h => Nat.le_trans hf.size h)
  obtain ⟨he, hF, vi, vd, hx, hi, hd⟩ := h
  refine ⟨?_, Fr.trans (S := fun i => i = g) (hf.mono (fun _ h => h.elim)) hF (fun _ h => .inl h), vi, vd, hx, hi.mono hN, hd.mono hN⟩
  unfold Ends at he ⊢
  cases hr : r.2 with
  | inl why => rw [hr] at he; exact he
  | inr l => rw [hr] at he; obtain ⟨v, e1, h1⟩ := he; exact ⟨v, e1, h1.mono hN⟩
end
section
variable {w : World} {g : Nat} {P : Nat → Prop} {s : S25} {vi vd vq : Value} {q : List Int} {n : Int}
/-- The result's cell. -/
theorem results82 {w : World} {tmps : Array Value} {b : Nat} {v : Value} (hp : tmps.getD 4 undef = .pointer (some ⟨b,0,none⟩)) (hb : w.heap[b]? = some (.cells #[v] 31 (0,0))) : (results Try.f82 tmps).run Try.prog w = .ok v w := by
  have hp' : tmps[4]?.getD undef = .pointer (some ⟨b, 0, none⟩) := by simpa using hp
  have hc : w.cell? ⟨b, 0, none⟩ = some v := (blk_cell hb 0).trans rfl
  have hr : Try.f82.results = #[.cell 4 31] := by kernel_rfl
  have hu := Try.underlying31
  simp [results, hr, hp', asAddr, go_sem, hc, hu]
/-- What is deferred. -/
def back (b1 b2 : Nat) : Deferred := { target := .fn (.func 121) #[.pointer (some ⟨b1, 0, none⟩), .pointer (some ⟨b2, 0, none⟩)], args := #[] }
theorem leaves_refused {R : Ending → World → Prop} {tmps : Array Value} {b1 b2 : Nat} {w : World} {v0 : Value} {why : Int} (hn : 0 ≤ n ∧ n ≤ 255) (hp : tmps.getD 4 undef = .pointer (some ⟨b2,0,none⟩)) (hb1 : w.heap[b1]? = some (.cells #[.int .u8 n] 5 (0,0))) (hb2 : w.heap[b2]? = some (.cells #[v0] 31 (0,0))) (hv0 : v0.oneCell' = true)
    (hR : ∀ v w', RdF kb w' (fun k => w.heap.size ≤ k) v [127, n % 256, why % 256] → Fr (· = b2) w w' → R (.returned v) w') :
    Leaves Try.prog Try.f82 tmps R [back b1 b2] (.panicking [{ v := .iface 171 (.int .i64 why), recovered := false }]) w := by
  refine leaves_cons (f := 121) (args := #[.pointer (some ⟨b1, 0, none⟩), .pointer (some ⟨b2, 0, none⟩)]) (by simp) (by simp [go_sem]) ?_
  refine (catch_refused n why ((blk_cell hb1 0).trans rfl) hb2 hv0 hn).mono ?_
  rintro e u' w'' ⟨rfl, rfl, v, hv, hf, hb⟩
  simp only [Leaves, settle, List.dropWhile_nil]
  exact ⟨v, results82 hp hb, hR v w'' hv hf⟩
theorem leaves_idle {R : Ending → World → Prop} {tmps : Array Value} {b1 b2 : Nat} {w : World} {v : Value} (hp : tmps.getD 4 undef = .pointer (some ⟨b2,0,none⟩)) (hb2 : w.heap[b2]? = some (.cells #[v] 31 (0,0))) (hR : R (.returned v) w) :
    Leaves Try.prog Try.f82 tmps R [back b1 b2] .returning w := by
  refine leaves_cons (f := 121) (args := #[.pointer (some ⟨b1, 0, none⟩), .pointer (some ⟨b2, 0, none⟩)]) (by simp) (by simp [go_sem]) ?_
  refine (catch_idle _ _ w).mono ?_
  rintro e u' w'' ⟨rfl, rfl, rfl⟩
  simp only [Leaves, settle]
  exact ⟨v, results82 hp hb2, hR⟩
/-- An end: the result's cell is set. -/
theorem MPost.denied {w w1 w2 w' : World} {b2 : Nat} {v : Value} {l : List Int} {s' : S25} {r : Int ⊕ List Int} {e : Ending} (h : MPost w1 g P vq (s',r) e w2) (hf1 : Fr (fun _ => False) w w1) (hs : w.heap.size ≤ b2) (hlt : b2 < w1.heap.size) (hP : ¬ P b2) (hgb : g ≠ b2)
    (hv : RdF kb w' (Now w P) v l) (hf : Fr (· = b2) w2 w') : MPost w g P vq (s', .inr l) (.returned v) w' := by
  obtain ⟨-, hF, vi, vd, hx, hi, hd⟩ := h
  have hN : ∀ k, Now w1 P k → Now w P k := fun k hk => hk.imp_right (fun h => Nat.le_trans hf1.size h)
  have hne : ∀ k, Now w1 P k → ¬ k = b2 := fun k hk e => by
    subst e
    rcases hk with hk | hk
    · exact hP hk
    · omega
  exact ⟨⟨v,rfl,hv⟩,Fr.trans (S := fun i => i = g) (Fr.trans (S := fun i => i = g) (hf1.mono (fun _ h => h.elim)) hF (fun _ h => .inl h)) hf (fun i hi => .inr (hi ▸ hs)),vi,vd,hf.blk hx hgb,
    (hi.fr hf (fun k hk _ => hne k hk)).mono hN, (hd.fr hf (fun k hk _ => hne k hk)).mono hN⟩
theorem MPre.bound {w : World} (h : MPre w g P s vi vd vq q) : MPre w g (fun k => P k ∧ k < w.heap.size) s vi vd vq q := ⟨h.x,h.i.bound,h.d.bound,h.q.bound,fun hk => h.g hk.1⟩
theorem MPost.unbound {w w' : World} {r : Res} {e : Ending} (h : MPost w g (fun k => P k ∧ k < w.heap.size) vq r e w') : MPost w g P vq r e w' := by
  have hN : ∀ k, Now w (fun k => P k ∧ k < w.heap.size) k → Now w P k := fun k hk => hk.imp_left And.left
  obtain ⟨he, hF, vi, vd, hx, hi, hd⟩ := h
  refine ⟨?_, hF, vi, vd, hx, hi.mono hN, hd.mono hN⟩
  unfold Ends at he ⊢
  cases hr : r.2 with
  | inl why => rw [hr] at he; exact he
  | inr l => rw [hr] at he; obtain ⟨v, e1, h1⟩ := he; exact ⟨v, e1, h1.mono hN⟩
set_option maxHeartbeats 2000000 in
theorem answer_unknown {why : Int} (hn : 0 ≤ n ∧ n ≤ 255) (h : MPre w g P s vi vd vq q) (hB : Byt q) (hf : mFind n q = .inl why) :
    Calls Try.prog 82 #[.pointer (some ⟨g, 0, none⟩), .int .u8 n] w (MPost w g P vq (s, .inr [127, n % 256, why % 256])) := by
  refine Calls.mono ?_ (fun e w' h => MPost.unbound h)
  replace h := h.bound
  have hg := blk_lt h.x
  obtain ⟨w1, ew1⟩ : ∃ w1, w1 = (w.alloc (.cells #[.int .u8 n] 5)).alloc (.cells #[.slice none 0 0] 31) := ⟨_, rfl⟩
  have hf1 : Fr (fun _ => False) w w1 := by rw [ew1]; exact ((Fr.refl _ w).alloc _).alloc _
  have FC := find_calls (n := n) (h.fr hf1) hB
  rw [hf] at FC
  have hb1 : w1.heap[w.heap.size]? = some (.cells #[.int .u8 n] 5 (0, 0)) := by rw [ew1]; exact blk_alloc (blk_new w _) _
  have hb2 : w1.heap[w.heap.size + 1]? = some (.cells #[.slice none 0 0] 31 (0,0)) := by rw [ew1]; exact blk_new' (by show _ = (Array.push _ _).size; rw [Array.size_push])
  have H := Aside0.mk h
  have FC' := Aside0.mk FC
  have EW := Aside0.mk ew1
  have HB1 := Aside0.mk hb1
  have HB2 := Aside0.mk hb2
  clear h FC ew1 hf hb1 hb2
  go_enter_defers Try.func82, Try.ntmps82
  go_wp2_with (go_at_call 122; rw [← EW.out]; refine FC'.out.mono ?_; rintro e w2 ⟨hf2, rfl⟩)
  refine leaves_refused hn rfl (hf2.blk HB1.out (fun h => h)) (hf2.blk HB2.out (fun h => h)) rfl ?_
  intro v w' hv hf
  have hs1 := blk_lt HB2.out
  exact MPost.denied (b2 := w.heap.size + 1) (((H.out.fr hf1).fr hf2).refuse (why := why) |>.from hf2) hf1 (by omega) hs1 (fun hk => by have := hk.2; omega) (by omega) (hv.mono (fun k hk => .inr (Nat.le_trans (hf1.trans hf2 (fun _ h => .inl h)).size hk))) hf
end
end Go.Proofs.Ph
