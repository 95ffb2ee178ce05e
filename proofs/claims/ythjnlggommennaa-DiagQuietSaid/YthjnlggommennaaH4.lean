/- Part 5 of the proof of DiagHands, for every input: D10, D11, D12, D13, D8. No condition. -/
import Derived.Test.YthjnlggommennaaH3
import Derived.WalkSpells
import Derived.Laws.IdiomCopy
import Derived.Deep.RegionHeld3
import Derived.Deep.DrawnRows
import Derived.Laws.EntriesVeiled
import Derived.MapKept
set_option linter.unusedVariables false
set_option linter.unusedSimpArgs false
set_option linter.unusedSectionVars false
/- dtc: troubles with some status. No condition. -/
namespace Go.Proofs.Ph
open Go Go.RowKit Go.Proofs.YthjnlggommennaaW.PrintWords
theorem i161 : (Try.prog.info? 161).map (fun i => (i.zero,i.size,i.bytes)) = some (some (.agg #[.int .i64 0,.int .i64 0,.int .i64 0,.int .i64 0]),4,32) := by kernel_rfl
/-- The place of the first that is so; -1: none is. -/
def findG {α : Type} (p : α → Bool) : List α → Nat → Int
  | [], _ => -1
  | x :: l, k => if p x then k else findG p l (k + 1)
section
variable {α : Type} (p : α → Bool) (z : α)
theorem findG_step (l : List α) (k : Nat) (h : k < l.length) : findG p (l.drop k) k = if p (l.getD k z) then (k : Int) else findG p (l.drop (k + 1)) (k + 1) := by
  rw [List.drop_eq_getElem_cons h, findG, List.getD_eq_getElem?_getD, List.getElem?_eq_getElem h]
  rfl
theorem findG_range (l : List α) (k : Nat) : (findG p l k = -1 ∧ ∀ x ∈ l,p x = false) ∨ ∃ j,j < l.length ∧ findG p l k = ((k + j : Nat) : Int) ∧ p (l.getD j z) = true ∧ ∀ x ∈ l.take j,p x = false := by
  induction l generalizing k with
  | nil => exact .inl ⟨rfl, by simp⟩
  | cons x l ih =>
    unfold findG
    by_cases h : p x = true
    · rw [if_pos h]; exact .inr ⟨0, by simp, rfl, by simpa using h, by simp⟩
    · rw [if_neg h]
      have h' : p x = false := by simpa using h
      rcases ih (k + 1) with ⟨h2, h3⟩ | ⟨j, hj, h2, h3, h4⟩
      · exact .inl ⟨h2, by simpa [h'] using h3⟩
      · exact .inr ⟨j + 1, by simpa using hj, by rw [h2]; congr 1; omega, by simpa using h3, by simpa [h'] using h4⟩
end
/-- Has it none of a mask's bits? -/
def gone (m : Int) (x : S161) : Bool := bits BinOp.and IntKind.i64 x.f1 m == 0
theorem gone_calls {w : World} {b : Nat} {m : Int} {x : S161} (hb : w.cell? ⟨b, 0, none⟩ = some (.int .i64 m)) :
    Calls Try.prog 144 #[.agg #[.int .i64 x.f0,.int .i64 x.f1,.int .i64 x.f2,.int .i64 x.f3],.pointer (some ⟨b,0,none⟩)] w fun e w' => e = .returned (.bool (gone m x)) ∧ Fr (fun _ => False) w w' := by
  have hbi := World.block_lt_of_cell? w _ hb
  go_enter Try.func144, Try.ntmps144
  go_wp2
  go_ret
  exact ⟨rfl, (Fr.refl _ w).alloc _⟩
set_option maxHeartbeats 1000000 in
theorem indexT_calls {w : World} {b : Nat} {m : Int} {v : Value} {l : List S161} (hv : Rd k161 w v l) (hb : w.cell? ⟨b,0,none⟩ = some (.int .i64 m)) :
    Calls Try.prog 163 #[v,.func (.func 144) #[] #[.pointer (some ⟨b,0,none⟩)]] w fun e w' => e = .returned (.int .i64 (findG (gone m) l 0)) ∧ Fr (fun _ => False) w w' := by
  have hm := hv.max
  obtain ⟨A, c, ev, hlc, hC⟩ := hv
  subst ev
  have hbi := World.block_lt_of_cell? w _ hb
  have HC := Aside0.mk hC
  have HI := Aside0.mk hb
  clear hC hb
  go_enter Try.func163, Try.ntmps163
  go_wp2
  go_loopw [8] (fun t wr => ∃ k : Nat,k ≤ l.length ∧ t = .int .i64 k ∧ Aside0 (findG (gone m) (l.drop k) k = findG (gone m) l 0) ∧ Aside0 (Fr (fun _ => False) w wr)) (fun t _ => l.length - (intOf t).toNat)
  case atStart => exact ⟨0, Nat.zero_le _, rfl, ⟨rfl⟩, ⟨Fr.refl _ _⟩⟩
  case round =>
    obtain ⟨k, hk, rfl, hT, hD⟩ := hrel
    by_cases hlt : k < l.length
    · obtain ⟨ad, e1, x0, x1, x2, x3⟩ := at_T161 HC.out (k : Int) (by omega) (by omega)
      subst e1
      have hb := Fr.below hD.out (fun _ h => h.elim)
      replace x0 := pw_cell_below hb x0
      replace x1 := pw_cell_below hb x1
      replace x2 := pw_cell_below hb x2
      replace x3 := pw_cell_below hb x3
      rw [show ((k : Int)).toNat = k from rfl] at x0 x1 x2 x3
      obtain ⟨x, ex⟩ : ∃ x, x = rd_T161 l k := ⟨_, rfl⟩
      rw [← ex] at x0 x1 x2 x3
      have hst := findG_step (gone m) z161 l k hlt
      have HST := Aside0.mk (hT.out.symm.trans hst)
      have EX := Aside0.mk ex
      clear hst ex hT
      have hb1 : (0 : Int) ≤ (k : Int) := by omega
      have hb2 : (k : Int) < (l.length : Int) := by omega
      by_cases hp : gone m x = true
      · have HP := Aside0.mk hp
        clear hp
        go_wp2_with (go_at_call 144; refine (gone_calls ((hD.out.cell hbi (fun h => h)).trans HI.out)).mono ?_; rintro e w2 ⟨he,hf2⟩; rw [HP.out] at he; subst he)
        go_ret
        exact ⟨by rw [HST.out, show l.getD k z161 = x from EX.out.symm, if_pos HP.out]; rfl, hD.out.trans hf2 (fun _ h => h.elim)⟩
      · have HP := Aside0.mk (show gone m x = false by simpa using hp)
        clear hp
        go_wp2_with (go_at_call 144; refine (gone_calls ((hD.out.cell hbi (fun h => h)).trans HI.out)).mono ?_; rintro e w2 ⟨he,hf2⟩; rw [HP.out] at he; subst he)
        go_roundw
        case rel => exact ⟨k + 1,by omega,by go_num,⟨by rw [HST.out,show l.getD k z161 = x from EX.out.symm,if_neg (by rw [HP.out]; simp)]⟩,⟨hD.out.trans hf2 (fun _ h => h.elim)⟩⟩
        case measure => simp [intOf]; omega
    · have HT := Aside0.mk (hT.out.symm.trans (by rw [List.drop_of_length_le (by omega)]; rfl : _ = (-1 : Int)))
      have hn : ¬ ((k : Int) < (l.length : Int)) := by omega
      clear hT
      go_wp2
      go_ret
      exact ⟨by rw [HT.out]; rfl, hD.out⟩
theorem cloneT_calls {w : World} {v : Value} {xs : List S161} (hx : Rd k161 w v xs) (hl : xs.length ≤ 1000) : Calls Try.prog 114 #[v] w fun e w' => ∃ v',e = .returned v' ∧ k161.R 161 w' w.heap.size (fun k => w.heap.size ≤ k) v' xs ∧ Fr (fun _ => False) w w' := by
  have hx' := hx
  obtain ⟨A1, c1, rfl, hc1, hF⟩ := hx'
  have HX := Aside0.mk hx
  have HF := Aside0.mk hF
  clear hx hF
  cases A1 with
  | none =>
    have he := Aside0.mk (rd_none HX.out)
    have kn := fun W => Lib.run_eql_slice_nil (P := Try.prog) W 23 161 none xs.length c1 0 0 Try.underlying23
    go_enter Try.func114, Try.ntmps114
    go_wp2
    go_ret
    exact ⟨_, rfl, by rw [he.out]; exact Kd.R_nil _ _ _ _ _, Fr.refl _ _⟩
  | some ad =>
    have kn := fun W => Lib.run_eql_slice_nil (P := Try.prog) W 23 161 (some ad) xs.length c1 0 0 Try.underlying23
    have R0 : Kd.R k161 161 (w.alloc (.cells #[] 161)) w.heap.size (fun k => w.heap.size ≤ k) (.slice (some ⟨w.heap.size, 0, none⟩) 0 0) [] :=
      ⟨fun k hk => by simp [Value.ownBlock] at hk; omega,[],⟨by simp,.inr ⟨w.heap.size,0,#[],rfl,Nat.le_refl _,blk_new w _,Nat.le_refl _,by simp [maxLen],by simp,by simp⟩⟩,⟨by simp,fun j p hj => by simp at hj⟩⟩
    have R0' := Aside0.mk R0
    clear R0
    go_enter Try.func114, Try.ntmps114
    go_wp2_with (at_builtin; refine Kd.R_append_rows k161 (w0 := w) (W := w.alloc (.cells #[] 161)) w.heap.size rfl _ _ 23 161 _ 32 rfl Try.underlying23 i161 rfl (by decide) (by omega) (.slice (some ⟨w.heap.size,0,none⟩) 0 0) [] xs (some ad) xs.length c1 (fun k => w.heap.size ≤ k) (fun _ => False) rfl rfl R0'.out (Kd.C_alloc HF.out _) (fun x cs h => by rw [k161_open h]; exact k161_mkM _ _ _ _) (fun k hk => hk.elim) (fun k hk => Nat.le_trans (by simp) hk) ((Below.refl _ _).alloc (Nat.le_refl _) _) (by simp) (by simp; omega) ?_; intro v2 w2 ho2 hb2 hg2 hat2)
    go_ret
    exact ⟨_, rfl, ho2, ((Fr.refl (fun _ => False) w).alloc _).grown hg2 (fun k hk => .inr (by simp [Value.ownBlock] at hk; omega))⟩
end Go.Proofs.Ph
/- slices.DeleteFunc on a row of troubles of the call's own. No condition. -/
namespace Go.Proofs.Ph
open Go Go.RowKit Go.Proofs.YthjnlggommennaaW.PrintWords
theorem i161s : ∃ i, Try.prog.info? 161 = some i ∧ i.size = 4 := by
  obtain ⟨i, h, e⟩ := Option.map_eq_some_iff.1 i161
  exact ⟨i, h, (Prod.ext_iff.1 (Prod.ext_iff.1 e).2).1⟩
theorem cut161 {g n c m : Nat} (hm : m < n) (hc : n ≤ c) (W : World) : (Instr.slice 23 (.slice (some ⟨g,0,none⟩) n c) (some (.int .i64 (m : Int))) none none).run Try.prog W = .ok (.slice (some ⟨g,m * 4,none⟩) (n - m) (c - m)) W := by
  obtain ⟨i, hi, hsz⟩ := i161s
  have hel : Try.prog.elem 23 = 161 := by simp [Program.elem, Try.underlying23]
  rw [run_slice_l W 23 _ n c (by rw [hel]; exact Try.underlying23) .i64 (m : Int) (Int.natCast_nonneg _) (by omega), hel]
  have h1 : c ≠ m := by omega
  by_cases h0 : m = 0
  · subst h0
    simp [sizeOf, typeInfo, hi, hsz, sliced, Result.andThen, Addr.add, h1]
  · simp [sizeOf, typeInfo, hi, hsz, sliced, Result.andThen, Addr.add, h1]
    omega
theorem zeros161 (n : Nat) : (Builtin.zeroCells #[.int .i64 0,.int .i64 0,.int .i64 0,.int .i64 0] n).toList = List.replicate (n * 4) (.int .i64 0) := by
  simp [Builtin.zeroCells]
  apply List.ext_getElem
  · simp
  · intro i h1 h2
    simp
    have : i % 4 < 4 := Nat.mod_lt _ (by omega)
    generalize i % 4 = j at this
    match j, this with
    | 0, _ => rfl
    | 1, _ => rfl
    | 2, _ => rfl
    | 3, _ => rfl
theorem run_clear161 {w : World} {g m n cap : Nat} {cells : Array Value} (hg : w.heap[g]? = some (.cells cells 161 (0,0))) (hs : cells.size = cap * 4) (hm : m < n) (hn : n ≤ cap) (ty : TypeId) (c : Nat) :
    (Builtin.clear_ #[23] ty #[.slice (some ⟨g,m * 4,none⟩) (n - m) c]).run Try.prog w = .ok (.tuple #[]) (w.setCells g (m * 4) (List.replicate ((n - m) * 4) (.int .i64 0))) := by
  have hz := Try.zeroValue161
  have hst := run_storeCells_cells (P := Try.prog) g (m * 4) (List.replicate ((n - m) * 4) (.int .i64 0)) 0 w
    (by intro j hj; rw [List.length_replicate] at hj; rw [blk_cell hg]; rw [Array.getElem?_eq_getElem (by omega)]; rfl) (by intro j hj; exact blk_frozen hg _) (by intro v hv; rw [List.eq_of_mem_replicate hv]; rfl)
  simp only [Nat.add_zero] at hst
  obtain ⟨d, hd⟩ : ∃ d, n - m = d + 1 := ⟨n - m - 1, by omega⟩
  rw [hd] at hst ⊢
  simp [Builtin.clear_, run_underlying Try.underlying23, hz, Value.cells, zeros161, hst]
/-- The head of a row stays, whatever becomes of its tail. -/
theorem R_tail {w : World} {base g cap n m : Nat} {ok : Nat → Prop} {xs : List S161} (h : k161.R 161 w base ok (.slice (some ⟨g,0,none⟩) n cap) xs) (hm : m ≤ n) (l : List Value) (hl : m * 4 + l.length ≤ cap * 4) :
    k161.R 161 (w.setCells g (m * 4) l) base ok (.slice (some ⟨g, 0, none⟩) m cap) (xs.take m) := by
  have hn := (Kd.R_reads' h).1
  obtain ⟨h0, inner, ⟨hl1, h2⟩, hr⟩ := Kd.R_take h (m := m) (by omega)
  have hlen : (xs.take m).length = m := by rw [List.length_take]; omega
  rcases h2 with ⟨hv, _⟩ | ⟨g', cap', cur, hv, hb, hh, hnc, hcm, hcs, ht⟩
  · cases hv
  · injection hv with ha _ hc
    injection ha with ha
    injection ha with hg
    subst hg hc
    replace hcs : cur.size = cap * 4 := hcs
    obtain ⟨cur', h3, h4, h5⟩ := setCells_row l (m * 4) w cur hh (by omega)
    refine ⟨h0, inner, ⟨hl1, .inr ⟨g, cap, cur', by rw [hlen], hb, h3, hnc, hcm, by rw [h4]; exact hcs, ?_⟩⟩, ?_⟩
    · rw [← ht, h5, hlen]
      show List.take (m * 4) _ = _
      rw [List.append_assoc, List.take_append_of_le_length (by rw [List.length_take, Array.length_toList]; omega), List.take_take, Nat.min_self]
      rfl
    · refine ⟨hr.1, fun j p hj => ?_⟩
      rw [k161_openM (hr.2 j p hj)]
      exact k161_mkM _ _ _ _
theorem fr_setCells {S : Nat → Prop} {w w1 : World} (h : Fr S w w1) {g o : Nat} {l : List Value} (hg : S g ∨ w.heap.size ≤ g) : Fr S w (w1.setCells g o l) := by
  obtain ⟨h1, h2, h3, h4⟩ := setCells_same g l o w1
  exact h.trans (S' := fun i => i = g) ⟨h1, h2, h3, by omega, fun k _ hn => setCells_far l o k hn⟩ (fun i hi => hi ▸ hg)
section
variable {ops : Array Oper} {rest : List Oper} {o : Oper} {a : Act} {Q : Exit → Act → World → Prop}
theorem clear161 {W : World} {base g n cap m c : Nat} {ok : Nat → Prop} {xs : List S161} (hgd : o.guard = none) (s : Operand) (ho : o.op = .call { callee := .builtin .clear,args := #[s],argTypes := #[23] }) (hd : o.dst = none) (hs : a.eval s = .slice (some ⟨g,m * 4,none⟩) (n - m) c)
    (hR : k161.R 161 W base ok (.slice (some ⟨g, 0, none⟩) n cap) xs) (hm : m < n)
    (h : ∀ w1,k161.R 161 w1 base ok (.slice (some ⟨g,0,none⟩) m cap) (xs.take m) → Fr (fun k => k = g) W w1 → wpList Try.prog ops Q rest a w1) : wpList Try.prog ops Q (o :: rest) a W := by
  have hnc := (Kd.R_reads' hR).2.1
  obtain ⟨cells, hcl⟩ := Kd.R_typed hR g (by simp [Value.ownBlock])
  have hsz : cells.size = cap * 4 := by
    obtain ⟨_, inner, ⟨_, h2⟩, _⟩ := hR
    rcases h2 with ⟨hv, _⟩ | ⟨g', cap', cur, hv, hb, hh, hnc, hcm, hcs, ht⟩
    · cases hv
    · injection hv with ha _ hc
      injection ha with ha
      injection ha with hg
      subst hg hc
      rw [hcl] at hh
      injection hh with hh
      injection hh with hh
      subst hh
      exact hcs
  refine wpList_plain hgd fun K hK => ?_
  unfold Oper.wp execOp
  simp only [ho,resolve,invoke,builtin,Sem.run_bind,Sem.run_pure,Result.andThen_ok,List.map_toArray,List.map_cons,List.map_nil,hs,run_clear161 hcl hsz hm hnc]
  show K (a.put o.dst (.tuple #[])) _
  rw [hd]
  refine hK _ _ (h _ (R_tail hR (by omega) _ (by rw [List.length_replicate]; have : m * 4 + (n - m) * 4 = n * 4 := by omega
                                                 omega)) ?_)
  exact fr_setCells (Fr.refl _ W) (.inl rfl)
end
theorem filter_step {p : S161 → Bool} {xs : List S161} {j : Nat} (h : j < xs.length) : (xs.take (j + 1)).filter p = (xs.take j).filter p ++ if p (xs.getD j z161) then [xs.getD j z161] else [] := by
  rw [List.take_succ_eq_append_getElem h, List.filter_append]
  congr 1
  rw [List.getD_eq_getElem?_getD, List.getElem?_eq_getElem h]
  simp [List.filter_cons]
/-- Where a deletion stands. -/
structure DelAt (p : S161 → Bool) (xs ys : List S161) (i j : Nat) : Prop where
  lt : i < j
  le : j ≤ xs.length
  len : ys.length = xs.length
  head : ys.take i = (xs.take j).filter p
  tail : ys.drop j = xs.drop j
theorem DelAt.elem {p : S161 → Bool} {xs ys : List S161} {i j : Nat} (h : DelAt p xs ys i j) (hj : j < xs.length) : ys.getD j z161 = xs.getD j z161 := by
  have h1 := congrArg (fun l => l[0]?) h.tail
  simp only [List.getElem?_drop, Nat.add_zero] at h1
  rw [List.getD_eq_getElem?_getD, List.getD_eq_getElem?_getD, h1]
theorem DelAt.skip {p : S161 → Bool} {xs ys : List S161} {i j : Nat} (h : DelAt p xs ys i j) (hj : j < xs.length) (hp : p (ys.getD j z161) = false) : DelAt p xs ys i (j + 1) :=
  ⟨by have := h.lt; omega,hj,h.len,by rw [filter_step hj, ← h.elem hj,hp,h.head]; simp,by have := congrArg (List.drop 1) h.tail; simpa [List.drop_drop] using this⟩
theorem DelAt.keep {p : S161 → Bool} {xs ys : List S161} {i j : Nat} (h : DelAt p xs ys i j) (hj : j < xs.length) (hp : p (ys.getD j z161) = true) : DelAt p xs (ys.set i (ys.getD j z161)) (i + 1) (j + 1) := by
  have hl := h.lt
  refine ⟨by omega, hj, by rw [List.length_set, h.len], ?_, ?_⟩
  · rw [filter_step hj, ← h.elem hj, hp, ← h.head]
    have hi : i < (ys.set i (ys.getD j z161)).length := by rw [List.length_set, h.len]; omega
    rw [List.take_succ_eq_append_getElem hi, List.take_set_of_le (Nat.le_refl _)]
    simp
  · rw [List.drop_set_of_lt (by omega)]
    have := congrArg (List.drop 1) h.tail
    simpa [List.drop_drop] using this
set_option maxHeartbeats 2000000 in
theorem delete_calls {w : World} {base b : Nat} {m : Int} {v : Value} {ok : Nat → Prop} {xs : List S161} (hv : k161.R 161 w base ok v xs) (hb : w.cell? ⟨b,0,none⟩ = some (.int .i64 m)) (hne : ∀ k,v.ownBlock = some k → k ≠ b) (hl : xs.length ≤ 1000) :
    Calls Try.prog 145 #[v,.func (.func 144) #[] #[.pointer (some ⟨b,0,none⟩)]] w fun e w' => ∃ v',e = .returned v' ∧ k161.R 161 w' base ok v' (xs.filter (fun x => !gone m x)) ∧ Fr (fun k => v.ownBlock = some k) w w' := by
  have hbi := World.block_lt_of_cell? w _ hb
  have HX := Aside0.mk (Kd.R_reads hv)
  have HV := Aside0.mk hv
  have HB := Aside0.mk hb
  have HN := Aside0.mk hne
  rcases findG_range (gone m) z161 xs 0 with ⟨h1, h2⟩ | ⟨i, hi, h1, h2, h3⟩
  · have H1 := Aside0.mk h1
    have H2 := Aside0.mk (show xs.filter (fun x => !gone m x) = xs from List.filter_eq_self.2 (fun x hx => by rw [h2 x hx]; rfl))
    clear hv hb hne h1 h2
    go_enter Try.func145, Try.ntmps145
    go_wp2_with (go_at_call 163; refine (indexT_calls HX.out HB.out).mono ?_; rintro e w2 ⟨he, hf2⟩; rw [H1.out] at he; subst he)
    go_ret
    exact ⟨_, rfl, by rw [H2.out]; exact Kd.R_step HV.out (fun k hk hlt => hf2.block k hlt (fun h => h)), hf2.mono (fun _ h => h.elim)⟩
  · rw [Nat.zero_add] at h1
    obtain ⟨gb, cap, ev, -⟩ := Kd.R_form hv (by omega)
    subst ev
    have hgn : gb ≠ b := hne gb rfl
    have hi0 : ((i : Int) == -1) = false := by simp
    have D0 : DelAt (fun x => !gone m x) xs xs i (i + 1) := ⟨by omega, by omega, rfl, by
      rw [filter_step hi]
      simp only [h2, Bool.not_true, Bool.false_eq_true, if_false, List.append_nil]
      exact (List.filter_eq_self.2 (fun x hx => by rw [h3 x hx]; rfl)).symm, rfl⟩
    have H1 := Aside0.mk h1
    have D0' := Aside0.mk D0
    clear hv hb hne h1 h2 h3 D0
    go_enter Try.func145, Try.ntmps145
    go_wp2_with (go_at_call 163; refine (indexT_calls HX.out HB.out).mono ?_; rintro e w2 ⟨he, hf2⟩; rw [H1.out] at he; subst he)
    go_loopw [6,5] (fun t u wr => ∃ j k : Nat, ∃ ys,t = .int .i64 j ∧ u = .int .i64 k ∧ Aside0 (DelAt (fun x => !gone m x) xs ys k j) ∧ Aside0 (k161.R 161 wr base ok (.slice (some ⟨gb,0,none⟩) xs.length cap) ys) ∧ Aside0 (Fr (fun k => k = gb) w wr)) (fun t _ _ => xs.length - (intOf t).toNat)
    case atStart => exact ⟨i + 1,i,xs,by go_num,rfl,D0',⟨Kd.R_step HV.out (fun k hk hlt => hf2.block k hlt (fun h => h))⟩,⟨hf2.mono (fun _ h => h.elim)⟩⟩
    case round =>
      obtain ⟨j, k, ys, rfl, rfl, hD, hR, hF⟩ := hrel
      have hlen := hD.out.len
      by_cases hlt : j < xs.length
      · obtain ⟨c, hcl, hM, hcc, -⟩ := Kd.R_elem hR.out z161 (j : Int) (by omega) (by omega)
        obtain rfl := k161_openM hM
        clear hM
        rw [show ((j : Int)).toNat = j from rfl] at hcc
        obtain ⟨x, ex⟩ : ∃ x, x = ys.getD j z161 := ⟨_, rfl⟩
        rw [← ex] at hcc
        have x0 : wr.cell? ⟨gb, j * 4, none⟩ = some (.int .i64 x.f0) := hcc 0 _ rfl
        have x1 : wr.cell? ⟨gb, j * 4 + 1, none⟩ = some (.int .i64 x.f1) := hcc 1 _ rfl
        have x2 : wr.cell? ⟨gb, j * 4 + 2, none⟩ = some (.int .i64 x.f2) := hcc 2 _ rfl
        have x3 : wr.cell? ⟨gb, j * 4 + 3, none⟩ = some (.int .i64 x.f3) := hcc 3 _ rfl
        have hb1 : (0 : Int) ≤ (j : Int) := by omega
        have hb2 : (j : Int) < (xs.length : Int) := by omega
        have hbc : wr.cell? ⟨b, 0, none⟩ = some (.int .i64 m) := (hF.out.cell hbi (fun e => hgn e.symm)).trans HB.out
        have EX := Aside0.mk ex
        have HLEN := Aside0.mk hlen
        clear ex hcc hlen
        by_cases hp : gone m x = true
        · have HP := Aside0.mk hp
          clear hp
          go_wp2_with (go_at_call 144; refine (gone_calls (x := x) (by first | exact hbc | exact Go.Lib.cell?_alloc_some _ hbc)).mono ?_; rintro e w3 ⟨he,hf3⟩; rw [HP.out] at he; subst he)
          go_roundw
          case rel => exact ⟨j + 1,k,ys,by go_num,rfl,⟨hD.out.skip hlt (by rw [← EX.out,HP.out]; rfl)⟩,⟨Kd.R_step (Kd.R_alloc hR.out _) (fun k hk hlt => hf3.block k hlt (fun h => h))⟩,⟨(hF.out.alloc _).trans hf3 (fun _ h => h.elim)⟩⟩
          case measure => simp [intOf]; omega
        · have HP := Aside0.mk (show gone m x = false by simpa using hp)
          clear hp
          have hb3 : (0 : Int) ≤ (k : Int) := by omega
          have hb4 : (k : Int) < (xs.length : Int) := by have := hD.out.lt; omega
          obtain ⟨c', hcl', -, hcc', -⟩ := Kd.R_elem hR.out z161 (k : Int) (by omega) (by omega)
          have HCL := Aside0.mk hcl'
          have HCC := Aside0.mk hcc'
          clear hcl' hcc' hcl
          go_wp2_with (first | (go_at_call 144; refine (gone_calls (x := x) (by first | exact hbc | exact Go.Lib.cell?_alloc_some _ hbc)).mono ?_; rintro e w3 ⟨he,hf3⟩; rw [HP.out] at he; subst he; have hbx := hf3.blk (blk_new wr _) (fun h => h); have y0 : w3.cell? ⟨wr.heap.size,0,none⟩ = some (.int .i64 x.f0) := (blk_cell hbx 0).trans rfl; have y1 : w3.cell? ⟨wr.heap.size,1,none⟩ = some (.int .i64 x.f1) := (blk_cell hbx 1).trans rfl; have y2 : w3.cell? ⟨wr.heap.size,2,none⟩ = some (.int .i64 x.f2) := (blk_cell hbx 2).trans rfl; have y3 : w3.cell? ⟨wr.heap.size,3,none⟩ = some (.int .i64 x.f3) := (blk_cell hbx 3).trans rfl; have HF3 := Aside0.mk (hf3.block gb) ; clear hbx) | (refine Kd.R_store k161 (w0 := w3) (W := w3) base rfl rfl 161 _ _ rfl 161 (g := gb) (o' := k * 4) (k : Int) 0 ys x (.agg #[.int .i64 x.f0,.int .i64 x.f1,.int .i64 x.f2,.int .i64 x.f3]) [.int .i64 x.f0,.int .i64 x.f1,.int .i64 x.f2,.int .i64 x.f3] c' ok (fun _ => False) rfl rfl rfl rfl (by kernel_rfl) (by simp [Value.oneCell']) (Kd.R_step (Kd.R_alloc hR.out _) (fun k hk hlt => hf3.block k hlt (fun h => h))) (by omega) (by omega) HCL.out ?_ (Nat.le_refl _) ?_ (fun _ h => h.elim) (Below.refl _ _) ?_))
          · intro j' u hu
            exact hf3.cellA (Go.Lib.cell?_alloc_some _ (HCC.out j' u hu))
          · have hcl : c'.length = 4 := HCL.out
            rw [List.drop_of_length_le (by simp; omega)]
            exact k161_mkM _ _ _ _
          · intro w4 hR4 hB4 hg4
            clear y0 y1 y2 y3 x0 x1 x2 x3 hbc
            go_wp2
            go_roundw
            case rel => exact ⟨j + 1,k + 1,ys.set k x,by go_num,by go_num,⟨by rw [EX.out]; exact hD.out.keep hlt (by rw [← EX.out,HP.out]; rfl)⟩,⟨hR4⟩,⟨((hF.out.alloc _).trans hf3 (fun _ h => h.elim)).grown hg4 (fun k hk => .inl (by injection hk with hk; exact hk.symm))⟩⟩
            case measure => simp [intOf]; omega
      · have hj : j = xs.length := by have := hD.out.le; omega
        have hkl : k < xs.length := by have := hD.out.lt; omega
        have hn : ¬ ((j : Int) < (xs.length : Int)) := by omega
        have hnc := (Kd.R_reads' hR.out).2.1
        have hcut := fun W => cut161 (g := gb) hkl hnc W
        have hcut2 : (0 : Int) ≤ (k : Int) := by omega
        have hcut3 : (k : Int) ≤ (cap : Int) := by omega
        have HK := Aside0.mk hkl
        have HD := Aside0.mk (show ys.take k = xs.filter (fun x => !gone m x) by rw [hD.out.head, hj, List.take_length])
        clear hkl hnc hj hlen
        go_wp2_with (refine clear161 (base := base) (g := gb) (n := xs.length) (cap := cap) (m := k) (ok := ok) (xs := ys) rfl _ rfl rfl rfl hR.out HK.out ?_; intro w4 hR4 hf4)
        go_ret
        rw [HD.out] at hR4
        exact ⟨_, rfl, hR4, (hF.out.trans hf4 (fun _ h => .inl h)).mono (fun k hk => by subst hk; rfl)⟩
def listed (m : Int) (l : List S161) : List S161 := l.filter (fun x => !gone m x)
set_option maxHeartbeats 1000000 in
theorem list_calls {w : World} {v : Value} {xs : List S161} (m : Int) (hx : Rd k161 w v xs) (hl : xs.length ≤ 1000) :
    Calls Try.prog 118 #[v,.int .i64 m] w fun e w' => ∃ v',e = .returned v' ∧ k161.R 161 w' (w.heap.size + 1) (fun k => w.heap.size < k) v' (listed m xs) ∧ Fr (fun _ => False) w w' := by
  have HX := Aside0.mk (hx.below (below_alloc (Below.refl _ _) (.cells #[.int .i64 m] 3)))
  obtain ⟨A, c, ev, -, -⟩ := hx
  subst ev
  have hsz : (w.alloc (.cells #[.int .i64 m] 3)).heap.size = w.heap.size + 1 := by simp
  go_enter Try.func118, Try.ntmps118
  go_wp2_with (first | (go_at_call 114; refine (cloneT_calls HX.out hl).mono ?_; rintro e w2 ⟨v2,rfl,hR2,hf2⟩; have hb2 : w2.cell? ⟨w.heap.size,0,none⟩ = some (.int .i64 m) := (hf2.cell (by omega) (fun h => h)).trans ((blk_cell (blk_new w _) 0).trans rfl)) | (go_at_call 145; refine (delete_calls hR2 hb2 (fun k hk => by have := Kd.R_base hR2 k hk; omega) hl).mono ?_; rintro e w3 ⟨v3,rfl,hR3,hf3⟩))
  go_ret
  refine ⟨_, rfl, ?_, (((Fr.refl (fun _ => False) w).alloc _).trans hf2 (fun _ h => h.elim)).trans hf3 (fun k hk => .inr ?_)⟩
  · rw [hsz] at hR3
    exact Kd.R_mono hR3 (fun k hk => hk)
  · have := Kd.R_base hR2 k hk
    omega
end Go.Proofs.Ph
/- dtc: troubles as bytes. No condition. -/
namespace Go.Proofs.Ph
open Go Go.RowKit Go.Proofs.YthjnlggommennaaW.PrintWords
def pk (x : S161) : List Int := [x.f0 / 256 % 256, x.f0 % 256, x.f1 % 256]
def packed (m : Int) (l : List S161) : List Int := (listed m l).flatMap pk
theorem flat_step {l : List S161} {k : Nat} (h : k < l.length) : (l.take (k + 1)).flatMap pk = (l.take k).flatMap pk ++ pk (l.getD k z161) := by
  rw [List.take_succ_eq_append_getElem h, List.flatMap_append, List.getD_eq_getElem?_getD, List.getElem?_eq_getElem h]
  simp
theorem flat_len (l : List S161) : (l.flatMap pk).length = l.length * 3 := by
  induction l with
  | nil => rfl
  | cons x l ih => rw [List.flatMap_cons, List.length_append, ih, List.length_cons]; simp [pk]; omega
set_option maxRecDepth 100000 in
set_option maxHeartbeats 2000000 in
theorem pack_calls {w : World} {v : Value} {xs : List S161} (m : Int) (hx : Rd k161 w v xs) (hl : xs.length ≤ 1000) : Calls Try.prog 74 #[v,.int .i64 m] w (RetB w (packed m xs)) := by
  have HX := Aside0.mk hx
  obtain ⟨A, c, ev, -, -⟩ := hx
  subst ev
  have hll : (listed m xs).length ≤ 1000 := Nat.le_trans (List.length_filter_le _ _) hl
  obtain ⟨l, el⟩ : ∃ l, l = listed m xs := ⟨_, rfl⟩
  unfold packed
  have LC := list_calls m HX.out hl
  rw [← el] at hll LC ⊢
  have LC' := Aside0.mk LC
  clear LC el
  go_enter Try.func74, Try.ntmps74
  go_wp2_with (go_at_call 118; refine LC'.out.mono ?_; rintro e w3 ⟨v3,rfl,hR3,hf3⟩; have HC := Kd.R_reads hR3; clear hR3; obtain ⟨A3,c3,rfl,hc3,hC3⟩ := HC)
  have HC3 := Aside0.mk hC3
  have HL3 := Aside0.mk hl
  clear hC3 hl
  go_loopw [12,5] (fun t u wr => ∃ k : Nat,k ≤ l.length ∧ t = .int .i64 k ∧ Aside0 (wr.ownsRow w3.heap.size 5 1 u ((l.take k).flatMap pk).length (nums .u8 ((l.take k).flatMap pk))) ∧ Aside0 (Fr (fun _ => False) w3 wr)) (fun t _ _ => l.length - (intOf t).toNat)
  case atStart => exact ⟨0, Nat.zero_le _, rfl, ⟨own_nil _ _ _ _⟩, ⟨Fr.refl _ _⟩⟩
  case round =>
    obtain ⟨k, hk, rfl, hO, hD⟩ := hrel
    by_cases hlt : k < l.length
    · obtain ⟨ad, e1, x0, x1, x2, x3⟩ := at_T161 HC3.out (k : Int) (by omega) (by omega)
      subst e1
      have hb := Fr.below hD.out (fun _ h => h.elim)
      replace x0 := pw_cell_below hb x0
      replace x1 := pw_cell_below hb x1
      replace x2 := pw_cell_below hb x2
      replace x3 := pw_cell_below hb x3
      rw [show ((k : Int)).toNat = k from rfl] at x0 x1 x2 x3
      obtain ⟨x, ex⟩ : ∃ x, x = rd_T161 l k := ⟨_, rfl⟩
      rw [← ex] at x0 x1 x2 x3
      have EX := Aside0.mk ex
      have hb1 : (0 : Int) ≤ (k : Int) := by omega
      have hb2 : (k : Int) < (l.length : Int) := by omega
      have hlen := flat_len (l.take k)
      rw [List.length_take, Nat.min_eq_left hk] at hlen
      have HLEN := Aside0.mk hlen
      clear ex hlen
      have hz := hD.out.size
      obtain ⟨W5,eW5⟩ : ∃ W,W = (wr.alloc (.cells #[.int .i64 x.f0,.int .i64 x.f1,.int .i64 x.f2,.int .i64 x.f3] 161)).alloc (.cells #[.int .u8 (x.f0 / 256 % 256),.int .u8 (x.f0 % 256),.int .u8 (x.f1 % 256)] 5) := ⟨_,rfl⟩
      have hW5 : W5.heap.size = wr.heap.size + 2 := by rw [eW5]; show (Array.push (Array.push _ _) _).size = _; rw [Array.size_push, Array.size_push]
      have HO5 : W5.ownsRow w3.heap.size 5 1 u5 ((l.take k).flatMap pk).length (nums .u8 ((l.take k).flatMap pk)) := by rw [eW5]; exact (hO.out.alloc _).alloc _
      have HV5 : Rd kb W5 (.slice (some ⟨wr.heap.size + 1, 0, none⟩) 3 3) (pk x) := by
        have hb : W5.heap[wr.heap.size + 1]? = some (.cells #[.int .u8 (x.f0 / 256 % 256),.int .u8 (x.f0 % 256),.int .u8 (x.f1 % 256)] 5 (0,0)) := by
          rw [eW5]
          exact blk_new' (by show _ = (Array.push _ _).size; rw [Array.size_push])
        exact (own_rdF (own_lit' (xs := pk x) (n := 3) 0 hb rfl (Nat.zero_le _) rfl (by omega))).now
      have hf5 : Fr (fun _ => False) w3 W5 := by rw [eW5]; exact (hD.out.alloc _).alloc _
      have hl5 : ((l.take k).flatMap pk).length + (pk x).length ≤ 140737488355328 := by
        rw [HLEN.out]
        show k * 3 + 3 ≤ _
        omega
      have H5 := Aside0.mk (⟨HO5, HV5, hl5, hf5⟩ : _ ∧ _ ∧ _ ∧ _)
      have EW5 := Aside0.mk eW5
      clear HO5 HV5 hl5 hf5 eW5
      go_wp2_with (at_builtin; (rw [← EW5.out]); refine appB Try.underlying31 i5 (W := W5) w3.heap.size rfl _ _ rfl u5 (.slice (some ⟨wr.heap.size + 1,0,none⟩) 3 3) ((l.take k).flatMap pk) (pk x) rfl rfl H5.out.1 H5.out.2.1 (by omega) H5.out.2.2.1 ?_; intro v4 w4 ho4 hg4 hb4)
      go_roundw
      case rel => exact ⟨k + 1,by omega,by go_num,⟨by rw [flat_step hlt,show l.getD k z161 = x from EX.out.symm]; exact ho4⟩,⟨H5.out.2.2.2.grown hg4 (fun i hi => .inr (hb4 i hi))⟩⟩
      case measure => simp [intOf]; omega
    · have hk' : k = l.length := by omega
      subst hk'
      have hO' := Aside0.mk (show wr.ownsRow w3.heap.size 5 1 u5 (l.flatMap pk).length (nums .u8 (l.flatMap pk)) by have := hO.out; rwa [List.take_length] at this)
      clear hO
      go_wp2
      go_ret
      exact ⟨_, rfl, (own_rdF hO'.out).mono (fun i hi => Nat.le_trans hf3.size hi), hf3.trans hD.out (fun _ h => h.elim)⟩
end Go.Proofs.Ph
/- diag: troubles are told. No condition. -/
namespace Go.Proofs.Ph
open Go Go.RowKit Go.Proofs.YthjnlggommennaaW.PrintWords
attribute [local go_sem ↓] Go.wp_at_zero Go.wp_at_succ
def mMask (s : S25) (q : List Int) : Res := (s, .inr (q.getD 0 0 :: packed (q.getD 0 0) s.f8))
theorem packed_len (m : Int) (l : List S161) : (packed m l).length ≤ l.length * 3 := by
  unfold packed
  rw [flat_len]
  exact Nat.mul_le_mul_right _ (List.length_filter_le _ _)
set_option maxRecDepth 100000 in
set_option maxHeartbeats 2000000 in
theorem mask_calls {w : World} {g : Nat} {P : Nat → Prop} {s : S25} {vi vd vq : Value} {q : List Int} (h : MPre w g P s vi vd vq q) (hq : 0 < q.length) (hB : Byt q) (hD : s.f8.length ≤ 1000) :
    Calls Try.prog 170 #[.pointer (some ⟨g, 0, none⟩)] w (MPost w g P vq (mMask s q)) := by
  obtain ⟨A, c, ev, hlc, hFq⟩ := h.q
  subst ev
  obtain ⟨Ad, cd, ed, hlcd, hFd⟩ := h.d
  subst ed
  obtain ⟨ad, ea, hb⟩ := rd_at h.q.now 0 hq
  subst ea
  have hb' : w.cell? ad = some (.int .u8 (q.getD 0 0)) := by have := hb; rwa [show ad.add 0 = ad by simp [Addr.add]] at this
  clear hb
  unfold mMask
  obtain ⟨n, en⟩ : ∃ n, n = q.getD 0 0 := ⟨_, rfl⟩
  have hn := hB.at 0
  rw [← en] at hb' hn ⊢
  obtain ⟨hn0, hn1⟩ := hn
  clear en
  have hq' : (0 : Int) < (q.length : Int) := by omega
  have hg := blk_lt h.x
  have c8 : w.cell? ⟨g, 8, none⟩ = some (.slice Ad s.f8.length cd) := (blk_cell h.x 8).trans rfl
  have c9 : w.cell? ⟨g, 9, none⟩ = some (.slice (some ad) q.length c) := (blk_cell h.x 9).trans rfl
  have H := Aside0.mk h
  have HD := Aside0.mk hD
  have e1 : IntKind.i64.wrap n = n := IntWalk.i64_in _ (by omega)
  clear h hFq hlc hFd hlcd hB hD
  have HLL := Aside0.mk (show ([n] : List Int).length + (packed n s.f8).length ≤ 140737488355328 by have := packed_len n s.f8; have := HD.out; show 1 + _ ≤ _; omega)
  go_enter Try.func170, Try.ntmps170
  go_wp2
  go_region_held3 (fun w' => w'.cell? ⟨g,9,none⟩ = some (.slice (some ad) q.length c) ∧ w'.cell? ⟨g,8,none⟩ = some (.slice Ad s.f8.length cd) ∧ w'.cell? ad = some (.int .u8 n))
    (refine ⟨Fr.cellA (w := w) ?_ c9,Fr.cellA (w := w) ?_ c8,Fr.cellA (w := w) ?_ hb'⟩ <;> (repeat (first | exact Fr.refl _ _ | exact hf3 | exact hf2 | refine Fr.alloc ?_ _ | refine Fr.drew ?_)))
    (first | (go_at_call 74; refine (pack_calls n (w := w.drew) H.out.d.now HD.out).mono ?_; rintro e w2 ⟨v2,rfl,hv2,hf2'⟩; have hf2 : Fr (fun _ => False) w w2 := (Fr.refl _ w).drew.trans hf2' (fun _ h => h.elim)) | (go_at_call 74; refine (pack_calls n (w := (w.alloc (.cells #[.int .u8 n] 5)).drew) (Rd.below H.out.d.now (below_drew (below_alloc (Below.refl _ _) _))) HD.out).mono ?_; rintro e w2 ⟨v2,rfl,hv2,hf2'⟩; have hf2 : Fr (fun _ => False) w w2 := ((Fr.refl _ w).alloc _).drew.trans hf2' (fun _ h => h.elim); have hbx : w2.heap[w.heap.size]? = some (.cells #[.int .u8 n] 5 (0,0)) := hf2'.blk (w := (w.alloc _).drew) (blk_new w _) (fun h => h)) | (refine appB_step Try.underlying31 i5 (W := w2.alloc (.cells #[.int .u8 n] 5)) w.heap.size rfl _ _ rfl (.slice (some ⟨w2.heap.size,0,none⟩) 1 1) v2 [n] (packed n s.f8) rfl rfl (own_lit' w.heap.size (blk_new w2 _) rfl hf2.size rfl (show 1 ≤ 9223372036854775807 from Nat.le_of_ble_eq_true rfl)) (hv2.now.below (below_alloc (Below.refl _ _) _)) (Nat.le_trans hf2.size (below_alloc (Below.refl _ _) _).size) HLL.out ?_; intro v3 w3 ho3 hg3 hb3; have hf3 : Fr (fun _ => False) w w3 := (hf2.alloc _).grown hg3 (fun k hk => .inr (hb3 k hk))) | (refine appB_step Try.underlying31 i5 (W := w2) w.heap.size rfl _ _ rfl (.slice (some ⟨w.heap.size,0,none⟩) 1 1) v2 [n] (packed n s.f8) rfl rfl (own_lit' w.heap.size hbx rfl (Nat.le_refl _) rfl (show 1 ≤ 9223372036854775807 from Nat.le_of_ble_eq_true rfl)) hv2.now hf2.size HLL.out ?_; intro v3 w3 ho3 hg3 hb3; have hf3 : Fr (fun _ => False) w w3 := hf2.grown hg3 (fun k hk => .inr (hb3 k hk))))
  all_goals (rename_i hHeld; clear hHeld; go_wp2; go_ret; exact H.out.answer rfl rfl (hf3.blk H.out.x (fun h => h)) (hf3.mono (fun _ h => h.elim)) ((own_rdF ho3).mono (fun k hk => .inr hk)))
end Go.Proofs.Ph
/- diag: which service a question is for. No condition. -/
namespace Go.Proofs.Ph
open Go Go.RowKit Go.Proofs.YthjnlggommennaaW.PrintWords
/-- A map's entries, one put behind the other. -/
def entries : List (Int × Value) → Nat → List MapEntry
  | [], _ => []
  | (k, v) :: l, n => ⟨.int .u8 k, v, n⟩ :: entries l (n + 1)
def MapAt (w : World) (r : Nat) (l : List (Int × Value)) : Prop := w.heap[r]? = some (.map (entries l 0).toArray l.length)
theorem entries_snoc (l : List (Int × Value)) (n : Nat) (k : Int) (v : Value) : entries (l ++ [(k,v)]) n = entries l n ++ [⟨.int .u8 k,v,n + l.length⟩] := by
  induction l generalizing n with
  | nil => simp [entries]
  | cons x l ih => obtain ⟨a, b⟩ := x; simp [entries, ih]; omega
/-- What a key finds. -/
def seek (k : Int) : List (Int × Value) → Option Value
  | [] => none
  | (a, v) :: l => if k = a then some v else seek k l
theorem findNow_entries (k : Int) (l : List (Int × Value)) (n i : Nat) : ∃ j,Instr.findNow (.int .u8) (.int .u8 k) (entries l n) i = some ((seek k l).map fun v => (j,v)) := by
  induction l generalizing n i with
  | nil => exact ⟨0, rfl⟩
  | cons x l ih =>
    obtain ⟨a, v⟩ := x
    by_cases h : k = a
    · subst h
      exact ⟨i, by simp [entries, Instr.findNow, Instr.sameNow, seek]⟩
    · obtain ⟨j, hj⟩ := ih (n + 1) (i + 1)
      have h' : (k == a) = false := by simpa using h
      exact ⟨j, by simp [entries, Instr.findNow, Instr.sameNow, seek, h, h', hj]⟩
section
variable {P : Program} {ops : Array Oper} {rest : List Oper} {o : Oper} {a : Act} {Q : Exit → Act → World → Prop} {W : World}
theorem checkKey_u8 {K : TypeId} (hK : P.underlying K = some (.int .u8)) (b : Bool) (k : Int) (W : World) : (Instr.checkKey b 10000 K (.int .u8 k)).run P W = .ok () W := by
  exact Go.MapKept.run_checkKey (n := 9999) hK (by simp [Go.MapKept.IsKey]) b
theorem findKey_u8 {K : TypeId} (hK : P.underlying K = some (.int .u8)) (k : Int) (l : List (Int × Value)) (W : World) : ∃ j,(Instr.findKey K (.int .u8 k) (entries l 0)).run P W = .ok ((seek k l).map fun v => (j,v)) W := by
  obtain ⟨j, hj⟩ := findNow_entries k l 0 0
  exact ⟨j, by simp [Instr.findKey, run_underlying hK, hj]⟩
theorem wpl_insert {T K E : TypeId} (hT : P.underlying T = some (.map K E)) (hK : P.underlying K = some (.int .u8)) (hgd : o.guard = none) (m k x : Operand) (ho : o.op = .insert T m k x) {r : Nat} {l : List (Int × Value)} {n : Int} {v : Value}
    (hm : a.eval m = .map (some r)) (hk : a.eval k = .int .u8 n) (hx : a.eval x = v) (h : MapAt W r l) (hn : seek n l = none) (hd : o.dst = none)
    (hc : ∀ W', MapAt W' r (l ++ [(n, v)]) → Fr (fun i => i = r) W W' → wpList P ops Q rest a W') : wpList P ops Q (o :: rest) a W := by
  obtain ⟨j, hj⟩ := findKey_u8 hK n l W
  rw [hn] at hj
  have hlt := blk_lt h
  have hrun : (Instr.mapUpdate T (.map (some r)) (.int .u8 n) v).run P W = .ok () { W with heap := W.heap.setIfInBounds r (.map ((entries l 0).toArray.push ⟨.int .u8 n,v,l.length⟩) (l.length + 1)) } := by
    unfold MapAt at h
    simp [Instr.mapUpdate, run_underlying hT, getObj, setObj, Sem.run, h, checkKey_u8 hK, hj]
  refine wpList_plain hgd fun K' hK' => ?_
  unfold Oper.wp execOp
  simp only [ho, hm, hk, hx, Sem.run_bind, Sem.run_pure, Result.andThen_ok, hrun]
  show K' (a.put o.dst undef) _
  rw [hd]
  refine hK' a _ (hc _ ?_ ?_)
  · unfold MapAt
    rw [entries_snoc]
    simp [hlt]
  · exact ⟨rfl, rfl, rfl, by simp, fun i hi hn => by simp; rw [Array.getElem?_setIfInBounds_ne (fun e => hn e.symm)]⟩
theorem run_lookup_u8 {T K E : TypeId} (hT : P.underlying T = some (.map K E)) (hK : P.underlying K = some (.int .u8)) {z : Value} (hz : ∀ W,(zeroValue E).run P W = .ok z W) {r : Nat} {l : List (Int × Value)} (h : MapAt W r l) (n : Int) :
    (Instr.lookup T (.map (some r)) (.int .u8 n) true).run P W = .ok (.tuple #[(seek n l).getD z, .bool (seek n l).isSome]) W := by
  obtain ⟨j, hj⟩ := findKey_u8 hK n l W
  unfold MapAt at h
  cases hs : seek n l with
  | none =>
    rw [hs] at hj
    simp [Instr.lookup, run_underlying hT, getObj, Sem.run, h, checkKey_u8 hK, hj, hz]
  | some v =>
    rw [hs] at hj
    simp [Instr.lookup, run_underlying hT, getObj, Sem.run, h, checkKey_u8 hK, hj]
end
def sv (long : Int) (F : Nat) : Value := .agg #[.int .i64 long, .func (.func F) #[] #[]]
def table : List (Int × Value) := [(16,sv 1 165),(34,sv 2 166),(46,sv (-1) 167),(20,sv 0 168),(25,sv 1 170),(62,sv 0 171),(52,sv (-1) 164),(54,sv (-1) 164),(55,sv (-1) 164)]
/-- A map of the table, newly made. -/
def RetMap (w : World) (e : Ending) (w' : World) : Prop := ∃ r, e = .returned (.map (some r)) ∧ MapAt w' r table ∧ Fr (fun _ => False) w w'
theorem mapAt_new {W : World} {r : Nat} (h : r = W.heap.size) : MapAt (W.alloc (.map #[] 0)) r [] := h ▸ blk_new W _
set_option maxRecDepth 100000 in
set_option maxHeartbeats 2000000 in
theorem services_calls (w : World) : Calls Try.prog 146 #[] w (RetMap w) := by
  have hmm := @run_makeMap Try.prog
  go_enter Try.func146, Try.ntmps146
  go_wp2_with (first | (refine wpl_insert (T := 208) Try.underlying208 Try.underlying5 rfl _ _ _ rfl (v := sv 1 165) rfl rfl rfl (mapAt_new (by simp)) rfl rfl ?_; intro w1 hm1 hf1; have hbx : w1.heap[w.heap.size]? = some (.cells #[.int .i64 (-1),.func (.func 164) #[] #[]] 175 (0,0)) := hf1.blk (blk_alloc (blk_new w _) _) (by simp); have c0 : w1.cell? ⟨w.heap.size,0,none⟩ = some (.int .i64 (-1)) := (blk_cell hbx 0).trans rfl; have c1 : w1.cell? ⟨w.heap.size,1,none⟩ = some (.func (.func 164) #[] #[]) := (blk_cell hbx 1).trans rfl; have hF := ((Fr.refl (fun _ => False) w).alloc (.cells #[.int .i64 (-1),.func (.func 164) #[] #[]] 175)).alloc (.map #[] 0) |>.trans hf1 (fun i hi => .inr (by omega))) | (refine wpl_insert (T := 208) Try.underlying208 Try.underlying5 rfl _ _ _ rfl rfl rfl rfl hm1 rfl rfl ?_; clear c0 c1; intro w2 hm2 hf2; replace hm1 := hm2; clear hm2; replace hbx : w2.heap[w.heap.size]? = some (.cells #[.int .i64 (-1),.func (.func 164) #[] #[]] 175 (0,0)) := hf2.blk hbx (by simp); have c0 : w2.cell? ⟨w.heap.size,0,none⟩ = some (.int .i64 (-1)) := (blk_cell hbx 0).trans rfl; have c1 : w2.cell? ⟨w.heap.size,1,none⟩ = some (.func (.func 164) #[] #[]) := (blk_cell hbx 1).trans rfl; replace hF := hF.trans hf2 (fun i hi => .inr (by omega)); clear hf2))
  go_ret
  exact ⟨_, rfl, hm1, hF⟩
end Go.Proofs.Ph
