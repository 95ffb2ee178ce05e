/- Part 1 of the proof of DiagKey, for every input: Base, Kinds, D1, D2, L1, D4, D10, D11, D12, D13, D8, D9, Free, D14, D15, D16. No condition. -/
import Derived.Test.YthjnlggommennaaWMore
import Derived.Test.YthjnlggommennaaWShare
import Derived.WalkKit
import Derived.WalkLawsBesides
import Derived.BigRegion
import Derived.Laws.BitsAllLaws
import Derived.Test.YthjnlggommennaaProg
import Derived.WalkSpells
import Derived.Laws.IdiomCopy
import Derived.Deep.RegionHeld3
import Derived.Deep.DrawnRows
import Derived.Laws.EntriesVeiled
import Derived.MapKept
import Derived.OrdersHeld
import Derived.Defers
import Derived.Recover
import Derived.Laws.Pointers
set_option linter.unusedVariables false
set_option linter.unusedSimpArgs false
/- Words of this part's walks: what a call leaves as it was, slices that are read, rows of bytes that are made. No condition. -/
namespace Go.Proofs.Ph
open Go Go.RowKit Go.Proofs.YthjnlggommennaaW.PrintWords

/-- All blocks of w but those of S are in w' as they were. -/
structure Fr (S : Nat → Prop) (w w' : World) : Prop where
  os : w'.os = w.os
  tape : w'.tape = w.tape
  output : w'.output = w.output
  size : w.heap.size ≤ w'.heap.size
  block : ∀ k, k < w.heap.size → ¬ S k → w'.heap[k]? = w.heap[k]?

section
variable {S S' : Nat → Prop} {w w1 w2 : World}
theorem Fr.refl (S : Nat → Prop) (w : World) : Fr S w w := ⟨rfl, rfl, rfl, Nat.le_refl _, fun _ _ _ => rfl⟩
theorem Fr.trans (h : Fr S w w1) (k : Fr S' w1 w2) (hs : ∀ i, S' i → S i ∨ w.heap.size ≤ i) : Fr S w w2 :=
  ⟨k.os.trans h.os, k.tape.trans h.tape, k.output.trans h.output, Nat.le_trans h.size k.size, fun i hi hn =>
    (k.block i (Nat.lt_of_lt_of_le hi h.size) (fun h2 => (hs i h2).elim hn (fun h3 => by omega))).trans (h.block i hi hn)⟩
theorem Fr.of_below (h : Below w.heap.size w w1) (S : Nat → Prop) : Fr S w w1 := ⟨h.os, h.tape, h.output, h.size, fun i hi _ => h.block i hi⟩
theorem Fr.below (h : Fr S w w1) (hs : ∀ i, S i → w.heap.size ≤ i) : Below w.heap.size w w1 := ⟨h.os, h.tape, h.output, h.size, fun i hi => h.block i hi (fun h2 => by have := hs i h2; omega)⟩
theorem Fr.then_below (h : Fr S w w1) (k : Below w1.heap.size w1 w2) : Fr S w w2 := h.trans (Fr.of_below k (fun _ => False)) (fun _ h => h.elim)
theorem Fr.alloc (h : Fr S w w1) (o : Obj) : Fr S w (w1.alloc o) := h.then_below (below_alloc (Below.refl _ _) o)
theorem Fr.drew (h : Fr S w w1) : Fr S w w1.drew := ⟨h.os, h.tape, h.output, h.size, h.block⟩
theorem Fr.drewN (h : Fr S w w1) (n : Nat) : Fr S w (w1.drewN n) := ⟨h.os, h.tape, h.output, h.size, h.block⟩
theorem Fr.setCell (h : Fr S w w1) {p : Addr} (hp : S p.block ∨ w.heap.size ≤ p.block) (u : Value) : Fr S w (w1.setCell p u) :=
  h.trans (S' := fun i => i = p.block) ⟨rfl, rfl, rfl, by simp [World.setCell], fun i _ hn => Below.heap_setCell w1 p u i hn⟩ (fun i hi => by rw [hi]; exact hp)
theorem Fr.setG {g : Nat} (h : Fr (fun k => k = g) w w1) (i : Nat) (u : Value) : Fr (fun k => k = g) w (w1.setCell ⟨g, i, none⟩ u) := h.setCell (p := ⟨g, i, none⟩) (.inl rfl) u
theorem Fr.grown (h : Fr S w w1) {row : Option Nat} (hg : w1.grownBy w2 row) (hr : ∀ k, row = some k → S k ∨ w.heap.size ≤ k) : Fr S w w2 :=
  h.trans (S' := fun i => row = some i) ⟨hg.os, hg.tape, hg.output, hg.size, fun i hi hn => hg.block i hi (fun e => hn e.symm)⟩ hr
theorem Fr.mono (h : Fr S w w1) (hs : ∀ i, S i → S' i) : Fr S' w w1 := ⟨h.os, h.tape, h.output, h.size, fun i hi hn => h.block i hi (fun h2 => hn (hs i h2))⟩
theorem Fr.cell (h : Fr S w w1) {b o : Nat} (hb : b < w.heap.size) (hn : ¬ S b) : w1.cell? ⟨b, o, none⟩ = w.cell? ⟨b, o, none⟩ := World.cell?_of_block (w := w) (h.block b hb hn)
theorem Fr.frozen (h : Fr S w w1) {b o : Nat} (hb : b < w.heap.size) (hn : ¬ S b) : w1.frozen? ⟨b, o, none⟩ = w.frozen? ⟨b, o, none⟩ := World.frozen?_of_block (w := w) (h.block b hb hn)
theorem Fr.cellA (h : Fr (fun _ => False) w w1) {a : Addr} {v : Value} (hc : w.cell? a = some v) : w1.cell? a = some v := (World.cell?_of_block (w := w) (h.block a.block (World.block_lt_of_cell? w a hc) (fun h => h))).trans hc
theorem Fr.blk (h : Fr S w w1) {g : Nat} {o : Obj} (hg : w.heap[g]? = some o) (hn : ¬ S g) : w1.heap[g]? = some o := (h.block g (blk_lt hg) hn).trans hg
end

/-- A slice value that reads as xs. -/
def Rd {α : Type} (d : Kd α) (w : World) (v : Value) (xs : List α) : Prop := ∃ A c, v = .slice A xs.length c ∧ xs.length ≤ c ∧ d.C w A xs.length xs
/-- The same, and what it leads to lies in blocks of ok. -/
def RdF {α : Type} (d : Kd α) (w : World) (ok : Nat → Prop) (v : Value) (xs : List α) : Prop := ∃ A c, v = .slice A xs.length c ∧ xs.length ≤ c ∧ Kd.F d w ok A xs.length xs
abbrev kb : Kd Int := Kd.int .u8
/-- Bytes. -/
def Byt (l : List Int) : Prop := ∀ x ∈ l, 0 ≤ x ∧ x ≤ 255
theorem Byt.at {l : List Int} (h : Byt l) (i : Nat) : 0 ≤ l.getD i 0 ∧ l.getD i 0 ≤ 255 := by
  rcases Nat.lt_or_ge i l.length with hi | hi
  · rw [List.getD_eq_getElem?_getD, List.getElem?_eq_getElem hi]; exact h _ (List.getElem_mem hi)
  · rw [List.getD_eq_getElem?_getD, List.getElem?_eq_none hi]; simp

section
variable {α : Type} {d : Kd α} {w w1 w2 : World} {ok ok' : Nat → Prop} {v : Value} {xs : List α}
theorem Rd.below (h : Rd d w v xs) (hb : Below w.heap.size w w1) : Rd d w1 v xs := by
  obtain ⟨A, c, e, hl, hC⟩ := h
  exact ⟨A, c, e, hl, Kd.C_below hC hb⟩
theorem RdF.now (h : RdF d w ok v xs) : Rd d w v xs := by
  obtain ⟨A, c, e, hl, hC⟩ := h
  exact ⟨A, c, e, hl, Kd.F_now hC⟩
theorem RdF.mono (h : RdF d w ok v xs) (hk : ∀ k, ok k → ok' k) : RdF d w ok' v xs := by
  obtain ⟨A, c, e, hl, hC⟩ := h
  exact ⟨A, c, e, hl, Kd.F_mono hC hk⟩
theorem RdF.step (h : RdF d w ok v xs) (hm : ∀ k, ok k → k < w.heap.size → w1.heap[k]? = w.heap[k]?) : RdF d w1 ok v xs := by
  obtain ⟨A, c, e, hl, hC⟩ := h
  exact ⟨A, c, e, hl, Kd.F_step hC hm⟩
theorem RdF.fr {S : Nat → Prop} (h : RdF d w ok v xs) (hf : Fr S w w1) (hn : ∀ k, ok k → k < w.heap.size → ¬ S k) : RdF d w1 ok v xs := h.step (fun k hk hlt => hf.block k hlt (hn k hk hlt))
theorem RdF.bound (h : RdF d w ok v xs) : RdF d w (fun k => ok k ∧ k < w.heap.size) v xs := by
  obtain ⟨A, c, e, hl, hC⟩ := h
  exact ⟨A, c, e, hl, Kd.F_bound hC⟩
theorem Rd.foot (hd : Kd.Heap d) (h : Rd d w v xs) : RdF d w (fun k => k < w.heap.size) v xs := by
  obtain ⟨A, c, e, hl, hC⟩ := h
  exact ⟨A, c, e, hl, Kd.C_F hd hC⟩
theorem Rd.max (h : Rd d w v xs) : xs.length ≤ 9223372036854775807 := by
  obtain ⟨A, c, e, hl, hC⟩ := h
  exact hC.2.1
theorem Rd.nil (d : Kd α) (w : World) : Rd d w (.slice none 0 0) [] := ⟨none, 0, rfl, Nat.le_refl _, Kd.C_nil d w⟩
theorem RdF.nil (d : Kd α) (w : World) (ok : Nat → Prop) : RdF d w ok (.slice none 0 0) [] := ⟨none, 0, rfl, Nat.le_refl _, Kd.F_nil d w ok⟩
end

theorem blk_new' {W : World} {o : Obj} {n : Nat} (h : n = W.heap.size) : (W.alloc o).heap[n]? = some o := by rw [h]; exact blk_new W o
/-! ### rows of bytes that are made -/
theorem own_rdF {w : World} {base : Nat} {e : TypeId} {k : IntKind} {v : Value} {xs : List Int} (h : w.ownsRow base e 1 v xs.length (nums k xs)) : RdF (Kd.int k) w (fun j => base ≤ j) v xs := by
  have h2 : (Kd.int k).R e w base (fun j => base ≤ j) v xs := Kd.R_of_own (enc := Value.int k) (h1 := fun _ => rfl) h (fun j hj => own_base h j hj)
  obtain ⟨A, c, rfl, hl, _⟩ := Kd.R_reads h2
  exact ⟨A, c, rfl, hl, Kd.R_F h2⟩
theorem own_lit' {w : World} {g n : Nat} {e : TypeId} {k : IntKind} {cs : Array Value} {xs : List Int} (base : Nat) (h : w.heap[g]? = some (.cells cs e (0, 0))) (hc : cs.toList = nums k xs) (hb : base ≤ g) (hn : xs.length = n) (hm : n ≤ 9223372036854775807) :
    w.ownsRow base e 1 (.slice (some ⟨g, 0, none⟩) n n) xs.length (nums k xs) := by
  subst hn
  have hs : cs.size = xs.length := by have := congrArg List.length hc; simpa [nums] using this
  exact ⟨by simp [nums], .inr ⟨g, xs.length, cs, rfl, hb, h, Nat.le_refl _, by simpa [maxLen] using hm, by rw [hs, Nat.mul_one], by rw [hc]; exact List.take_of_length_le (by simp [nums])⟩⟩
section
variable {P : Program} {ops : Array Oper} {rest : List Oper} {o : Oper} {a : Act} {Q : Exit → Act → World → Prop} {K : Act → World → Prop}
/-- append(v, ys...) of bytes, v a row of the call's own: its run. -/
theorem run_appB {t e ty : TypeId} (ht : P.underlying t = some (.slice e)) (hinfo : (P.info? e).map (fun i => (i.zero, i.size, i.bytes)) = some (some (.int .u8 0), 1, 1)) {W : World} (base : Nat) (v vy : Value) (xs ys : List Int)
    (HO : W.ownsRow base e 1 v xs.length (nums .u8 xs)) (HR : Rd kb W vy ys) (hbase : base ≤ W.heap.size) (hl : xs.length + ys.length ≤ 140737488355328) :
    ∃ v1 w1, (Builtin.append_ #[t, t] ty #[v, vy]).run P W = .ok v1 w1 ∧ w1.ownsRow base e 1 v1 (xs ++ ys).length (nums .u8 (xs ++ ys)) ∧ W.grownBy w1 v.ownBlock := by
  obtain ⟨A, c, ev, hlc, hC⟩ := HR
  subst ev
  have HR := Kd.reads_of_C (d := (0 : Int)) hC
  obtain ⟨i0, hi, hzz⟩ := Option.map_eq_some_iff.1 hinfo
  simp only [Prod.mk.injEq] at hzz
  obtain ⟨hz0, hz1, hz2⟩ := hzz
  rcases A with _ | ad
  · have h0 : ys.length = 0 := by
      rcases Nat.eq_zero_or_pos ys.length with h0 | h0
      · exact h0
      · obtain ⟨ad, h, _⟩ := HR.2.2 h0
        cases h
    obtain rfl : ys = [] := List.eq_nil_of_length_eq_zero h0
    refine ⟨v, W, ?_, by simpa using HO, World.grownBy.refl W _⟩
    rcases HO.2 with ⟨rfl, hn⟩ | ⟨g, cap, cur, rfl, _, _, hnc, _⟩
    · simp [Builtin.append_, run_underlying ht, sizeOf, typeInfo, hi, Builtin.lenOf, Builtin.firstCells]
    · simp [Builtin.append_, run_underlying ht, sizeOf, typeInfo, hi, Builtin.lenOf, Builtin.firstCells, hnc, storeCells]
  · have hcells : ∀ j u, (nums .u8 ys)[j]? = some u → W.cell? (ad.add j) = some u := by
      intro j u hu
      have hj : j < ys.length := by
        rcases Nat.lt_or_ge j ys.length with h | h
        · exact h
        · simp [nums, List.getElem?_eq_none h] at hu
      obtain ⟨ad', h', hc⟩ := HR.2.2 (by omega)
      injection h' with h'
      subst h'
      have := hc j (by omega)
      simp [nums, List.getElem?_eq_getElem hj] at hu
      subst hu
      rw [this]
      simp [List.getD_eq_getElem?_getD, List.getElem?_eq_getElem hj]
    obtain ⟨v1, w1, hr, h2, h3, _, h5⟩ := run_append_own_at (P := P) W base t ty e i0 (.int .u8 0) 1 1 ht hi hz0 hz1 hz2 rfl (by omega) v xs.length (nums .u8 xs) HO ad ys.length c (nums .u8 ys) (by simp [nums]) hcells
      (by intro u hu; simp only [nums, List.mem_map] at hu; obtain ⟨q, _, rfl⟩ := hu; rfl) (by simp only [maxLen]; omega) (by omega) hbase
    exact ⟨v1, w1, hr, by simpa [nums] using h2, h3⟩
/-- .. behind 'at_builtin'. -/
theorem appB {t e : TypeId} (ht : P.underlying t = some (.slice e)) (hinfo : (P.info? e).map (fun i => (i.zero, i.size, i.bytes)) = some (some (.int .u8 0), 1, 1)) {W : World} (base : Nat) (hgd : o.guard = none) (s x : Operand)
    (ho : o.op = .call { callee := .builtin .append, args := #[s, x], argTypes := #[t, t] }) (v vy : Value) (xs ys : List Int) (hs : a.eval s = v) (hx : a.eval x = vy)
    (HO : W.ownsRow base e 1 v xs.length (nums .u8 xs)) (HR : Rd kb W vy ys) (hbase : base ≤ W.heap.size) (hl : xs.length + ys.length ≤ 140737488355328)
    (h : ∀ v1 w1, w1.ownsRow base e 1 v1 (xs ++ ys).length (nums .u8 (xs ++ ys)) → W.grownBy w1 v.ownBlock → (∀ k, v.ownBlock = some k → base ≤ k) → wpList P ops Q rest (a.put o.dst v1) w1) :
    wpList P ops Q (o :: rest) a W := by
  obtain ⟨v1, w1, hr, h1, h2⟩ := run_appB (ty := o.type) ht hinfo base v vy xs ys HO HR hbase hl
  refine wpList_plain hgd fun K hK => ?_
  unfold Oper.wp execOp
  simp only [ho, resolve, invoke, builtin, Sem.run_bind, Sem.run_pure, Result.andThen_ok, List.map_toArray, List.map_cons, List.map_nil, hs, hx, hr]
  exact hK _ _ (h v1 w1 h1 h2 (own_base HO))
/-- .. at a step of a region that draws its order. -/
theorem appB_step {t e : TypeId} (ht : P.underlying t = some (.slice e)) (hinfo : (P.info? e).map (fun i => (i.zero, i.size, i.bytes)) = some (some (.int .u8 0), 1, 1)) {W : World} {E : Prop} (base : Nat) (hgd : o.guard = none) (s x : Operand)
    (ho : o.op = .call { callee := .builtin .append, args := #[s, x], argTypes := #[t, t] }) (v vy : Value) (xs ys : List Int) (hs : a.eval s = v) (hx : a.eval x = vy)
    (HO : W.ownsRow base e 1 v xs.length (nums .u8 xs)) (HR : Rd kb W vy ys) (hbase : base ≤ W.heap.size) (hl : xs.length + ys.length ≤ 140737488355328)
    (h : ∀ v1 w1, w1.ownsRow base e 1 v1 (xs ++ ys).length (nums .u8 (xs ++ ys)) → W.grownBy w1 v.ownBlock → (∀ k, v.ownBlock = some k → base ≤ k) → K (a.put o.dst v1) w1) :
    if Region.wanted o (yielded ops a.tmps) = true then Oper.wp P o a W K Q else E := by
  obtain ⟨v1, w1, hr, h1, h2⟩ := run_appB (ty := o.type) ht hinfo base v vy xs ys HO HR hbase hl
  rw [if_pos (by simp [Region.wanted, hgd])]
  unfold Oper.wp execOp
  simp only [ho, resolve, invoke, builtin, Sem.run_bind, Sem.run_pure, Result.andThen_ok, List.map_toArray, List.map_cons, List.map_nil, hs, hx, hr]
  exact h v1 w1 h1 h2 (own_base HO)
end
end Go.Proofs.Ph
/- The kinds of this part's structs (by the kit's kinds.py). No condition. -/
namespace Go.Proofs.Ph
open Go Go.RowKit Go.Proofs.YthjnlggommennaaW.PrintWords
def rd_L3 (xs : List (List Int)) (i : Int) : (List Int) := xs.getD i.toNat ([] : List Int)
theorem at_L3 {w : World} {A : Option Addr} {n : Nat} {xs : List (List Int)} (h : Kd.C (Kd.slice 5 (Kd.int .u8)) w A n xs) (i : Int) (h0 : 0 ≤ i) (h1 : i < n) : ∃ ad A0 c0, A = some ad ∧ w.cell? (ad.add i.toNat) = some (.slice A0 (rd_L3 xs i).length c0) ∧ (rd_L3 xs i).length ≤ c0 ∧ (Kd.int .u8).C w A0 (rd_L3 xs i).length (rd_L3 xs i) := by
  obtain ⟨ad, c, e, _, hK, hc0⟩ := Kd.C_get h ([] : List Int) i h0 h1
  have hc : ∀ j u, c[j]? = some u → w.cell? (ad.add (i.toNat * 1 + j)) = some u := hc0
  obtain ⟨A0, c0, rfl, l0, g0⟩ := hK
  exact ⟨ad, A0, c0, e, by have hq := hc 0 _ rfl; rwa [Nat.mul_one, Nat.add_zero] at hq, l0, g0⟩

def rd_L4 (xs : List (List (List Int))) (i : Int) : (List (List Int)) := xs.getD i.toNat ([] : List (List Int))
theorem at_L4 {w : World} {A : Option Addr} {n : Nat} {xs : List (List (List Int))} (h : Kd.C (Kd.slice 31 (Kd.slice 5 (Kd.int .u8))) w A n xs) (i : Int) (h0 : 0 ≤ i) (h1 : i < n) : ∃ ad A0 c0, A = some ad ∧ w.cell? (ad.add i.toNat) = some (.slice A0 (rd_L4 xs i).length c0) ∧ (rd_L4 xs i).length ≤ c0 ∧ (Kd.slice 5 (Kd.int .u8)).C w A0 (rd_L4 xs i).length (rd_L4 xs i) := by
  obtain ⟨ad, c, e, _, hK, hc0⟩ := Kd.C_get h ([] : List (List Int)) i h0 h1
  have hc : ∀ j u, c[j]? = some u → w.cell? (ad.add (i.toNat * 1 + j)) = some u := hc0
  obtain ⟨A0, c0, rfl, l0, g0⟩ := hK
  exact ⟨ad, A0, c0, e, by have hq := hc 0 _ rfl; rwa [Nat.mul_one, Nat.add_zero] at hq, l0, g0⟩

/-! #### struct type 47 -/
structure S47 where
  f0 : Int
  f1 : Bool
  f2 : (List Int)
def z47 : S47 := ⟨(0 : Int), false, ([] : List Int)⟩
def k47 : Kd S47 := Kd.iso (Kd.pair (Kd.int .i64) (Kd.pair Kd.bool (Kd.slice 5 (Kd.int .u8)))) (fun x : S47 => (x.f0, x.f1, x.f2))
theorem k47_open {w : World} {x : S47} {cs : List Value} (h : k47.K w x cs) : ∃ A2 c2, cs = [.int .i64 x.f0, .bool x.f1, .slice A2 x.f2.length c2] ∧ x.f2.length ≤ c2 ∧ (Kd.int .u8).C w A2 x.f2.length x.f2 := by
  obtain ⟨_, _, rfl, rfl, ⟨_, _, rfl, rfl, ⟨A2, c2, rfl, l2, g2⟩⟩⟩ := h
  exact ⟨A2, c2, rfl, l2, g2⟩
theorem k47_openM {w : World} {base : Nat} {ok : Nat → Prop} {x : S47} {cs : List Value} (h : k47.M w base ok x cs) : ∃ v2, cs = [.int .i64 x.f0, .bool x.f1, v2] ∧ (Kd.int .u8).R 5 w base ok v2 x.f2 := by
  obtain ⟨_, _, rfl, rfl, ⟨_, _, rfl, rfl, ⟨v2, rfl, g2⟩⟩⟩ := h
  exact ⟨v2, rfl, g2⟩
theorem k47_mk (w : World) (x : S47) {A2 : Option Addr} {c2 : Nat} (l2 : x.f2.length ≤ c2) (g2 : (Kd.int .u8).C w A2 x.f2.length x.f2) : k47.K w x [.int .i64 x.f0, .bool x.f1, .slice A2 x.f2.length c2] := ⟨[.int .i64 x.f0], [.bool x.f1, .slice A2 x.f2.length c2], rfl, rfl, ⟨[.bool x.f1], [.slice A2 x.f2.length c2], rfl, rfl, ⟨A2, c2, rfl, l2, g2⟩⟩⟩
theorem k47_mkM (w : World) (base : Nat) (ok : Nat → Prop) (x : S47) {v2 : Value} (g2 : (Kd.int .u8).R 5 w base ok v2 x.f2) : k47.M w base ok x [.int .i64 x.f0, .bool x.f1, v2] := ⟨[.int .i64 x.f0], [.bool x.f1, v2], rfl, rfl, ⟨[.bool x.f1], [v2], rfl, rfl, ⟨v2, rfl, g2⟩⟩⟩
theorem k47_openF {W : World} {ok : Nat → Prop} {x : S47} {cs : List Value} (h : Kd.FK k47 W ok x cs) : ∃ A2 c2, cs = [.int .i64 x.f0, .bool x.f1, .slice A2 x.f2.length c2] ∧ x.f2.length ≤ c2 ∧ Kd.F (Kd.int .u8) W ok A2 x.f2.length x.f2 := by
  obtain ⟨A2, c2, rfl, l2, _⟩ := k47_open (Kd.FK_now h)
  exact ⟨A2, c2, rfl, l2, (fun W' hW => by obtain ⟨A2_, c2_, he, l2_, g2_⟩ := k47_open (h W' hW); injection (Option.some.inj (show some (Value.slice A2 x.f2.length c2) = some (Value.slice A2_ x.f2.length c2_) from congrArg (fun l => l[2]?) he)) with ha_ _ _; rw [ha_]; exact g2_)⟩
theorem k47_mkF (W : World) (ok : Nat → Prop) (x : S47) {A2 : Option Addr} {c2 : Nat} (l2 : x.f2.length ≤ c2) (g2 : Kd.F (Kd.int .u8) W ok A2 x.f2.length x.f2) : Kd.FK k47 W ok x [.int .i64 x.f0, .bool x.f1, .slice A2 x.f2.length c2] := fun W2 hW => k47_mk W2 x l2 (g2 W2 hW)
def rd_T47 (xs : List S47) (i : Int) : S47 := xs.getD i.toNat z47
theorem at_T47 {w : World} {A : Option Addr} {n : Nat} {xs : List S47} (h : Kd.C k47 w A n xs) (i : Int) (h0 : 0 ≤ i) (h1 : i < n) : ∃ ad A2 c2, A = some ad ∧ w.cell? (ad.add (i.toNat * 3)) = some (.int .i64 (rd_T47 xs i).f0) ∧ w.cell? ⟨(ad.add (i.toNat * 3)).block, (ad.add (i.toNat * 3)).off + 1, none⟩ = some (.bool (rd_T47 xs i).f1) ∧ w.cell? ⟨(ad.add (i.toNat * 3)).block, (ad.add (i.toNat * 3)).off + 2, none⟩ = some (.slice A2 (rd_T47 xs i).f2.length c2) ∧ (rd_T47 xs i).f2.length ≤ c2 ∧ (Kd.int .u8).C w A2 (rd_T47 xs i).f2.length (rd_T47 xs i).f2 := by
  obtain ⟨ad, c, e, _, hK, hc0⟩ := Kd.C_get h z47 i h0 h1
  have hc : ∀ j u, c[j]? = some u → w.cell? (ad.add (i.toNat * 3 + j)) = some u := hc0
  obtain ⟨A2, c2, rfl, l2, g2⟩ := k47_open hK
  exact ⟨ad, A2, c2, e, hc 0 _ rfl, by rw [← add_field _ _ 1 (by omega)]; exact hc 1 _ rfl, by rw [← add_field _ _ 2 (by omega)]; exact hc 2 _ rfl, l2, g2⟩

/-! #### struct type 161 -/
structure S161 where
  f0 : Int
  f1 : Int
  f2 : Int
  f3 : Int
def z161 : S161 := ⟨(0 : Int), (0 : Int), (0 : Int), (0 : Int)⟩
def k161 : Kd S161 := Kd.iso (Kd.pair (Kd.int .i64) (Kd.pair (Kd.int .i64) (Kd.pair (Kd.int .i64) (Kd.int .i64)))) (fun x : S161 => (x.f0, x.f1, x.f2, x.f3))
theorem k161_open {w : World} {x : S161} {cs : List Value} (h : k161.K w x cs) : cs = [.int .i64 x.f0, .int .i64 x.f1, .int .i64 x.f2, .int .i64 x.f3] := by
  obtain ⟨_, _, rfl, rfl, ⟨_, _, rfl, rfl, ⟨_, _, rfl, rfl, rfl⟩⟩⟩ := h
  exact rfl
theorem k161_openM {w : World} {base : Nat} {ok : Nat → Prop} {x : S161} {cs : List Value} (h : k161.M w base ok x cs) : cs = [.int .i64 x.f0, .int .i64 x.f1, .int .i64 x.f2, .int .i64 x.f3] := by
  obtain ⟨_, _, rfl, rfl, ⟨_, _, rfl, rfl, ⟨_, _, rfl, rfl, rfl⟩⟩⟩ := h
  exact rfl
theorem k161_mk (w : World) (x : S161)  : k161.K w x [.int .i64 x.f0, .int .i64 x.f1, .int .i64 x.f2, .int .i64 x.f3] := ⟨[.int .i64 x.f0], [.int .i64 x.f1, .int .i64 x.f2, .int .i64 x.f3], rfl, rfl, ⟨[.int .i64 x.f1], [.int .i64 x.f2, .int .i64 x.f3], rfl, rfl, ⟨[.int .i64 x.f2], [.int .i64 x.f3], rfl, rfl, rfl⟩⟩⟩
theorem k161_mkM (w : World) (base : Nat) (ok : Nat → Prop) (x : S161)  : k161.M w base ok x [.int .i64 x.f0, .int .i64 x.f1, .int .i64 x.f2, .int .i64 x.f3] := ⟨[.int .i64 x.f0], [.int .i64 x.f1, .int .i64 x.f2, .int .i64 x.f3], rfl, rfl, ⟨[.int .i64 x.f1], [.int .i64 x.f2, .int .i64 x.f3], rfl, rfl, ⟨[.int .i64 x.f2], [.int .i64 x.f3], rfl, rfl, rfl⟩⟩⟩
theorem k161_mkF (W : World) (ok : Nat → Prop) (x : S161) : Kd.FK k161 W ok x [.int .i64 x.f0, .int .i64 x.f1, .int .i64 x.f2, .int .i64 x.f3] := fun W2 _ => k161_mk W2 x
def rd_T161 (xs : List S161) (i : Int) : S161 := xs.getD i.toNat z161
theorem at_T161 {w : World} {A : Option Addr} {n : Nat} {xs : List S161} (h : Kd.C k161 w A n xs) (i : Int) (h0 : 0 ≤ i) (h1 : i < n) : ∃ ad , A = some ad ∧ w.cell? (ad.add (i.toNat * 4)) = some (.int .i64 (rd_T161 xs i).f0) ∧ w.cell? ⟨(ad.add (i.toNat * 4)).block, (ad.add (i.toNat * 4)).off + 1, none⟩ = some (.int .i64 (rd_T161 xs i).f1) ∧ w.cell? ⟨(ad.add (i.toNat * 4)).block, (ad.add (i.toNat * 4)).off + 2, none⟩ = some (.int .i64 (rd_T161 xs i).f2) ∧ w.cell? ⟨(ad.add (i.toNat * 4)).block, (ad.add (i.toNat * 4)).off + 3, none⟩ = some (.int .i64 (rd_T161 xs i).f3) := by
  obtain ⟨ad, c, e, _, hK, hc0⟩ := Kd.C_get h z161 i h0 h1
  have hc : ∀ j u, c[j]? = some u → w.cell? (ad.add (i.toNat * 4 + j)) = some u := hc0
  obtain rfl := k161_open hK
  exact ⟨ad, e, hc 0 _ rfl, by rw [← add_field _ _ 1 (by omega)]; exact hc 1 _ rfl, by rw [← add_field _ _ 2 (by omega)]; exact hc 2 _ rfl, by rw [← add_field _ _ 3 (by omega)]; exact hc 3 _ rfl⟩

def rd_L7 (xs : List (List S47)) (i : Int) : (List S47) := xs.getD i.toNat ([] : List S47)
theorem at_L7 {w : World} {A : Option Addr} {n : Nat} {xs : List (List S47)} (h : Kd.C (Kd.slice 47 k47) w A n xs) (i : Int) (h0 : 0 ≤ i) (h1 : i < n) : ∃ ad A0 c0, A = some ad ∧ w.cell? (ad.add i.toNat) = some (.slice A0 (rd_L7 xs i).length c0) ∧ (rd_L7 xs i).length ≤ c0 ∧ k47.C w A0 (rd_L7 xs i).length (rd_L7 xs i) := by
  obtain ⟨ad, c, e, _, hK, hc0⟩ := Kd.C_get h ([] : List S47) i h0 h1
  have hc : ∀ j u, c[j]? = some u → w.cell? (ad.add (i.toNat * 1 + j)) = some u := hc0
  obtain ⟨A0, c0, rfl, l0, g0⟩ := hK
  exact ⟨ad, A0, c0, e, by have hq := hc 0 _ rfl; rwa [Nat.mul_one, Nat.add_zero] at hq, l0, g0⟩

def rd_L8 (xs : List (List S161)) (i : Int) : (List S161) := xs.getD i.toNat ([] : List S161)
theorem at_L8 {w : World} {A : Option Addr} {n : Nat} {xs : List (List S161)} (h : Kd.C (Kd.slice 161 k161) w A n xs) (i : Int) (h0 : 0 ≤ i) (h1 : i < n) : ∃ ad A0 c0, A = some ad ∧ w.cell? (ad.add i.toNat) = some (.slice A0 (rd_L8 xs i).length c0) ∧ (rd_L8 xs i).length ≤ c0 ∧ k161.C w A0 (rd_L8 xs i).length (rd_L8 xs i) := by
  obtain ⟨ad, c, e, _, hK, hc0⟩ := Kd.C_get h ([] : List S161) i h0 h1
  have hc : ∀ j u, c[j]? = some u → w.cell? (ad.add (i.toNat * 1 + j)) = some u := hc0
  obtain ⟨A0, c0, rfl, l0, g0⟩ := hK
  exact ⟨ad, A0, c0, e, by have hq := hc 0 _ rfl; rwa [Nat.mul_one, Nat.add_zero] at hq, l0, g0⟩

/-! #### struct type 25 -/
structure S25 where
  f0 : Int
  f1 : Bool
  f2 : Int
  f3 : Int
  f4 : Int
  f5 : Int
  f6 : Int
  f7 : (List S47)
  f8 : (List S161)
def z25 : S25 := ⟨(0 : Int), false, (0 : Int), (0 : Int), (0 : Int), (0 : Int), (0 : Int), ([] : List S47), ([] : List S161)⟩
def k25 : Kd S25 := Kd.iso (Kd.pair (Kd.int .i64) (Kd.pair Kd.bool (Kd.pair (Kd.int .i64) (Kd.pair (Kd.int .i64) (Kd.pair (Kd.int .i64) (Kd.pair (Kd.int .i64) (Kd.pair (Kd.int .i64) (Kd.pair (Kd.slice 47 k47) (Kd.slice 161 k161))))))))) (fun x : S25 => (x.f0, x.f1, x.f2, x.f3, x.f4, x.f5, x.f6, x.f7, x.f8))
theorem k25_open {w : World} {x : S25} {cs : List Value} (h : k25.K w x cs) : ∃ A7 c7 A8 c8, cs = [.int .i64 x.f0, .bool x.f1, .int .i64 x.f2, .int .i64 x.f3, .int .i64 x.f4, .int .i64 x.f5, .int .i64 x.f6, .slice A7 x.f7.length c7, .slice A8 x.f8.length c8] ∧ x.f7.length ≤ c7 ∧ k47.C w A7 x.f7.length x.f7 ∧ x.f8.length ≤ c8 ∧ k161.C w A8 x.f8.length x.f8 := by
  obtain ⟨_, _, rfl, rfl, ⟨_, _, rfl, rfl, ⟨_, _, rfl, rfl, ⟨_, _, rfl, rfl, ⟨_, _, rfl, rfl, ⟨_, _, rfl, rfl, ⟨_, _, rfl, rfl, ⟨_, _, rfl, ⟨A7, c7, rfl, l7, g7⟩, ⟨A8, c8, rfl, l8, g8⟩⟩⟩⟩⟩⟩⟩⟩⟩ := h
  exact ⟨A7, c7, A8, c8, rfl, l7, g7, l8, g8⟩
theorem k25_openM {w : World} {base : Nat} {ok : Nat → Prop} {x : S25} {cs : List Value} (h : k25.M w base ok x cs) : ∃ v7 v8, cs = [.int .i64 x.f0, .bool x.f1, .int .i64 x.f2, .int .i64 x.f3, .int .i64 x.f4, .int .i64 x.f5, .int .i64 x.f6, v7, v8] ∧ k47.R 47 w base ok v7 x.f7 ∧ k161.R 161 w base ok v8 x.f8 := by
  obtain ⟨_, _, rfl, rfl, ⟨_, _, rfl, rfl, ⟨_, _, rfl, rfl, ⟨_, _, rfl, rfl, ⟨_, _, rfl, rfl, ⟨_, _, rfl, rfl, ⟨_, _, rfl, rfl, ⟨_, _, rfl, ⟨v7, rfl, g7⟩, ⟨v8, rfl, g8⟩⟩⟩⟩⟩⟩⟩⟩⟩ := h
  exact ⟨v7, v8, rfl, g7, g8⟩
theorem k25_mk (w : World) (x : S25) {A7 : Option Addr} {c7 : Nat} (l7 : x.f7.length ≤ c7) (g7 : k47.C w A7 x.f7.length x.f7) {A8 : Option Addr} {c8 : Nat} (l8 : x.f8.length ≤ c8) (g8 : k161.C w A8 x.f8.length x.f8) : k25.K w x [.int .i64 x.f0, .bool x.f1, .int .i64 x.f2, .int .i64 x.f3, .int .i64 x.f4, .int .i64 x.f5, .int .i64 x.f6, .slice A7 x.f7.length c7, .slice A8 x.f8.length c8] := ⟨[.int .i64 x.f0], [.bool x.f1, .int .i64 x.f2, .int .i64 x.f3, .int .i64 x.f4, .int .i64 x.f5, .int .i64 x.f6, .slice A7 x.f7.length c7, .slice A8 x.f8.length c8], rfl, rfl, ⟨[.bool x.f1], [.int .i64 x.f2, .int .i64 x.f3, .int .i64 x.f4, .int .i64 x.f5, .int .i64 x.f6, .slice A7 x.f7.length c7, .slice A8 x.f8.length c8], rfl, rfl, ⟨[.int .i64 x.f2], [.int .i64 x.f3, .int .i64 x.f4, .int .i64 x.f5, .int .i64 x.f6, .slice A7 x.f7.length c7, .slice A8 x.f8.length c8], rfl, rfl, ⟨[.int .i64 x.f3], [.int .i64 x.f4, .int .i64 x.f5, .int .i64 x.f6, .slice A7 x.f7.length c7, .slice A8 x.f8.length c8], rfl, rfl, ⟨[.int .i64 x.f4], [.int .i64 x.f5, .int .i64 x.f6, .slice A7 x.f7.length c7, .slice A8 x.f8.length c8], rfl, rfl, ⟨[.int .i64 x.f5], [.int .i64 x.f6, .slice A7 x.f7.length c7, .slice A8 x.f8.length c8], rfl, rfl, ⟨[.int .i64 x.f6], [.slice A7 x.f7.length c7, .slice A8 x.f8.length c8], rfl, rfl, ⟨[.slice A7 x.f7.length c7], [.slice A8 x.f8.length c8], rfl, ⟨A7, c7, rfl, l7, g7⟩, ⟨A8, c8, rfl, l8, g8⟩⟩⟩⟩⟩⟩⟩⟩⟩
theorem k25_mkM (w : World) (base : Nat) (ok : Nat → Prop) (x : S25) {v7 : Value} (g7 : k47.R 47 w base ok v7 x.f7) {v8 : Value} (g8 : k161.R 161 w base ok v8 x.f8) : k25.M w base ok x [.int .i64 x.f0, .bool x.f1, .int .i64 x.f2, .int .i64 x.f3, .int .i64 x.f4, .int .i64 x.f5, .int .i64 x.f6, v7, v8] := ⟨[.int .i64 x.f0], [.bool x.f1, .int .i64 x.f2, .int .i64 x.f3, .int .i64 x.f4, .int .i64 x.f5, .int .i64 x.f6, v7, v8], rfl, rfl, ⟨[.bool x.f1], [.int .i64 x.f2, .int .i64 x.f3, .int .i64 x.f4, .int .i64 x.f5, .int .i64 x.f6, v7, v8], rfl, rfl, ⟨[.int .i64 x.f2], [.int .i64 x.f3, .int .i64 x.f4, .int .i64 x.f5, .int .i64 x.f6, v7, v8], rfl, rfl, ⟨[.int .i64 x.f3], [.int .i64 x.f4, .int .i64 x.f5, .int .i64 x.f6, v7, v8], rfl, rfl, ⟨[.int .i64 x.f4], [.int .i64 x.f5, .int .i64 x.f6, v7, v8], rfl, rfl, ⟨[.int .i64 x.f5], [.int .i64 x.f6, v7, v8], rfl, rfl, ⟨[.int .i64 x.f6], [v7, v8], rfl, rfl, ⟨[v7], [v8], rfl, ⟨v7, rfl, g7⟩, ⟨v8, rfl, g8⟩⟩⟩⟩⟩⟩⟩⟩⟩
theorem k25_openF {W : World} {ok : Nat → Prop} {x : S25} {cs : List Value} (h : Kd.FK k25 W ok x cs) : ∃ A7 c7 A8 c8, cs = [.int .i64 x.f0, .bool x.f1, .int .i64 x.f2, .int .i64 x.f3, .int .i64 x.f4, .int .i64 x.f5, .int .i64 x.f6, .slice A7 x.f7.length c7, .slice A8 x.f8.length c8] ∧ x.f7.length ≤ c7 ∧ Kd.F k47 W ok A7 x.f7.length x.f7 ∧ x.f8.length ≤ c8 ∧ Kd.F k161 W ok A8 x.f8.length x.f8 := by
  obtain ⟨A7, c7, A8, c8, rfl, l7, _, l8, _⟩ := k25_open (Kd.FK_now h)
  exact ⟨A7, c7, A8, c8, rfl, l7, (fun W' hW => by obtain ⟨A7_, c7_, A8_, c8_, he, l7_, g7_, l8_, g8_⟩ := k25_open (h W' hW); injection (Option.some.inj (show some (Value.slice A7 x.f7.length c7) = some (Value.slice A7_ x.f7.length c7_) from congrArg (fun l => l[7]?) he)) with ha_ _ _; rw [ha_]; exact g7_), l8, (fun W' hW => by obtain ⟨A7_, c7_, A8_, c8_, he, l7_, g7_, l8_, g8_⟩ := k25_open (h W' hW); injection (Option.some.inj (show some (Value.slice A8 x.f8.length c8) = some (Value.slice A8_ x.f8.length c8_) from congrArg (fun l => l[8]?) he)) with ha_ _ _; rw [ha_]; exact g8_)⟩
theorem k25_mkF (W : World) (ok : Nat → Prop) (x : S25) {A7 : Option Addr} {c7 : Nat} (l7 : x.f7.length ≤ c7) (g7 : Kd.F k47 W ok A7 x.f7.length x.f7) {A8 : Option Addr} {c8 : Nat} (l8 : x.f8.length ≤ c8) (g8 : Kd.F k161 W ok A8 x.f8.length x.f8) : Kd.FK k25 W ok x [.int .i64 x.f0, .bool x.f1, .int .i64 x.f2, .int .i64 x.f3, .int .i64 x.f4, .int .i64 x.f5, .int .i64 x.f6, .slice A7 x.f7.length c7, .slice A8 x.f8.length c8] := fun W2 hW => k25_mk W2 x l7 (g7 W2 hW) l8 (g8 W2 hW)
def rd_T25 (xs : List S25) (i : Int) : S25 := xs.getD i.toNat z25
theorem at_T25 {w : World} {A : Option Addr} {n : Nat} {xs : List S25} (h : Kd.C k25 w A n xs) (i : Int) (h0 : 0 ≤ i) (h1 : i < n) : ∃ ad A7 c7 A8 c8, A = some ad ∧ w.cell? (ad.add (i.toNat * 9)) = some (.int .i64 (rd_T25 xs i).f0) ∧ w.cell? ⟨(ad.add (i.toNat * 9)).block, (ad.add (i.toNat * 9)).off + 1, none⟩ = some (.bool (rd_T25 xs i).f1) ∧ w.cell? ⟨(ad.add (i.toNat * 9)).block, (ad.add (i.toNat * 9)).off + 2, none⟩ = some (.int .i64 (rd_T25 xs i).f2) ∧ w.cell? ⟨(ad.add (i.toNat * 9)).block, (ad.add (i.toNat * 9)).off + 3, none⟩ = some (.int .i64 (rd_T25 xs i).f3) ∧ w.cell? ⟨(ad.add (i.toNat * 9)).block, (ad.add (i.toNat * 9)).off + 4, none⟩ = some (.int .i64 (rd_T25 xs i).f4) ∧ w.cell? ⟨(ad.add (i.toNat * 9)).block, (ad.add (i.toNat * 9)).off + 5, none⟩ = some (.int .i64 (rd_T25 xs i).f5) ∧ w.cell? ⟨(ad.add (i.toNat * 9)).block, (ad.add (i.toNat * 9)).off + 6, none⟩ = some (.int .i64 (rd_T25 xs i).f6) ∧ w.cell? ⟨(ad.add (i.toNat * 9)).block, (ad.add (i.toNat * 9)).off + 7, none⟩ = some (.slice A7 (rd_T25 xs i).f7.length c7) ∧ w.cell? ⟨(ad.add (i.toNat * 9)).block, (ad.add (i.toNat * 9)).off + 8, none⟩ = some (.slice A8 (rd_T25 xs i).f8.length c8) ∧ (rd_T25 xs i).f7.length ≤ c7 ∧ k47.C w A7 (rd_T25 xs i).f7.length (rd_T25 xs i).f7 ∧ (rd_T25 xs i).f8.length ≤ c8 ∧ k161.C w A8 (rd_T25 xs i).f8.length (rd_T25 xs i).f8 := by
  obtain ⟨ad, c, e, _, hK, hc0⟩ := Kd.C_get h z25 i h0 h1
  have hc : ∀ j u, c[j]? = some u → w.cell? (ad.add (i.toNat * 9 + j)) = some u := hc0
  obtain ⟨A7, c7, A8, c8, rfl, l7, g7, l8, g8⟩ := k25_open hK
  exact ⟨ad, A7, c7, A8, c8, e, hc 0 _ rfl, by rw [← add_field _ _ 1 (by omega)]; exact hc 1 _ rfl, by rw [← add_field _ _ 2 (by omega)]; exact hc 2 _ rfl, by rw [← add_field _ _ 3 (by omega)]; exact hc 3 _ rfl, by rw [← add_field _ _ 4 (by omega)]; exact hc 4 _ rfl, by rw [← add_field _ _ 5 (by omega)]; exact hc 5 _ rfl, by rw [← add_field _ _ 6 (by omega)]; exact hc 6 _ rfl, by rw [← add_field _ _ 7 (by omega)]; exact hc 7 _ rfl, by rw [← add_field _ _ 8 (by omega)]; exact hc 8 _ rfl, l7, g7, l8, g8⟩

/-! #### struct type 38 -/
structure S38 where
  f0 : Int
  f1 : (List Int)
  f2 : Bool
def z38 : S38 := ⟨(0 : Int), ([] : List Int), false⟩
def k38 : Kd S38 := Kd.iso (Kd.pair (Kd.int .i64) (Kd.pair (Kd.slice 5 (Kd.int .u8)) Kd.bool)) (fun x : S38 => (x.f0, x.f1, x.f2))
theorem k38_open {w : World} {x : S38} {cs : List Value} (h : k38.K w x cs) : ∃ A1 c1, cs = [.int .i64 x.f0, .slice A1 x.f1.length c1, .bool x.f2] ∧ x.f1.length ≤ c1 ∧ (Kd.int .u8).C w A1 x.f1.length x.f1 := by
  obtain ⟨_, _, rfl, rfl, ⟨_, _, rfl, ⟨A1, c1, rfl, l1, g1⟩, rfl⟩⟩ := h
  exact ⟨A1, c1, rfl, l1, g1⟩
theorem k38_openM {w : World} {base : Nat} {ok : Nat → Prop} {x : S38} {cs : List Value} (h : k38.M w base ok x cs) : ∃ v1, cs = [.int .i64 x.f0, v1, .bool x.f2] ∧ (Kd.int .u8).R 5 w base ok v1 x.f1 := by
  obtain ⟨_, _, rfl, rfl, ⟨_, _, rfl, ⟨v1, rfl, g1⟩, rfl⟩⟩ := h
  exact ⟨v1, rfl, g1⟩
theorem k38_mk (w : World) (x : S38) {A1 : Option Addr} {c1 : Nat} (l1 : x.f1.length ≤ c1) (g1 : (Kd.int .u8).C w A1 x.f1.length x.f1) : k38.K w x [.int .i64 x.f0, .slice A1 x.f1.length c1, .bool x.f2] := ⟨[.int .i64 x.f0], [.slice A1 x.f1.length c1, .bool x.f2], rfl, rfl, ⟨[.slice A1 x.f1.length c1], [.bool x.f2], rfl, ⟨A1, c1, rfl, l1, g1⟩, rfl⟩⟩
theorem k38_mkM (w : World) (base : Nat) (ok : Nat → Prop) (x : S38) {v1 : Value} (g1 : (Kd.int .u8).R 5 w base ok v1 x.f1) : k38.M w base ok x [.int .i64 x.f0, v1, .bool x.f2] := ⟨[.int .i64 x.f0], [v1, .bool x.f2], rfl, rfl, ⟨[v1], [.bool x.f2], rfl, ⟨v1, rfl, g1⟩, rfl⟩⟩
theorem k38_openF {W : World} {ok : Nat → Prop} {x : S38} {cs : List Value} (h : Kd.FK k38 W ok x cs) : ∃ A1 c1, cs = [.int .i64 x.f0, .slice A1 x.f1.length c1, .bool x.f2] ∧ x.f1.length ≤ c1 ∧ Kd.F (Kd.int .u8) W ok A1 x.f1.length x.f1 := by
  obtain ⟨A1, c1, rfl, l1, _⟩ := k38_open (Kd.FK_now h)
  exact ⟨A1, c1, rfl, l1, (fun W' hW => by obtain ⟨A1_, c1_, he, l1_, g1_⟩ := k38_open (h W' hW); injection (Option.some.inj (show some (Value.slice A1 x.f1.length c1) = some (Value.slice A1_ x.f1.length c1_) from congrArg (fun l => l[1]?) he)) with ha_ _ _; rw [ha_]; exact g1_)⟩
theorem k38_mkF (W : World) (ok : Nat → Prop) (x : S38) {A1 : Option Addr} {c1 : Nat} (l1 : x.f1.length ≤ c1) (g1 : Kd.F (Kd.int .u8) W ok A1 x.f1.length x.f1) : Kd.FK k38 W ok x [.int .i64 x.f0, .slice A1 x.f1.length c1, .bool x.f2] := fun W2 hW => k38_mk W2 x l1 (g1 W2 hW)
def rd_T38 (xs : List S38) (i : Int) : S38 := xs.getD i.toNat z38
theorem at_T38 {w : World} {A : Option Addr} {n : Nat} {xs : List S38} (h : Kd.C k38 w A n xs) (i : Int) (h0 : 0 ≤ i) (h1 : i < n) : ∃ ad A1 c1, A = some ad ∧ w.cell? (ad.add (i.toNat * 3)) = some (.int .i64 (rd_T38 xs i).f0) ∧ w.cell? ⟨(ad.add (i.toNat * 3)).block, (ad.add (i.toNat * 3)).off + 1, none⟩ = some (.slice A1 (rd_T38 xs i).f1.length c1) ∧ w.cell? ⟨(ad.add (i.toNat * 3)).block, (ad.add (i.toNat * 3)).off + 2, none⟩ = some (.bool (rd_T38 xs i).f2) ∧ (rd_T38 xs i).f1.length ≤ c1 ∧ (Kd.int .u8).C w A1 (rd_T38 xs i).f1.length (rd_T38 xs i).f1 := by
  obtain ⟨ad, c, e, _, hK, hc0⟩ := Kd.C_get h z38 i h0 h1
  have hc : ∀ j u, c[j]? = some u → w.cell? (ad.add (i.toNat * 3 + j)) = some u := hc0
  obtain ⟨A1, c1, rfl, l1, g1⟩ := k38_open hK
  exact ⟨ad, A1, c1, e, hc 0 _ rfl, by rw [← add_field _ _ 1 (by omega)]; exact hc 1 _ rfl, by rw [← add_field _ _ 2 (by omega)]; exact hc 2 _ rfl, l1, g1⟩

def rd_L11 (xs : List (List S38)) (i : Int) : (List S38) := xs.getD i.toNat ([] : List S38)
theorem at_L11 {w : World} {A : Option Addr} {n : Nat} {xs : List (List S38)} (h : Kd.C (Kd.slice 38 k38) w A n xs) (i : Int) (h0 : 0 ≤ i) (h1 : i < n) : ∃ ad A0 c0, A = some ad ∧ w.cell? (ad.add i.toNat) = some (.slice A0 (rd_L11 xs i).length c0) ∧ (rd_L11 xs i).length ≤ c0 ∧ k38.C w A0 (rd_L11 xs i).length (rd_L11 xs i) := by
  obtain ⟨ad, c, e, _, hK, hc0⟩ := Kd.C_get h ([] : List S38) i h0 h1
  have hc : ∀ j u, c[j]? = some u → w.cell? (ad.add (i.toNat * 1 + j)) = some u := hc0
  obtain ⟨A0, c0, rfl, l0, g0⟩ := hK
  exact ⟨ad, A0, c0, e, by have hq := hc 0 _ rfl; rwa [Nat.mul_one, Nat.add_zero] at hq, l0, g0⟩

end Go.Proofs.Ph
/- diag: a number's four bytes, refusals, keys. No condition. -/
namespace Go.Proofs.Ph
open Go Go.RowKit Go.Proofs.YthjnlggommennaaW.PrintWords
theorem i5 : (Try.prog.info? 5).map (fun i => (i.zero, i.size, i.bytes)) = some (some (.int .u8 0), 1, 1) := by kernel_rfl
/-- What a call that makes bytes leaves. -/
def RetB (w : World) (l : List Int) (e : Ending) (w' : World) : Prop := ∃ v, e = .returned v ∧ RdF kb w' (fun k => w.heap.size ≤ k) v l ∧ Fr (fun _ => False) w w'
def four (n : Int) : List Int := [n / 16777216 % 256, n / 65536 % 256, n / 256 % 256, n % 256]
theorem four_calls (n : Int) (w : World) : Calls Try.prog 172 #[.int .i64 n] w (RetB w (four n)) := by
  go_enter Try.func172, Try.ntmps172
  go_wp2
  go_ret
  refine ⟨_, rfl, own_rdF (own_lit' w.heap.size (blk_new w _) (by simp [nums, four]) (Nat.le_refl _) rfl (by omega)), (Fr.refl _ w).alloc _⟩
theorem deny_calls (s y : Int) (w : World) : Calls Try.prog 31 #[.int .i64 s, .int .i64 y] w (RetB w [127, s % 256, y % 256]) := by
  go_enter Try.func31, Try.ntmps31
  go_wp2
  go_ret
  refine ⟨_, rfl, own_rdF (own_lit' w.heap.size (blk_new w _) (by simp [nums]) (Nat.le_refl _) rfl (by omega)), (Fr.refl _ w).alloc _⟩
def xor32 (a b : Int) : Int := bits BinOp.xor IntKind.u32 a b
def keyStep (sec x : Int) : Int := xor32 ((x * 2654435761 + sec) % 4294967296) ((x * 2654435761 + sec) % 4294967296 / 32768)
def key (seed sec : Int) : Int := keyStep sec (keyStep sec (keyStep sec (xor32 (seed % 4294967296) (sec % 4294967296))))
theorem xor32_range (a b : Int) : 0 ≤ xor32 a b ∧ xor32 a b ≤ 4294967295 := by
  unfold xor32 bits
  rw [IntKind.wrap_u32]
  omega
theorem keyStep_range (a b : Int) : 0 ≤ keyStep a b ∧ keyStep a b ≤ 4294967295 := xor32_range _ _
theorem key_range (n m : Int) : 0 ≤ key n m ∧ key n m ≤ 4294967295 := xor32_range _ _
theorem wrap64_small {n : Int} (h : 0 ≤ n ∧ n ≤ 4294967295) : wrap64 n = n := by unfold wrap64; omega
theorem key_calls (n m : Int) (w : World) : Calls Try.prog 29 #[.int .i64 n, .int .i64 m] w fun e w' => e = .returned (.int .i64 (key n m)) ∧ w = w' := by
  go_enter Try.func29, Try.ntmps29
  go_wp2
  refine wp_loop_rounds 4 ?_
  rw [rounds_succ]
  go_wp2
  rw [rounds_succ]
  go_wp2
  rw [rounds_succ]
  go_wp2
  rw [rounds_succ]
  go_wp2
  go_ret
  refine ⟨?_, rfl⟩
  show Ending.returned (.int .i64 (wrap64 (key n m))) = _
  rw [wrap64_small (key_range n m)]
end Go.Proofs.Ph
/- diag: the methods of a question that is asked. No condition. -/
namespace Go.Proofs.Ph
open Go Go.RowKit Go.Proofs.YthjnlggommennaaW.PrintWords
/-- The cells of an 'asked' at block g. -/
def XB (w : World) (g : Nat) (s : S25) (vi vd vq : Value) : Prop :=
  w.heap[g]? = some (.cells #[.int .i64 s.f0, .bool s.f1, .int .i64 s.f2, .int .i64 s.f3, .int .i64 s.f4, .int .i64 s.f5, .int .i64 s.f6, vi, vd, vq] 121 (0, 0))
def Now (w : World) (P : Nat → Prop) : Nat → Prop := fun k => P k ∨ w.heap.size ≤ k
abbrev Res := S25 × (Int ⊕ List Int)
/-- What a method ends with: a refusal (a panic), or bytes. -/
def Ends (P : Nat → Prop) (r : Int ⊕ List Int) (e : Ending) (w w' : World) : Prop := match r with
  | .inl why => e = .panicked [{ v := .iface 171 (.int .i64 why), recovered := false }]
  | .inr l => ∃ v, e = .returned v ∧ RdF kb w' (Now w P) v l
/-- What a method leaves. -/
def MPost (w : World) (g : Nat) (P : Nat → Prop) (vq : Value) (r : Res) (e : Ending) (w' : World) : Prop :=
  Ends P r.2 e w w' ∧ Fr (· = g) w w' ∧ ∃ vi vd, XB w' g r.1 vi vd vq ∧ RdF k47 w' (Now w P) vi r.1.f7 ∧ RdF k161 w' (Now w P) vd r.1.f8
/-- What it asks. -/
structure MPre (w : World) (g : Nat) (P : Nat → Prop) (s : S25) (vi vd vq : Value) (q : List Int) : Prop where
  x : XB w g s vi vd vq
  i : RdF k47 w P vi s.f7
  d : RdF k161 w P vd s.f8
  q : RdF kb w P vq q
  g : ¬ P g
theorem unless_yes (r : Int) (w : World) : Calls Try.prog 123 #[.bool true, .int .i64 r] w fun e w' => e = .returned (.tuple #[]) ∧ w = w' := by
  go_enter Try.func123, Try.ntmps123
  go_wp2
  go_end0
  exact ⟨rfl, rfl⟩
theorem unless_no (r : Int) (w : World) : Calls Try.prog 123 #[.bool false, .int .i64 r] w fun e w' => e = .panicked [{ v := .iface 171 (.int .i64 r), recovered := false }] ∧ w = w' := by
  go_enter Try.func123, Try.ntmps123
  go_wp2
  exact ⟨rfl, rfl, rfl⟩

section
variable {w w' : World} {g : Nat} {P : Nat → Prop} {s s' : S25} {vi vd vq v : Value} {q l : List Int} {why : Int}
theorem MPre.rows (h : MPre w g P s vi vd vq q) (hf : Fr (· = g) w w') : RdF k47 w' (Now w P) vi s.f7 ∧ RdF k161 w' (Now w P) vd s.f8 :=
  ⟨(h.i.fr hf (fun k hk _ e => h.g (e ▸ hk))).mono (fun k hk => .inl hk), (h.d.fr hf (fun k hk _ e => h.g (e ▸ hk))).mono (fun k hk => .inl hk)⟩
theorem MPre.refuse (h : MPre w g P s vi vd vq q) : MPost w g P vq (s, .inl why) (.panicked [{ v := .iface 171 (.int .i64 why), recovered := false }]) w :=
  ⟨rfl, Fr.refl _ _, vi, vd, h.x, h.rows (Fr.refl _ _)⟩
theorem MPre.refuse' (h : MPre w g P s vi vd vq q) (e7 : s'.f7 = s.f7) (e8 : s'.f8 = s.f8) (hx : XB w' g s' vi vd vq) (hf : Fr (· = g) w w') : MPost w g P vq (s', .inl why) (.panicked [{ v := .iface 171 (.int .i64 why), recovered := false }]) w' :=
  ⟨rfl, hf, vi, vd, hx, by rw [e7]; exact (h.rows hf).1, by rw [e8]; exact (h.rows hf).2⟩
theorem MPre.answer (h : MPre w g P s vi vd vq q) (e7 : s'.f7 = s.f7) (e8 : s'.f8 = s.f8) (hx : XB w' g s' vi vd vq) (hf : Fr (· = g) w w') (hv : RdF kb w' (Now w P) v l) : MPost w g P vq (s', .inr l) (.returned v) w' :=
  ⟨⟨v, rfl, hv⟩, hf, vi, vd, hx, by rw [e7]; exact (h.rows hf).1, by rw [e8]; exact (h.rows hf).2⟩
end

def mSeed (s : S25) : Res :=
  if s.f3 ≤ 2 then if (s.f0 != 1) = true then if s.f1 = true then (s, .inr (1 :: four 0))
    else ({ s with f2 := s.f5, f5 := bits .and .i64 (wrap64 (wrap64 (s.f5 * 1664525) + 1013904223)) 4294967295 }, .inr (1 :: four s.f5))
  else (s, .inl 34) else (s, .inl 54)

set_option maxHeartbeats 2000000 in
theorem seed_calls {w : World} {g : Nat} {P : Nat → Prop} {s : S25} {vi vd vq : Value} {q : List Int} (h : MPre w g P s vi vd vq q) :
    Calls Try.prog 147 #[.pointer (some ⟨g, 0, none⟩)] w (MPost w g P vq (mSeed s)) := by
  have hg := blk_lt h.x
  have c0 : w.cell? ⟨g, 0, none⟩ = some (.int .i64 s.f0) := (blk_cell h.x 0).trans rfl
  have c1 : w.cell? ⟨g, 1, none⟩ = some (.bool s.f1) := (blk_cell h.x 1).trans rfl
  have c2 : w.cell? ⟨g, 2, none⟩ = some (.int .i64 s.f2) := (blk_cell h.x 2).trans rfl
  have c3 : w.cell? ⟨g, 3, none⟩ = some (.int .i64 s.f3) := (blk_cell h.x 3).trans rfl
  have c5 : w.cell? ⟨g, 5, none⟩ = some (.int .i64 s.f5) := (blk_cell h.x 5).trans rfl
  have z2 := blk_frozen h.x 2
  have z5 := blk_frozen h.x 5
  have H := Aside0.mk h
  clear h
  unfold mSeed
  by_cases h1 : s.f3 ≤ 2
  · rw [if_pos h1]
    by_cases h2 : (s.f0 != 1) = true
    · rw [if_pos h2]
      by_cases h3 : s.f1 = true
      · rw [if_pos h3]
        go_enter Try.func147, Try.ntmps147
        go_wp2_with (first | (go_at_call 123; (with_reducible refine (unless_yes _ _).mono ?_); rintro e w' ⟨rfl, rfl⟩) | (go_at_call 172; refine (four_calls _ _).mono ?_; rintro e w1 ⟨v1, rfl, hv1, hf1⟩) | (at_builtin; refine appB Try.underlying31 i5 (W := w1) w.heap.size rfl _ _ rfl _ _ [1] (four 0) rfl rfl (own_lit' w.heap.size (hf1.blk (blk_new w _) (fun h => h)) rfl (Nat.le_refl _) rfl (by omega)) hv1.now (Nat.le_trans (by simp) hf1.size) (by simp [four]) ?_; intro v2 w2 ho2 hg2 hb2))
        go_ret
        have hf2 := (((Fr.refl (fun _ => False) w).alloc _).trans hf1 (fun _ h => .inl h)).grown hg2 (fun k hk => .inr (hb2 k hk))
        exact H.out.answer rfl rfl (hf2.blk H.out.x (fun h => h)) (hf2.mono (fun _ h => h.elim)) ((own_rdF ho2).mono (fun k hk => .inr hk))
      · rw [if_neg h3]
        have h3' : s.f1 = false := by simpa using h3
        clear h3
        go_enter Try.func147, Try.ntmps147
        go_wp2_with (go_at_call 123; (with_reducible refine (unless_yes _ _).mono ?_); rintro e w' ⟨rfl, rfl⟩)
        go_region
        generalize hw1 : World.drew _ = w1
        have hx1 : XB w1 g { s with f2 := s.f5, f5 := bits .and .i64 (wrap64 (wrap64 (s.f5 * 1664525) + 1013904223)) 4294967295 } vi vd vq := by
          subst hw1
          exact blk_put (blk_put H.out.x 2 _ rfl) 5 _ rfl
        have hf1 : Fr (· = g) w w1 := by
          subst hw1
          exact (((Fr.refl (fun k => k = g) w).setCell (.inl rfl) _).setCell (.inl rfl) _).drew
        clear hw1 c0 c1 c2 c3 c5 z2 z5
        have c2 : w1.cell? ⟨g, 2, none⟩ = some (.int .i64 s.f5) := (blk_cell hx1 2).trans rfl
        have hg1 := blk_lt hx1
        go_wp2_with (first | (go_at_call 172; refine (four_calls _ _).mono ?_; rintro e w2 ⟨v2, rfl, hv2, hf2⟩) | (at_builtin; refine appB Try.underlying31 i5 (W := w2) w1.heap.size rfl _ _ rfl _ _ [1] (four s.f5) rfl rfl (own_lit' w1.heap.size (hf2.blk (blk_new w1 _) (fun h => h)) rfl (Nat.le_refl _) rfl (by omega)) hv2.now (Nat.le_trans (by simp) hf2.size) (by simp [four]) ?_; intro v3 w3 ho3 hg3 hb3))
        go_ret
        have hf3 := (((Fr.refl (fun _ => False) w1).alloc _).trans hf2 (fun _ h => .inl h)).grown hg3 (fun k hk => .inr (hb3 k hk))
        exact H.out.answer rfl rfl (hf3.blk hx1 (fun h => h)) (hf1.trans hf3 (fun _ h => h.elim)) ((own_rdF ho3).mono (fun k hk => .inr (Nat.le_trans hf1.size hk)))
    · rw [if_neg h2]
      have h2' : (s.f0 != 1) = false := by simpa using h2
      clear h2
      go_enter Try.func147, Try.ntmps147
      go_wp2_with (go_at_call 123; first | ((with_reducible refine (unless_yes _ _).mono ?_); rintro e w' ⟨rfl, rfl⟩) | ((with_reducible refine (unless_no _ _).mono ?_); rintro e w' ⟨rfl, rfl⟩))
      exact ⟨rfl, H.out.refuse⟩
  · rw [if_neg h1]
    go_enter Try.func147, Try.ntmps147
    go_wp2_with (go_at_call 123; (with_reducible refine (unless_no _ _).mono ?_); rintro e w' ⟨rfl, rfl⟩)
    exact ⟨rfl, H.out.refuse⟩
end Go.Proofs.Ph
/- The library's functions on bytes that the program calls: Equal, Clone. No condition. -/
namespace Go.Proofs.Ph
open Go Go.RowKit Go.Proofs.YthjnlggommennaaW.PrintWords
theorem rd_len {w : World} {A : Option Addr} {n c : Nat} {xs : List Int} (h : Rd kb w (.slice A n c) xs) : n = xs.length ∧ n ≤ 9223372036854775807 := by
  obtain ⟨A', c', e, hl, hC⟩ := h
  injection e with e1 e2 e3
  subst e2
  exact ⟨rfl, hC.2.1⟩
/-- A byte that is read. -/
theorem rd_at {w : World} {A : Option Addr} {n c : Nat} {xs : List Int} (h : Rd kb w (.slice A n c) xs) (k : Nat) (hk : k < n) : ∃ ad, A = some ad ∧ w.cell? (ad.add k) = some (.int .u8 (xs.getD k 0)) := by
  obtain ⟨A', c', e, hl, hC⟩ := h
  injection e with e1 e2 e3
  subst e1 e2
  obtain ⟨ad, e, hc⟩ := (Kd.reads_of_C (d := (0 : Int)) hC).2.2 (by omega)
  exact ⟨ad, e, hc k hk⟩
theorem take_step {k : Nat} {xs ys : List Int} (h : xs.take k = ys.take k) (hq : xs.getD k 0 = ys.getD k 0) (h1 : k < xs.length) (h2 : k < ys.length) : xs.take (k + 1) = ys.take (k + 1) := by
  rw [List.take_succ_eq_append_getElem h1, List.take_succ_eq_append_getElem h2, h]
  simp [List.getD_eq_getElem?_getD, List.getElem?_eq_getElem h1, List.getElem?_eq_getElem h2] at hq
  rw [hq]
theorem i5s : ∃ i, Try.prog.info? 5 = some i ∧ i.size = 1 := by
  obtain ⟨i, h, e⟩ := Option.map_eq_some_iff.1 i5
  exact ⟨i, h, (Prod.ext_iff.1 (Prod.ext_iff.1 e).2).1⟩
/-- 'xs[m:]' of bytes, m within the length. -/
theorem cut_from {w : World} {ok : Nat → Prop} {A : Option Addr} {c : Nat} {xs : List Int} (h : RdF kb w ok (.slice A xs.length c) xs) (k : Int) (m : Nat) (hk : k = m) (hm : m ≤ xs.length) :
    ∃ A', (∀ W : World, (Instr.slice 31 (.slice A xs.length c) (some (.int .i64 k)) none none).run Try.prog W = .ok (.slice A' (xs.length - m) (c - m)) W) ∧ RdF kb w ok (.slice A' (xs.length - m) (c - m)) (xs.drop m) := by
  obtain ⟨A0, c0, e, hl, hF⟩ := h
  injection e with e1 e2 e3
  subst e1 e3 hk
  obtain ⟨i, hi, hsz⟩ := i5s
  obtain ⟨A', hcut, hA'⟩ := print_cut (P := Try.prog) 31 5 .i64 Try.underlying31 hi hsz A xs.length c m hm
  refine ⟨A', hcut, A', c - m, by rw [List.length_drop], by rw [List.length_drop]; omega, Kd.F_imp hF (fun W' hC => ?_)⟩
  have := hA' W' .u8 xs hl (Kd.reads_of_C (d := (0 : Int)) hC)
  rw [List.length_drop]
  exact Kd.C_of_reads this
set_option maxHeartbeats 1000000 in
theorem equal_calls {w : World} {v1 v2 : Value} {xs ys : List Int} (hx : Rd kb w v1 xs) (hy : Rd kb w v2 ys) :
    Calls Try.prog 173 #[v1, v2] w fun e w' => e = .returned (.bool (decide (xs = ys))) ∧ Fr (fun _ => False) w w' := by
  have hx' := hx
  have hy' := hy
  obtain ⟨A1, c1, rfl, -, -⟩ := hx'
  obtain ⟨A2, c2, rfl, -, -⟩ := hy'
  have hm1 := hx.max
  have HX := Aside0.mk hx
  have HY := Aside0.mk hy
  clear hx hy
  by_cases hl : xs.length = ys.length
  · have hne : ((xs.length : Int) != (ys.length : Int)) = false := by simp [hl]
    have HL := Aside0.mk hl
    clear hl
    go_enter Try.func173, Try.ntmps173
    go_wp2
    go_loopw [13] (fun t wr => ∃ k : Nat, k ≤ xs.length ∧ t = .int .i64 k ∧ Aside0 (xs.take k = ys.take k) ∧ Aside0 (Drawn0 w wr)) (fun t _ => xs.length - (intOf t).toNat)
    case atStart => exact ⟨0, Nat.zero_le _, rfl, ⟨by simp⟩, ⟨Drawn0.refl _⟩⟩
    case round =>
      obtain ⟨k, hk, rfl, hT, hD⟩ := hrel
      by_cases hlt : k < xs.length
      · obtain ⟨ad1, e1, hc1⟩ := rd_at HX.out k hlt
        obtain ⟨ad2, e2, hc2⟩ := rd_at HY.out k (by have := HL.out; omega)
        subst e1 e2
        have hc1' : wr.cell? (ad1.add k) = some (.int .u8 (xs.getD k 0)) := pw_cell_below hD.out.below hc1
        have hc2' : wr.cell? (ad2.add k) = some (.int .u8 (ys.getD k 0)) := pw_cell_below hD.out.below hc2
        clear hc1 hc2
        have hb1 : (0 : Int) ≤ (k : Int) := by omega
        have hb2 : (k : Int) < (xs.length : Int) := by omega
        have hb3 : (k : Int) < (ys.length : Int) := by have := HL.out; omega
        obtain ⟨x, ex⟩ : ∃ x, x = xs.getD k 0 := ⟨_, rfl⟩
        obtain ⟨y, ey⟩ : ∃ y, y = ys.getD k 0 := ⟨_, rfl⟩
        rw [← ex] at hc1'
        rw [← ey] at hc2'
        have EX := Aside0.mk ex
        have EY := Aside0.mk ey
        clear ex ey
        by_cases hq : x = y
        · have hq1 : (x != y) = false := bne_eq_false_iff_eq.mpr hq
          have HQ := Aside0.mk hq
          clear hq
          go_wp2
          go_quiet (fail)
          go_wp2
          go_roundw
          case rel => exact ⟨k + 1, by omega, by go_num, ⟨take_step hT.out (by rw [← EX.out, ← EY.out, HQ.out]) hlt (by have := HL.out; omega)⟩, ⟨hD.out.step _⟩⟩
          case measure => simp [intOf]; omega
        · have hq1 : (x != y) = true := bne_iff_ne.mpr hq
          have hd : decide (xs = ys) = false := decide_eq_false (fun e => hq (by rw [EX.out, EY.out, e]))
          have HD := Aside0.mk hd
          clear hq hd
          go_wp2
          go_quiet (fail)
          go_wp2
          go_ret
          exact ⟨by rw [HD.out]; rfl, Fr.of_below (hD.out.step _).below _⟩
      · have hd : decide (xs = ys) = true := decide_eq_true (by
          have h1 := hT.out
          rwa [List.take_of_length_le (by omega), List.take_of_length_le (by have := HL.out; omega)] at h1)
        have HD := Aside0.mk hd
        clear hd
        have hn : ¬ ((k : Int) < (xs.length : Int)) := by omega
        go_wp2
        go_ret
        exact ⟨by rw [HD.out]; rfl, Fr.of_below hD.out.below _⟩
  · have hne : ((xs.length : Int) != (ys.length : Int)) = true := by simp; omega
    have hd : decide (xs = ys) = false := decide_eq_false (fun e => hl (by rw [e]))
    have HL := Aside0.mk hl
    clear hl
    rw [hd]
    go_enter Try.func173, Try.ntmps173
    go_wp2
    go_ret
    exact ⟨rfl, Fr.refl _ _⟩

theorem rd_none {α : Type} {d : Kd α} {w : World} {n c : Nat} {xs : List α} (h : Rd d w (.slice none n c) xs) : xs = [] := by
  obtain ⟨A', c', e, hl, hC⟩ := h
  injection e with e1 e2 e3
  subst e1
  rcases Nat.eq_zero_or_pos xs.length with h0 | h0
  · exact List.eq_nil_of_length_eq_zero h0
  · obtain ⟨ad, h1, _⟩ := hC.2.2 h0
    cases h1
set_option maxHeartbeats 1000000 in
theorem clone_calls {w : World} {v : Value} {xs : List Int} (hx : Rd kb w v xs) (hl : xs.length ≤ 140737488355328) : Calls Try.prog 174 #[v] w (RetB w xs) := by
  have hx' := hx
  obtain ⟨A1, c1, rfl, -, -⟩ := hx'
  have HX := Aside0.mk hx
  clear hx
  cases A1 with
  | none =>
    have he := Aside0.mk (rd_none HX.out)
    have kn := fun W => Lib.run_eql_slice_nil (P := Try.prog) W 31 5 none xs.length c1 0 0 Try.underlying31
    go_enter Try.func174, Try.ntmps174
    go_wp2
    go_ret
    exact ⟨_, rfl, by rw [he.out]; exact RdF.nil _ _ _, Fr.refl _ _⟩
  | some ad =>
    have kn := fun W => Lib.run_eql_slice_nil (P := Try.prog) W 31 5 (some ad) xs.length c1 0 0 Try.underlying31
    go_enter Try.func174, Try.ntmps174
    go_wp2_with (at_builtin; refine appB Try.underlying31 i5 (W := w.alloc (.cells #[] 5)) w.heap.size rfl _ _ rfl _ _ [] xs rfl rfl (own_lit' w.heap.size (blk_new w _) rfl (Nat.le_refl _) rfl (by omega)) (HX.out.below (below_alloc (Below.refl _ _) _)) (by simp) (by simpa using hl) ?_; intro v2 w2 ho2 hg2 hb2)
    go_ret
    exact ⟨_, rfl, own_rdF ho2, (((Fr.refl (fun _ => False) w).alloc _)).grown hg2 (fun k hk => .inr (hb2 k hk))⟩
end Go.Proofs.Ph
/- diag: sessions, handing on, forgetting, being here. No condition. -/
namespace Go.Proofs.Ph
open Go Go.RowKit Go.Proofs.YthjnlggommennaaW.PrintWords
def mHand (s : S25) : Res := if (s.f0 == 3) = true then if s.f1 = true then (s, .inr []) else (s, .inl 51) else (s, .inl 34)
set_option maxHeartbeats 1000000 in
theorem hand_calls {w : World} {g : Nat} {P : Nat → Prop} {s : S25} {vi vd vq : Value} {q : List Int} (h : MPre w g P s vi vd vq q) :
    Calls Try.prog 164 #[.pointer (some ⟨g, 0, none⟩)] w (MPost w g P vq (mHand s)) := by
  have c0 : w.cell? ⟨g, 0, none⟩ = some (.int .i64 s.f0) := (blk_cell h.x 0).trans rfl
  have c1 : w.cell? ⟨g, 1, none⟩ = some (.bool s.f1) := (blk_cell h.x 1).trans rfl
  have H := Aside0.mk h
  clear h
  unfold mHand
  by_cases h1 : (s.f0 == 3) = true
  · rw [if_pos h1]
    by_cases h2 : s.f1 = true
    · rw [if_pos h2]
      go_enter Try.func164, Try.ntmps164
      go_wp2_with (go_at_call 123; (with_reducible refine (unless_yes _ _).mono ?_); rintro e w' ⟨rfl, rfl⟩)
      go_ret
      exact H.out.answer rfl rfl H.out.x (Fr.refl _ _) (RdF.nil _ _ _)
    · rw [if_neg h2]
      have h2' : s.f1 = false := by simpa using h2
      clear h2
      go_enter Try.func164, Try.ntmps164
      go_wp2_with (go_at_call 123; first | ((with_reducible refine (unless_yes _ _).mono ?_); rintro e w' ⟨rfl, rfl⟩) | ((with_reducible refine (unless_no _ _).mono ?_); rintro e w' ⟨rfl, rfl⟩))
      exact ⟨rfl, H.out.refuse⟩
  · rw [if_neg h1]
    have h1' : (s.f0 == 3) = false := by simpa using h1
    clear h1
    go_enter Try.func164, Try.ntmps164
    go_wp2_with (go_at_call 123; (with_reducible refine (unless_no _ _).mono ?_); rintro e w' ⟨rfl, rfl⟩)
    exact ⟨rfl, H.out.refuse⟩
theorem here_calls {w : World} {g : Nat} {P : Nat → Prop} {s : S25} {vi vd vq : Value} {q : List Int} (h : MPre w g P s vi vd vq q) :
    Calls Try.prog 171 #[.pointer (some ⟨g, 0, none⟩)] w (MPost w g P vq (s, .inr [])) := by
  have H := Aside0.mk h
  clear h
  go_enter Try.func171, Try.ntmps171
  go_wp2
  go_ret
  exact H.out.answer rfl rfl H.out.x (Fr.refl _ _) (RdF.nil _ _ _)
def mForget (s : S25) : Res := if (s.f0 == 2) = true then ({ s with f8 := [] }, .inr []) else (s, .inl 34)
theorem clear_calls (v : Value) (w : World) : Calls Try.prog 169 #[v] w fun e w' => e = .returned (.slice none 0 0) ∧ w = w' := by
  go_enter Try.func169, Try.ntmps169
  go_wp2
  go_ret
  exact ⟨rfl, rfl⟩
set_option maxHeartbeats 1000000 in
theorem forget_calls {w : World} {g : Nat} {P : Nat → Prop} {s : S25} {vi vd vq : Value} {q : List Int} (h : MPre w g P s vi vd vq q) :
    Calls Try.prog 168 #[.pointer (some ⟨g, 0, none⟩)] w (MPost w g P vq (mForget s)) := by
  obtain ⟨Ad, cd, ed, -, -⟩ := h.d
  subst ed
  have c0 : w.cell? ⟨g, 0, none⟩ = some (.int .i64 s.f0) := (blk_cell h.x 0).trans rfl
  have c8 : w.cell? ⟨g, 8, none⟩ = some (.slice Ad s.f8.length cd) := (blk_cell h.x 8).trans rfl
  have z8 := blk_frozen h.x 8
  have H := Aside0.mk h
  clear h
  unfold mForget
  by_cases h1 : (s.f0 == 2) = true
  · rw [if_pos h1]
    go_enter Try.func168, Try.ntmps168
    go_wp2_with (first | (go_at_call 123; (with_reducible refine (unless_yes _ _).mono ?_); rintro e w' ⟨rfl, rfl⟩) | (go_at_call 169; (with_reducible refine (clear_calls _ _).mono ?_); rintro e w' ⟨rfl, rfl⟩))
    go_ret
    have hf := (Fr.refl (fun k => k = g) w).setG 8 (.slice none 0 0)
    exact ⟨⟨_, rfl, RdF.nil _ _ _⟩, hf, vi, _, blk_put H.out.x 8 _ rfl, (H.out.rows hf).1, RdF.nil _ _ _⟩
  · rw [if_neg h1]
    have h1' : (s.f0 == 2) = false := by simpa using h1
    clear h1
    go_enter Try.func168, Try.ntmps168
    go_wp2_with (go_at_call 123; (with_reducible refine (unless_no _ _).mono ?_); rintro e w' ⟨rfl, rfl⟩)
    exact ⟨rfl, H.out.refuse⟩
theorem within_calls (n lo hi : Int) (w : World) : Calls Try.prog 75 #[.int .i64 n, .int .i64 lo, .int .i64 hi] w fun e w' => e = .returned (.bool (decide (lo ≤ n ∧ n ≤ hi))) ∧ w = w' := by
  by_cases h1 : lo ≤ n
  · go_enter Try.func75, Try.ntmps75
    go_wp2
    go_ret
    exact ⟨by simp [h1], rfl⟩
  · have h1' : n < lo := by omega
    have h2 : ¬ (lo ≤ n ∧ n ≤ hi) := by omega
    go_enter Try.func75, Try.ntmps75
    go_wp2
    go_ret
    exact ⟨by first | rfl | (rw [decide_eq_false h2]; rfl), rfl⟩
def mSession (s : S25) (n : Int) (q : List Int) : Res := if 1 ≤ n ∧ n ≤ 3 then ({ s with f0 := n, f1 := false, f2 := -1 }, .inr q) else (s, .inl 49)
set_option maxHeartbeats 1000000 in
theorem session_calls {w : World} {g : Nat} {P : Nat → Prop} {s : S25} {vi vd vq : Value} {q : List Int} (h : MPre w g P s vi vd vq q) (hq : 0 < q.length) (hB : Byt q) :
    Calls Try.prog 165 #[.pointer (some ⟨g, 0, none⟩)] w (MPost w g P vq (mSession s (q.getD 0 0) q)) := by
  obtain ⟨A, c, ev, hlc, hF⟩ := h.q
  subst ev
  obtain ⟨ad, ea, hb⟩ := rd_at h.q.now 0 hq
  subst ea
  have hb' : w.cell? ad = some (.int .u8 (q.getD 0 0)) := by have := hb; rwa [show ad.add 0 = ad by simp [Addr.add]] at this
  clear hb
  obtain ⟨n, en⟩ : ∃ n, n = q.getD 0 0 := ⟨_, rfl⟩
  have hn := hB.at 0
  rw [← en] at hb' hn ⊢
  obtain ⟨hn0, hn1⟩ := hn
  clear en
  have hq' : (0 : Int) < (q.length : Int) := by omega
  have c0 : w.cell? ⟨g, 0, none⟩ = some (.int .i64 s.f0) := (blk_cell h.x 0).trans rfl
  have c1 : w.cell? ⟨g, 1, none⟩ = some (.bool s.f1) := (blk_cell h.x 1).trans rfl
  have c2 : w.cell? ⟨g, 2, none⟩ = some (.int .i64 s.f2) := (blk_cell h.x 2).trans rfl
  have c9 : w.cell? ⟨g, 9, none⟩ = some (.slice (some ad) q.length c) := (blk_cell h.x 9).trans rfl
  have z0 := blk_frozen h.x 0
  have z1 := blk_frozen h.x 1
  have z2 := blk_frozen h.x 2
  have H := Aside0.mk h
  clear h hF hlc
  unfold mSession
  by_cases h1 : 1 ≤ n ∧ n ≤ 3
  · have hd := Aside0.mk (decide_eq_true h1)
    rw [if_pos h1]
    go_enter Try.func165, Try.ntmps165
    go_wp2_with (first | (go_at_call 75; refine (within_calls _ _ _ _).mono ?_; rintro e w' ⟨he, rfl⟩; rw [hd.out] at he; subst he) | (go_at_call 123; (with_reducible refine (unless_yes _ _).mono ?_); rintro e w' ⟨rfl, rfl⟩))
    go_ret
    have hf := (((Fr.refl (fun k => k = g) w).setG 0 (.int .i64 n)).setG 1 (.bool false)).setG 2 (.int .i64 (-1))
    exact H.out.answer rfl rfl (blk_put (blk_put (blk_put H.out.x 0 _ rfl) 1 _ rfl) 2 _ rfl) hf ((H.out.q.fr hf (fun k hk _ e => H.out.g (e ▸ hk))).mono (fun k hk => .inl hk))
  · have hd := Aside0.mk (decide_eq_false h1)
    rw [if_neg h1]
    go_enter Try.func165, Try.ntmps165
    go_wp2_with (first | (go_at_call 75; refine (within_calls _ _ _ _).mono ?_; rintro e w' ⟨he, rfl⟩; rw [hd.out] at he; subst he) | (go_at_call 123; (with_reducible refine (unless_no _ _).mono ?_); rintro e w' ⟨rfl, rfl⟩))
    exact ⟨rfl, H.out.refuse⟩
end Go.Proofs.Ph
/- dtc: troubles with some status. No condition. -/
namespace Go.Proofs.Ph
open Go Go.RowKit Go.Proofs.YthjnlggommennaaW.PrintWords
theorem i161 : (Try.prog.info? 161).map (fun i => (i.zero, i.size, i.bytes)) = some (some (.agg #[.int .i64 0, .int .i64 0, .int .i64 0, .int .i64 0]), 4, 32) := by kernel_rfl
/-- The place of the first that is so; -1: none is. -/
def findG {α : Type} (p : α → Bool) : List α → Nat → Int
  | [], _ => -1
  | x :: l, k => if p x then k else findG p l (k + 1)
section
variable {α : Type} (p : α → Bool) (z : α)
theorem findG_step (l : List α) (k : Nat) (h : k < l.length) : findG p (l.drop k) k = if p (l.getD k z) then (k : Int) else findG p (l.drop (k + 1)) (k + 1) := by
  rw [List.drop_eq_getElem_cons h, findG, List.getD_eq_getElem?_getD, List.getElem?_eq_getElem h]
  rfl
theorem findG_range (l : List α) (k : Nat) : (findG p l k = -1 ∧ ∀ x ∈ l, p x = false) ∨ ∃ j, j < l.length ∧ findG p l k = ((k + j : Nat) : Int) ∧ p (l.getD j z) = true ∧ ∀ x ∈ l.take j, p x = false := by
  induction l generalizing k with
  | nil => exact .inl ⟨rfl, by simp⟩
  | cons x l ih =>
    unfold findG
    by_cases h : p x = true
    · rw [if_pos h]; exact .inr ⟨0, by simp, rfl, by simpa using h, by simp⟩
    · rw [if_neg h]
      have h' : p x = false := by simpa using h
      rcases ih (k + 1) with ⟨h2, h3⟩ | ⟨j, hj, h2, h3, h4⟩
      · exact .inl ⟨h2, by simpa [h'] using h3⟩
      · exact .inr ⟨j + 1, by simpa using hj, by rw [h2]; congr 1; omega, by simpa using h3, by simpa [h'] using h4⟩
end
/-- Has it none of a mask's bits? -/
def gone (m : Int) (x : S161) : Bool := bits BinOp.and IntKind.i64 x.f1 m == 0
theorem gone_calls {w : World} {b : Nat} {m : Int} {x : S161} (hb : w.cell? ⟨b, 0, none⟩ = some (.int .i64 m)) :
    Calls Try.prog 144 #[.agg #[.int .i64 x.f0, .int .i64 x.f1, .int .i64 x.f2, .int .i64 x.f3], .pointer (some ⟨b, 0, none⟩)] w fun e w' => e = .returned (.bool (gone m x)) ∧ Fr (fun _ => False) w w' := by
  have hbi := World.block_lt_of_cell? w _ hb
  go_enter Try.func144, Try.ntmps144
  go_wp2
  go_ret
  exact ⟨rfl, (Fr.refl _ w).alloc _⟩
set_option maxHeartbeats 1000000 in
theorem indexT_calls {w : World} {b : Nat} {m : Int} {v : Value} {l : List S161} (hv : Rd k161 w v l) (hb : w.cell? ⟨b, 0, none⟩ = some (.int .i64 m)) :
    Calls Try.prog 163 #[v, .func (.func 144) #[] #[.pointer (some ⟨b, 0, none⟩)]] w fun e w' => e = .returned (.int .i64 (findG (gone m) l 0)) ∧ Fr (fun _ => False) w w' := by
  have hm := hv.max
  obtain ⟨A, c, ev, hlc, hC⟩ := hv
  subst ev
  have hbi := World.block_lt_of_cell? w _ hb
  have HC := Aside0.mk hC
  have HI := Aside0.mk hb
  clear hC hb
  go_enter Try.func163, Try.ntmps163
  go_wp2
  go_loopw [8] (fun t wr => ∃ k : Nat, k ≤ l.length ∧ t = .int .i64 k ∧ Aside0 (findG (gone m) (l.drop k) k = findG (gone m) l 0) ∧ Aside0 (Fr (fun _ => False) w wr)) (fun t _ => l.length - (intOf t).toNat)
  case atStart => exact ⟨0, Nat.zero_le _, rfl, ⟨rfl⟩, ⟨Fr.refl _ _⟩⟩
  case round =>
    obtain ⟨k, hk, rfl, hT, hD⟩ := hrel
    by_cases hlt : k < l.length
    · obtain ⟨ad, e1, x0, x1, x2, x3⟩ := at_T161 HC.out (k : Int) (by omega) (by omega)
      subst e1
      have hb := Fr.below hD.out (fun _ h => h.elim)
      replace x0 := pw_cell_below hb x0
      replace x1 := pw_cell_below hb x1
      replace x2 := pw_cell_below hb x2
      replace x3 := pw_cell_below hb x3
      rw [show ((k : Int)).toNat = k from rfl] at x0 x1 x2 x3
      obtain ⟨x, ex⟩ : ∃ x, x = rd_T161 l k := ⟨_, rfl⟩
      rw [← ex] at x0 x1 x2 x3
      have hst := findG_step (gone m) z161 l k hlt
      have HST := Aside0.mk (hT.out.symm.trans hst)
      have EX := Aside0.mk ex
      clear hst ex hT
      have hb1 : (0 : Int) ≤ (k : Int) := by omega
      have hb2 : (k : Int) < (l.length : Int) := by omega
      by_cases hp : gone m x = true
      · have HP := Aside0.mk hp
        clear hp
        go_wp2_with (go_at_call 144; refine (gone_calls ((hD.out.cell hbi (fun h => h)).trans HI.out)).mono ?_; rintro e w2 ⟨he, hf2⟩; rw [HP.out] at he; subst he)
        go_ret
        exact ⟨by rw [HST.out, show l.getD k z161 = x from EX.out.symm, if_pos HP.out]; rfl, hD.out.trans hf2 (fun _ h => h.elim)⟩
      · have HP := Aside0.mk (show gone m x = false by simpa using hp)
        clear hp
        go_wp2_with (go_at_call 144; refine (gone_calls ((hD.out.cell hbi (fun h => h)).trans HI.out)).mono ?_; rintro e w2 ⟨he, hf2⟩; rw [HP.out] at he; subst he)
        go_roundw
        case rel => exact ⟨k + 1, by omega, by go_num, ⟨by rw [HST.out, show l.getD k z161 = x from EX.out.symm, if_neg (by rw [HP.out]; simp)]⟩, ⟨hD.out.trans hf2 (fun _ h => h.elim)⟩⟩
        case measure => simp [intOf]; omega
    · have HT := Aside0.mk (hT.out.symm.trans (by rw [List.drop_of_length_le (by omega)]; rfl : _ = (-1 : Int)))
      have hn : ¬ ((k : Int) < (l.length : Int)) := by omega
      clear hT
      go_wp2
      go_ret
      exact ⟨by rw [HT.out]; rfl, hD.out⟩
theorem cloneT_calls {w : World} {v : Value} {xs : List S161} (hx : Rd k161 w v xs) (hl : xs.length ≤ 1000) : Calls Try.prog 114 #[v] w fun e w' => ∃ v', e = .returned v' ∧ k161.R 161 w' w.heap.size (fun k => w.heap.size ≤ k) v' xs ∧ Fr (fun _ => False) w w' := by
  have hx' := hx
  obtain ⟨A1, c1, rfl, hc1, hF⟩ := hx'
  have HX := Aside0.mk hx
  have HF := Aside0.mk hF
  clear hx hF
  cases A1 with
  | none =>
    have he := Aside0.mk (rd_none HX.out)
    have kn := fun W => Lib.run_eql_slice_nil (P := Try.prog) W 23 161 none xs.length c1 0 0 Try.underlying23
    go_enter Try.func114, Try.ntmps114
    go_wp2
    go_ret
    exact ⟨_, rfl, by rw [he.out]; exact Kd.R_nil _ _ _ _ _, Fr.refl _ _⟩
  | some ad =>
    have kn := fun W => Lib.run_eql_slice_nil (P := Try.prog) W 23 161 (some ad) xs.length c1 0 0 Try.underlying23
    have R0 : Kd.R k161 161 (w.alloc (.cells #[] 161)) w.heap.size (fun k => w.heap.size ≤ k) (.slice (some ⟨w.heap.size, 0, none⟩) 0 0) [] :=
      ⟨fun k hk => by simp [Value.ownBlock] at hk; omega, [], ⟨by simp, .inr ⟨w.heap.size, 0, #[], rfl, Nat.le_refl _, blk_new w _, Nat.le_refl _, by simp [maxLen], by simp, by simp⟩⟩, ⟨by simp, fun j p hj => by simp at hj⟩⟩
    have R0' := Aside0.mk R0
    clear R0
    go_enter Try.func114, Try.ntmps114
    go_wp2_with (at_builtin; refine Kd.R_append_rows k161 (w0 := w) (W := w.alloc (.cells #[] 161)) w.heap.size rfl _ _ 23 161 _ 32 rfl Try.underlying23 i161 rfl (by decide) (by omega) (.slice (some ⟨w.heap.size, 0, none⟩) 0 0) [] xs (some ad) xs.length c1 (fun k => w.heap.size ≤ k) (fun _ => False) rfl rfl R0'.out (Kd.C_alloc HF.out _) (fun x cs h => by rw [k161_open h]; exact k161_mkM _ _ _ _) (fun k hk => hk.elim) (fun k hk => Nat.le_trans (by simp) hk) ((Below.refl _ _).alloc (Nat.le_refl _) _) (by simp) (by simp; omega) ?_; intro v2 w2 ho2 hb2 hg2 hat2)
    go_ret
    exact ⟨_, rfl, ho2, ((Fr.refl (fun _ => False) w).alloc _).grown hg2 (fun k hk => .inr (by simp [Value.ownBlock] at hk; omega))⟩
end Go.Proofs.Ph
/- slices.DeleteFunc on a row of troubles of the call's own. No condition. -/
namespace Go.Proofs.Ph
open Go Go.RowKit Go.Proofs.YthjnlggommennaaW.PrintWords
theorem i161s : ∃ i, Try.prog.info? 161 = some i ∧ i.size = 4 := by
  obtain ⟨i, h, e⟩ := Option.map_eq_some_iff.1 i161
  exact ⟨i, h, (Prod.ext_iff.1 (Prod.ext_iff.1 e).2).1⟩
theorem cut161 {g n c m : Nat} (hm : m < n) (hc : n ≤ c) (W : World) : (Instr.slice 23 (.slice (some ⟨g, 0, none⟩) n c) (some (.int .i64 (m : Int))) none none).run Try.prog W = .ok (.slice (some ⟨g, m * 4, none⟩) (n - m) (c - m)) W := by
  obtain ⟨i, hi, hsz⟩ := i161s
  have hel : Try.prog.elem 23 = 161 := by simp [Program.elem, Try.underlying23]
  rw [run_slice_l W 23 _ n c (by rw [hel]; exact Try.underlying23) .i64 (m : Int) (Int.natCast_nonneg _) (by omega), hel]
  have h1 : c ≠ m := by omega
  by_cases h0 : m = 0
  · subst h0
    simp [sizeOf, typeInfo, hi, hsz, sliced, Result.andThen, Addr.add, h1]
  · simp [sizeOf, typeInfo, hi, hsz, sliced, Result.andThen, Addr.add, h1]
    omega
theorem zeros161 (n : Nat) : (Builtin.zeroCells #[.int .i64 0, .int .i64 0, .int .i64 0, .int .i64 0] n).toList = List.replicate (n * 4) (.int .i64 0) := by
  simp [Builtin.zeroCells]
  apply List.ext_getElem
  · simp
  · intro i h1 h2
    simp
    have : i % 4 < 4 := Nat.mod_lt _ (by omega)
    generalize i % 4 = j at this
    match j, this with
    | 0, _ => rfl
    | 1, _ => rfl
    | 2, _ => rfl
    | 3, _ => rfl
theorem run_clear161 {w : World} {g m n cap : Nat} {cells : Array Value} (hg : w.heap[g]? = some (.cells cells 161 (0, 0))) (hs : cells.size = cap * 4) (hm : m < n) (hn : n ≤ cap) (ty : TypeId) (c : Nat) :
    (Builtin.clear_ #[23] ty #[.slice (some ⟨g, m * 4, none⟩) (n - m) c]).run Try.prog w = .ok (.tuple #[]) (w.setCells g (m * 4) (List.replicate ((n - m) * 4) (.int .i64 0))) := by
  have hz := Try.zeroValue161
  have hst := run_storeCells_cells (P := Try.prog) g (m * 4) (List.replicate ((n - m) * 4) (.int .i64 0)) 0 w
    (by intro j hj; rw [List.length_replicate] at hj; rw [blk_cell hg]; rw [Array.getElem?_eq_getElem (by omega)]; rfl) (by intro j hj; exact blk_frozen hg _) (by intro v hv; rw [List.eq_of_mem_replicate hv]; rfl)
  simp only [Nat.add_zero] at hst
  obtain ⟨d, hd⟩ : ∃ d, n - m = d + 1 := ⟨n - m - 1, by omega⟩
  rw [hd] at hst ⊢
  simp [Builtin.clear_, run_underlying Try.underlying23, hz, Value.cells, zeros161, hst]
/-- The head of a row stays, whatever becomes of its tail. -/
theorem R_tail {w : World} {base g cap n m : Nat} {ok : Nat → Prop} {xs : List S161} (h : k161.R 161 w base ok (.slice (some ⟨g, 0, none⟩) n cap) xs) (hm : m ≤ n) (l : List Value) (hl : m * 4 + l.length ≤ cap * 4) :
    k161.R 161 (w.setCells g (m * 4) l) base ok (.slice (some ⟨g, 0, none⟩) m cap) (xs.take m) := by
  have hn := (Kd.R_reads' h).1
  obtain ⟨h0, inner, ⟨hl1, h2⟩, hr⟩ := Kd.R_take h (m := m) (by omega)
  have hlen : (xs.take m).length = m := by rw [List.length_take]; omega
  rcases h2 with ⟨hv, _⟩ | ⟨g', cap', cur, hv, hb, hh, hnc, hcm, hcs, ht⟩
  · cases hv
  · injection hv with ha _ hc
    injection ha with ha
    injection ha with hg
    subst hg hc
    replace hcs : cur.size = cap * 4 := hcs
    obtain ⟨cur', h3, h4, h5⟩ := setCells_row l (m * 4) w cur hh (by omega)
    refine ⟨h0, inner, ⟨hl1, .inr ⟨g, cap, cur', by rw [hlen], hb, h3, hnc, hcm, by rw [h4]; exact hcs, ?_⟩⟩, ?_⟩
    · rw [← ht, h5, hlen]
      show List.take (m * 4) _ = _
      rw [List.append_assoc, List.take_append_of_le_length (by rw [List.length_take, Array.length_toList]; omega), List.take_take, Nat.min_self]
      rfl
    · refine ⟨hr.1, fun j p hj => ?_⟩
      rw [k161_openM (hr.2 j p hj)]
      exact k161_mkM _ _ _ _
theorem fr_setCells {S : Nat → Prop} {w w1 : World} (h : Fr S w w1) {g o : Nat} {l : List Value} (hg : S g ∨ w.heap.size ≤ g) : Fr S w (w1.setCells g o l) := by
  obtain ⟨h1, h2, h3, h4⟩ := setCells_same g l o w1
  exact h.trans (S' := fun i => i = g) ⟨h1, h2, h3, by omega, fun k _ hn => setCells_far l o k hn⟩ (fun i hi => hi ▸ hg)
section
variable {ops : Array Oper} {rest : List Oper} {o : Oper} {a : Act} {Q : Exit → Act → World → Prop}
theorem clear161 {W : World} {base g n cap m c : Nat} {ok : Nat → Prop} {xs : List S161} (hgd : o.guard = none) (s : Operand) (ho : o.op = .call { callee := .builtin .clear, args := #[s], argTypes := #[23] }) (hd : o.dst = none) (hs : a.eval s = .slice (some ⟨g, m * 4, none⟩) (n - m) c)
    (hR : k161.R 161 W base ok (.slice (some ⟨g, 0, none⟩) n cap) xs) (hm : m < n)
    (h : ∀ w1, k161.R 161 w1 base ok (.slice (some ⟨g, 0, none⟩) m cap) (xs.take m) → Fr (fun k => k = g) W w1 → wpList Try.prog ops Q rest a w1) : wpList Try.prog ops Q (o :: rest) a W := by
  have hnc := (Kd.R_reads' hR).2.1
  obtain ⟨cells, hcl⟩ := Kd.R_typed hR g (by simp [Value.ownBlock])
  have hsz : cells.size = cap * 4 := by
    obtain ⟨_, inner, ⟨_, h2⟩, _⟩ := hR
    rcases h2 with ⟨hv, _⟩ | ⟨g', cap', cur, hv, hb, hh, hnc, hcm, hcs, ht⟩
    · cases hv
    · injection hv with ha _ hc
      injection ha with ha
      injection ha with hg
      subst hg hc
      rw [hcl] at hh
      injection hh with hh
      injection hh with hh
      subst hh
      exact hcs
  refine wpList_plain hgd fun K hK => ?_
  unfold Oper.wp execOp
  simp only [ho, resolve, invoke, builtin, Sem.run_bind, Sem.run_pure, Result.andThen_ok, List.map_toArray, List.map_cons, List.map_nil, hs, run_clear161 hcl hsz hm hnc]
  show K (a.put o.dst (.tuple #[])) _
  rw [hd]
  refine hK _ _ (h _ (R_tail hR (by omega) _ (by rw [List.length_replicate]; have : m * 4 + (n - m) * 4 = n * 4 := by omega
                                                 omega)) ?_)
  exact fr_setCells (Fr.refl _ W) (.inl rfl)
end

theorem filter_step {p : S161 → Bool} {xs : List S161} {j : Nat} (h : j < xs.length) : (xs.take (j + 1)).filter p = (xs.take j).filter p ++ if p (xs.getD j z161) then [xs.getD j z161] else [] := by
  rw [List.take_succ_eq_append_getElem h, List.filter_append]
  congr 1
  rw [List.getD_eq_getElem?_getD, List.getElem?_eq_getElem h]
  simp [List.filter_cons]
/-- Where a deletion stands. -/
structure DelAt (p : S161 → Bool) (xs ys : List S161) (i j : Nat) : Prop where
  lt : i < j
  le : j ≤ xs.length
  len : ys.length = xs.length
  head : ys.take i = (xs.take j).filter p
  tail : ys.drop j = xs.drop j
theorem DelAt.elem {p : S161 → Bool} {xs ys : List S161} {i j : Nat} (h : DelAt p xs ys i j) (hj : j < xs.length) : ys.getD j z161 = xs.getD j z161 := by
  have h1 := congrArg (fun l => l[0]?) h.tail
  simp only [List.getElem?_drop, Nat.add_zero] at h1
  rw [List.getD_eq_getElem?_getD, List.getD_eq_getElem?_getD, h1]
theorem DelAt.skip {p : S161 → Bool} {xs ys : List S161} {i j : Nat} (h : DelAt p xs ys i j) (hj : j < xs.length) (hp : p (ys.getD j z161) = false) : DelAt p xs ys i (j + 1) :=
  ⟨by have := h.lt; omega, hj, h.len, by rw [filter_step hj, ← h.elem hj, hp, h.head]; simp, by have := congrArg (List.drop 1) h.tail; simpa [List.drop_drop] using this⟩
theorem DelAt.keep {p : S161 → Bool} {xs ys : List S161} {i j : Nat} (h : DelAt p xs ys i j) (hj : j < xs.length) (hp : p (ys.getD j z161) = true) : DelAt p xs (ys.set i (ys.getD j z161)) (i + 1) (j + 1) := by
  have hl := h.lt
  refine ⟨by omega, hj, by rw [List.length_set, h.len], ?_, ?_⟩
  · rw [filter_step hj, ← h.elem hj, hp, ← h.head]
    have hi : i < (ys.set i (ys.getD j z161)).length := by rw [List.length_set, h.len]; omega
    rw [List.take_succ_eq_append_getElem hi, List.take_set_of_le (Nat.le_refl _)]
    simp
  · rw [List.drop_set_of_lt (by omega)]
    have := congrArg (List.drop 1) h.tail
    simpa [List.drop_drop] using this
set_option maxHeartbeats 2000000 in
theorem delete_calls {w : World} {base b : Nat} {m : Int} {v : Value} {ok : Nat → Prop} {xs : List S161} (hv : k161.R 161 w base ok v xs) (hb : w.cell? ⟨b, 0, none⟩ = some (.int .i64 m)) (hne : ∀ k, v.ownBlock = some k → k ≠ b) (hl : xs.length ≤ 1000) :
    Calls Try.prog 145 #[v, .func (.func 144) #[] #[.pointer (some ⟨b, 0, none⟩)]] w fun e w' => ∃ v', e = .returned v' ∧ k161.R 161 w' base ok v' (xs.filter (fun x => !gone m x)) ∧ Fr (fun k => v.ownBlock = some k) w w' := by
  have hbi := World.block_lt_of_cell? w _ hb
  have HX := Aside0.mk (Kd.R_reads hv)
  have HV := Aside0.mk hv
  have HB := Aside0.mk hb
  have HN := Aside0.mk hne
  rcases findG_range (gone m) z161 xs 0 with ⟨h1, h2⟩ | ⟨i, hi, h1, h2, h3⟩
  · have H1 := Aside0.mk h1
    have H2 := Aside0.mk (show xs.filter (fun x => !gone m x) = xs from List.filter_eq_self.2 (fun x hx => by rw [h2 x hx]; rfl))
    clear hv hb hne h1 h2
    go_enter Try.func145, Try.ntmps145
    go_wp2_with (go_at_call 163; refine (indexT_calls HX.out HB.out).mono ?_; rintro e w2 ⟨he, hf2⟩; rw [H1.out] at he; subst he)
    go_ret
    exact ⟨_, rfl, by rw [H2.out]; exact Kd.R_step HV.out (fun k hk hlt => hf2.block k hlt (fun h => h)), hf2.mono (fun _ h => h.elim)⟩
  · rw [Nat.zero_add] at h1
    obtain ⟨gb, cap, ev, -⟩ := Kd.R_form hv (by omega)
    subst ev
    have hgn : gb ≠ b := hne gb rfl
    have hi0 : ((i : Int) == -1) = false := by simp
    have D0 : DelAt (fun x => !gone m x) xs xs i (i + 1) := ⟨by omega, by omega, rfl, by
      rw [filter_step hi]
      simp only [h2, Bool.not_true, Bool.false_eq_true, if_false, List.append_nil]
      exact (List.filter_eq_self.2 (fun x hx => by rw [h3 x hx]; rfl)).symm, rfl⟩
    have H1 := Aside0.mk h1
    have D0' := Aside0.mk D0
    clear hv hb hne h1 h2 h3 D0
    go_enter Try.func145, Try.ntmps145
    go_wp2_with (go_at_call 163; refine (indexT_calls HX.out HB.out).mono ?_; rintro e w2 ⟨he, hf2⟩; rw [H1.out] at he; subst he)
    go_loopw [6, 5] (fun t u wr => ∃ j k : Nat, ∃ ys, t = .int .i64 j ∧ u = .int .i64 k ∧ Aside0 (DelAt (fun x => !gone m x) xs ys k j) ∧ Aside0 (k161.R 161 wr base ok (.slice (some ⟨gb, 0, none⟩) xs.length cap) ys) ∧ Aside0 (Fr (fun k => k = gb) w wr)) (fun t _ _ => xs.length - (intOf t).toNat)
    case atStart => exact ⟨i + 1, i, xs, by go_num, rfl, D0', ⟨Kd.R_step HV.out (fun k hk hlt => hf2.block k hlt (fun h => h))⟩, ⟨hf2.mono (fun _ h => h.elim)⟩⟩
    case round =>
      obtain ⟨j, k, ys, rfl, rfl, hD, hR, hF⟩ := hrel
      have hlen := hD.out.len
      by_cases hlt : j < xs.length
      · obtain ⟨c, hcl, hM, hcc, -⟩ := Kd.R_elem hR.out z161 (j : Int) (by omega) (by omega)
        obtain rfl := k161_openM hM
        clear hM
        rw [show ((j : Int)).toNat = j from rfl] at hcc
        obtain ⟨x, ex⟩ : ∃ x, x = ys.getD j z161 := ⟨_, rfl⟩
        rw [← ex] at hcc
        have x0 : wr.cell? ⟨gb, j * 4, none⟩ = some (.int .i64 x.f0) := hcc 0 _ rfl
        have x1 : wr.cell? ⟨gb, j * 4 + 1, none⟩ = some (.int .i64 x.f1) := hcc 1 _ rfl
        have x2 : wr.cell? ⟨gb, j * 4 + 2, none⟩ = some (.int .i64 x.f2) := hcc 2 _ rfl
        have x3 : wr.cell? ⟨gb, j * 4 + 3, none⟩ = some (.int .i64 x.f3) := hcc 3 _ rfl
        have hb1 : (0 : Int) ≤ (j : Int) := by omega
        have hb2 : (j : Int) < (xs.length : Int) := by omega
        have hbc : wr.cell? ⟨b, 0, none⟩ = some (.int .i64 m) := (hF.out.cell hbi (fun e => hgn e.symm)).trans HB.out
        have EX := Aside0.mk ex
        have HLEN := Aside0.mk hlen
        clear ex hcc hlen
        by_cases hp : gone m x = true
        · have HP := Aside0.mk hp
          clear hp
          go_wp2_with (go_at_call 144; refine (gone_calls (x := x) (by first | exact hbc | exact Go.Lib.cell?_alloc_some _ hbc)).mono ?_; rintro e w3 ⟨he, hf3⟩; rw [HP.out] at he; subst he)
          go_roundw
          case rel => exact ⟨j + 1, k, ys, by go_num, rfl, ⟨hD.out.skip hlt (by rw [← EX.out, HP.out]; rfl)⟩, ⟨Kd.R_step (Kd.R_alloc hR.out _) (fun k hk hlt => hf3.block k hlt (fun h => h))⟩, ⟨(hF.out.alloc _).trans hf3 (fun _ h => h.elim)⟩⟩
          case measure => simp [intOf]; omega
        · have HP := Aside0.mk (show gone m x = false by simpa using hp)
          clear hp
          have hb3 : (0 : Int) ≤ (k : Int) := by omega
          have hb4 : (k : Int) < (xs.length : Int) := by have := hD.out.lt; omega
          obtain ⟨c', hcl', -, hcc', -⟩ := Kd.R_elem hR.out z161 (k : Int) (by omega) (by omega)
          have HCL := Aside0.mk hcl'
          have HCC := Aside0.mk hcc'
          clear hcl' hcc' hcl
          go_wp2_with (first | (go_at_call 144; refine (gone_calls (x := x) (by first | exact hbc | exact Go.Lib.cell?_alloc_some _ hbc)).mono ?_; rintro e w3 ⟨he, hf3⟩; rw [HP.out] at he; subst he; have hbx := hf3.blk (blk_new wr _) (fun h => h); have y0 : w3.cell? ⟨wr.heap.size, 0, none⟩ = some (.int .i64 x.f0) := (blk_cell hbx 0).trans rfl; have y1 : w3.cell? ⟨wr.heap.size, 1, none⟩ = some (.int .i64 x.f1) := (blk_cell hbx 1).trans rfl; have y2 : w3.cell? ⟨wr.heap.size, 2, none⟩ = some (.int .i64 x.f2) := (blk_cell hbx 2).trans rfl; have y3 : w3.cell? ⟨wr.heap.size, 3, none⟩ = some (.int .i64 x.f3) := (blk_cell hbx 3).trans rfl; have HF3 := Aside0.mk (hf3.block gb) ; clear hbx) | (refine Kd.R_store k161 (w0 := w3) (W := w3) base rfl rfl 161 _ _ rfl 161 (g := gb) (o' := k * 4) (k : Int) 0 ys x (.agg #[.int .i64 x.f0, .int .i64 x.f1, .int .i64 x.f2, .int .i64 x.f3]) [.int .i64 x.f0, .int .i64 x.f1, .int .i64 x.f2, .int .i64 x.f3] c' ok (fun _ => False) rfl rfl rfl rfl (by kernel_rfl) (by simp [Value.oneCell']) (Kd.R_step (Kd.R_alloc hR.out _) (fun k hk hlt => hf3.block k hlt (fun h => h))) (by omega) (by omega) HCL.out ?_ (Nat.le_refl _) ?_ (fun _ h => h.elim) (Below.refl _ _) ?_))
          · intro j' u hu
            exact hf3.cellA (Go.Lib.cell?_alloc_some _ (HCC.out j' u hu))
          · have hcl : c'.length = 4 := HCL.out
            rw [List.drop_of_length_le (by simp; omega)]
            exact k161_mkM _ _ _ _
          · intro w4 hR4 hB4 hg4
            clear y0 y1 y2 y3 x0 x1 x2 x3 hbc
            go_wp2
            go_roundw
            case rel => exact ⟨j + 1, k + 1, ys.set k x, by go_num, by go_num, ⟨by rw [EX.out]; exact hD.out.keep hlt (by rw [← EX.out, HP.out]; rfl)⟩, ⟨hR4⟩, ⟨((hF.out.alloc _).trans hf3 (fun _ h => h.elim)).grown hg4 (fun k hk => .inl (by injection hk with hk; exact hk.symm))⟩⟩
            case measure => simp [intOf]; omega
      · have hj : j = xs.length := by have := hD.out.le; omega
        have hkl : k < xs.length := by have := hD.out.lt; omega
        have hn : ¬ ((j : Int) < (xs.length : Int)) := by omega
        have hnc := (Kd.R_reads' hR.out).2.1
        have hcut := fun W => cut161 (g := gb) hkl hnc W
        have hcut2 : (0 : Int) ≤ (k : Int) := by omega
        have hcut3 : (k : Int) ≤ (cap : Int) := by omega
        have HK := Aside0.mk hkl
        have HD := Aside0.mk (show ys.take k = xs.filter (fun x => !gone m x) by rw [hD.out.head, hj, List.take_length])
        clear hkl hnc hj hlen
        go_wp2_with (refine clear161 (base := base) (g := gb) (n := xs.length) (cap := cap) (m := k) (ok := ok) (xs := ys) rfl _ rfl rfl rfl hR.out HK.out ?_; intro w4 hR4 hf4)
        go_ret
        rw [HD.out] at hR4
        exact ⟨_, rfl, hR4, (hF.out.trans hf4 (fun _ h => .inl h)).mono (fun k hk => by subst hk; rfl)⟩
def listed (m : Int) (l : List S161) : List S161 := l.filter (fun x => !gone m x)
set_option maxHeartbeats 1000000 in
theorem list_calls {w : World} {v : Value} {xs : List S161} (m : Int) (hx : Rd k161 w v xs) (hl : xs.length ≤ 1000) :
    Calls Try.prog 118 #[v, .int .i64 m] w fun e w' => ∃ v', e = .returned v' ∧ k161.R 161 w' (w.heap.size + 1) (fun k => w.heap.size < k) v' (listed m xs) ∧ Fr (fun _ => False) w w' := by
  have HX := Aside0.mk (hx.below (below_alloc (Below.refl _ _) (.cells #[.int .i64 m] 3)))
  obtain ⟨A, c, ev, -, -⟩ := hx
  subst ev
  have hsz : (w.alloc (.cells #[.int .i64 m] 3)).heap.size = w.heap.size + 1 := by simp
  go_enter Try.func118, Try.ntmps118
  go_wp2_with (first | (go_at_call 114; refine (cloneT_calls HX.out hl).mono ?_; rintro e w2 ⟨v2, rfl, hR2, hf2⟩; have hb2 : w2.cell? ⟨w.heap.size, 0, none⟩ = some (.int .i64 m) := (hf2.cell (by omega) (fun h => h)).trans ((blk_cell (blk_new w _) 0).trans rfl)) | (go_at_call 145; refine (delete_calls hR2 hb2 (fun k hk => by have := Kd.R_base hR2 k hk; omega) hl).mono ?_; rintro e w3 ⟨v3, rfl, hR3, hf3⟩))
  go_ret
  refine ⟨_, rfl, ?_, (((Fr.refl (fun _ => False) w).alloc _).trans hf2 (fun _ h => h.elim)).trans hf3 (fun k hk => .inr ?_)⟩
  · rw [hsz] at hR3
    exact Kd.R_mono hR3 (fun k hk => hk)
  · have := Kd.R_base hR2 k hk
    omega
end Go.Proofs.Ph
/- dtc: troubles as bytes. No condition. -/
namespace Go.Proofs.Ph
open Go Go.RowKit Go.Proofs.YthjnlggommennaaW.PrintWords
def pk (x : S161) : List Int := [x.f0 / 256 % 256, x.f0 % 256, x.f1 % 256]
def packed (m : Int) (l : List S161) : List Int := (listed m l).flatMap pk
theorem flat_step {l : List S161} {k : Nat} (h : k < l.length) : (l.take (k + 1)).flatMap pk = (l.take k).flatMap pk ++ pk (l.getD k z161) := by
  rw [List.take_succ_eq_append_getElem h, List.flatMap_append, List.getD_eq_getElem?_getD, List.getElem?_eq_getElem h]
  simp
theorem flat_len (l : List S161) : (l.flatMap pk).length = l.length * 3 := by
  induction l with
  | nil => rfl
  | cons x l ih => rw [List.flatMap_cons, List.length_append, ih, List.length_cons]; simp [pk]; omega
set_option maxRecDepth 100000 in
set_option maxHeartbeats 2000000 in
theorem pack_calls {w : World} {v : Value} {xs : List S161} (m : Int) (hx : Rd k161 w v xs) (hl : xs.length ≤ 1000) : Calls Try.prog 74 #[v, .int .i64 m] w (RetB w (packed m xs)) := by
  have HX := Aside0.mk hx
  obtain ⟨A, c, ev, -, -⟩ := hx
  subst ev
  have hll : (listed m xs).length ≤ 1000 := Nat.le_trans (List.length_filter_le _ _) hl
  obtain ⟨l, el⟩ : ∃ l, l = listed m xs := ⟨_, rfl⟩
  unfold packed
  have LC := list_calls m HX.out hl
  rw [← el] at hll LC ⊢
  have LC' := Aside0.mk LC
  clear LC el
  go_enter Try.func74, Try.ntmps74
  go_wp2_with (go_at_call 118; refine LC'.out.mono ?_; rintro e w3 ⟨v3, rfl, hR3, hf3⟩; have HC := Kd.R_reads hR3; clear hR3; obtain ⟨A3, c3, rfl, hc3, hC3⟩ := HC)
  have HC3 := Aside0.mk hC3
  have HL3 := Aside0.mk hl
  clear hC3 hl
  go_loopw [12, 5] (fun t u wr => ∃ k : Nat, k ≤ l.length ∧ t = .int .i64 k ∧ Aside0 (wr.ownsRow w3.heap.size 5 1 u ((l.take k).flatMap pk).length (nums .u8 ((l.take k).flatMap pk))) ∧ Aside0 (Fr (fun _ => False) w3 wr)) (fun t _ _ => l.length - (intOf t).toNat)
  case atStart => exact ⟨0, Nat.zero_le _, rfl, ⟨own_nil _ _ _ _⟩, ⟨Fr.refl _ _⟩⟩
  case round =>
    obtain ⟨k, hk, rfl, hO, hD⟩ := hrel
    by_cases hlt : k < l.length
    · obtain ⟨ad, e1, x0, x1, x2, x3⟩ := at_T161 HC3.out (k : Int) (by omega) (by omega)
      subst e1
      have hb := Fr.below hD.out (fun _ h => h.elim)
      replace x0 := pw_cell_below hb x0
      replace x1 := pw_cell_below hb x1
      replace x2 := pw_cell_below hb x2
      replace x3 := pw_cell_below hb x3
      rw [show ((k : Int)).toNat = k from rfl] at x0 x1 x2 x3
      obtain ⟨x, ex⟩ : ∃ x, x = rd_T161 l k := ⟨_, rfl⟩
      rw [← ex] at x0 x1 x2 x3
      have EX := Aside0.mk ex
      have hb1 : (0 : Int) ≤ (k : Int) := by omega
      have hb2 : (k : Int) < (l.length : Int) := by omega
      have hlen := flat_len (l.take k)
      rw [List.length_take, Nat.min_eq_left hk] at hlen
      have HLEN := Aside0.mk hlen
      clear ex hlen
      have hz := hD.out.size
      obtain ⟨W5, eW5⟩ : ∃ W, W = (wr.alloc (.cells #[.int .i64 x.f0, .int .i64 x.f1, .int .i64 x.f2, .int .i64 x.f3] 161)).alloc (.cells #[.int .u8 (x.f0 / 256 % 256), .int .u8 (x.f0 % 256), .int .u8 (x.f1 % 256)] 5) := ⟨_, rfl⟩
      have hW5 : W5.heap.size = wr.heap.size + 2 := by rw [eW5]; show (Array.push (Array.push _ _) _).size = _; rw [Array.size_push, Array.size_push]
      have HO5 : W5.ownsRow w3.heap.size 5 1 u5 ((l.take k).flatMap pk).length (nums .u8 ((l.take k).flatMap pk)) := by rw [eW5]; exact (hO.out.alloc _).alloc _
      have HV5 : Rd kb W5 (.slice (some ⟨wr.heap.size + 1, 0, none⟩) 3 3) (pk x) := by
        have hb : W5.heap[wr.heap.size + 1]? = some (.cells #[.int .u8 (x.f0 / 256 % 256), .int .u8 (x.f0 % 256), .int .u8 (x.f1 % 256)] 5 (0, 0)) := by
          rw [eW5]
          exact blk_new' (by show _ = (Array.push _ _).size; rw [Array.size_push])
        exact (own_rdF (own_lit' (xs := pk x) (n := 3) 0 hb rfl (Nat.zero_le _) rfl (by omega))).now
      have hf5 : Fr (fun _ => False) w3 W5 := by rw [eW5]; exact (hD.out.alloc _).alloc _
      have hl5 : ((l.take k).flatMap pk).length + (pk x).length ≤ 140737488355328 := by
        rw [HLEN.out]
        show k * 3 + 3 ≤ _
        omega
      have H5 := Aside0.mk (⟨HO5, HV5, hl5, hf5⟩ : _ ∧ _ ∧ _ ∧ _)
      have EW5 := Aside0.mk eW5
      clear HO5 HV5 hl5 hf5 eW5
      go_wp2_with (at_builtin; (rw [← EW5.out]); refine appB Try.underlying31 i5 (W := W5) w3.heap.size rfl _ _ rfl u5 (.slice (some ⟨wr.heap.size + 1, 0, none⟩) 3 3) ((l.take k).flatMap pk) (pk x) rfl rfl H5.out.1 H5.out.2.1 (by omega) H5.out.2.2.1 ?_; intro v4 w4 ho4 hg4 hb4)
      go_roundw
      case rel => exact ⟨k + 1, by omega, by go_num, ⟨by rw [flat_step hlt, show l.getD k z161 = x from EX.out.symm]; exact ho4⟩, ⟨H5.out.2.2.2.grown hg4 (fun i hi => .inr (hb4 i hi))⟩⟩
      case measure => simp [intOf]; omega
    · have hk' : k = l.length := by omega
      subst hk'
      have hO' := Aside0.mk (show wr.ownsRow w3.heap.size 5 1 u5 (l.flatMap pk).length (nums .u8 (l.flatMap pk)) by have := hO.out; rwa [List.take_length] at this)
      clear hO
      go_wp2
      go_ret
      exact ⟨_, rfl, (own_rdF hO'.out).mono (fun i hi => Nat.le_trans hf3.size hi), hf3.trans hD.out (fun _ h => h.elim)⟩
end Go.Proofs.Ph
/- diag: troubles are told. No condition. -/
namespace Go.Proofs.Ph
open Go Go.RowKit Go.Proofs.YthjnlggommennaaW.PrintWords
attribute [local go_sem ↓] Go.wp_at_zero Go.wp_at_succ
def mMask (s : S25) (q : List Int) : Res := (s, .inr (q.getD 0 0 :: packed (q.getD 0 0) s.f8))
theorem packed_len (m : Int) (l : List S161) : (packed m l).length ≤ l.length * 3 := by
  unfold packed
  rw [flat_len]
  exact Nat.mul_le_mul_right _ (List.length_filter_le _ _)
set_option maxRecDepth 100000 in
set_option maxHeartbeats 2000000 in
theorem mask_calls {w : World} {g : Nat} {P : Nat → Prop} {s : S25} {vi vd vq : Value} {q : List Int} (h : MPre w g P s vi vd vq q) (hq : 0 < q.length) (hB : Byt q) (hD : s.f8.length ≤ 1000) :
    Calls Try.prog 170 #[.pointer (some ⟨g, 0, none⟩)] w (MPost w g P vq (mMask s q)) := by
  obtain ⟨A, c, ev, hlc, hFq⟩ := h.q
  subst ev
  obtain ⟨Ad, cd, ed, hlcd, hFd⟩ := h.d
  subst ed
  obtain ⟨ad, ea, hb⟩ := rd_at h.q.now 0 hq
  subst ea
  have hb' : w.cell? ad = some (.int .u8 (q.getD 0 0)) := by have := hb; rwa [show ad.add 0 = ad by simp [Addr.add]] at this
  clear hb
  unfold mMask
  obtain ⟨n, en⟩ : ∃ n, n = q.getD 0 0 := ⟨_, rfl⟩
  have hn := hB.at 0
  rw [← en] at hb' hn ⊢
  obtain ⟨hn0, hn1⟩ := hn
  clear en
  have hq' : (0 : Int) < (q.length : Int) := by omega
  have hg := blk_lt h.x
  have c8 : w.cell? ⟨g, 8, none⟩ = some (.slice Ad s.f8.length cd) := (blk_cell h.x 8).trans rfl
  have c9 : w.cell? ⟨g, 9, none⟩ = some (.slice (some ad) q.length c) := (blk_cell h.x 9).trans rfl
  have H := Aside0.mk h
  have HD := Aside0.mk hD
  have e1 : IntKind.i64.wrap n = n := IntWalk.i64_in _ (by omega)
  clear h hFq hlc hFd hlcd hB hD
  have HLL := Aside0.mk (show ([n] : List Int).length + (packed n s.f8).length ≤ 140737488355328 by have := packed_len n s.f8; have := HD.out; show 1 + _ ≤ _; omega)
  go_enter Try.func170, Try.ntmps170
  go_wp2
  go_region_held3 (fun w' => w'.cell? ⟨g, 9, none⟩ = some (.slice (some ad) q.length c) ∧ w'.cell? ⟨g, 8, none⟩ = some (.slice Ad s.f8.length cd) ∧ w'.cell? ad = some (.int .u8 n))
    (refine ⟨Fr.cellA (w := w) ?_ c9, Fr.cellA (w := w) ?_ c8, Fr.cellA (w := w) ?_ hb'⟩ <;> (repeat (first | exact Fr.refl _ _ | exact hf3 | exact hf2 | refine Fr.alloc ?_ _ | refine Fr.drew ?_)))
    (first | (go_at_call 74; refine (pack_calls n (w := w.drew) H.out.d.now HD.out).mono ?_; rintro e w2 ⟨v2, rfl, hv2, hf2'⟩; have hf2 : Fr (fun _ => False) w w2 := (Fr.refl _ w).drew.trans hf2' (fun _ h => h.elim)) | (go_at_call 74; refine (pack_calls n (w := (w.alloc (.cells #[.int .u8 n] 5)).drew) (Rd.below H.out.d.now (below_drew (below_alloc (Below.refl _ _) _))) HD.out).mono ?_; rintro e w2 ⟨v2, rfl, hv2, hf2'⟩; have hf2 : Fr (fun _ => False) w w2 := ((Fr.refl _ w).alloc _).drew.trans hf2' (fun _ h => h.elim); have hbx : w2.heap[w.heap.size]? = some (.cells #[.int .u8 n] 5 (0, 0)) := hf2'.blk (w := (w.alloc _).drew) (blk_new w _) (fun h => h)) | (refine appB_step Try.underlying31 i5 (W := w2.alloc (.cells #[.int .u8 n] 5)) w.heap.size rfl _ _ rfl (.slice (some ⟨w2.heap.size, 0, none⟩) 1 1) v2 [n] (packed n s.f8) rfl rfl (own_lit' w.heap.size (blk_new w2 _) rfl hf2.size rfl (show 1 ≤ 9223372036854775807 from Nat.le_of_ble_eq_true rfl)) (hv2.now.below (below_alloc (Below.refl _ _) _)) (Nat.le_trans hf2.size (below_alloc (Below.refl _ _) _).size) HLL.out ?_; intro v3 w3 ho3 hg3 hb3; have hf3 : Fr (fun _ => False) w w3 := (hf2.alloc _).grown hg3 (fun k hk => .inr (hb3 k hk))) | (refine appB_step Try.underlying31 i5 (W := w2) w.heap.size rfl _ _ rfl (.slice (some ⟨w.heap.size, 0, none⟩) 1 1) v2 [n] (packed n s.f8) rfl rfl (own_lit' w.heap.size hbx rfl (Nat.le_refl _) rfl (show 1 ≤ 9223372036854775807 from Nat.le_of_ble_eq_true rfl)) hv2.now hf2.size HLL.out ?_; intro v3 w3 ho3 hg3 hb3; have hf3 : Fr (fun _ => False) w w3 := hf2.grown hg3 (fun k hk => .inr (hb3 k hk))))
  all_goals (rename_i hHeld; clear hHeld; go_wp2; go_ret; exact H.out.answer rfl rfl (hf3.blk H.out.x (fun h => h)) (hf3.mono (fun _ h => h.elim)) ((own_rdF ho3).mono (fun k hk => .inr hk)))
end Go.Proofs.Ph
/- diag: which service a question is for. No condition. -/
namespace Go.Proofs.Ph
open Go Go.RowKit Go.Proofs.YthjnlggommennaaW.PrintWords
/-- A map's entries, one put behind the other. -/
def entries : List (Int × Value) → Nat → List MapEntry
  | [], _ => []
  | (k, v) :: l, n => ⟨.int .u8 k, v, n⟩ :: entries l (n + 1)
def MapAt (w : World) (r : Nat) (l : List (Int × Value)) : Prop := w.heap[r]? = some (.map (entries l 0).toArray l.length)
theorem entries_snoc (l : List (Int × Value)) (n : Nat) (k : Int) (v : Value) : entries (l ++ [(k, v)]) n = entries l n ++ [⟨.int .u8 k, v, n + l.length⟩] := by
  induction l generalizing n with
  | nil => simp [entries]
  | cons x l ih => obtain ⟨a, b⟩ := x; simp [entries, ih]; omega
/-- What a key finds. -/
def seek (k : Int) : List (Int × Value) → Option Value
  | [] => none
  | (a, v) :: l => if k = a then some v else seek k l
theorem findNow_entries (k : Int) (l : List (Int × Value)) (n i : Nat) : ∃ j, Instr.findNow (.int .u8) (.int .u8 k) (entries l n) i = some ((seek k l).map fun v => (j, v)) := by
  induction l generalizing n i with
  | nil => exact ⟨0, rfl⟩
  | cons x l ih =>
    obtain ⟨a, v⟩ := x
    by_cases h : k = a
    · subst h
      exact ⟨i, by simp [entries, Instr.findNow, Instr.sameNow, seek]⟩
    · obtain ⟨j, hj⟩ := ih (n + 1) (i + 1)
      have h' : (k == a) = false := by simpa using h
      exact ⟨j, by simp [entries, Instr.findNow, Instr.sameNow, seek, h, h', hj]⟩
section
variable {P : Program} {ops : Array Oper} {rest : List Oper} {o : Oper} {a : Act} {Q : Exit → Act → World → Prop} {W : World}
theorem checkKey_u8 {K : TypeId} (hK : P.underlying K = some (.int .u8)) (b : Bool) (k : Int) (W : World) : (Instr.checkKey b 10000 K (.int .u8 k)).run P W = .ok () W := by
  exact Go.MapKept.run_checkKey (n := 9999) hK (by simp [Go.MapKept.IsKey]) b
theorem findKey_u8 {K : TypeId} (hK : P.underlying K = some (.int .u8)) (k : Int) (l : List (Int × Value)) (W : World) : ∃ j, (Instr.findKey K (.int .u8 k) (entries l 0)).run P W = .ok ((seek k l).map fun v => (j, v)) W := by
  obtain ⟨j, hj⟩ := findNow_entries k l 0 0
  exact ⟨j, by simp [Instr.findKey, run_underlying hK, hj]⟩
theorem wpl_insert {T K E : TypeId} (hT : P.underlying T = some (.map K E)) (hK : P.underlying K = some (.int .u8)) (hgd : o.guard = none) (m k x : Operand) (ho : o.op = .insert T m k x) {r : Nat} {l : List (Int × Value)} {n : Int} {v : Value}
    (hm : a.eval m = .map (some r)) (hk : a.eval k = .int .u8 n) (hx : a.eval x = v) (h : MapAt W r l) (hn : seek n l = none) (hd : o.dst = none)
    (hc : ∀ W', MapAt W' r (l ++ [(n, v)]) → Fr (fun i => i = r) W W' → wpList P ops Q rest a W') : wpList P ops Q (o :: rest) a W := by
  obtain ⟨j, hj⟩ := findKey_u8 hK n l W
  rw [hn] at hj
  have hlt := blk_lt h
  have hrun : (Instr.mapUpdate T (.map (some r)) (.int .u8 n) v).run P W = .ok () { W with heap := W.heap.setIfInBounds r (.map ((entries l 0).toArray.push ⟨.int .u8 n, v, l.length⟩) (l.length + 1)) } := by
    unfold MapAt at h
    simp [Instr.mapUpdate, run_underlying hT, getObj, setObj, Sem.run, h, checkKey_u8 hK, hj]
  refine wpList_plain hgd fun K' hK' => ?_
  unfold Oper.wp execOp
  simp only [ho, hm, hk, hx, Sem.run_bind, Sem.run_pure, Result.andThen_ok, hrun]
  show K' (a.put o.dst undef) _
  rw [hd]
  refine hK' a _ (hc _ ?_ ?_)
  · unfold MapAt
    rw [entries_snoc]
    simp [hlt]
  · exact ⟨rfl, rfl, rfl, by simp, fun i hi hn => by simp; rw [Array.getElem?_setIfInBounds_ne (fun e => hn e.symm)]⟩
theorem run_lookup_u8 {T K E : TypeId} (hT : P.underlying T = some (.map K E)) (hK : P.underlying K = some (.int .u8)) {z : Value} (hz : ∀ W, (zeroValue E).run P W = .ok z W) {r : Nat} {l : List (Int × Value)} (h : MapAt W r l) (n : Int) :
    (Instr.lookup T (.map (some r)) (.int .u8 n) true).run P W = .ok (.tuple #[(seek n l).getD z, .bool (seek n l).isSome]) W := by
  obtain ⟨j, hj⟩ := findKey_u8 hK n l W
  unfold MapAt at h
  cases hs : seek n l with
  | none =>
    rw [hs] at hj
    simp [Instr.lookup, run_underlying hT, getObj, Sem.run, h, checkKey_u8 hK, hj, hz]
  | some v =>
    rw [hs] at hj
    simp [Instr.lookup, run_underlying hT, getObj, Sem.run, h, checkKey_u8 hK, hj]
end

def sv (long : Int) (F : Nat) : Value := .agg #[.int .i64 long, .func (.func F) #[] #[]]
def table : List (Int × Value) := [(16, sv 1 165), (34, sv 2 166), (46, sv (-1) 167), (20, sv 0 168), (25, sv 1 170), (62, sv 0 171), (52, sv (-1) 164), (54, sv (-1) 164), (55, sv (-1) 164)]
/-- A map of the table, newly made. -/
def RetMap (w : World) (e : Ending) (w' : World) : Prop := ∃ r, e = .returned (.map (some r)) ∧ MapAt w' r table ∧ Fr (fun _ => False) w w'
theorem mapAt_new {W : World} {r : Nat} (h : r = W.heap.size) : MapAt (W.alloc (.map #[] 0)) r [] := h ▸ blk_new W _
set_option maxRecDepth 100000 in
set_option maxHeartbeats 2000000 in
theorem services_calls (w : World) : Calls Try.prog 146 #[] w (RetMap w) := by
  have hmm := @run_makeMap Try.prog
  go_enter Try.func146, Try.ntmps146
  go_wp2_with (first | (refine wpl_insert (T := 208) Try.underlying208 Try.underlying5 rfl _ _ _ rfl (v := sv 1 165) rfl rfl rfl (mapAt_new (by simp)) rfl rfl ?_; intro w1 hm1 hf1; have hbx : w1.heap[w.heap.size]? = some (.cells #[.int .i64 (-1), .func (.func 164) #[] #[]] 175 (0, 0)) := hf1.blk (blk_alloc (blk_new w _) _) (by simp); have c0 : w1.cell? ⟨w.heap.size, 0, none⟩ = some (.int .i64 (-1)) := (blk_cell hbx 0).trans rfl; have c1 : w1.cell? ⟨w.heap.size, 1, none⟩ = some (.func (.func 164) #[] #[]) := (blk_cell hbx 1).trans rfl; have hF := ((Fr.refl (fun _ => False) w).alloc (.cells #[.int .i64 (-1), .func (.func 164) #[] #[]] 175)).alloc (.map #[] 0) |>.trans hf1 (fun i hi => .inr (by omega))) | (refine wpl_insert (T := 208) Try.underlying208 Try.underlying5 rfl _ _ _ rfl rfl rfl rfl hm1 rfl rfl ?_; clear c0 c1; intro w2 hm2 hf2; replace hm1 := hm2; clear hm2; replace hbx : w2.heap[w.heap.size]? = some (.cells #[.int .i64 (-1), .func (.func 164) #[] #[]] 175 (0, 0)) := hf2.blk hbx (by simp); have c0 : w2.cell? ⟨w.heap.size, 0, none⟩ = some (.int .i64 (-1)) := (blk_cell hbx 0).trans rfl; have c1 : w2.cell? ⟨w.heap.size, 1, none⟩ = some (.func (.func 164) #[] #[]) := (blk_cell hbx 1).trans rfl; replace hF := hF.trans hf2 (fun i hi => .inr (by omega)); clear hf2))
  go_ret
  exact ⟨_, rfl, hm1, hF⟩
end Go.Proofs.Ph
/- diag: the service that a question is for. No condition. -/
namespace Go.Proofs.Ph
open Go Go.RowKit Go.Proofs.YthjnlggommennaaW.PrintWords
/-- A service of the table. -/
def served (n : Int) : Int ⊕ (Int × Nat) :=
  if n = 16 then .inr (1, 165) else if n = 34 then .inr (2, 166) else if n = 46 then .inr (-1, 167) else if n = 20 then .inr (0, 168) else if n = 25 then .inr (1, 170) else if n = 62 then .inr (0, 171)
  else if n = 52 then .inr (-1, 164) else if n = 54 then .inr (-1, 164) else if n = 55 then .inr (-1, 164) else .inl 17
def mFind (n : Int) (q : List Int) : Int ⊕ (Int × Nat) :=
  if n = 39 then if 0 < q.length then if q.getD 0 0 = 1 then .inr (1, 147) else if q.getD 0 0 = 2 then .inr (5, 148) else .inl 49 else .inl 19 else served n
def FindPost (w : World) (r : Int ⊕ (Int × Nat)) (e : Ending) (w' : World) : Prop := Fr (fun _ => False) w w' ∧ match r with
  | .inl why => e = .panicked [{ v := .iface 171 (.int .i64 why), recovered := false }]
  | .inr (l, F) => e = .returned (sv l F)
theorem seek_table (n : Int) : (∃ l F, served n = .inr (l, F) ∧ seek n table = some (sv l F)) ∨ (served n = .inl 17 ∧ seek n table = none) := by
  unfold served table seek seek seek seek seek seek seek seek seek seek
  repeat' split
  all_goals first | exact .inl ⟨_, _, rfl, rfl⟩ | exact .inr ⟨rfl, rfl⟩
set_option maxRecDepth 100000 in
set_option maxHeartbeats 2000000 in
theorem find_calls {w : World} {g : Nat} {P : Nat → Prop} {s : S25} {vi vd vq : Value} {q : List Int} {n : Int} (h : MPre w g P s vi vd vq q) (hB : Byt q) :
    Calls Try.prog 122 #[.pointer (some ⟨g, 0, none⟩), .int .u8 n] w (FindPost w (mFind n q)) := by
  have hg := blk_lt h.x
  obtain ⟨A, c, ev, hlc, hFq⟩ := h.q
  subst ev
  have c9 : w.cell? ⟨g, 9, none⟩ = some (.slice A q.length c) := (blk_cell h.x 9).trans rfl
  have H := Aside0.mk h
  clear h hFq hlc
  unfold mFind
  by_cases h1 : n = 39
  · rw [if_pos h1]
    subst h1
    by_cases h2 : 0 < q.length
    · rw [if_pos h2]
      obtain ⟨ad, ea, hb⟩ := rd_at H.out.q.now 0 h2
      subst ea
      have hb' : w.cell? ad = some (.int .u8 (q.getD 0 0)) := by have := hb; rwa [show ad.add 0 = ad by simp [Addr.add]] at this
      clear hb
      obtain ⟨m, en⟩ : ∃ m, m = q.getD 0 0 := ⟨_, rfl⟩
      rw [← en] at hb' ⊢
      clear en
      have hq' : (0 : Int) < (q.length : Int) := by omega
      replace c9 := (Fr.refl (fun _ => False) w).alloc (.cells #[.int .i64 0, .nilFunc] 175) |>.cellA c9
      replace hb' := (Fr.refl (fun _ => False) w).alloc (.cells #[.int .i64 0, .nilFunc] 175) |>.cellA hb'
      by_cases h3 : m = 1
      · subst h3
        rw [if_pos rfl]
        go_enter Try.func122, Try.ntmps122
        go_wp2_with (go_at_call 123; (with_reducible refine (unless_yes _ _).mono ?_); rintro e w' ⟨rfl, rfl⟩)
        refine bodyPost_ret (results_cell_row rfl _ _ w.heap.size 175 #[.int .i64 1, .func (.func 147) #[] #[]] (0, 0) _ rfl (blk_new w _) Try.underlying175 rfl (by kernel_rfl)) rfl ?_
        exact ⟨((Fr.refl _ w).alloc _), rfl⟩
      · rw [if_neg h3]
        have h3' : (m == 1) = false := by simpa using h3
        by_cases h4 : m = 2
        · subst h4
          rw [if_pos rfl]
          clear h3
          go_enter Try.func122, Try.ntmps122
          go_wp2_with (go_at_call 123; (with_reducible refine (unless_yes _ _).mono ?_); rintro e w' ⟨rfl, rfl⟩)
          refine bodyPost_ret (results_cell_row rfl _ _ w.heap.size 175 #[.int .i64 5, .func (.func 148) #[] #[]] (0, 0) _ rfl (blk_new w _) Try.underlying175 rfl (by kernel_rfl)) rfl ?_
          exact ⟨((Fr.refl _ w).alloc _), rfl⟩
        · rw [if_neg h4]
          have h4' : (m == 2) = false := by simpa using h4
          clear h3 h4
          go_enter Try.func122, Try.ntmps122
          go_wp2_with (go_at_call 123; (with_reducible refine (unless_yes _ _).mono ?_); rintro e w' ⟨rfl, rfl⟩)
          exact ⟨rfl, ((Fr.refl _ w).alloc _), rfl⟩
    · rw [if_neg h2]
      have h2' : ¬ (0 : Int) < (q.length : Int) := by omega
      replace c9 := (Fr.refl (fun _ => False) w).alloc (.cells #[.int .i64 0, .nilFunc] 175) |>.cellA c9
      go_enter Try.func122, Try.ntmps122
      go_wp2_with (go_at_call 123; (with_reducible refine (unless_no _ _).mono ?_); rintro e w' ⟨rfl, rfl⟩)
      exact ⟨rfl, ((Fr.refl _ w).alloc _), rfl⟩
  · rw [if_neg h1]
    have h1' : (n != 39) = true := by simpa using h1
    have hz := Try.zeroValue175
    rcases seek_table n with ⟨l, F, e1, e2⟩ | ⟨e1, e2⟩
    · rw [e1]
      have E2 := Aside0.mk e2
      clear h1 e1 e2
      go_enter Try.func122, Try.ntmps122
      go_wp2_with (first | (go_at_call 146; refine (services_calls _).mono ?_; rintro e w2 ⟨r, rfl, hm, hf2⟩; have hlk := run_lookup_u8 (P := Try.prog) Try.underlying208 Try.underlying5 hz hm n; rw [E2.out] at hlk; simp only [Option.getD_some, Option.isSome_some, sv] at hlk; have hbx : w2.heap[w.heap.size]? = some (.cells #[.int .i64 0, .nilFunc] 175 (0, 0)) := hf2.blk (blk_new w _) (fun h => h); have hlt2 := blk_lt hbx; have d0 : w2.cell? ⟨w.heap.size, 0, none⟩ = some (.int .i64 0) := (blk_cell hbx 0).trans rfl; have d1 : w2.cell? ⟨w.heap.size, 1, none⟩ = some .nilFunc := (blk_cell hbx 1).trans rfl; have y0 := blk_frozen hbx 0; have y1 := blk_frozen hbx 1) | (go_at_call 123; (with_reducible refine (unless_yes _ _).mono ?_); rintro e w' ⟨rfl, rfl⟩))
      refine bodyPost_ret (results_cell_row rfl _ _ w.heap.size 175 #[.int .i64 l, .func (.func F) #[] #[]] (0, 0) _ rfl (blk_alloc (blk_put (blk_put hbx 0 _ rfl) 1 _ rfl) _) Try.underlying175 rfl (by kernel_rfl)) rfl ?_
      exact ⟨((((((Fr.refl (fun _ => False) w).alloc _).trans hf2 (fun _ h => .inl h)).setCell (p := ⟨w.heap.size, 0, none⟩) (.inr (Nat.le_refl _)) _).setCell (p := ⟨w.heap.size, 1, none⟩) (.inr (Nat.le_refl _)) _).alloc _), rfl⟩
    · rw [e1]
      have E2 := Aside0.mk e2
      clear h1 e1 e2
      go_enter Try.func122, Try.ntmps122
      go_wp2_with (first | (go_at_call 146; refine (services_calls _).mono ?_; rintro e w2 ⟨r, rfl, hm, hf2⟩; have hlk := run_lookup_u8 (P := Try.prog) Try.underlying208 Try.underlying5 hz hm n; rw [E2.out] at hlk; simp only [Option.getD_none, Option.isSome_none] at hlk) | (go_at_call 123; (with_reducible refine (unless_no _ _).mono ?_); rintro e w' ⟨rfl, rfl⟩))
      exact ⟨rfl, (((Fr.refl (fun _ => False) w).alloc _).trans hf2 (fun _ h => .inl h)).alloc _, rfl⟩
end Go.Proofs.Ph
/- A region that draws its order, and may panic, in a function that defers. No condition. -/
namespace Go.Proofs.Ph
open Go Go.RowKit
/-- Q, but of a panic's frame nothing is known but what it defers, and what temporary t holds. -/
def QFree (t : Tmp) (v : Value) (Q : Exit → Act → World → Prop) : Exit → Act → World → Prop
  | .panic c, a, w => ∀ tmps : Array Value, tmps.getD t undef = v → Q (.panic c) { tmps := tmps, defers := a.defers } w
  | e, a, w => Q e a w
section
variable {P : Program} {ops : Array Oper} {Q : Exit → Act → World → Prop} {md : Region.Mode} {t : Tmp} {v : Value}
theorem put_keep {a : Act} {d : Option Tmp} {u : Value} (hd : d ≠ some t) (ha : a.tmps.getD t undef = v) : (a.put d u).tmps.getD t undef = v := by
  cases d with
  | none => exact ha
  | some k =>
    have hk : k ≠ t := fun e => hd (by rw [e])
    show (a.tmps.setIfInBounds k u).getD t undef = v
    rw [← ha]
    simp [Array.getD_eq_getD_getElem?, Array.getElem?_setIfInBounds_ne hk]
theorem wp_free {o : Oper} {a : Act} {w : World} {K K' : Act → World → Prop} (hd : o.dst ≠ some t) (ha : a.tmps.getD t undef = v) (h : ∀ a' w', a'.tmps.getD t undef = v → K a' w' → K' a' w')
    (hh : o.wp P a w K (QFree t v Q)) : o.wp P a w K' Q := by
  unfold Oper.wp at *
  generalize (execOp a.eval o).run P w = r at *
  cases r with
  | ok n w' =>
    cases n <;> simp only [Oper.upon] at hh ⊢ <;>
      first
        | exact h _ _ (put_keep hd ha) hh
        | exact h _ _ (put_keep (a := { a with defers := _ }) hd ha) hh
        | exact Calls.mono hh (fun e w'' he => by cases e <;> first | exact h _ _ (put_keep hd ha) he | exact he a.tmps ha | exact he)
        | exact Rows.mono hh (fun _ _ he => h _ _ (put_keep hd ha) he)
        | exact hh
  | halt x w' => cases x <;> simp only [Oper.upon] at hh ⊢ <;> first | exact hh a.tmps ha | exact hh
theorem wpOp_free {i : Nat} {a : Act} {w : World} {K K' : Act → World → Prop} (hd : ∀ o, ops[i]? = some o → o.dst ≠ some t) (ha : a.tmps.getD t undef = v) (h : ∀ a' w', a'.tmps.getD t undef = v → K a' w' → K' a' w')
    (hh : wpOp P ops (QFree t v Q) i K a w) : wpOp P ops Q i K' a w := by
  unfold wpOp at *
  cases ho : ops[i]? with
  | none => simp only [ho] at hh ⊢; exact h _ _ ha hh
  | some o =>
    simp only [ho] at hh ⊢
    split
    · rename_i hw
      simp only [hw, if_true] at hh
      exact hh.imp (wp_free (hd o ho) ha h) (fun h2 => h2)
    · rename_i hw
      simp only [hw] at hh
      exact h _ _ (put_keep (hd o ho) ha) hh
theorem wpAny_free (hd : ∀ (i : Nat) (o : Oper), ops[i]? = some o → o.dst ≠ some t) : ∀ (fuel : Nat) (listed : Array Bool) (a : Act) (w : World), a.tmps.getD t undef = v → wpAny P md ops (QFree t v Q) fuel listed a w → wpAny P md ops Q fuel listed a w
  | 0, _, _, _, _, h => h
  | fuel + 1, _, _, _, ha, h => ⟨h.1, fun i hi => wpOp_free (hd i) ha (fun a' w' ha' h' => wpAny_free hd fuel _ a' w' ha' h') (h.2 i hi)⟩
theorem wp_region_free {S : World → Prop} {id : Nat} {a : Act} {w : World} (t : Tmp) (v : Value) (hm : P.follows .mixedOrders = true) (hd : (ops.toList.all fun o => o.dst != some t) = true) (ha : a.tmps.getD t undef = v) (hS : S w.drew)
    (h : S w.drew → wpAnyH P .any ops (QFree t v Q) S ops.size (Array.replicate ops.size false) a w.drew) : (Code.region id ops true).wp P Q a w := by
  refine wp_region_any hm (wpAny_free (t := t) (v := v) ?_ _ _ _ _ ha (wpAny_of_held _ _ _ _ (h hS)))
  intro i o ho
  have hmem : o ∈ ops.toList := by
    obtain ⟨hi, rfl⟩ := Array.getElem?_eq_some_iff.1 ho
    exact Array.mem_toList_iff.2 (Array.getElem_mem hi)
  have := List.all_eq_true.1 hd o hmem
  simpa using this
end
end Go.Proofs.Ph
/- diag: a refusal is caught. No condition. -/
namespace Go.Proofs.Ph
open Go Go.RowKit Go.Proofs.YthjnlggommennaaW.PrintWords
theorem run_assert_yes (why : Int) (w : World) : (Instr.typeAssert (.iface 171 (.int .i64 why)) 20 171 true).run Try.prog w = .ok (.tuple #[.int .i64 why, .bool true]) w := by
  simp [Instr.typeAssert, run_underlying Try.underlying171]
theorem run_assert_no (w : World) : (Instr.typeAssert .nilIface 20 171 true).run Try.prog w = .ok (.tuple #[.int .i64 0, .bool false]) w := by
  have hz := Try.zeroValue171
  simp [Instr.typeAssert, run_underlying Try.underlying171, hz]
theorem catch_refused (n why : Int) {b1 b2 : Nat} {w : World} {v0 : Value} (h1 : w.cell? ⟨b1, 0, none⟩ = some (.int .u8 n)) (h2 : w.heap[b2]? = some (.cells #[v0] 31 (0, 0))) (hv0 : v0.oneCell' = true) (hn : 0 ≤ n ∧ n ≤ 255) :
    CallsD Try.prog 121 #[.pointer (some ⟨b1, 0, none⟩), .pointer (some ⟨b2, 0, none⟩)] (.panicking [{ v := .iface 171 (.int .i64 why), recovered := false }]) w fun e u' w' =>
      e = .returned (.tuple #[]) ∧ u' = .panicking [{ v := .iface 171 (.int .i64 why), recovered := true }] ∧ ∃ v, RdF kb w' (fun k => w.heap.size ≤ k) v [127, n % 256, why % 256] ∧ Fr (· = b2) w w' ∧ w'.heap[b2]? = some (.cells #[v] 31 (0, 0)) := by
  refine callsD_of_wpS Try.func121 rfl fun c₀ cs hu => ?_
  apply wpS_seq
  apply wpS_region
  have hy := run_assert_yes
  have hn' := run_assert_no
  simp [wpOpsS, go_sem, recoverD, hu, Try.ntmps121, Exit.thenS, hy, hn']
  have hlt := blk_lt h2
  have c1 : w.cell? ⟨b2, 0, none⟩ = some v0 := (blk_cell h2 0).trans rfl
  have z1 := blk_frozen h2 0
  refine wpS_of_wp ?_
  simp only [List.size_toArray, List.length_cons, List.length_nil, Nat.reduceAdd, Nat.reduceSub, Array.replicate_succ, Array.replicate_zero, List.push_toArray, List.append_toArray, List.nil_append, List.cons_append, List.setIfInBounds_toArray, List.set_cons_zero, List.set_cons_succ]
  clear hy hn'
  go_wp2_with (go_at_call 31; refine (deny_calls n why w).mono ?_; rintro e w1 ⟨v1, rfl, hv1, hf1⟩; have hb1 := hf1.blk h2 (fun h => h); replace c1 := hf1.cellA c1; have z1 := blk_frozen hb1 0; have HV := Aside0.mk hv1; obtain ⟨A1, k1, ev1, -, -⟩ := hv1; subst ev1)
  have hf : Fr (· = b2) w (w1.setCell ⟨b2, 0, none⟩ (.slice A1 3 k1)) := Fr.setCell (S := fun i => i = b2) (hf1.mono (fun _ h => h.elim)) (p := ⟨b2, 0, none⟩) (.inl rfl) _
  refine ⟨rfl, _, rfl, .tuple #[], results_none rfl _ _ _, rfl, rfl, .slice A1 3 k1, ?_, hf, blk_put hb1 0 _ rfl⟩
  exact (HV.out.step (w1 := w1.setCell ⟨b2, 0, none⟩ (.slice A1 3 k1)) (fun k hk _ => Below.heap_setCell w1 ⟨b2, 0, none⟩ _ k (by show k ≠ b2; omega)))
theorem catch_idle (p q : Value) (w : World) :
    CallsD Try.prog 121 #[p, q] .returning w fun e u' w' => e = .returned (.tuple #[]) ∧ u' = .returning ∧ w' = w := by
  refine callsD_of_wpS Try.func121 rfl fun c₀ cs hu => ?_
  apply wpS_seq
  apply wpS_region
  have hy := run_assert_yes
  have hn' := run_assert_no
  simp [wpOpsS, go_sem, recoverD, hu, Try.ntmps121, Exit.thenS, hy, hn']
  refine wpS_of_wp ?_
  simp only [List.size_toArray, List.length_cons, List.length_nil, Nat.reduceAdd, Nat.reduceSub, Array.replicate_succ, Array.replicate_zero, List.push_toArray, List.append_toArray, List.nil_append, List.cons_append, List.setIfInBounds_toArray, List.set_cons_zero, List.set_cons_succ]
  clear hy hn'
  go_wp2
  cases c₀
  simp only at hu
  subst hu
  exact ⟨rfl, _, rfl, .tuple #[], results_none rfl _ _ _, rfl, rfl, rfl⟩
end Go.Proofs.Ph
/- diag: a question is answered. No condition. -/
namespace Go.Proofs.Ph
open Go Go.RowKit Go.Proofs.YthjnlggommennaaW.PrintWords
attribute [local go_sem ↓] Go.wp_at_zero Go.wp_at_succ
section
variable {w w1 w' : World} {g : Nat} {P : Nat → Prop} {s : S25} {vi vd vq : Value} {q : List Int} {r : Res} {e : Ending}
theorem MPre.fr (h : MPre w g P s vi vd vq q) (hf : Fr (fun _ => False) w w1) : MPre w1 g P s vi vd vq q :=
  ⟨hf.blk h.x (fun h => h), h.i.step (fun k _ hlt => hf.block k hlt (fun h => h)), h.d.step (fun k _ hlt => hf.block k hlt (fun h => h)), h.q.step (fun k _ hlt => hf.block k hlt (fun h => h)), h.g⟩
theorem MPost.from (h : MPost w1 g P vq r e w') (hf : Fr (fun _ => False) w w1) : MPost w g P vq r e w' := by
  have hN : ∀ k, Now w1 P k → Now w P k := fun k hk => hk.imp_right (fun h => Nat.le_trans hf.size h)
  obtain ⟨he, hF, vi, vd, hx, hi, hd⟩ := h
  refine ⟨?_, Fr.trans (S := fun i => i = g) (hf.mono (fun _ h => h.elim)) hF (fun _ h => .inl h), vi, vd, hx, hi.mono hN, hd.mono hN⟩
  unfold Ends at he ⊢
  cases hr : r.2 with
  | inl why => rw [hr] at he; exact he
  | inr l => rw [hr] at he; obtain ⟨v, e1, h1⟩ := he; exact ⟨v, e1, h1.mono hN⟩
end

section
variable {w : World} {g : Nat} {P : Nat → Prop} {s : S25} {vi vd vq : Value} {q : List Int} {n : Int}
/-- The result's cell. -/
theorem results82 {w : World} {tmps : Array Value} {b : Nat} {v : Value} (hp : tmps.getD 4 undef = .pointer (some ⟨b, 0, none⟩)) (hb : w.heap[b]? = some (.cells #[v] 31 (0, 0))) : (results Try.f82 tmps).run Try.prog w = .ok v w := by
  have hp' : tmps[4]?.getD undef = .pointer (some ⟨b, 0, none⟩) := by simpa using hp
  have hc : w.cell? ⟨b, 0, none⟩ = some v := (blk_cell hb 0).trans rfl
  have hr : Try.f82.results = #[.cell 4 31] := by kernel_rfl
  have hu := Try.underlying31
  simp [results, hr, hp', asAddr, go_sem, hc, hu]
/-- What is deferred. -/
def back (b1 b2 : Nat) : Deferred := { target := .fn (.func 121) #[.pointer (some ⟨b1, 0, none⟩), .pointer (some ⟨b2, 0, none⟩)], args := #[] }
theorem leaves_refused {R : Ending → World → Prop} {tmps : Array Value} {b1 b2 : Nat} {w : World} {v0 : Value} {why : Int} (hn : 0 ≤ n ∧ n ≤ 255) (hp : tmps.getD 4 undef = .pointer (some ⟨b2, 0, none⟩)) (hb1 : w.heap[b1]? = some (.cells #[.int .u8 n] 5 (0, 0))) (hb2 : w.heap[b2]? = some (.cells #[v0] 31 (0, 0))) (hv0 : v0.oneCell' = true)
    (hR : ∀ v w', RdF kb w' (fun k => w.heap.size ≤ k) v [127, n % 256, why % 256] → Fr (· = b2) w w' → R (.returned v) w') :
    Leaves Try.prog Try.f82 tmps R [back b1 b2] (.panicking [{ v := .iface 171 (.int .i64 why), recovered := false }]) w := by
  refine leaves_cons (f := 121) (args := #[.pointer (some ⟨b1, 0, none⟩), .pointer (some ⟨b2, 0, none⟩)]) (by simp) (by simp [go_sem]) ?_
  refine (catch_refused n why ((blk_cell hb1 0).trans rfl) hb2 hv0 hn).mono ?_
  rintro e u' w'' ⟨rfl, rfl, v, hv, hf, hb⟩
  simp only [Leaves, settle, List.dropWhile_nil]
  exact ⟨v, results82 hp hb, hR v w'' hv hf⟩
theorem leaves_idle {R : Ending → World → Prop} {tmps : Array Value} {b1 b2 : Nat} {w : World} {v : Value} (hp : tmps.getD 4 undef = .pointer (some ⟨b2, 0, none⟩)) (hb2 : w.heap[b2]? = some (.cells #[v] 31 (0, 0))) (hR : R (.returned v) w) :
    Leaves Try.prog Try.f82 tmps R [back b1 b2] .returning w := by
  refine leaves_cons (f := 121) (args := #[.pointer (some ⟨b1, 0, none⟩), .pointer (some ⟨b2, 0, none⟩)]) (by simp) (by simp [go_sem]) ?_
  refine (catch_idle _ _ w).mono ?_
  rintro e u' w'' ⟨rfl, rfl, rfl⟩
  simp only [Leaves, settle]
  exact ⟨v, results82 hp hb2, hR⟩
/-- An end: the result's cell is set. -/
theorem MPost.denied {w w1 w2 w' : World} {b2 : Nat} {v : Value} {l : List Int} {s' : S25} {r : Int ⊕ List Int} {e : Ending} (h : MPost w1 g P vq (s', r) e w2) (hf1 : Fr (fun _ => False) w w1) (hs : w.heap.size ≤ b2) (hlt : b2 < w1.heap.size) (hP : ¬ P b2) (hgb : g ≠ b2)
    (hv : RdF kb w' (Now w P) v l) (hf : Fr (· = b2) w2 w') : MPost w g P vq (s', .inr l) (.returned v) w' := by
  obtain ⟨-, hF, vi, vd, hx, hi, hd⟩ := h
  have hN : ∀ k, Now w1 P k → Now w P k := fun k hk => hk.imp_right (fun h => Nat.le_trans hf1.size h)
  have hne : ∀ k, Now w1 P k → ¬ k = b2 := fun k hk e => by
    subst e
    rcases hk with hk | hk
    · exact hP hk
    · omega
  exact ⟨⟨v, rfl, hv⟩, Fr.trans (S := fun i => i = g) (Fr.trans (S := fun i => i = g) (hf1.mono (fun _ h => h.elim)) hF (fun _ h => .inl h)) hf (fun i hi => .inr (hi ▸ hs)), vi, vd, hf.blk hx hgb,
    (hi.fr hf (fun k hk _ => hne k hk)).mono hN, (hd.fr hf (fun k hk _ => hne k hk)).mono hN⟩
theorem MPre.bound {w : World} (h : MPre w g P s vi vd vq q) : MPre w g (fun k => P k ∧ k < w.heap.size) s vi vd vq q := ⟨h.x, h.i.bound, h.d.bound, h.q.bound, fun hk => h.g hk.1⟩
theorem MPost.unbound {w w' : World} {r : Res} {e : Ending} (h : MPost w g (fun k => P k ∧ k < w.heap.size) vq r e w') : MPost w g P vq r e w' := by
  have hN : ∀ k, Now w (fun k => P k ∧ k < w.heap.size) k → Now w P k := fun k hk => hk.imp_left And.left
  obtain ⟨he, hF, vi, vd, hx, hi, hd⟩ := h
  refine ⟨?_, hF, vi, vd, hx, hi.mono hN, hd.mono hN⟩
  unfold Ends at he ⊢
  cases hr : r.2 with
  | inl why => rw [hr] at he; exact he
  | inr l => rw [hr] at he; obtain ⟨v, e1, h1⟩ := he; exact ⟨v, e1, h1.mono hN⟩
set_option maxHeartbeats 2000000 in
theorem answer_unknown {why : Int} (hn : 0 ≤ n ∧ n ≤ 255) (h : MPre w g P s vi vd vq q) (hB : Byt q) (hf : mFind n q = .inl why) :
    Calls Try.prog 82 #[.pointer (some ⟨g, 0, none⟩), .int .u8 n] w (MPost w g P vq (s, .inr [127, n % 256, why % 256])) := by
  refine Calls.mono ?_ (fun e w' h => MPost.unbound h)
  replace h := h.bound
  have hg := blk_lt h.x
  obtain ⟨w1, ew1⟩ : ∃ w1, w1 = (w.alloc (.cells #[.int .u8 n] 5)).alloc (.cells #[.slice none 0 0] 31) := ⟨_, rfl⟩
  have hf1 : Fr (fun _ => False) w w1 := by rw [ew1]; exact ((Fr.refl _ w).alloc _).alloc _
  have FC := find_calls (n := n) (h.fr hf1) hB
  rw [hf] at FC
  have hb1 : w1.heap[w.heap.size]? = some (.cells #[.int .u8 n] 5 (0, 0)) := by rw [ew1]; exact blk_alloc (blk_new w _) _
  have hb2 : w1.heap[w.heap.size + 1]? = some (.cells #[.slice none 0 0] 31 (0, 0)) := by rw [ew1]; exact blk_new' (by show _ = (Array.push _ _).size; rw [Array.size_push])
  have H := Aside0.mk h
  have FC' := Aside0.mk FC
  have EW := Aside0.mk ew1
  have HB1 := Aside0.mk hb1
  have HB2 := Aside0.mk hb2
  clear h FC ew1 hf hb1 hb2
  go_enter_defers Try.func82, Try.ntmps82
  go_wp2_with (go_at_call 122; rw [← EW.out]; refine FC'.out.mono ?_; rintro e w2 ⟨hf2, rfl⟩)
  refine leaves_refused hn rfl (hf2.blk HB1.out (fun h => h)) (hf2.blk HB2.out (fun h => h)) rfl ?_
  intro v w' hv hf
  have hs1 := blk_lt HB2.out
  exact MPost.denied (b2 := w.heap.size + 1) (((H.out.fr hf1).fr hf2).refuse (why := why) |>.from hf2) hf1 (by omega) hs1 (fun hk => by have := hk.2; omega) (by omega) (hv.mono (fun k hk => .inr (Nat.le_trans (hf1.trans hf2 (fun _ h => .inl h)).size hk))) hf
end
end Go.Proofs.Ph
/- diag: a question of a wrong length. No condition. -/
namespace Go.Proofs.Ph
open Go Go.RowKit Go.Proofs.YthjnlggommennaaW.PrintWords
attribute [local go_sem ↓] Go.wp_at_zero Go.wp_at_succ
section
variable {w : World} {g : Nat} {P : Nat → Prop} {s : S25} {vi vd vq : Value} {q : List Int} {n : Int}
set_option maxRecDepth 100000 in
set_option maxHeartbeats 4000000 in
theorem answer_long1 {l : Int} {F : Nat} (hn : 0 ≤ n ∧ n ≤ 255) (h : MPre w g P s vi vd vq q) (hB : Byt q) (hf : mFind n q = .inr (l, F)) (hl : (l == (q.length : Int)) = false) (hl2 : (l == -1) = false) :
    Calls Try.prog 82 #[.pointer (some ⟨g, 0, none⟩), .int .u8 n] w (MPost w g P vq (s, .inr [127, n % 256, 19 % 256])) := by
  refine Calls.mono ?_ (fun e w' h => MPost.unbound h)
  replace h := h.bound
  have hg := blk_lt h.x
  obtain ⟨A, c, ev, hlc, hFq⟩ := h.q
  subst ev
  obtain ⟨w1, ew1⟩ : ∃ w1, w1 = (w.alloc (.cells #[.int .u8 n] 5)).alloc (.cells #[.slice none 0 0] 31) := ⟨_, rfl⟩
  have hf1 : Fr (fun _ => False) w w1 := by rw [ew1]; exact ((Fr.refl _ w).alloc _).alloc _
  have FC := find_calls (n := n) (h.fr hf1) hB
  rw [hf] at FC
  have hb1 : w1.heap[w.heap.size]? = some (.cells #[.int .u8 n] 5 (0, 0)) := by rw [ew1]; exact blk_alloc (blk_new w _) _
  have hb2 : w1.heap[w.heap.size + 1]? = some (.cells #[.slice none 0 0] 31 (0, 0)) := by rw [ew1]; exact blk_new' (by show _ = (Array.push _ _).size; rw [Array.size_push])
  have c9 : w.cell? ⟨g, 9, none⟩ = some (.slice A q.length c) := (blk_cell h.x 9).trans rfl
  have H := Aside0.mk h
  have FC' := Aside0.mk FC
  have EW := Aside0.mk ew1
  have HB1 := Aside0.mk hb1
  have HB2 := Aside0.mk hb2
  clear h FC ew1 hf hb1 hb2 hFq hlc
  go_enter_defers Try.func82, Try.ntmps82
  go_wp2_with (go_at_call 122; rw [← EW.out]; refine FC'.out.mono ?_; rintro e w2 ⟨hf2, he⟩; subst he; (unfold sv))
  have hF2 := hf1.trans hf2 (fun _ h => .inl h)
  have hs2 := hF2.size
  obtain ⟨w3, ew3⟩ : ∃ w3, w3 = w2.alloc (.cells #[.int .i64 l, .func (.func F) #[] #[]] 175) := ⟨_, rfl⟩
  have hf3 : Fr (fun _ => False) w2 w3 := by rw [ew3]; exact (Fr.refl _ w2).alloc _
  have hb3 : w3.heap[w2.heap.size]? = some (.cells #[.int .i64 l, .func (.func F) #[] #[]] 175 (0, 0)) := by rw [ew3]; exact blk_new w2 _
  rw [← ew3]
  have hF3 := hF2.trans hf3 (fun _ h => .inl h)
  have d0 : w3.cell? ⟨w2.heap.size, 0, none⟩ = some (.int .i64 l) := (blk_cell hb3 0).trans rfl
  have d1 : w3.cell? ⟨w.heap.size, 0, none⟩ = some (.int .u8 n) := (hf2.trans hf3 (fun _ h => .inl h)).cellA ((blk_cell HB1.out 0).trans rfl)
  replace c9 := hF3.cellA c9
  clear ew3
  refine wp_region_free (S := fun w' => w'.cell? ⟨w2.heap.size, 0, none⟩ = some (.int .i64 l) ∧ w'.cell? ⟨w.heap.size, 0, none⟩ = some (.int .u8 n) ∧ w'.cell? ⟨g, 9, none⟩ = some (.slice A q.length c)) 4 (.pointer (some ⟨w.heap.size + 1, 0, none⟩)) (by kernel_rfl) (by kernel_rfl) rfl ⟨d0, d1, c9⟩ ?_
  intro hS
  refine wpAnyH_take (i := 0) (v := ?_) rfl (by kernel_rfl) (by kernel_rfl) (by kernel_rfl) (fun _ _ _ h => h) (Or.inl ⟨by rfl, ?_⟩) hS ?_
  rotate_left
  · intro w4 h4
    obtain ⟨k0, k1, k9⟩ := h4
    go_simp
    try with_reducible rfl
  simp only [List.getElem_toArray, List.getElem_cons_zero, List.getElem_cons_succ, Act.put, List.setIfInBounds_toArray, List.set_cons_zero, List.set_cons_succ]
  refine wpAnyH_take (i := 1) (v := ?_) rfl (by kernel_rfl) (by kernel_rfl) (by kernel_rfl) (fun _ _ _ h => h) (Or.inl ⟨by rfl, ?_⟩) hS ?_
  rotate_left
  · intro w4 h4
    obtain ⟨k0, k1, k9⟩ := h4
    go_simp
    try with_reducible rfl
  simp only [List.getElem_toArray, List.getElem_cons_zero, List.getElem_cons_succ, Act.put, List.setIfInBounds_toArray, List.set_cons_zero, List.set_cons_succ]
  refine wpAnyH_take (i := 2) (v := ?_) rfl (by kernel_rfl) (by kernel_rfl) (by kernel_rfl) (fun _ _ _ h => h) (Or.inl ⟨by rfl, ?_⟩) hS ?_
  rotate_left
  · intro w4 h4
    obtain ⟨k0, k1, k9⟩ := h4
    go_simp
    try with_reducible rfl
  simp only [List.getElem_toArray, List.getElem_cons_zero, List.getElem_cons_succ, Act.put, List.setIfInBounds_toArray, List.set_cons_zero, List.set_cons_succ]
  refine wpAnyH_take (i := 3) (v := ?_) rfl (by kernel_rfl) (by kernel_rfl) (by kernel_rfl) (fun _ _ _ h => h) (Or.inl ⟨by rfl, ?_⟩) hS ?_
  rotate_left
  · intro w4 h4
    obtain ⟨k0, k1, k9⟩ := h4
    go_simp
    try with_reducible rfl
  simp only [List.getElem_toArray, List.getElem_cons_zero, List.getElem_cons_succ, Act.put, List.setIfInBounds_toArray, List.set_cons_zero, List.set_cons_succ]
  refine wpAnyH_take (i := 4) (v := ?_) rfl (by kernel_rfl) (by kernel_rfl) (by kernel_rfl) (fun _ _ _ h => h) (Or.inl ⟨by rfl, ?_⟩) hS ?_
  rotate_left
  · intro w4 h4
    obtain ⟨k0, k1, k9⟩ := h4
    go_simp
    try with_reducible rfl
  simp only [List.getElem_toArray, List.getElem_cons_zero, List.getElem_cons_succ, Act.put, List.setIfInBounds_toArray, List.set_cons_zero, List.set_cons_succ]
  refine wpAnyH_take (i := 5) (v := ?_) rfl (by kernel_rfl) (by kernel_rfl) (by kernel_rfl) (fun _ _ _ h => h) (Or.inl ⟨by rfl, ?_⟩) hS ?_
  rotate_left
  · intro w4 h4
    obtain ⟨k0, k1, k9⟩ := h4
    go_simp
    try with_reducible rfl
  simp only [List.getElem_toArray, List.getElem_cons_zero, List.getElem_cons_succ, Act.put, List.setIfInBounds_toArray, List.set_cons_zero, List.set_cons_succ]
  refine wpAnyH_take (i := 6) (v := ?_) rfl (by kernel_rfl) (by kernel_rfl) (by kernel_rfl) (fun _ _ _ h => h) (Or.inl ⟨by rfl, ?_⟩) hS ?_
  rotate_left
  · intro w4 h4
    obtain ⟨k0, k1, k9⟩ := h4
    go_simp
    try with_reducible rfl
  simp only [List.getElem_toArray, List.getElem_cons_zero, List.getElem_cons_succ, Act.put, List.setIfInBounds_toArray, List.set_cons_zero, List.set_cons_succ]
  refine wpAnyH_take (i := 7) (v := ?_) rfl (by kernel_rfl) (by kernel_rfl) (by kernel_rfl) (fun _ _ _ h => h) (Or.inl ⟨by rfl, ?_⟩) hS ?_
  rotate_left
  · intro w4 h4
    obtain ⟨k0, k1, k9⟩ := h4
    go_simp
    try with_reducible rfl
  simp only [List.getElem_toArray, List.getElem_cons_zero, List.getElem_cons_succ, Act.put, List.setIfInBounds_toArray, List.set_cons_zero, List.set_cons_succ]
  refine wpAnyH_take (i := 8) (v := ?_) rfl (by kernel_rfl) (by kernel_rfl) (by kernel_rfl) (fun _ _ _ h => h) (Or.inl ⟨by rfl, ?_⟩) hS ?_
  rotate_left
  · intro w4 h4
    obtain ⟨k0, k1, k9⟩ := h4
    go_simp
    try with_reducible rfl
  simp only [List.getElem_toArray, List.getElem_cons_zero, List.getElem_cons_succ, Act.put, List.setIfInBounds_toArray, List.set_cons_zero, List.set_cons_succ]
  refine wpAnyH_take (i := 9) (v := ?_) rfl (by kernel_rfl) (by kernel_rfl) (by kernel_rfl) (fun _ _ _ h => h) (Or.inl ⟨by rfl, ?_⟩) hS ?_
  rotate_left
  · intro w4 h4
    obtain ⟨k0, k1, k9⟩ := h4
    go_simp
    try with_reducible rfl
  simp only [List.getElem_toArray, List.getElem_cons_zero, List.getElem_cons_succ, Act.put, List.setIfInBounds_toArray, List.set_cons_zero, List.set_cons_succ]
  refine wpAnyH_take (i := 10) (v := ?_) rfl (by kernel_rfl) (by kernel_rfl) (by kernel_rfl) (fun _ _ _ h => h) (Or.inl ⟨by rfl, ?_⟩) hS ?_
  rotate_left
  · intro w4 h4
    obtain ⟨k0, k1, k9⟩ := h4
    go_simp
    try with_reducible rfl
  simp only [List.getElem_toArray, List.getElem_cons_zero, List.getElem_cons_succ, Act.put, List.setIfInBounds_toArray, List.set_cons_zero, List.set_cons_succ]
  refine wpAnyH_take (i := 11) (v := ?_) rfl (by kernel_rfl) (by kernel_rfl) (by kernel_rfl) (fun _ _ _ h => h) (Or.inl ⟨by rfl, ?_⟩) hS ?_
  rotate_left
  · intro w4 h4
    obtain ⟨k0, k1, k9⟩ := h4
    go_simp
    try with_reducible rfl
  simp only [List.getElem_toArray, List.getElem_cons_zero, List.getElem_cons_succ, Act.put, List.setIfInBounds_toArray, List.set_cons_zero, List.set_cons_succ]
  refine wpAnyH_take (i := 12) (v := ?_) rfl (by kernel_rfl) (by kernel_rfl) (by kernel_rfl) (fun _ _ _ h => h) (Or.inl ⟨by rfl, ?_⟩) hS ?_
  rotate_left
  · intro w4 h4
    obtain ⟨k0, k1, k9⟩ := h4
    go_simp
    try with_reducible rfl
  simp only [List.getElem_toArray, List.getElem_cons_zero, List.getElem_cons_succ, Act.put, List.setIfInBounds_toArray, List.set_cons_zero, List.set_cons_succ]
  refine wpAnyH_take (i := 13) (v := undef) rfl (by kernel_rfl) (by kernel_rfl) (by kernel_rfl) (fun _ _ _ h => h) (Or.inr ⟨by rfl, rfl⟩) hS ?_
  simp only [List.getElem_toArray, List.getElem_cons_zero, List.getElem_cons_succ, Act.put, List.setIfInBounds_toArray, List.set_cons_zero, List.set_cons_succ]
  refine wpAnyH_take (i := 14) (v := undef) rfl (by kernel_rfl) (by kernel_rfl) (by kernel_rfl) (fun _ _ _ h => h) (Or.inr ⟨by rfl, rfl⟩) hS ?_
  simp only [List.getElem_toArray, List.getElem_cons_zero, List.getElem_cons_succ, Act.put, List.setIfInBounds_toArray, List.set_cons_zero, List.set_cons_succ]
  refine wpAnyH_take (i := 15) (v := undef) rfl (by kernel_rfl) (by kernel_rfl) (by kernel_rfl) (fun _ _ _ h => h) (Or.inr ⟨by rfl, rfl⟩) hS ?_
  simp only [List.getElem_toArray, List.getElem_cons_zero, List.getElem_cons_succ, Act.put, List.setIfInBounds_toArray, List.set_cons_zero, List.set_cons_succ]
  refine wpAnyH_take (i := 16) (v := undef) rfl (by kernel_rfl) (by kernel_rfl) (by kernel_rfl) (fun _ _ _ h => h) (Or.inr ⟨by rfl, rfl⟩) hS ?_
  simp only [List.getElem_toArray, List.getElem_cons_zero, List.getElem_cons_succ, Act.put, List.setIfInBounds_toArray, List.set_cons_zero, List.set_cons_succ]
  refine wpAnyH_take (i := 17) (v := undef) rfl (by kernel_rfl) (by kernel_rfl) (by kernel_rfl) (fun _ _ _ h => h) (Or.inr ⟨by rfl, rfl⟩) hS ?_
  simp only [List.getElem_toArray, List.getElem_cons_zero, List.getElem_cons_succ, Act.put, List.setIfInBounds_toArray, List.set_cons_zero, List.set_cons_succ]
  refine wpAnyH_take (i := 18) (v := undef) rfl (by kernel_rfl) (by kernel_rfl) (by kernel_rfl) (fun _ _ _ h => h) (Or.inr ⟨by rfl, rfl⟩) hS ?_
  simp only [List.getElem_toArray, List.getElem_cons_zero, List.getElem_cons_succ, Act.put, List.setIfInBounds_toArray, List.set_cons_zero, List.set_cons_succ]
  refine wpAnyH_take (i := 19) (v := undef) rfl (by kernel_rfl) (by kernel_rfl) (by kernel_rfl) (fun _ _ _ h => h) (Or.inr ⟨by rfl, rfl⟩) hS ?_
  simp only [List.getElem_toArray, List.getElem_cons_zero, List.getElem_cons_succ, Act.put, List.setIfInBounds_toArray, List.set_cons_zero, List.set_cons_succ]
  refine wpAnyH_take (i := 20) (v := undef) rfl (by kernel_rfl) (by kernel_rfl) (by kernel_rfl) (fun _ _ _ h => h) (Or.inr ⟨by rfl, rfl⟩) hS ?_
  simp only [List.getElem_toArray, List.getElem_cons_zero, List.getElem_cons_succ, Act.put, List.setIfInBounds_toArray, List.set_cons_zero, List.set_cons_succ]
  refine wpAnyH_take (i := 21) (v := undef) rfl (by kernel_rfl) (by kernel_rfl) (by kernel_rfl) (fun _ _ _ h => h) (Or.inr ⟨by rfl, rfl⟩) hS ?_
  simp only [List.getElem_toArray, List.getElem_cons_zero, List.getElem_cons_succ, Act.put, List.setIfInBounds_toArray, List.set_cons_zero, List.set_cons_succ]
  refine wpAnyH_take (i := 22) (v := undef) rfl (by kernel_rfl) (by kernel_rfl) (by kernel_rfl) (fun _ _ _ h => h) (Or.inr ⟨by rfl, rfl⟩) hS ?_
  simp only [List.getElem_toArray, List.getElem_cons_zero, List.getElem_cons_succ, Act.put, List.setIfInBounds_toArray, List.set_cons_zero, List.set_cons_succ]
  refine wpAnyH_take (i := 23) (v := ?_) rfl (by kernel_rfl) (by kernel_rfl) (by kernel_rfl) (fun _ _ _ h => h) (Or.inl ⟨by rfl, ?_⟩) hS ?_
  rotate_left
  · intro w4 h4
    obtain ⟨k0, k1, k9⟩ := h4
    go_simp
    try with_reducible rfl
  simp only [List.getElem_toArray, List.getElem_cons_zero, List.getElem_cons_succ, Act.put, List.setIfInBounds_toArray, List.set_cons_zero, List.set_cons_succ]
  refine wpAnyH_take (i := 24) (v := ?_) rfl (by kernel_rfl) (by kernel_rfl) (by kernel_rfl) (fun _ _ _ h => h) (Or.inl ⟨by rfl, ?_⟩) hS ?_
  rotate_left
  · intro w4 h4
    obtain ⟨k0, k1, k9⟩ := h4
    go_simp
    try with_reducible rfl
  simp only [List.getElem_toArray, List.getElem_cons_zero, List.getElem_cons_succ, Act.put, List.setIfInBounds_toArray, List.set_cons_zero, List.set_cons_succ]
  refine wpAnyH_ready (rs := [25]) (by kernel_rfl) (by simp) ?_
  refine AllReadyH.cons rfl (fun K hK => ?_) AllReadyH.nil
  go_simp
  refine (unless_no _ _).mono ?_
  rintro e w' ⟨rfl, rfl⟩
  intro tmps ht
  have hf4 : Fr (fun _ => False) w1 w3.drew := (hf2.trans hf3 (fun _ h => .inl h)).drew
  refine leaves_refused hn ht (hf4.blk HB1.out (fun h => h)) (hf4.blk HB2.out (fun h => h)) rfl ?_
  intro v w' hv hf
  have hs1 := blk_lt HB2.out
  exact MPost.denied (b2 := w.heap.size + 1) (((H.out.fr hf1).fr hf4).refuse (why := 19) |>.from hf4) hf1 (by omega) hs1 (fun hk => by have := hk.2; omega) (by omega) (hv.mono (fun k hk => .inr (Nat.le_trans (hf1.trans hf4 (fun _ h => .inl h)).size hk))) hf
set_option maxRecDepth 100000 in
set_option maxHeartbeats 4000000 in
theorem answer_long2 {l : Int} {F : Nat} (hn : 0 ≤ n ∧ n ≤ 255) (h : MPre w g P s vi vd vq q) (hB : Byt q) (hf : mFind n q = .inr (l, F)) (hl : (l == (q.length : Int)) = false) (hl2 : (l == -1) = true) (hl3 : (n != 46) = false) (hl4 : decide ((2 : Int) < (q.length : Int)) = false) :
    Calls Try.prog 82 #[.pointer (some ⟨g, 0, none⟩), .int .u8 n] w (MPost w g P vq (s, .inr [127, n % 256, 19 % 256])) := by
  refine Calls.mono ?_ (fun e w' h => MPost.unbound h)
  replace h := h.bound
  have hg := blk_lt h.x
  obtain ⟨A, c, ev, hlc, hFq⟩ := h.q
  subst ev
  obtain ⟨w1, ew1⟩ : ∃ w1, w1 = (w.alloc (.cells #[.int .u8 n] 5)).alloc (.cells #[.slice none 0 0] 31) := ⟨_, rfl⟩
  have hf1 : Fr (fun _ => False) w w1 := by rw [ew1]; exact ((Fr.refl _ w).alloc _).alloc _
  have FC := find_calls (n := n) (h.fr hf1) hB
  rw [hf] at FC
  have hb1 : w1.heap[w.heap.size]? = some (.cells #[.int .u8 n] 5 (0, 0)) := by rw [ew1]; exact blk_alloc (blk_new w _) _
  have hb2 : w1.heap[w.heap.size + 1]? = some (.cells #[.slice none 0 0] 31 (0, 0)) := by rw [ew1]; exact blk_new' (by show _ = (Array.push _ _).size; rw [Array.size_push])
  have c9 : w.cell? ⟨g, 9, none⟩ = some (.slice A q.length c) := (blk_cell h.x 9).trans rfl
  have H := Aside0.mk h
  have FC' := Aside0.mk FC
  have EW := Aside0.mk ew1
  have HB1 := Aside0.mk hb1
  have HB2 := Aside0.mk hb2
  clear h FC ew1 hf hb1 hb2 hFq hlc
  go_enter_defers Try.func82, Try.ntmps82
  go_wp2_with (go_at_call 122; rw [← EW.out]; refine FC'.out.mono ?_; rintro e w2 ⟨hf2, he⟩; subst he; (unfold sv))
  have hF2 := hf1.trans hf2 (fun _ h => .inl h)
  have hs2 := hF2.size
  obtain ⟨w3, ew3⟩ : ∃ w3, w3 = w2.alloc (.cells #[.int .i64 l, .func (.func F) #[] #[]] 175) := ⟨_, rfl⟩
  have hf3 : Fr (fun _ => False) w2 w3 := by rw [ew3]; exact (Fr.refl _ w2).alloc _
  have hb3 : w3.heap[w2.heap.size]? = some (.cells #[.int .i64 l, .func (.func F) #[] #[]] 175 (0, 0)) := by rw [ew3]; exact blk_new w2 _
  rw [← ew3]
  have hF3 := hF2.trans hf3 (fun _ h => .inl h)
  have d0 : w3.cell? ⟨w2.heap.size, 0, none⟩ = some (.int .i64 l) := (blk_cell hb3 0).trans rfl
  have d1 : w3.cell? ⟨w.heap.size, 0, none⟩ = some (.int .u8 n) := (hf2.trans hf3 (fun _ h => .inl h)).cellA ((blk_cell HB1.out 0).trans rfl)
  replace c9 := hF3.cellA c9
  clear ew3
  refine wp_region_free (S := fun w' => w'.cell? ⟨w2.heap.size, 0, none⟩ = some (.int .i64 l) ∧ w'.cell? ⟨w.heap.size, 0, none⟩ = some (.int .u8 n) ∧ w'.cell? ⟨g, 9, none⟩ = some (.slice A q.length c)) 4 (.pointer (some ⟨w.heap.size + 1, 0, none⟩)) (by kernel_rfl) (by kernel_rfl) rfl ⟨d0, d1, c9⟩ ?_
  intro hS
  refine wpAnyH_take (i := 0) (v := ?_) rfl (by kernel_rfl) (by kernel_rfl) (by kernel_rfl) (fun _ _ _ h => h) (Or.inl ⟨by rfl, ?_⟩) hS ?_
  rotate_left
  · intro w4 h4
    obtain ⟨k0, k1, k9⟩ := h4
    go_simp
    try with_reducible rfl
  simp only [List.getElem_toArray, List.getElem_cons_zero, List.getElem_cons_succ, Act.put, List.setIfInBounds_toArray, List.set_cons_zero, List.set_cons_succ]
  refine wpAnyH_take (i := 1) (v := ?_) rfl (by kernel_rfl) (by kernel_rfl) (by kernel_rfl) (fun _ _ _ h => h) (Or.inl ⟨by rfl, ?_⟩) hS ?_
  rotate_left
  · intro w4 h4
    obtain ⟨k0, k1, k9⟩ := h4
    go_simp
    try with_reducible rfl
  simp only [List.getElem_toArray, List.getElem_cons_zero, List.getElem_cons_succ, Act.put, List.setIfInBounds_toArray, List.set_cons_zero, List.set_cons_succ]
  refine wpAnyH_take (i := 2) (v := ?_) rfl (by kernel_rfl) (by kernel_rfl) (by kernel_rfl) (fun _ _ _ h => h) (Or.inl ⟨by rfl, ?_⟩) hS ?_
  rotate_left
  · intro w4 h4
    obtain ⟨k0, k1, k9⟩ := h4
    go_simp
    try with_reducible rfl
  simp only [List.getElem_toArray, List.getElem_cons_zero, List.getElem_cons_succ, Act.put, List.setIfInBounds_toArray, List.set_cons_zero, List.set_cons_succ]
  refine wpAnyH_take (i := 3) (v := ?_) rfl (by kernel_rfl) (by kernel_rfl) (by kernel_rfl) (fun _ _ _ h => h) (Or.inl ⟨by rfl, ?_⟩) hS ?_
  rotate_left
  · intro w4 h4
    obtain ⟨k0, k1, k9⟩ := h4
    go_simp
    try with_reducible rfl
  simp only [List.getElem_toArray, List.getElem_cons_zero, List.getElem_cons_succ, Act.put, List.setIfInBounds_toArray, List.set_cons_zero, List.set_cons_succ]
  refine wpAnyH_take (i := 4) (v := ?_) rfl (by kernel_rfl) (by kernel_rfl) (by kernel_rfl) (fun _ _ _ h => h) (Or.inl ⟨by rfl, ?_⟩) hS ?_
  rotate_left
  · intro w4 h4
    obtain ⟨k0, k1, k9⟩ := h4
    go_simp
    try with_reducible rfl
  simp only [List.getElem_toArray, List.getElem_cons_zero, List.getElem_cons_succ, Act.put, List.setIfInBounds_toArray, List.set_cons_zero, List.set_cons_succ]
  refine wpAnyH_take (i := 5) (v := ?_) rfl (by kernel_rfl) (by kernel_rfl) (by kernel_rfl) (fun _ _ _ h => h) (Or.inl ⟨by rfl, ?_⟩) hS ?_
  rotate_left
  · intro w4 h4
    obtain ⟨k0, k1, k9⟩ := h4
    go_simp
    try with_reducible rfl
  simp only [List.getElem_toArray, List.getElem_cons_zero, List.getElem_cons_succ, Act.put, List.setIfInBounds_toArray, List.set_cons_zero, List.set_cons_succ]
  refine wpAnyH_take (i := 6) (v := ?_) rfl (by kernel_rfl) (by kernel_rfl) (by kernel_rfl) (fun _ _ _ h => h) (Or.inl ⟨by rfl, ?_⟩) hS ?_
  rotate_left
  · intro w4 h4
    obtain ⟨k0, k1, k9⟩ := h4
    go_simp
    try with_reducible rfl
  simp only [List.getElem_toArray, List.getElem_cons_zero, List.getElem_cons_succ, Act.put, List.setIfInBounds_toArray, List.set_cons_zero, List.set_cons_succ]
  refine wpAnyH_take (i := 7) (v := ?_) rfl (by kernel_rfl) (by kernel_rfl) (by kernel_rfl) (fun _ _ _ h => h) (Or.inl ⟨by rfl, ?_⟩) hS ?_
  rotate_left
  · intro w4 h4
    obtain ⟨k0, k1, k9⟩ := h4
    go_simp
    try with_reducible rfl
  simp only [List.getElem_toArray, List.getElem_cons_zero, List.getElem_cons_succ, Act.put, List.setIfInBounds_toArray, List.set_cons_zero, List.set_cons_succ]
  refine wpAnyH_take (i := 8) (v := ?_) rfl (by kernel_rfl) (by kernel_rfl) (by kernel_rfl) (fun _ _ _ h => h) (Or.inl ⟨by rfl, ?_⟩) hS ?_
  rotate_left
  · intro w4 h4
    obtain ⟨k0, k1, k9⟩ := h4
    go_simp
    try with_reducible rfl
  simp only [List.getElem_toArray, List.getElem_cons_zero, List.getElem_cons_succ, Act.put, List.setIfInBounds_toArray, List.set_cons_zero, List.set_cons_succ]
  refine wpAnyH_take (i := 9) (v := ?_) rfl (by kernel_rfl) (by kernel_rfl) (by kernel_rfl) (fun _ _ _ h => h) (Or.inl ⟨by rfl, ?_⟩) hS ?_
  rotate_left
  · intro w4 h4
    obtain ⟨k0, k1, k9⟩ := h4
    go_simp
    try with_reducible rfl
  simp only [List.getElem_toArray, List.getElem_cons_zero, List.getElem_cons_succ, Act.put, List.setIfInBounds_toArray, List.set_cons_zero, List.set_cons_succ]
  refine wpAnyH_take (i := 10) (v := ?_) rfl (by kernel_rfl) (by kernel_rfl) (by kernel_rfl) (fun _ _ _ h => h) (Or.inl ⟨by rfl, ?_⟩) hS ?_
  rotate_left
  · intro w4 h4
    obtain ⟨k0, k1, k9⟩ := h4
    go_simp
    try with_reducible rfl
  simp only [List.getElem_toArray, List.getElem_cons_zero, List.getElem_cons_succ, Act.put, List.setIfInBounds_toArray, List.set_cons_zero, List.set_cons_succ]
  refine wpAnyH_take (i := 11) (v := ?_) rfl (by kernel_rfl) (by kernel_rfl) (by kernel_rfl) (fun _ _ _ h => h) (Or.inl ⟨by rfl, ?_⟩) hS ?_
  rotate_left
  · intro w4 h4
    obtain ⟨k0, k1, k9⟩ := h4
    go_simp
    try with_reducible rfl
  simp only [List.getElem_toArray, List.getElem_cons_zero, List.getElem_cons_succ, Act.put, List.setIfInBounds_toArray, List.set_cons_zero, List.set_cons_succ]
  refine wpAnyH_take (i := 12) (v := ?_) rfl (by kernel_rfl) (by kernel_rfl) (by kernel_rfl) (fun _ _ _ h => h) (Or.inl ⟨by rfl, ?_⟩) hS ?_
  rotate_left
  · intro w4 h4
    obtain ⟨k0, k1, k9⟩ := h4
    go_simp
    try with_reducible rfl
  simp only [List.getElem_toArray, List.getElem_cons_zero, List.getElem_cons_succ, Act.put, List.setIfInBounds_toArray, List.set_cons_zero, List.set_cons_succ]
  refine wpAnyH_take (i := 13) (v := ?_) rfl (by kernel_rfl) (by kernel_rfl) (by kernel_rfl) (fun _ _ _ h => h) (Or.inl ⟨by rfl, ?_⟩) hS ?_
  rotate_left
  · intro w4 h4
    obtain ⟨k0, k1, k9⟩ := h4
    go_simp
    try with_reducible rfl
  simp only [List.getElem_toArray, List.getElem_cons_zero, List.getElem_cons_succ, Act.put, List.setIfInBounds_toArray, List.set_cons_zero, List.set_cons_succ]
  refine wpAnyH_take (i := 14) (v := ?_) rfl (by kernel_rfl) (by kernel_rfl) (by kernel_rfl) (fun _ _ _ h => h) (Or.inl ⟨by rfl, ?_⟩) hS ?_
  rotate_left
  · intro w4 h4
    obtain ⟨k0, k1, k9⟩ := h4
    go_simp
    try with_reducible rfl
  simp only [List.getElem_toArray, List.getElem_cons_zero, List.getElem_cons_succ, Act.put, List.setIfInBounds_toArray, List.set_cons_zero, List.set_cons_succ]
  refine wpAnyH_take (i := 15) (v := ?_) rfl (by kernel_rfl) (by kernel_rfl) (by kernel_rfl) (fun _ _ _ h => h) (Or.inl ⟨by rfl, ?_⟩) hS ?_
  rotate_left
  · intro w4 h4
    obtain ⟨k0, k1, k9⟩ := h4
    go_simp
    try with_reducible rfl
  simp only [List.getElem_toArray, List.getElem_cons_zero, List.getElem_cons_succ, Act.put, List.setIfInBounds_toArray, List.set_cons_zero, List.set_cons_succ]
  refine wpAnyH_take (i := 16) (v := ?_) rfl (by kernel_rfl) (by kernel_rfl) (by kernel_rfl) (fun _ _ _ h => h) (Or.inl ⟨by rfl, ?_⟩) hS ?_
  rotate_left
  · intro w4 h4
    obtain ⟨k0, k1, k9⟩ := h4
    go_simp
    try with_reducible rfl
  simp only [List.getElem_toArray, List.getElem_cons_zero, List.getElem_cons_succ, Act.put, List.setIfInBounds_toArray, List.set_cons_zero, List.set_cons_succ]
  refine wpAnyH_take (i := 17) (v := ?_) rfl (by kernel_rfl) (by kernel_rfl) (by kernel_rfl) (fun _ _ _ h => h) (Or.inl ⟨by rfl, ?_⟩) hS ?_
  rotate_left
  · intro w4 h4
    obtain ⟨k0, k1, k9⟩ := h4
    go_simp
    try with_reducible rfl
  simp only [List.getElem_toArray, List.getElem_cons_zero, List.getElem_cons_succ, Act.put, List.setIfInBounds_toArray, List.set_cons_zero, List.set_cons_succ]
  refine wpAnyH_take (i := 18) (v := ?_) rfl (by kernel_rfl) (by kernel_rfl) (by kernel_rfl) (fun _ _ _ h => h) (Or.inl ⟨by rfl, ?_⟩) hS ?_
  rotate_left
  · intro w4 h4
    obtain ⟨k0, k1, k9⟩ := h4
    go_simp
    try with_reducible rfl
  simp only [List.getElem_toArray, List.getElem_cons_zero, List.getElem_cons_succ, Act.put, List.setIfInBounds_toArray, List.set_cons_zero, List.set_cons_succ]
  refine wpAnyH_take (i := 19) (v := ?_) rfl (by kernel_rfl) (by kernel_rfl) (by kernel_rfl) (fun _ _ _ h => h) (Or.inl ⟨by rfl, ?_⟩) hS ?_
  rotate_left
  · intro w4 h4
    obtain ⟨k0, k1, k9⟩ := h4
    go_simp
    try with_reducible rfl
  simp only [List.getElem_toArray, List.getElem_cons_zero, List.getElem_cons_succ, Act.put, List.setIfInBounds_toArray, List.set_cons_zero, List.set_cons_succ]
  refine wpAnyH_take (i := 20) (v := ?_) rfl (by kernel_rfl) (by kernel_rfl) (by kernel_rfl) (fun _ _ _ h => h) (Or.inl ⟨by rfl, ?_⟩) hS ?_
  rotate_left
  · intro w4 h4
    obtain ⟨k0, k1, k9⟩ := h4
    go_simp
    try with_reducible rfl
  simp only [List.getElem_toArray, List.getElem_cons_zero, List.getElem_cons_succ, Act.put, List.setIfInBounds_toArray, List.set_cons_zero, List.set_cons_succ]
  refine wpAnyH_take (i := 21) (v := ?_) rfl (by kernel_rfl) (by kernel_rfl) (by kernel_rfl) (fun _ _ _ h => h) (Or.inl ⟨by rfl, ?_⟩) hS ?_
  rotate_left
  · intro w4 h4
    obtain ⟨k0, k1, k9⟩ := h4
    go_simp
    try with_reducible rfl
  simp only [List.getElem_toArray, List.getElem_cons_zero, List.getElem_cons_succ, Act.put, List.setIfInBounds_toArray, List.set_cons_zero, List.set_cons_succ]
  refine wpAnyH_take (i := 22) (v := ?_) rfl (by kernel_rfl) (by kernel_rfl) (by kernel_rfl) (fun _ _ _ h => h) (Or.inl ⟨by rfl, ?_⟩) hS ?_
  rotate_left
  · intro w4 h4
    obtain ⟨k0, k1, k9⟩ := h4
    go_simp
    try with_reducible rfl
  simp only [List.getElem_toArray, List.getElem_cons_zero, List.getElem_cons_succ, Act.put, List.setIfInBounds_toArray, List.set_cons_zero, List.set_cons_succ]
  refine wpAnyH_take (i := 23) (v := ?_) rfl (by kernel_rfl) (by kernel_rfl) (by kernel_rfl) (fun _ _ _ h => h) (Or.inl ⟨by rfl, ?_⟩) hS ?_
  rotate_left
  · intro w4 h4
    obtain ⟨k0, k1, k9⟩ := h4
    go_simp
    try with_reducible rfl
  simp only [List.getElem_toArray, List.getElem_cons_zero, List.getElem_cons_succ, Act.put, List.setIfInBounds_toArray, List.set_cons_zero, List.set_cons_succ]
  refine wpAnyH_take (i := 24) (v := ?_) rfl (by kernel_rfl) (by kernel_rfl) (by kernel_rfl) (fun _ _ _ h => h) (Or.inl ⟨by rfl, ?_⟩) hS ?_
  rotate_left
  · intro w4 h4
    obtain ⟨k0, k1, k9⟩ := h4
    go_simp
    try with_reducible rfl
  simp only [List.getElem_toArray, List.getElem_cons_zero, List.getElem_cons_succ, Act.put, List.setIfInBounds_toArray, List.set_cons_zero, List.set_cons_succ]
  refine wpAnyH_ready (rs := [25]) (by kernel_rfl) (by simp) ?_
  refine AllReadyH.cons rfl (fun K hK => ?_) AllReadyH.nil
  go_simp
  refine (unless_no _ _).mono ?_
  rintro e w' ⟨rfl, rfl⟩
  intro tmps ht
  have hf4 : Fr (fun _ => False) w1 w3.drew := (hf2.trans hf3 (fun _ h => .inl h)).drew
  refine leaves_refused hn ht (hf4.blk HB1.out (fun h => h)) (hf4.blk HB2.out (fun h => h)) rfl ?_
  intro v w' hv hf
  have hs1 := blk_lt HB2.out
  exact MPost.denied (b2 := w.heap.size + 1) (((H.out.fr hf1).fr hf4).refuse (why := 19) |>.from hf4) hf1 (by omega) hs1 (fun hk => by have := hk.2; omega) (by omega) (hv.mono (fun k hk => .inr (Nat.le_trans (hf1.trans hf4 (fun _ h => .inl h)).size hk))) hf
end
end Go.Proofs.Ph
