/- Part 4 of the proof of DiagHands, for every input: Base, Kinds, D1, D2, L1, D4. No condition. -/
import Derived.Test.YthjnlggommennaaH2
import Derived.WalkKit
import Derived.WalkLawsBesides
import Derived.BigRegion
import Derived.Laws.BitsAllLaws
import Derived.Test.YthjnlggommennaaProg
import Derived.WalkSpells
set_option linter.unusedVariables false
set_option linter.unusedSimpArgs false
set_option linter.unusedSectionVars false
/- Words of this part's walks: what a call leaves as it was, slices that are read, rows of bytes that are made. No condition. -/
namespace Go.Proofs.Ph
open Go Go.RowKit Go.Proofs.YthjnlggommennaaW.PrintWords
/-- All blocks of w but those of S are in w' as they were. -/
structure Fr (S : Nat → Prop) (w w' : World) : Prop where
  os : w'.os = w.os
  tape : w'.tape = w.tape
  output : w'.output = w.output
  size : w.heap.size ≤ w'.heap.size
  block : ∀ k, k < w.heap.size → ¬ S k → w'.heap[k]? = w.heap[k]?
section
variable {S S' : Nat → Prop} {w w1 w2 : World}
theorem Fr.refl (S : Nat → Prop) (w : World) : Fr S w w := ⟨rfl, rfl, rfl, Nat.le_refl _, fun _ _ _ => rfl⟩
theorem Fr.trans (h : Fr S w w1) (k : Fr S' w1 w2) (hs : ∀ i, S' i → S i ∨ w.heap.size ≤ i) : Fr S w w2 :=
  ⟨k.os.trans h.os, k.tape.trans h.tape, k.output.trans h.output, Nat.le_trans h.size k.size, fun i hi hn =>
    (k.block i (Nat.lt_of_lt_of_le hi h.size) (fun h2 => (hs i h2).elim hn (fun h3 => by omega))).trans (h.block i hi hn)⟩
theorem Fr.of_below (h : Below w.heap.size w w1) (S : Nat → Prop) : Fr S w w1 := ⟨h.os, h.tape, h.output, h.size, fun i hi _ => h.block i hi⟩
theorem Fr.below (h : Fr S w w1) (hs : ∀ i,S i → w.heap.size ≤ i) : Below w.heap.size w w1 := ⟨h.os,h.tape,h.output,h.size,fun i hi => h.block i hi (fun h2 => by have := hs i h2; omega)⟩
theorem Fr.then_below (h : Fr S w w1) (k : Below w1.heap.size w1 w2) : Fr S w w2 := h.trans (Fr.of_below k (fun _ => False)) (fun _ h => h.elim)
theorem Fr.alloc (h : Fr S w w1) (o : Obj) : Fr S w (w1.alloc o) := h.then_below (below_alloc (Below.refl _ _) o)
theorem Fr.drew (h : Fr S w w1) : Fr S w w1.drew := ⟨h.os, h.tape, h.output, h.size, h.block⟩
theorem Fr.drewN (h : Fr S w w1) (n : Nat) : Fr S w (w1.drewN n) := ⟨h.os, h.tape, h.output, h.size, h.block⟩
theorem Fr.setCell (h : Fr S w w1) {p : Addr} (hp : S p.block ∨ w.heap.size ≤ p.block) (u : Value) : Fr S w (w1.setCell p u) :=
  h.trans (S' := fun i => i = p.block) ⟨rfl,rfl,rfl,by simp [World.setCell],fun i _ hn => Below.heap_setCell w1 p u i hn⟩ (fun i hi => by rw [hi]; exact hp)
theorem Fr.setG {g : Nat} (h : Fr (fun k => k = g) w w1) (i : Nat) (u : Value) : Fr (fun k => k = g) w (w1.setCell ⟨g,i,none⟩ u) := h.setCell (p := ⟨g,i,none⟩) (.inl rfl) u
theorem Fr.grown (h : Fr S w w1) {row : Option Nat} (hg : w1.grownBy w2 row) (hr : ∀ k, row = some k → S k ∨ w.heap.size ≤ k) : Fr S w w2 :=
  h.trans (S' := fun i => row = some i) ⟨hg.os, hg.tape, hg.output, hg.size, fun i hi hn => hg.block i hi (fun e => hn e.symm)⟩ hr
theorem Fr.mono (h : Fr S w w1) (hs : ∀ i,S i → S' i) : Fr S' w w1 := ⟨h.os,h.tape,h.output,h.size,fun i hi hn => h.block i hi (fun h2 => hn (hs i h2))⟩
theorem Fr.cell (h : Fr S w w1) {b o : Nat} (hb : b < w.heap.size) (hn : ¬ S b) : w1.cell? ⟨b,o,none⟩ = w.cell? ⟨b,o,none⟩ := World.cell?_of_block (w := w) (h.block b hb hn)
theorem Fr.frozen (h : Fr S w w1) {b o : Nat} (hb : b < w.heap.size) (hn : ¬ S b) : w1.frozen? ⟨b,o,none⟩ = w.frozen? ⟨b,o,none⟩ := World.frozen?_of_block (w := w) (h.block b hb hn)
theorem Fr.cellA (h : Fr (fun _ => False) w w1) {a : Addr} {v : Value} (hc : w.cell? a = some v) : w1.cell? a = some v := (World.cell?_of_block (w := w) (h.block a.block (World.block_lt_of_cell? w a hc) (fun h => h))).trans hc
theorem Fr.blk (h : Fr S w w1) {g : Nat} {o : Obj} (hg : w.heap[g]? = some o) (hn : ¬ S g) : w1.heap[g]? = some o := (h.block g (blk_lt hg) hn).trans hg
end
/-- A slice value that reads as xs. -/
def Rd {α : Type} (d : Kd α) (w : World) (v : Value) (xs : List α) : Prop := ∃ A c, v = .slice A xs.length c ∧ xs.length ≤ c ∧ d.C w A xs.length xs
/-- The same, and what it leads to lies in blocks of ok. -/
def RdF {α : Type} (d : Kd α) (w : World) (ok : Nat → Prop) (v : Value) (xs : List α) : Prop := ∃ A c,v = .slice A xs.length c ∧ xs.length ≤ c ∧ Kd.F d w ok A xs.length xs
abbrev kb : Kd Int := Kd.int .u8
/-- Bytes. -/
def Byt (l : List Int) : Prop := ∀ x ∈ l, 0 ≤ x ∧ x ≤ 255
theorem Byt.at {l : List Int} (h : Byt l) (i : Nat) : 0 ≤ l.getD i 0 ∧ l.getD i 0 ≤ 255 := by
  rcases Nat.lt_or_ge i l.length with hi | hi
  · rw [List.getD_eq_getElem?_getD, List.getElem?_eq_getElem hi]; exact h _ (List.getElem_mem hi)
  · rw [List.getD_eq_getElem?_getD, List.getElem?_eq_none hi]; simp
section
variable {α : Type} {d : Kd α} {w w1 w2 : World} {ok ok' : Nat → Prop} {v : Value} {xs : List α}
theorem Rd.below (h : Rd d w v xs) (hb : Below w.heap.size w w1) : Rd d w1 v xs := by
  obtain ⟨A, c, e, hl, hC⟩ := h
  exact ⟨A, c, e, hl, Kd.C_below hC hb⟩
theorem RdF.now (h : RdF d w ok v xs) : Rd d w v xs := by
  obtain ⟨A, c, e, hl, hC⟩ := h
  exact ⟨A, c, e, hl, Kd.F_now hC⟩
theorem RdF.mono (h : RdF d w ok v xs) (hk : ∀ k, ok k → ok' k) : RdF d w ok' v xs := by
  obtain ⟨A, c, e, hl, hC⟩ := h
  exact ⟨A, c, e, hl, Kd.F_mono hC hk⟩
theorem RdF.step (h : RdF d w ok v xs) (hm : ∀ k, ok k → k < w.heap.size → w1.heap[k]? = w.heap[k]?) : RdF d w1 ok v xs := by
  obtain ⟨A, c, e, hl, hC⟩ := h
  exact ⟨A, c, e, hl, Kd.F_step hC hm⟩
theorem RdF.fr {S : Nat → Prop} (h : RdF d w ok v xs) (hf : Fr S w w1) (hn : ∀ k,ok k → k < w.heap.size → ¬ S k) : RdF d w1 ok v xs := h.step (fun k hk hlt => hf.block k hlt (hn k hk hlt))
theorem RdF.bound (h : RdF d w ok v xs) : RdF d w (fun k => ok k ∧ k < w.heap.size) v xs := by
  obtain ⟨A, c, e, hl, hC⟩ := h
  exact ⟨A, c, e, hl, Kd.F_bound hC⟩
theorem Rd.foot (hd : Kd.Heap d) (h : Rd d w v xs) : RdF d w (fun k => k < w.heap.size) v xs := by
  obtain ⟨A, c, e, hl, hC⟩ := h
  exact ⟨A, c, e, hl, Kd.C_F hd hC⟩
theorem Rd.max (h : Rd d w v xs) : xs.length ≤ 9223372036854775807 := by
  obtain ⟨A, c, e, hl, hC⟩ := h
  exact hC.2.1
theorem Rd.nil (d : Kd α) (w : World) : Rd d w (.slice none 0 0) [] := ⟨none, 0, rfl, Nat.le_refl _, Kd.C_nil d w⟩
theorem RdF.nil (d : Kd α) (w : World) (ok : Nat → Prop) : RdF d w ok (.slice none 0 0) [] := ⟨none, 0, rfl, Nat.le_refl _, Kd.F_nil d w ok⟩
end
theorem blk_new' {W : World} {o : Obj} {n : Nat} (h : n = W.heap.size) : (W.alloc o).heap[n]? = some o := by rw [h]; exact blk_new W o
/-! ### rows of bytes that are made -/
theorem own_rdF {w : World} {base : Nat} {e : TypeId} {k : IntKind} {v : Value} {xs : List Int} (h : w.ownsRow base e 1 v xs.length (nums k xs)) : RdF (Kd.int k) w (fun j => base ≤ j) v xs := by
  have h2 : (Kd.int k).R e w base (fun j => base ≤ j) v xs := Kd.R_of_own (enc := Value.int k) (h1 := fun _ => rfl) h (fun j hj => own_base h j hj)
  obtain ⟨A, c, rfl, hl, _⟩ := Kd.R_reads h2
  exact ⟨A, c, rfl, hl, Kd.R_F h2⟩
theorem own_lit' {w : World} {g n : Nat} {e : TypeId} {k : IntKind} {cs : Array Value} {xs : List Int} (base : Nat) (h : w.heap[g]? = some (.cells cs e (0,0))) (hc : cs.toList = nums k xs) (hb : base ≤ g) (hn : xs.length = n) (hm : n ≤ 9223372036854775807) :
    w.ownsRow base e 1 (.slice (some ⟨g, 0, none⟩) n n) xs.length (nums k xs) := by
  subst hn
  have hs : cs.size = xs.length := by have := congrArg List.length hc; simpa [nums] using this
  exact ⟨by simp [nums],.inr ⟨g,xs.length,cs,rfl,hb,h,Nat.le_refl _,by simpa [maxLen] using hm,by rw [hs,Nat.mul_one],by rw [hc]; exact List.take_of_length_le (by simp [nums])⟩⟩
section
variable {P : Program} {ops : Array Oper} {rest : List Oper} {o : Oper} {a : Act} {Q : Exit → Act → World → Prop} {K : Act → World → Prop}
/-- append(v, ys...) of bytes, v a row of the call's own: its run. -/
theorem run_appB {t e ty : TypeId} (ht : P.underlying t = some (.slice e)) (hinfo : (P.info? e).map (fun i => (i.zero,i.size,i.bytes)) = some (some (.int .u8 0),1,1)) {W : World} (base : Nat) (v vy : Value) (xs ys : List Int)
    (HO : W.ownsRow base e 1 v xs.length (nums .u8 xs)) (HR : Rd kb W vy ys) (hbase : base ≤ W.heap.size) (hl : xs.length + ys.length ≤ 140737488355328) :
    ∃ v1 w1,(Builtin.append_ #[t,t] ty #[v,vy]).run P W = .ok v1 w1 ∧ w1.ownsRow base e 1 v1 (xs ++ ys).length (nums .u8 (xs ++ ys)) ∧ W.grownBy w1 v.ownBlock := by
  obtain ⟨A, c, ev, hlc, hC⟩ := HR
  subst ev
  have HR := Kd.reads_of_C (d := (0 : Int)) hC
  obtain ⟨i0, hi, hzz⟩ := Option.map_eq_some_iff.1 hinfo
  simp only [Prod.mk.injEq] at hzz
  obtain ⟨hz0, hz1, hz2⟩ := hzz
  rcases A with _ | ad
  · have h0 : ys.length = 0 := by
      rcases Nat.eq_zero_or_pos ys.length with h0 | h0
      · exact h0
      · obtain ⟨ad, h, _⟩ := HR.2.2 h0
        cases h
    obtain rfl : ys = [] := List.eq_nil_of_length_eq_zero h0
    refine ⟨v, W, ?_, by simpa using HO, World.grownBy.refl W _⟩
    rcases HO.2 with ⟨rfl, hn⟩ | ⟨g, cap, cur, rfl, _, _, hnc, _⟩
    · simp [Builtin.append_, run_underlying ht, sizeOf, typeInfo, hi, Builtin.lenOf, Builtin.firstCells]
    · simp [Builtin.append_, run_underlying ht, sizeOf, typeInfo, hi, Builtin.lenOf, Builtin.firstCells, hnc, storeCells]
  · have hcells : ∀ j u, (nums .u8 ys)[j]? = some u → W.cell? (ad.add j) = some u := by
      intro j u hu
      have hj : j < ys.length := by
        rcases Nat.lt_or_ge j ys.length with h | h
        · exact h
        · simp [nums, List.getElem?_eq_none h] at hu
      obtain ⟨ad', h', hc⟩ := HR.2.2 (by omega)
      injection h' with h'
      subst h'
      have := hc j (by omega)
      simp [nums, List.getElem?_eq_getElem hj] at hu
      subst hu
      rw [this]
      simp [List.getD_eq_getElem?_getD, List.getElem?_eq_getElem hj]
    obtain ⟨v1,w1,hr,h2,h3,_,h5⟩ := run_append_own_at (P := P) W base t ty e i0 (.int .u8 0) 1 1 ht hi hz0 hz1 hz2 rfl (by omega) v xs.length (nums .u8 xs) HO ad ys.length c (nums .u8 ys) (by simp [nums]) hcells
      (by intro u hu; simp only [nums, List.mem_map] at hu; obtain ⟨q, _, rfl⟩ := hu; rfl) (by simp only [maxLen]; omega) (by omega) hbase
    exact ⟨v1, w1, hr, by simpa [nums] using h2, h3⟩
/-- .. behind 'at_builtin'. -/
theorem appB {t e : TypeId} (ht : P.underlying t = some (.slice e)) (hinfo : (P.info? e).map (fun i => (i.zero,i.size,i.bytes)) = some (some (.int .u8 0),1,1)) {W : World} (base : Nat) (hgd : o.guard = none) (s x : Operand)
    (ho : o.op = .call { callee := .builtin .append,args := #[s,x],argTypes := #[t,t] }) (v vy : Value) (xs ys : List Int) (hs : a.eval s = v) (hx : a.eval x = vy)
    (HO : W.ownsRow base e 1 v xs.length (nums .u8 xs)) (HR : Rd kb W vy ys) (hbase : base ≤ W.heap.size) (hl : xs.length + ys.length ≤ 140737488355328)
    (h : ∀ v1 w1,w1.ownsRow base e 1 v1 (xs ++ ys).length (nums .u8 (xs ++ ys)) → W.grownBy w1 v.ownBlock → (∀ k,v.ownBlock = some k → base ≤ k) → wpList P ops Q rest (a.put o.dst v1) w1) :
    wpList P ops Q (o :: rest) a W := by
  obtain ⟨v1, w1, hr, h1, h2⟩ := run_appB (ty := o.type) ht hinfo base v vy xs ys HO HR hbase hl
  refine wpList_plain hgd fun K hK => ?_
  unfold Oper.wp execOp
  simp only [ho, resolve, invoke, builtin, Sem.run_bind, Sem.run_pure, Result.andThen_ok, List.map_toArray, List.map_cons, List.map_nil, hs, hx, hr]
  exact hK _ _ (h v1 w1 h1 h2 (own_base HO))
/-- .. at a step of a region that draws its order. -/
theorem appB_step {t e : TypeId} (ht : P.underlying t = some (.slice e)) (hinfo : (P.info? e).map (fun i => (i.zero,i.size,i.bytes)) = some (some (.int .u8 0),1,1)) {W : World} {E : Prop} (base : Nat) (hgd : o.guard = none) (s x : Operand)
    (ho : o.op = .call { callee := .builtin .append,args := #[s,x],argTypes := #[t,t] }) (v vy : Value) (xs ys : List Int) (hs : a.eval s = v) (hx : a.eval x = vy)
    (HO : W.ownsRow base e 1 v xs.length (nums .u8 xs)) (HR : Rd kb W vy ys) (hbase : base ≤ W.heap.size) (hl : xs.length + ys.length ≤ 140737488355328)
    (h : ∀ v1 w1,w1.ownsRow base e 1 v1 (xs ++ ys).length (nums .u8 (xs ++ ys)) → W.grownBy w1 v.ownBlock → (∀ k,v.ownBlock = some k → base ≤ k) → K (a.put o.dst v1) w1) :
    if Region.wanted o (yielded ops a.tmps) = true then Oper.wp P o a W K Q else E := by
  obtain ⟨v1, w1, hr, h1, h2⟩ := run_appB (ty := o.type) ht hinfo base v vy xs ys HO HR hbase hl
  rw [if_pos (by simp [Region.wanted, hgd])]
  unfold Oper.wp execOp
  simp only [ho, resolve, invoke, builtin, Sem.run_bind, Sem.run_pure, Result.andThen_ok, List.map_toArray, List.map_cons, List.map_nil, hs, hx, hr]
  exact h v1 w1 h1 h2 (own_base HO)
end
end Go.Proofs.Ph
/- The kinds of this part's structs (by the kit's kinds.py). No condition. -/
namespace Go.Proofs.Ph
open Go Go.RowKit Go.Proofs.YthjnlggommennaaW.PrintWords
/-! #### struct type 47 -/
structure S47 where
  f0 : Int
  f1 : Bool
  f2 : (List Int)
def z47 : S47 := ⟨(0 : Int), false, ([] : List Int)⟩
def k47 : Kd S47 := Kd.iso (Kd.pair (Kd.int .i64) (Kd.pair Kd.bool (Kd.slice 5 (Kd.int .u8)))) (fun x : S47 => (x.f0, x.f1, x.f2))
theorem k47_open {w : World} {x : S47} {cs : List Value} (h : k47.K w x cs) : ∃ A2 c2,cs = [.int .i64 x.f0,.bool x.f1,.slice A2 x.f2.length c2] ∧ x.f2.length ≤ c2 ∧ (Kd.int .u8).C w A2 x.f2.length x.f2 := by
  obtain ⟨_, _, rfl, rfl, ⟨_, _, rfl, rfl, ⟨A2, c2, rfl, l2, g2⟩⟩⟩ := h
  exact ⟨A2, c2, rfl, l2, g2⟩
theorem k47_mk (w : World) (x : S47) {A2 : Option Addr} {c2 : Nat} (l2 : x.f2.length ≤ c2) (g2 : (Kd.int .u8).C w A2 x.f2.length x.f2) : k47.K w x [.int .i64 x.f0,.bool x.f1,.slice A2 x.f2.length c2] := ⟨[.int .i64 x.f0],[.bool x.f1,.slice A2 x.f2.length c2],rfl,rfl,⟨[.bool x.f1],[.slice A2 x.f2.length c2],rfl,rfl,⟨A2,c2,rfl,l2,g2⟩⟩⟩
theorem k47_mkM (w : World) (base : Nat) (ok : Nat → Prop) (x : S47) {v2 : Value} (g2 : (Kd.int .u8).R 5 w base ok v2 x.f2) : k47.M w base ok x [.int .i64 x.f0,.bool x.f1,v2] := ⟨[.int .i64 x.f0],[.bool x.f1,v2],rfl,rfl,⟨[.bool x.f1],[v2],rfl,rfl,⟨v2,rfl,g2⟩⟩⟩
theorem k47_mkF (W : World) (ok : Nat → Prop) (x : S47) {A2 : Option Addr} {c2 : Nat} (l2 : x.f2.length ≤ c2) (g2 : Kd.F (Kd.int .u8) W ok A2 x.f2.length x.f2) : Kd.FK k47 W ok x [.int .i64 x.f0,.bool x.f1,.slice A2 x.f2.length c2] := fun W2 hW => k47_mk W2 x l2 (g2 W2 hW)
def rd_T47 (xs : List S47) (i : Int) : S47 := xs.getD i.toNat z47
theorem at_T47 {w : World} {A : Option Addr} {n : Nat} {xs : List S47} (h : Kd.C k47 w A n xs) (i : Int) (h0 : 0 ≤ i) (h1 : i < n) : ∃ ad A2 c2,A = some ad ∧ w.cell? (ad.add (i.toNat * 3)) = some (.int .i64 (rd_T47 xs i).f0) ∧ w.cell? ⟨(ad.add (i.toNat * 3)).block,(ad.add (i.toNat * 3)).off + 1,none⟩ = some (.bool (rd_T47 xs i).f1) ∧ w.cell? ⟨(ad.add (i.toNat * 3)).block,(ad.add (i.toNat * 3)).off + 2,none⟩ = some (.slice A2 (rd_T47 xs i).f2.length c2) ∧ (rd_T47 xs i).f2.length ≤ c2 ∧ (Kd.int .u8).C w A2 (rd_T47 xs i).f2.length (rd_T47 xs i).f2 := by
  obtain ⟨ad, c, e, _, hK, hc0⟩ := Kd.C_get h z47 i h0 h1
  have hc : ∀ j u, c[j]? = some u → w.cell? (ad.add (i.toNat * 3 + j)) = some u := hc0
  obtain ⟨A2, c2, rfl, l2, g2⟩ := k47_open hK
  exact ⟨ad,A2,c2,e,hc 0 _ rfl,by rw [← add_field _ _ 1 (by omega)]; exact hc 1 _ rfl,by rw [← add_field _ _ 2 (by omega)]; exact hc 2 _ rfl,l2,g2⟩
/-! #### struct type 161 -/
structure S161 where
  f0 : Int
  f1 : Int
  f2 : Int
  f3 : Int
def z161 : S161 := ⟨(0 : Int), (0 : Int), (0 : Int), (0 : Int)⟩
def k161 : Kd S161 := Kd.iso (Kd.pair (Kd.int .i64) (Kd.pair (Kd.int .i64) (Kd.pair (Kd.int .i64) (Kd.int .i64)))) (fun x : S161 => (x.f0,x.f1,x.f2,x.f3))
theorem k161_open {w : World} {x : S161} {cs : List Value} (h : k161.K w x cs) : cs = [.int .i64 x.f0,.int .i64 x.f1,.int .i64 x.f2,.int .i64 x.f3] := by
  obtain ⟨_, _, rfl, rfl, ⟨_, _, rfl, rfl, ⟨_, _, rfl, rfl, rfl⟩⟩⟩ := h
  exact rfl
theorem k161_openM {w : World} {base : Nat} {ok : Nat → Prop} {x : S161} {cs : List Value} (h : k161.M w base ok x cs) : cs = [.int .i64 x.f0,.int .i64 x.f1,.int .i64 x.f2,.int .i64 x.f3] := by
  obtain ⟨_, _, rfl, rfl, ⟨_, _, rfl, rfl, ⟨_, _, rfl, rfl, rfl⟩⟩⟩ := h
  exact rfl
theorem k161_mkM (w : World) (base : Nat) (ok : Nat → Prop) (x : S161)  : k161.M w base ok x [.int .i64 x.f0,.int .i64 x.f1,.int .i64 x.f2,.int .i64 x.f3] := ⟨[.int .i64 x.f0],[.int .i64 x.f1,.int .i64 x.f2,.int .i64 x.f3],rfl,rfl,⟨[.int .i64 x.f1],[.int .i64 x.f2,.int .i64 x.f3],rfl,rfl,⟨[.int .i64 x.f2],[.int .i64 x.f3],rfl,rfl,rfl⟩⟩⟩
def rd_T161 (xs : List S161) (i : Int) : S161 := xs.getD i.toNat z161
theorem at_T161 {w : World} {A : Option Addr} {n : Nat} {xs : List S161} (h : Kd.C k161 w A n xs) (i : Int) (h0 : 0 ≤ i) (h1 : i < n) : ∃ ad ,A = some ad ∧ w.cell? (ad.add (i.toNat * 4)) = some (.int .i64 (rd_T161 xs i).f0) ∧ w.cell? ⟨(ad.add (i.toNat * 4)).block,(ad.add (i.toNat * 4)).off + 1,none⟩ = some (.int .i64 (rd_T161 xs i).f1) ∧ w.cell? ⟨(ad.add (i.toNat * 4)).block,(ad.add (i.toNat * 4)).off + 2,none⟩ = some (.int .i64 (rd_T161 xs i).f2) ∧ w.cell? ⟨(ad.add (i.toNat * 4)).block,(ad.add (i.toNat * 4)).off + 3,none⟩ = some (.int .i64 (rd_T161 xs i).f3) := by
  obtain ⟨ad, c, e, _, hK, hc0⟩ := Kd.C_get h z161 i h0 h1
  have hc : ∀ j u, c[j]? = some u → w.cell? (ad.add (i.toNat * 4 + j)) = some u := hc0
  obtain rfl := k161_open hK
  exact ⟨ad,e,hc 0 _ rfl,by rw [← add_field _ _ 1 (by omega)]; exact hc 1 _ rfl,by rw [← add_field _ _ 2 (by omega)]; exact hc 2 _ rfl,by rw [← add_field _ _ 3 (by omega)]; exact hc 3 _ rfl⟩
/-! #### struct type 25 -/
structure S25 where
  f0 : Int
  f1 : Bool
  f2 : Int
  f3 : Int
  f4 : Int
  f5 : Int
  f6 : Int
  f7 : (List S47)
  f8 : (List S161)
def k25 : Kd S25 := Kd.iso (Kd.pair (Kd.int .i64) (Kd.pair Kd.bool (Kd.pair (Kd.int .i64) (Kd.pair (Kd.int .i64) (Kd.pair (Kd.int .i64) (Kd.pair (Kd.int .i64) (Kd.pair (Kd.int .i64) (Kd.pair (Kd.slice 47 k47) (Kd.slice 161 k161))))))))) (fun x : S25 => (x.f0,x.f1,x.f2,x.f3,x.f4,x.f5,x.f6,x.f7,x.f8))
/-! #### struct type 38 -/
structure S38 where
  f0 : Int
  f1 : (List Int)
  f2 : Bool
end Go.Proofs.Ph
/- diag: a number's four bytes, refusals, keys. No condition. -/
namespace Go.Proofs.Ph
open Go Go.RowKit Go.Proofs.YthjnlggommennaaW.PrintWords
theorem i5 : (Try.prog.info? 5).map (fun i => (i.zero, i.size, i.bytes)) = some (some (.int .u8 0), 1, 1) := by kernel_rfl
/-- What a call that makes bytes leaves. -/
def RetB (w : World) (l : List Int) (e : Ending) (w' : World) : Prop := ∃ v,e = .returned v ∧ RdF kb w' (fun k => w.heap.size ≤ k) v l ∧ Fr (fun _ => False) w w'
def four (n : Int) : List Int := [n / 16777216 % 256, n / 65536 % 256, n / 256 % 256, n % 256]
theorem four_calls (n : Int) (w : World) : Calls Try.prog 172 #[.int .i64 n] w (RetB w (four n)) := by
  go_enter Try.func172, Try.ntmps172
  go_wp2
  go_ret
  refine ⟨_, rfl, own_rdF (own_lit' w.heap.size (blk_new w _) (by simp [nums, four]) (Nat.le_refl _) rfl (by omega)), (Fr.refl _ w).alloc _⟩
theorem deny_calls (s y : Int) (w : World) : Calls Try.prog 31 #[.int .i64 s, .int .i64 y] w (RetB w [127, s % 256, y % 256]) := by
  go_enter Try.func31, Try.ntmps31
  go_wp2
  go_ret
  refine ⟨_, rfl, own_rdF (own_lit' w.heap.size (blk_new w _) (by simp [nums]) (Nat.le_refl _) rfl (by omega)), (Fr.refl _ w).alloc _⟩
def xor32 (a b : Int) : Int := bits BinOp.xor IntKind.u32 a b
def keyStep (sec x : Int) : Int := xor32 ((x * 2654435761 + sec) % 4294967296) ((x * 2654435761 + sec) % 4294967296 / 32768)
def key (seed sec : Int) : Int := keyStep sec (keyStep sec (keyStep sec (xor32 (seed % 4294967296) (sec % 4294967296))))
theorem xor32_range (a b : Int) : 0 ≤ xor32 a b ∧ xor32 a b ≤ 4294967295 := by
  unfold xor32 bits
  rw [IntKind.wrap_u32]
  omega
theorem key_range (n m : Int) : 0 ≤ key n m ∧ key n m ≤ 4294967295 := xor32_range _ _
theorem wrap64_small {n : Int} (h : 0 ≤ n ∧ n ≤ 4294967295) : wrap64 n = n := by unfold wrap64; omega
theorem key_calls (n m : Int) (w : World) : Calls Try.prog 29 #[.int .i64 n,.int .i64 m] w fun e w' => e = .returned (.int .i64 (key n m)) ∧ w = w' := by
  go_enter Try.func29, Try.ntmps29
  go_wp2
  refine wp_loop_rounds 4 ?_
  rw [rounds_succ]
  go_wp2
  rw [rounds_succ]
  go_wp2
  rw [rounds_succ]
  go_wp2
  rw [rounds_succ]
  go_wp2
  go_ret
  refine ⟨?_, rfl⟩
  show Ending.returned (.int .i64 (wrap64 (key n m))) = _
  rw [wrap64_small (key_range n m)]
end Go.Proofs.Ph
/- diag: the methods of a question that is asked. No condition. -/
namespace Go.Proofs.Ph
open Go Go.RowKit Go.Proofs.YthjnlggommennaaW.PrintWords
/-- The cells of an 'asked' at block g. -/
def XB (w : World) (g : Nat) (s : S25) (vi vd vq : Value) : Prop :=
  w.heap[g]? = some (.cells #[.int .i64 s.f0,.bool s.f1,.int .i64 s.f2,.int .i64 s.f3,.int .i64 s.f4,.int .i64 s.f5,.int .i64 s.f6,vi,vd,vq] 121 (0,0))
def Now (w : World) (P : Nat → Prop) : Nat → Prop := fun k => P k ∨ w.heap.size ≤ k
abbrev Res := S25 × (Int ⊕ List Int)
/-- What a method ends with: a refusal (a panic), or bytes. -/
def Ends (P : Nat → Prop) (r : Int ⊕ List Int) (e : Ending) (w w' : World) : Prop := match r with
  | .inl why => e = .panicked [{ v := .iface 171 (.int .i64 why), recovered := false }]
  | .inr l => ∃ v, e = .returned v ∧ RdF kb w' (Now w P) v l
/-- What a method leaves. -/
def MPost (w : World) (g : Nat) (P : Nat → Prop) (vq : Value) (r : Res) (e : Ending) (w' : World) : Prop :=
  Ends P r.2 e w w' ∧ Fr (· = g) w w' ∧ ∃ vi vd, XB w' g r.1 vi vd vq ∧ RdF k47 w' (Now w P) vi r.1.f7 ∧ RdF k161 w' (Now w P) vd r.1.f8
/-- What it asks. -/
structure MPre (w : World) (g : Nat) (P : Nat → Prop) (s : S25) (vi vd vq : Value) (q : List Int) : Prop where
  x : XB w g s vi vd vq
  i : RdF k47 w P vi s.f7
  d : RdF k161 w P vd s.f8
  q : RdF kb w P vq q
  g : ¬ P g
theorem unless_yes (r : Int) (w : World) : Calls Try.prog 123 #[.bool true, .int .i64 r] w fun e w' => e = .returned (.tuple #[]) ∧ w = w' := by
  go_enter Try.func123, Try.ntmps123
  go_wp2
  go_end0
  exact ⟨rfl, rfl⟩
theorem unless_no (r : Int) (w : World) : Calls Try.prog 123 #[.bool false,.int .i64 r] w fun e w' => e = .panicked [{ v := .iface 171 (.int .i64 r),recovered := false }] ∧ w = w' := by
  go_enter Try.func123, Try.ntmps123
  go_wp2
  exact ⟨rfl, rfl, rfl⟩
section
variable {w w' : World} {g : Nat} {P : Nat → Prop} {s s' : S25} {vi vd vq v : Value} {q l : List Int} {why : Int}
theorem MPre.rows (h : MPre w g P s vi vd vq q) (hf : Fr (· = g) w w') : RdF k47 w' (Now w P) vi s.f7 ∧ RdF k161 w' (Now w P) vd s.f8 :=
  ⟨(h.i.fr hf (fun k hk _ e => h.g (e ▸ hk))).mono (fun k hk => .inl hk), (h.d.fr hf (fun k hk _ e => h.g (e ▸ hk))).mono (fun k hk => .inl hk)⟩
theorem MPre.refuse (h : MPre w g P s vi vd vq q) : MPost w g P vq (s,.inl why) (.panicked [{ v := .iface 171 (.int .i64 why),recovered := false }]) w :=
  ⟨rfl, Fr.refl _ _, vi, vd, h.x, h.rows (Fr.refl _ _)⟩
theorem MPre.refuse' (h : MPre w g P s vi vd vq q) (e7 : s'.f7 = s.f7) (e8 : s'.f8 = s.f8) (hx : XB w' g s' vi vd vq) (hf : Fr (· = g) w w') : MPost w g P vq (s',.inl why) (.panicked [{ v := .iface 171 (.int .i64 why),recovered := false }]) w' :=
  ⟨rfl, hf, vi, vd, hx, by rw [e7]; exact (h.rows hf).1, by rw [e8]; exact (h.rows hf).2⟩
theorem MPre.answer (h : MPre w g P s vi vd vq q) (e7 : s'.f7 = s.f7) (e8 : s'.f8 = s.f8) (hx : XB w' g s' vi vd vq) (hf : Fr (· = g) w w') (hv : RdF kb w' (Now w P) v l) : MPost w g P vq (s',.inr l) (.returned v) w' :=
  ⟨⟨v, rfl, hv⟩, hf, vi, vd, hx, by rw [e7]; exact (h.rows hf).1, by rw [e8]; exact (h.rows hf).2⟩
end
def mSeed (s : S25) : Res :=
  if s.f3 ≤ 2 then if (s.f0 != 1) = true then if s.f1 = true then (s, .inr (1 :: four 0))
    else ({ s with f2 := s.f5, f5 := bits .and .i64 (wrap64 (wrap64 (s.f5 * 1664525) + 1013904223)) 4294967295 }, .inr (1 :: four s.f5))
  else (s, .inl 34) else (s, .inl 54)
set_option maxHeartbeats 2000000 in
theorem seed_calls {w : World} {g : Nat} {P : Nat → Prop} {s : S25} {vi vd vq : Value} {q : List Int} (h : MPre w g P s vi vd vq q) :
    Calls Try.prog 147 #[.pointer (some ⟨g, 0, none⟩)] w (MPost w g P vq (mSeed s)) := by
  have hg := blk_lt h.x
  have c0 : w.cell? ⟨g, 0, none⟩ = some (.int .i64 s.f0) := (blk_cell h.x 0).trans rfl
  have c1 : w.cell? ⟨g, 1, none⟩ = some (.bool s.f1) := (blk_cell h.x 1).trans rfl
  have c2 : w.cell? ⟨g, 2, none⟩ = some (.int .i64 s.f2) := (blk_cell h.x 2).trans rfl
  have c3 : w.cell? ⟨g, 3, none⟩ = some (.int .i64 s.f3) := (blk_cell h.x 3).trans rfl
  have c5 : w.cell? ⟨g, 5, none⟩ = some (.int .i64 s.f5) := (blk_cell h.x 5).trans rfl
  have z2 := blk_frozen h.x 2
  have z5 := blk_frozen h.x 5
  have H := Aside0.mk h
  clear h
  unfold mSeed
  by_cases h1 : s.f3 ≤ 2
  · rw [if_pos h1]
    by_cases h2 : (s.f0 != 1) = true
    · rw [if_pos h2]
      by_cases h3 : s.f1 = true
      · rw [if_pos h3]
        go_enter Try.func147, Try.ntmps147
        go_wp2_with (first | (go_at_call 123; (with_reducible refine (unless_yes _ _).mono ?_); rintro e w' ⟨rfl,rfl⟩) | (go_at_call 172; refine (four_calls _ _).mono ?_; rintro e w1 ⟨v1,rfl,hv1,hf1⟩) | (at_builtin; refine appB Try.underlying31 i5 (W := w1) w.heap.size rfl _ _ rfl _ _ [1] (four 0) rfl rfl (own_lit' w.heap.size (hf1.blk (blk_new w _) (fun h => h)) rfl (Nat.le_refl _) rfl (by omega)) hv1.now (Nat.le_trans (by simp) hf1.size) (by simp [four]) ?_; intro v2 w2 ho2 hg2 hb2))
        go_ret
        have hf2 := (((Fr.refl (fun _ => False) w).alloc _).trans hf1 (fun _ h => .inl h)).grown hg2 (fun k hk => .inr (hb2 k hk))
        exact H.out.answer rfl rfl (hf2.blk H.out.x (fun h => h)) (hf2.mono (fun _ h => h.elim)) ((own_rdF ho2).mono (fun k hk => .inr hk))
      · rw [if_neg h3]
        have h3' : s.f1 = false := by simpa using h3
        clear h3
        go_enter Try.func147, Try.ntmps147
        go_wp2_with (go_at_call 123; (with_reducible refine (unless_yes _ _).mono ?_); rintro e w' ⟨rfl, rfl⟩)
        go_region
        generalize hw1 : World.drew _ = w1
        have hx1 : XB w1 g { s with f2 := s.f5, f5 := bits .and .i64 (wrap64 (wrap64 (s.f5 * 1664525) + 1013904223)) 4294967295 } vi vd vq := by
          subst hw1
          exact blk_put (blk_put H.out.x 2 _ rfl) 5 _ rfl
        have hf1 : Fr (· = g) w w1 := by
          subst hw1
          exact (((Fr.refl (fun k => k = g) w).setCell (.inl rfl) _).setCell (.inl rfl) _).drew
        clear hw1 c0 c1 c2 c3 c5 z2 z5
        have c2 : w1.cell? ⟨g, 2, none⟩ = some (.int .i64 s.f5) := (blk_cell hx1 2).trans rfl
        have hg1 := blk_lt hx1
        go_wp2_with (first | (go_at_call 172; refine (four_calls _ _).mono ?_; rintro e w2 ⟨v2,rfl,hv2,hf2⟩) | (at_builtin; refine appB Try.underlying31 i5 (W := w2) w1.heap.size rfl _ _ rfl _ _ [1] (four s.f5) rfl rfl (own_lit' w1.heap.size (hf2.blk (blk_new w1 _) (fun h => h)) rfl (Nat.le_refl _) rfl (by omega)) hv2.now (Nat.le_trans (by simp) hf2.size) (by simp [four]) ?_; intro v3 w3 ho3 hg3 hb3))
        go_ret
        have hf3 := (((Fr.refl (fun _ => False) w1).alloc _).trans hf2 (fun _ h => .inl h)).grown hg3 (fun k hk => .inr (hb3 k hk))
        exact H.out.answer rfl rfl (hf3.blk hx1 (fun h => h)) (hf1.trans hf3 (fun _ h => h.elim)) ((own_rdF ho3).mono (fun k hk => .inr (Nat.le_trans hf1.size hk)))
    · rw [if_neg h2]
      have h2' : (s.f0 != 1) = false := by simpa using h2
      clear h2
      go_enter Try.func147, Try.ntmps147
      go_wp2_with (go_at_call 123; first | ((with_reducible refine (unless_yes _ _).mono ?_); rintro e w' ⟨rfl,rfl⟩) | ((with_reducible refine (unless_no _ _).mono ?_); rintro e w' ⟨rfl,rfl⟩))
      exact ⟨rfl, H.out.refuse⟩
  · rw [if_neg h1]
    go_enter Try.func147, Try.ntmps147
    go_wp2_with (go_at_call 123; (with_reducible refine (unless_no _ _).mono ?_); rintro e w' ⟨rfl, rfl⟩)
    exact ⟨rfl, H.out.refuse⟩
end Go.Proofs.Ph
/- The library's functions on bytes that the program calls: Equal, Clone. No condition. -/
namespace Go.Proofs.Ph
open Go Go.RowKit Go.Proofs.YthjnlggommennaaW.PrintWords
/-- A byte that is read. -/
theorem rd_at {w : World} {A : Option Addr} {n c : Nat} {xs : List Int} (h : Rd kb w (.slice A n c) xs) (k : Nat) (hk : k < n) : ∃ ad,A = some ad ∧ w.cell? (ad.add k) = some (.int .u8 (xs.getD k 0)) := by
  obtain ⟨A', c', e, hl, hC⟩ := h
  injection e with e1 e2 e3
  subst e1 e2
  obtain ⟨ad, e, hc⟩ := (Kd.reads_of_C (d := (0 : Int)) hC).2.2 (by omega)
  exact ⟨ad, e, hc k hk⟩
theorem take_step {k : Nat} {xs ys : List Int} (h : xs.take k = ys.take k) (hq : xs.getD k 0 = ys.getD k 0) (h1 : k < xs.length) (h2 : k < ys.length) : xs.take (k + 1) = ys.take (k + 1) := by
  rw [List.take_succ_eq_append_getElem h1, List.take_succ_eq_append_getElem h2, h]
  simp [List.getD_eq_getElem?_getD, List.getElem?_eq_getElem h1, List.getElem?_eq_getElem h2] at hq
  rw [hq]
theorem i5s : ∃ i, Try.prog.info? 5 = some i ∧ i.size = 1 := by
  obtain ⟨i, h, e⟩ := Option.map_eq_some_iff.1 i5
  exact ⟨i, h, (Prod.ext_iff.1 (Prod.ext_iff.1 e).2).1⟩
/-- 'xs[m:]' of bytes, m within the length. -/
theorem cut_from {w : World} {ok : Nat → Prop} {A : Option Addr} {c : Nat} {xs : List Int} (h : RdF kb w ok (.slice A xs.length c) xs) (k : Int) (m : Nat) (hk : k = m) (hm : m ≤ xs.length) :
    ∃ A',(∀ W : World,(Instr.slice 31 (.slice A xs.length c) (some (.int .i64 k)) none none).run Try.prog W = .ok (.slice A' (xs.length - m) (c - m)) W) ∧ RdF kb w ok (.slice A' (xs.length - m) (c - m)) (xs.drop m) := by
  obtain ⟨A0, c0, e, hl, hF⟩ := h
  injection e with e1 e2 e3
  subst e1 e3 hk
  obtain ⟨i, hi, hsz⟩ := i5s
  obtain ⟨A', hcut, hA'⟩ := print_cut (P := Try.prog) 31 5 .i64 Try.underlying31 hi hsz A xs.length c m hm
  refine ⟨A', hcut, A', c - m, by rw [List.length_drop], by rw [List.length_drop]; omega, Kd.F_imp hF (fun W' hC => ?_)⟩
  have := hA' W' .u8 xs hl (Kd.reads_of_C (d := (0 : Int)) hC)
  rw [List.length_drop]
  exact Kd.C_of_reads this
set_option maxHeartbeats 1000000 in
theorem equal_calls {w : World} {v1 v2 : Value} {xs ys : List Int} (hx : Rd kb w v1 xs) (hy : Rd kb w v2 ys) :
    Calls Try.prog 173 #[v1, v2] w fun e w' => e = .returned (.bool (decide (xs = ys))) ∧ Fr (fun _ => False) w w' := by
  have hx' := hx
  have hy' := hy
  obtain ⟨A1, c1, rfl, -, -⟩ := hx'
  obtain ⟨A2, c2, rfl, -, -⟩ := hy'
  have hm1 := hx.max
  have HX := Aside0.mk hx
  have HY := Aside0.mk hy
  clear hx hy
  by_cases hl : xs.length = ys.length
  · have hne : ((xs.length : Int) != (ys.length : Int)) = false := by simp [hl]
    have HL := Aside0.mk hl
    clear hl
    go_enter Try.func173, Try.ntmps173
    go_wp2
    go_loopw [13] (fun t wr => ∃ k : Nat,k ≤ xs.length ∧ t = .int .i64 k ∧ Aside0 (xs.take k = ys.take k) ∧ Aside0 (Drawn0 w wr)) (fun t _ => xs.length - (intOf t).toNat)
    case atStart => exact ⟨0, Nat.zero_le _, rfl, ⟨by simp⟩, ⟨Drawn0.refl _⟩⟩
    case round =>
      obtain ⟨k, hk, rfl, hT, hD⟩ := hrel
      by_cases hlt : k < xs.length
      · obtain ⟨ad1, e1, hc1⟩ := rd_at HX.out k hlt
        obtain ⟨ad2, e2, hc2⟩ := rd_at HY.out k (by have := HL.out; omega)
        subst e1 e2
        have hc1' : wr.cell? (ad1.add k) = some (.int .u8 (xs.getD k 0)) := pw_cell_below hD.out.below hc1
        have hc2' : wr.cell? (ad2.add k) = some (.int .u8 (ys.getD k 0)) := pw_cell_below hD.out.below hc2
        clear hc1 hc2
        have hb1 : (0 : Int) ≤ (k : Int) := by omega
        have hb2 : (k : Int) < (xs.length : Int) := by omega
        have hb3 : (k : Int) < (ys.length : Int) := by have := HL.out; omega
        obtain ⟨x, ex⟩ : ∃ x, x = xs.getD k 0 := ⟨_, rfl⟩
        obtain ⟨y, ey⟩ : ∃ y, y = ys.getD k 0 := ⟨_, rfl⟩
        rw [← ex] at hc1'
        rw [← ey] at hc2'
        have EX := Aside0.mk ex
        have EY := Aside0.mk ey
        clear ex ey
        by_cases hq : x = y
        · have hq1 : (x != y) = false := bne_eq_false_iff_eq.mpr hq
          have HQ := Aside0.mk hq
          clear hq
          go_wp2
          go_quiet (fail)
          go_wp2
          go_roundw
          case rel => exact ⟨k + 1,by omega,by go_num,⟨take_step hT.out (by rw [← EX.out, ← EY.out,HQ.out]) hlt (by have := HL.out; omega)⟩,⟨hD.out.step _⟩⟩
          case measure => simp [intOf]; omega
        · have hq1 : (x != y) = true := bne_iff_ne.mpr hq
          have hd : decide (xs = ys) = false := decide_eq_false (fun e => hq (by rw [EX.out, EY.out, e]))
          have HD := Aside0.mk hd
          clear hq hd
          go_wp2
          go_quiet (fail)
          go_wp2
          go_ret
          exact ⟨by rw [HD.out]; rfl, Fr.of_below (hD.out.step _).below _⟩
      · have hd : decide (xs = ys) = true := decide_eq_true (by
          have h1 := hT.out
          rwa [List.take_of_length_le (by omega), List.take_of_length_le (by have := HL.out; omega)] at h1)
        have HD := Aside0.mk hd
        clear hd
        have hn : ¬ ((k : Int) < (xs.length : Int)) := by omega
        go_wp2
        go_ret
        exact ⟨by rw [HD.out]; rfl, Fr.of_below hD.out.below _⟩
  · have hne : ((xs.length : Int) != (ys.length : Int)) = true := by simp; omega
    have hd : decide (xs = ys) = false := decide_eq_false (fun e => hl (by rw [e]))
    have HL := Aside0.mk hl
    clear hl
    rw [hd]
    go_enter Try.func173, Try.ntmps173
    go_wp2
    go_ret
    exact ⟨rfl, Fr.refl _ _⟩
theorem rd_none {α : Type} {d : Kd α} {w : World} {n c : Nat} {xs : List α} (h : Rd d w (.slice none n c) xs) : xs = [] := by
  obtain ⟨A', c', e, hl, hC⟩ := h
  injection e with e1 e2 e3
  subst e1
  rcases Nat.eq_zero_or_pos xs.length with h0 | h0
  · exact List.eq_nil_of_length_eq_zero h0
  · obtain ⟨ad, h1, _⟩ := hC.2.2 h0
    cases h1
set_option maxHeartbeats 1000000 in
theorem clone_calls {w : World} {v : Value} {xs : List Int} (hx : Rd kb w v xs) (hl : xs.length ≤ 140737488355328) : Calls Try.prog 174 #[v] w (RetB w xs) := by
  have hx' := hx
  obtain ⟨A1, c1, rfl, -, -⟩ := hx'
  have HX := Aside0.mk hx
  clear hx
  cases A1 with
  | none =>
    have he := Aside0.mk (rd_none HX.out)
    have kn := fun W => Lib.run_eql_slice_nil (P := Try.prog) W 31 5 none xs.length c1 0 0 Try.underlying31
    go_enter Try.func174, Try.ntmps174
    go_wp2
    go_ret
    exact ⟨_, rfl, by rw [he.out]; exact RdF.nil _ _ _, Fr.refl _ _⟩
  | some ad =>
    have kn := fun W => Lib.run_eql_slice_nil (P := Try.prog) W 31 5 (some ad) xs.length c1 0 0 Try.underlying31
    go_enter Try.func174, Try.ntmps174
    go_wp2_with (at_builtin; refine appB Try.underlying31 i5 (W := w.alloc (.cells #[] 5)) w.heap.size rfl _ _ rfl _ _ [] xs rfl rfl (own_lit' w.heap.size (blk_new w _) rfl (Nat.le_refl _) rfl (by omega)) (HX.out.below (below_alloc (Below.refl _ _) _)) (by simp) (by simpa using hl) ?_; intro v2 w2 ho2 hg2 hb2)
    go_ret
    exact ⟨_, rfl, own_rdF ho2, (((Fr.refl (fun _ => False) w).alloc _)).grown hg2 (fun k hk => .inr (hb2 k hk))⟩
end Go.Proofs.Ph
/- diag: sessions, handing on, forgetting, being here. No condition. -/
namespace Go.Proofs.Ph
open Go Go.RowKit Go.Proofs.YthjnlggommennaaW.PrintWords
def mHand (s : S25) : Res := if (s.f0 == 3) = true then if s.f1 = true then (s, .inr []) else (s, .inl 51) else (s, .inl 34)
set_option maxHeartbeats 1000000 in
theorem hand_calls {w : World} {g : Nat} {P : Nat → Prop} {s : S25} {vi vd vq : Value} {q : List Int} (h : MPre w g P s vi vd vq q) :
    Calls Try.prog 164 #[.pointer (some ⟨g, 0, none⟩)] w (MPost w g P vq (mHand s)) := by
  have c0 : w.cell? ⟨g, 0, none⟩ = some (.int .i64 s.f0) := (blk_cell h.x 0).trans rfl
  have c1 : w.cell? ⟨g, 1, none⟩ = some (.bool s.f1) := (blk_cell h.x 1).trans rfl
  have H := Aside0.mk h
  clear h
  unfold mHand
  by_cases h1 : (s.f0 == 3) = true
  · rw [if_pos h1]
    by_cases h2 : s.f1 = true
    · rw [if_pos h2]
      go_enter Try.func164, Try.ntmps164
      go_wp2_with (go_at_call 123; (with_reducible refine (unless_yes _ _).mono ?_); rintro e w' ⟨rfl, rfl⟩)
      go_ret
      exact H.out.answer rfl rfl H.out.x (Fr.refl _ _) (RdF.nil _ _ _)
    · rw [if_neg h2]
      have h2' : s.f1 = false := by simpa using h2
      clear h2
      go_enter Try.func164, Try.ntmps164
      go_wp2_with (go_at_call 123; first | ((with_reducible refine (unless_yes _ _).mono ?_); rintro e w' ⟨rfl,rfl⟩) | ((with_reducible refine (unless_no _ _).mono ?_); rintro e w' ⟨rfl,rfl⟩))
      exact ⟨rfl, H.out.refuse⟩
  · rw [if_neg h1]
    have h1' : (s.f0 == 3) = false := by simpa using h1
    clear h1
    go_enter Try.func164, Try.ntmps164
    go_wp2_with (go_at_call 123; (with_reducible refine (unless_no _ _).mono ?_); rintro e w' ⟨rfl, rfl⟩)
    exact ⟨rfl, H.out.refuse⟩
theorem here_calls {w : World} {g : Nat} {P : Nat → Prop} {s : S25} {vi vd vq : Value} {q : List Int} (h : MPre w g P s vi vd vq q) :
    Calls Try.prog 171 #[.pointer (some ⟨g, 0, none⟩)] w (MPost w g P vq (s, .inr [])) := by
  have H := Aside0.mk h
  clear h
  go_enter Try.func171, Try.ntmps171
  go_wp2
  go_ret
  exact H.out.answer rfl rfl H.out.x (Fr.refl _ _) (RdF.nil _ _ _)
def mForget (s : S25) : Res := if (s.f0 == 2) = true then ({ s with f8 := [] }, .inr []) else (s, .inl 34)
theorem clear_calls (v : Value) (w : World) : Calls Try.prog 169 #[v] w fun e w' => e = .returned (.slice none 0 0) ∧ w = w' := by
  go_enter Try.func169, Try.ntmps169
  go_wp2
  go_ret
  exact ⟨rfl, rfl⟩
set_option maxHeartbeats 1000000 in
theorem forget_calls {w : World} {g : Nat} {P : Nat → Prop} {s : S25} {vi vd vq : Value} {q : List Int} (h : MPre w g P s vi vd vq q) :
    Calls Try.prog 168 #[.pointer (some ⟨g, 0, none⟩)] w (MPost w g P vq (mForget s)) := by
  obtain ⟨Ad, cd, ed, -, -⟩ := h.d
  subst ed
  have c0 : w.cell? ⟨g, 0, none⟩ = some (.int .i64 s.f0) := (blk_cell h.x 0).trans rfl
  have c8 : w.cell? ⟨g, 8, none⟩ = some (.slice Ad s.f8.length cd) := (blk_cell h.x 8).trans rfl
  have z8 := blk_frozen h.x 8
  have H := Aside0.mk h
  clear h
  unfold mForget
  by_cases h1 : (s.f0 == 2) = true
  · rw [if_pos h1]
    go_enter Try.func168, Try.ntmps168
    go_wp2_with (first | (go_at_call 123; (with_reducible refine (unless_yes _ _).mono ?_); rintro e w' ⟨rfl,rfl⟩) | (go_at_call 169; (with_reducible refine (clear_calls _ _).mono ?_); rintro e w' ⟨rfl,rfl⟩))
    go_ret
    have hf := (Fr.refl (fun k => k = g) w).setG 8 (.slice none 0 0)
    exact ⟨⟨_, rfl, RdF.nil _ _ _⟩, hf, vi, _, blk_put H.out.x 8 _ rfl, (H.out.rows hf).1, RdF.nil _ _ _⟩
  · rw [if_neg h1]
    have h1' : (s.f0 == 2) = false := by simpa using h1
    clear h1
    go_enter Try.func168, Try.ntmps168
    go_wp2_with (go_at_call 123; (with_reducible refine (unless_no _ _).mono ?_); rintro e w' ⟨rfl, rfl⟩)
    exact ⟨rfl, H.out.refuse⟩
theorem within_calls (n lo hi : Int) (w : World) : Calls Try.prog 75 #[.int .i64 n,.int .i64 lo,.int .i64 hi] w fun e w' => e = .returned (.bool (decide (lo ≤ n ∧ n ≤ hi))) ∧ w = w' := by
  by_cases h1 : lo ≤ n
  · go_enter Try.func75, Try.ntmps75
    go_wp2
    go_ret
    exact ⟨by simp [h1], rfl⟩
  · have h1' : n < lo := by omega
    have h2 : ¬ (lo ≤ n ∧ n ≤ hi) := by omega
    go_enter Try.func75, Try.ntmps75
    go_wp2
    go_ret
    exact ⟨by first | rfl | (rw [decide_eq_false h2]; rfl), rfl⟩
def mSession (s : S25) (n : Int) (q : List Int) : Res := if 1 ≤ n ∧ n ≤ 3 then ({ s with f0 := n, f1 := false, f2 := -1 }, .inr q) else (s, .inl 49)
set_option maxHeartbeats 1000000 in
theorem session_calls {w : World} {g : Nat} {P : Nat → Prop} {s : S25} {vi vd vq : Value} {q : List Int} (h : MPre w g P s vi vd vq q) (hq : 0 < q.length) (hB : Byt q) :
    Calls Try.prog 165 #[.pointer (some ⟨g, 0, none⟩)] w (MPost w g P vq (mSession s (q.getD 0 0) q)) := by
  obtain ⟨A, c, ev, hlc, hF⟩ := h.q
  subst ev
  obtain ⟨ad, ea, hb⟩ := rd_at h.q.now 0 hq
  subst ea
  have hb' : w.cell? ad = some (.int .u8 (q.getD 0 0)) := by have := hb; rwa [show ad.add 0 = ad by simp [Addr.add]] at this
  clear hb
  obtain ⟨n, en⟩ : ∃ n, n = q.getD 0 0 := ⟨_, rfl⟩
  have hn := hB.at 0
  rw [← en] at hb' hn ⊢
  obtain ⟨hn0, hn1⟩ := hn
  clear en
  have hq' : (0 : Int) < (q.length : Int) := by omega
  have c0 : w.cell? ⟨g, 0, none⟩ = some (.int .i64 s.f0) := (blk_cell h.x 0).trans rfl
  have c1 : w.cell? ⟨g, 1, none⟩ = some (.bool s.f1) := (blk_cell h.x 1).trans rfl
  have c2 : w.cell? ⟨g, 2, none⟩ = some (.int .i64 s.f2) := (blk_cell h.x 2).trans rfl
  have c9 : w.cell? ⟨g, 9, none⟩ = some (.slice (some ad) q.length c) := (blk_cell h.x 9).trans rfl
  have z0 := blk_frozen h.x 0
  have z1 := blk_frozen h.x 1
  have z2 := blk_frozen h.x 2
  have H := Aside0.mk h
  clear h hF hlc
  unfold mSession
  by_cases h1 : 1 ≤ n ∧ n ≤ 3
  · have hd := Aside0.mk (decide_eq_true h1)
    rw [if_pos h1]
    go_enter Try.func165, Try.ntmps165
    go_wp2_with (first | (go_at_call 75; refine (within_calls _ _ _ _).mono ?_; rintro e w' ⟨he,rfl⟩; rw [hd.out] at he; subst he) | (go_at_call 123; (with_reducible refine (unless_yes _ _).mono ?_); rintro e w' ⟨rfl,rfl⟩))
    go_ret
    have hf := (((Fr.refl (fun k => k = g) w).setG 0 (.int .i64 n)).setG 1 (.bool false)).setG 2 (.int .i64 (-1))
    exact H.out.answer rfl rfl (blk_put (blk_put (blk_put H.out.x 0 _ rfl) 1 _ rfl) 2 _ rfl) hf ((H.out.q.fr hf (fun k hk _ e => H.out.g (e ▸ hk))).mono (fun k hk => .inl hk))
  · have hd := Aside0.mk (decide_eq_false h1)
    rw [if_neg h1]
    go_enter Try.func165, Try.ntmps165
    go_wp2_with (first | (go_at_call 75; refine (within_calls _ _ _ _).mono ?_; rintro e w' ⟨he,rfl⟩; rw [hd.out] at he; subst he) | (go_at_call 123; (with_reducible refine (unless_no _ _).mono ?_); rintro e w' ⟨rfl,rfl⟩))
    exact ⟨rfl, H.out.refuse⟩
end Go.Proofs.Ph
