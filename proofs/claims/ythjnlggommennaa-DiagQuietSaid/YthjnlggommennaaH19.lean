/- Part 20 of the proof of DiagHands, for every input: Ma3. No condition. -/
import Derived.Test.YthjnlggommennaaH18
set_option linter.unusedVariables false
set_option linter.unusedSimpArgs false
set_option linter.unusedSectionVars false
namespace Go.Proofs.Ph.Ma
open Go.Proofs.Ph Go.RowKit Go.Proofs.YthjnlggommennaaW.PrintWords Go.Proofs.YthjnlggommennaaW.PrintLast Go.Proofs.YthjnlggommennaaW.PrintMore
attribute [local go_sem] max2_int min2_int max_two min_two max_three min_three max_four min_four   -- for this text's walks alone
/-! ### phaetonref22_Made: function 33 -/
mutual
def phaetonref22_Made.j0 : Nat → Int → Bool → Int → Int → Int → Int → Int → List (S47) → List (S161) → Int → Bool → Int → Int → Int → Int → Int → Option (Int × Bool × Int × Int × Int × Int × Int × (List (S47)) × (List (S161)))
  | 0, _, _, _, _, _, _, _, _, _, _, _, _, _, _, _, _ => none
  | k + 1,x102000,x102001,x102002,x102003,x102004,x102005,x102006,x102007,x102008,x106000,x106001,x106002,x106003,x106004,x106005,x106006 => phaetonref22_Made.l0 k (-1) 0 x102000 x102001 x102002 x102003 x102004 x102005 x102006 x102007 x102008 x106000 x106001 x106002 x106003 x106004 x106005 x106006 ([] : List (S47))
def phaetonref22_Made.l0 : Nat → Int → Int → Int → Bool → Int → Int → Int → Int → Int → List (S47) → List (S161) → Int → Bool → Int → Int → Int → Int → Int → List (S47) → Option (Int × Bool × Int × Int × Int × Int × Int × (List (S47)) × (List (S161)))
  | 0, _, _, _, _, _, _, _, _, _, _, _, _, _, _, _, _, _, _, _ => none
  | k + 1,x4,x5,x102000,x102001,x102002,x102003,x102004,x102005,x102006,x102007,x102008,x106000,x106001,x106002,x106003,x106004,x106005,x106006,x106007 => if x5 < (x102007.length : Int) then (phaetonref22_Made.j2 k x4 x5 (decide (x5 < 16)) x102000 x102001 x102002 x102003 x102004 x102005 x102006 x102007 x102008 x106000 x106001 x106002 x106003 x106004 x106005 x106006 x106007) else (phaetonref22_Made.j2 k x4 x5 false x102000 x102001 x102002 x102003 x102004 x102005 x102006 x102007 x102008 x106000 x106001 x106002 x106003 x106004 x106005 x106006 x106007)
def phaetonref22_Made.j2 : Nat → Int → Int → Bool → Int → Bool → Int → Int → Int → Int → Int → List (S47) → List (S161) → Int → Bool → Int → Int → Int → Int → Int → List (S47) → Option (Int × Bool × Int × Int × Int × Int × Int × (List (S47)) × (List (S161)))
  | 0, _, _, _, _, _, _, _, _, _, _, _, _, _, _, _, _, _, _, _, _ => none
  | k + 1,x4,x5,x44,x102000,x102001,x102002,x102003,x102004,x102005,x102006,x102007,x102008,x106000,x106001,x106002,x106003,x106004,x106005,x106006,x106007 => if x44 = true then (if 0 ≤ x5 then (if x5 < (x102007.length : Int) then (if (Go.bits .and .i64 ((rd_T47 x102007 x5).f0) 65535) > x4 then (if (((rd_T47 x102007 x5).f2).length : Int) > 0 then ((some (([] : List Int) : List Int)).bind fun y110 => (if 0 ≤ (mn (((rd_T47 x102007 x5).f2).length : Int) 64) then (if (mn (((rd_T47 x102007 x5).f2).length : Int) 64) ≤ (((rd_T47 x102007 x5).f2).length : Int) then (if y110.length + (((rd_T47 x102007 x5).f2).take ((mn (((rd_T47 x102007 x5).f2).length : Int) 64) : Int).toNat).length < 140737488355328 then (if x106007.length < 3518437208883 then (phaetonref22_Made.l0 k (Go.bits .and .i64 ((rd_T47 x102007 x5).f0) 65535) (wrap64 (x5 + 1)) x102000 x102001 x102002 x102003 x102004 x102005 x102006 x102007 x102008 x106000 x106001 x106002 x106003 x106004 x106005 x106006 (x106007 ++ [(⟨Go.bits .and .i64 ((rd_T47 x102007 x5).f0) 65535,(rd_T47 x102007 x5).f1,(y110 ++ (((rd_T47 x102007 x5).f2).take ((mn (((rd_T47 x102007 x5).f2).length : Int) 64) : Int).toNat))⟩ : S47)])) else (none)) else (none)) else (none)) else (none))) else (phaetonref22_Made.l0 k x4 (wrap64 (x5 + 1)) x102000 x102001 x102002 x102003 x102004 x102005 x102006 x102007 x102008 x106000 x106001 x106002 x106003 x106004 x106005 x106006 x106007)) else (phaetonref22_Made.l0 k x4 (wrap64 (x5 + 1)) x102000 x102001 x102002 x102003 x102004 x102005 x102006 x102007 x102008 x106000 x106001 x106002 x106003 x106004 x106005 x106006 x106007)) else (none)) else (none)) else ((phaetonref21_Right.f x102008).bind fun t122 => (if t122 = true then ((some (([] : List (S161)) : List (S161))).bind fun y123 => (if y123.length + x102008.length < 4398046511104 then (some (x106000,x106001,x106002,x106003,x106004,x106005,x106006,x106007,(y123 ++ x102008))) else (none))) else (some (x106000,x106001,x106002,x106003,x106004,x106005,x106006,x106007,([] : List (S161))))))
end
def phaetonref22_Made.f (k : Nat) (a0_0 : Int) (a0_1 : Bool) (a0_2 : Int) (a0_3 : Int) (a0_4 : Int) (a0_5 : Int) (a0_6 : Int) (l0_7 : List (S47)) (l0_8 : List (S161)) : Option (Int × Bool × Int × Int × Int × Int × Int × (List (S47)) × (List (S161))) := (phaetonref22_low.f a0_5).bind fun t103 => ((phaetonref22_low.f a0_6).bind fun t104 => (if a0_2 ≥ 0 then ((phaetonref22_low.f a0_2).bind fun t106 => (phaetonref22_Made.j0 k a0_0 a0_1 a0_2 a0_3 a0_4 a0_5 a0_6 l0_7 l0_8 (wrap64 (1 + (Int.tmod (Go.bits .and .i64 a0_0 65535) 3))) a0_1 t106 (Int.tmod (Go.bits .and .i64 a0_3 65535) 13) (Int.tmod (Go.bits .and .i64 a0_4 65535) 52) t103 t104)) else (phaetonref22_Made.j0 k a0_0 a0_1 a0_2 a0_3 a0_4 a0_5 a0_6 l0_7 l0_8 (wrap64 (1 + (Int.tmod (Go.bits .and .i64 a0_0 65535) 3))) a0_1 (-1) (Int.tmod (Go.bits .and .i64 a0_3 65535) 13) (Int.tmod (Go.bits .and .i64 a0_4 65535) 52) t103 t104)))
theorem phaetonref22_Made.mono_l : ∀ k,(∀ y0 y1 y2 y3 y4 y5 y6 y7 y8 y9 y10 y11 y12 y13 y14 y15,LeO (phaetonref22_Made.j0 k y0 y1 y2 y3 y4 y5 y6 y7 y8 y9 y10 y11 y12 y13 y14 y15) (phaetonref22_Made.j0 (k + 1) y0 y1 y2 y3 y4 y5 y6 y7 y8 y9 y10 y11 y12 y13 y14 y15)) ∧ (∀ y0 y1 y2 y3 y4 y5 y6 y7 y8 y9 y10 y11 y12 y13 y14 y15 y16 y17 y18,LeO (phaetonref22_Made.l0 k y0 y1 y2 y3 y4 y5 y6 y7 y8 y9 y10 y11 y12 y13 y14 y15 y16 y17 y18) (phaetonref22_Made.l0 (k + 1) y0 y1 y2 y3 y4 y5 y6 y7 y8 y9 y10 y11 y12 y13 y14 y15 y16 y17 y18)) ∧ (∀ y0 y1 y2 y3 y4 y5 y6 y7 y8 y9 y10 y11 y12 y13 y14 y15 y16 y17 y18 y19,LeO (phaetonref22_Made.j2 k y0 y1 y2 y3 y4 y5 y6 y7 y8 y9 y10 y11 y12 y13 y14 y15 y16 y17 y18 y19) (phaetonref22_Made.j2 (k + 1) y0 y1 y2 y3 y4 y5 y6 y7 y8 y9 y10 y11 y12 y13 y14 y15 y16 y17 y18 y19))
  | 0 => ⟨fun _ _ _ _ _ _ _ _ _ _ _ _ _ _ _ _ r h => by simp [phaetonref22_Made.j0] at h,fun _ _ _ _ _ _ _ _ _ _ _ _ _ _ _ _ _ _ _ r h => by simp [phaetonref22_Made.l0] at h,fun _ _ _ _ _ _ _ _ _ _ _ _ _ _ _ _ _ _ _ _ r h => by simp [phaetonref22_Made.j2] at h⟩
  | k + 1 => by
    obtain ⟨ih0, ih1, ih2⟩ := phaetonref22_Made.mono_l k
    refine ⟨?_, ?_, ?_⟩
    · intro y0 y1 y2 y3 y4 y5 y6 y7 y8 y9 y10 y11 y12 y13 y14 y15
      unfold phaetonref22_Made.j0
      repeat' first
      | (with_reducible exact ih0 _ _ _ _ _ _ _ _ _ _ _ _ _ _ _ _)
      | (with_reducible exact ih1 _ _ _ _ _ _ _ _ _ _ _ _ _ _ _ _ _ _ _)
      | (with_reducible exact ih2 _ _ _ _ _ _ _ _ _ _ _ _ _ _ _ _ _ _ _ _)
      | (with_reducible exact LeO.refl _)
      | (with_reducible exact LeO.none _)
      | (with_reducible refine LeO.ite ?_ ?_)
      | (with_reducible refine LeO.bind ?_ (fun _ => ?_))
      | exact ih0 _ _ _ _ _ _ _ _ _ _ _ _ _ _ _ _
      | exact ih1 _ _ _ _ _ _ _ _ _ _ _ _ _ _ _ _ _ _ _
      | exact ih2 _ _ _ _ _ _ _ _ _ _ _ _ _ _ _ _ _ _ _ _
      | exact LeO.none _
      | refine LeO.ite ?_ ?_
      | refine LeO.bind ?_ (fun _ => ?_)
    · intro y0 y1 y2 y3 y4 y5 y6 y7 y8 y9 y10 y11 y12 y13 y14 y15 y16 y17 y18
      unfold phaetonref22_Made.l0
      repeat' first
      | (with_reducible exact ih0 _ _ _ _ _ _ _ _ _ _ _ _ _ _ _ _)
      | (with_reducible exact ih1 _ _ _ _ _ _ _ _ _ _ _ _ _ _ _ _ _ _ _)
      | (with_reducible exact ih2 _ _ _ _ _ _ _ _ _ _ _ _ _ _ _ _ _ _ _ _)
      | (with_reducible exact LeO.refl _)
      | (with_reducible exact LeO.none _)
      | (with_reducible refine LeO.ite ?_ ?_)
      | (with_reducible refine LeO.bind ?_ (fun _ => ?_))
      | exact ih0 _ _ _ _ _ _ _ _ _ _ _ _ _ _ _ _
      | exact ih1 _ _ _ _ _ _ _ _ _ _ _ _ _ _ _ _ _ _ _
      | exact ih2 _ _ _ _ _ _ _ _ _ _ _ _ _ _ _ _ _ _ _ _
      | exact LeO.none _
      | refine LeO.ite ?_ ?_
      | refine LeO.bind ?_ (fun _ => ?_)
    · intro y0 y1 y2 y3 y4 y5 y6 y7 y8 y9 y10 y11 y12 y13 y14 y15 y16 y17 y18 y19
      unfold phaetonref22_Made.j2
      repeat' first
      | (with_reducible exact ih0 _ _ _ _ _ _ _ _ _ _ _ _ _ _ _ _)
      | (with_reducible exact ih1 _ _ _ _ _ _ _ _ _ _ _ _ _ _ _ _ _ _ _)
      | (with_reducible exact ih2 _ _ _ _ _ _ _ _ _ _ _ _ _ _ _ _ _ _ _ _)
      | (with_reducible exact LeO.refl _)
      | (with_reducible exact LeO.none _)
      | (with_reducible refine LeO.ite ?_ ?_)
      | (with_reducible refine LeO.bind ?_ (fun _ => ?_))
      | exact ih0 _ _ _ _ _ _ _ _ _ _ _ _ _ _ _ _
      | exact ih1 _ _ _ _ _ _ _ _ _ _ _ _ _ _ _ _ _ _ _
      | exact ih2 _ _ _ _ _ _ _ _ _ _ _ _ _ _ _ _ _ _ _ _
      | exact LeO.none _
      | refine LeO.ite ?_ ?_
      | refine LeO.bind ?_ (fun _ => ?_)
theorem phaetonref22_Made.mono : ∀ a0 a1 a2 a3 a4 a5 a6 a7 a8 k,LeO (phaetonref22_Made.f k a0 a1 a2 a3 a4 a5 a6 a7 a8) (phaetonref22_Made.f (k + 1) a0 a1 a2 a3 a4 a5 a6 a7 a8) := by
  intro a0 a1 a2 a3 a4 a5 a6 a7 a8 k
  obtain ⟨ih0, ih1, ih2⟩ := phaetonref22_Made.mono_l k
  unfold phaetonref22_Made.f
  repeat' first
      | (with_reducible exact ih0 _ _ _ _ _ _ _ _ _ _ _ _ _ _ _ _)
      | (with_reducible exact ih1 _ _ _ _ _ _ _ _ _ _ _ _ _ _ _ _ _ _ _)
      | (with_reducible exact ih2 _ _ _ _ _ _ _ _ _ _ _ _ _ _ _ _ _ _ _ _)
      | (with_reducible exact LeO.refl _)
      | (with_reducible exact LeO.none _)
      | (with_reducible refine LeO.ite ?_ ?_)
      | (with_reducible refine LeO.bind ?_ (fun _ => ?_))
      | exact ih0 _ _ _ _ _ _ _ _ _ _ _ _ _ _ _ _
      | exact ih1 _ _ _ _ _ _ _ _ _ _ _ _ _ _ _ _ _ _ _
      | exact ih2 _ _ _ _ _ _ _ _ _ _ _ _ _ _ _ _ _ _ _ _
      | exact LeO.none _
      | refine LeO.ite ?_ ?_
      | refine LeO.bind ?_ (fun _ => ?_)
def phaetonref22_Made.T1 : Bool × List (List Nat × List Nat) := (true,[([],[]),([0],[0]),([1],[1]),([2],[2]),([3],[3]),([],[]),([5],[5]),([],[]),([7],[7]),([8],[8]),([9],[9]),([],[]),([11],[11]),([12],[12]),([13],[13]),([],[]),([15],[15]),([16],[16]),([],[]),([18],[18]),([19,17],[19]),([4,6,10,14,17,20],[4,6,10,14,17,20]),([],[]),([22,21,20,0,1,2,3,4,5,6,7,8,9,10,11,12,13,14,15,16,17,18,19,20,21,22],[21,22])])
def phaetonref22_Made.B1 : List Nat := [0,1,3,7,15,0,32,0,128,384,896,0,2048,6144,14336,0,32768,98304,0,262144,1015808,2097151,0,8388607]
theorem phaetonref22_Made.tab1 : rtab .any (opsOf Try.f33 1) = phaetonref22_Made.T1 := by kernel_rfl
theorem phaetonref22_Made.bits1 : waitsOk phaetonref22_Made.T1.2 phaetonref22_Made.B1 = true := by kernel_rfl
def phaetonref22_Made.T10 : Bool × List (List Nat × List Nat) := (true,[([],[]),([0],[0]),([],[]),([],[]),([3],[3]),([],[]),([4,5],[4,5]),([6],[6]),([7],[7]),([],[]),([],[]),([10],[10]),([],[]),([11,12],[11,12]),([13],[13]),([14],[14]),([],[]),([16],[16]),([],[]),([17,18],[17,18]),([19],[19]),([20],[20]),([21],[21]),([22],[22]),([15,23],[15,23]),([9,24],[9,24]),([2,8,25],[2,8,25]),([26],[26]),([1,27,25],[1,27]),([0,1,2,3,4,5,6,7,8,9,10,11,12,13,14,15,16,17,18,19,20,21,22,23,24,25,26,27,28],[]),([29,28,28,0,1,2,3,4,5,6,7,8,9,10,11,12,13,14,15,16,17,18,19,20,21,22,23,24,25,26,27,28],[28,29])])
def phaetonref22_Made.B10 : List Nat := [0,1,0,0,8,0,56,120,248,0,0,1024,0,7168,15360,31744,0,65536,0,458752,983040,2031616,4128768,8323072,16776192,33553920,67108860,134217724,268435455,536870911,1073741823]
theorem phaetonref22_Made.tab10 : rtab .any (opsOf Try.f33 10) = phaetonref22_Made.T10 := by kernel_rfl
theorem phaetonref22_Made.bits10 : waitsOk phaetonref22_Made.T10.2 phaetonref22_Made.B10 = true := by kernel_rfl
set_option maxHeartbeats 8000000 in
set_option maxRecDepth 100000 in
theorem phaetonref22_Made.calls (k : Nat) (a0_0 : Int) (a0_1 : Bool) (a0_2 : Int) (a0_3 : Int) (a0_4 : Int) (a0_5 : Int) (a0_6 : Int) (A0_7 : Option Addr) (c0_7 : Nat) (l0_7 : List (S47)) (A0_8 : Option Addr) (c0_8 : Nat) (l0_8 : List (S161)) (r1 : Int) (r2 : Bool) (r3 : Int) (r4 : Int) (r5 : Int) (r6 : Int) (r7 : Int) (r8 : List (S47)) (r9 : List (S161)) (w : World) (hr0_7 : Kd.C k47 w A0_7 l0_7.length l0_7) (hc0_7 : l0_7.length ≤ c0_7) (hr0_8 : Kd.C k161 w A0_8 l0_8.length l0_8) (hc0_8 : l0_8.length ≤ c0_8) (h : phaetonref22_Made.f k a0_0 a0_1 a0_2 a0_3 a0_4 a0_5 a0_6 l0_7 l0_8 = some (r1,r2,r3,r4,r5,r6,r7,r8,r9)) :
    Calls Try.prog 33 #[.agg #[.int .i64 a0_0,.bool a0_1,.int .i64 a0_2,.int .i64 a0_3,.int .i64 a0_4,.int .i64 a0_5,.int .i64 a0_6,.slice A0_7 l0_7.length c0_7,.slice A0_8 l0_8.length c0_8]] w fun e w' => ∃ v7_ v8_ : Value,e = .returned (.agg #[.int .i64 r1,.bool r2,.int .i64 r3,.int .i64 r4,.int .i64 r5,.int .i64 r6,.int .i64 r7,v7_,v8_]) ∧ Kd.S k47 47 w' w.heap.size (fun _ => True) v7_ r8 ∧ Kd.R k161 161 w' w.heap.size (fun _ => True) v8_ r9 ∧ Below w.heap.size w w' := by
  have hu25 := Try.underlying25
  have hu47 := Try.underlying47
  have HR0_7 := Aside0.mk hr0_7
  have HC0_7 := Aside0.mk hc0_7
  clear hr0_7 hc0_7
  have HR0_8 := Aside0.mk hr0_8
  have HC0_8 := Aside0.mk hc0_8
  clear hr0_8 hc0_8
  have HB := Aside0.mk (Below.refl w.heap.size w)
  have H : ((phaetonref22_low.f a0_5).bind fun t103 => ((phaetonref22_low.f a0_6).bind fun t104 => (if a0_2 ≥ 0 then ((phaetonref22_low.f a0_2).bind fun t106 => (phaetonref22_Made.j0 k a0_0 a0_1 a0_2 a0_3 a0_4 a0_5 a0_6 l0_7 l0_8 (wrap64 (1 + (Int.tmod (Go.bits .and .i64 a0_0 65535) 3))) a0_1 t106 (Int.tmod (Go.bits .and .i64 a0_3 65535) 13) (Int.tmod (Go.bits .and .i64 a0_4 65535) 52) t103 t104)) else (phaetonref22_Made.j0 k a0_0 a0_1 a0_2 a0_3 a0_4 a0_5 a0_6 l0_7 l0_8 (wrap64 (1 + (Int.tmod (Go.bits .and .i64 a0_0 65535) 3))) a0_1 (-1) (Int.tmod (Go.bits .and .i64 a0_3 65535) 13) (Int.tmod (Go.bits .and .i64 a0_4 65535) 52) t103 t104)))) = some (r1,r2,r3,r4,r5,r6,r7,r8,r9) := h
  clear h
  replace H := Option.bind_eq_some_iff.mp H
  obtain ⟨t103, A20, H⟩ := H
  replace H : ((phaetonref22_low.f a0_6).bind fun t104 => (if a0_2 ≥ 0 then ((phaetonref22_low.f a0_2).bind fun t106 => (phaetonref22_Made.j0 k a0_0 a0_1 a0_2 a0_3 a0_4 a0_5 a0_6 l0_7 l0_8 (wrap64 (1 + (Int.tmod (Go.bits .and .i64 a0_0 65535) 3))) a0_1 t106 (Int.tmod (Go.bits .and .i64 a0_3 65535) 13) (Int.tmod (Go.bits .and .i64 a0_4 65535) 52) t103 t104)) else (phaetonref22_Made.j0 k a0_0 a0_1 a0_2 a0_3 a0_4 a0_5 a0_6 l0_7 l0_8 (wrap64 (1 + (Int.tmod (Go.bits .and .i64 a0_0 65535) 3))) a0_1 (-1) (Int.tmod (Go.bits .and .i64 a0_3 65535) 13) (Int.tmod (Go.bits .and .i64 a0_4 65535) 52) t103 t104))) = some (r1,r2,r3,r4,r5,r6,r7,r8,r9) := H
  have A2 := Aside0.mk A20
  clear A20
  replace H := Option.bind_eq_some_iff.mp H
  obtain ⟨t104, A30, H⟩ := H
  replace H : (if a0_2 ≥ 0 then ((phaetonref22_low.f a0_2).bind fun t106 => (phaetonref22_Made.j0 k a0_0 a0_1 a0_2 a0_3 a0_4 a0_5 a0_6 l0_7 l0_8 (wrap64 (1 + (Int.tmod (Go.bits .and .i64 a0_0 65535) 3))) a0_1 t106 (Int.tmod (Go.bits .and .i64 a0_3 65535) 13) (Int.tmod (Go.bits .and .i64 a0_4 65535) 52) t103 t104)) else (phaetonref22_Made.j0 k a0_0 a0_1 a0_2 a0_3 a0_4 a0_5 a0_6 l0_7 l0_8 (wrap64 (1 + (Int.tmod (Go.bits .and .i64 a0_0 65535) 3))) a0_1 (-1) (Int.tmod (Go.bits .and .i64 a0_3 65535) 13) (Int.tmod (Go.bits .and .i64 a0_4 65535) 52) t103 t104)) = some (r1,r2,r3,r4,r5,r6,r7,r8,r9) := H
  have A3 := Aside0.mk A30
  clear A30
  have HC4 := Aside0.mk H
  clear H
  go_enter Try.func33, Try.ntmps33
  try go_wp2_with (first | ((with_reducible refine gate_dst (N := 1) rfl ?_); refine box_event ?hg (N := 1) ?hd (cs := #[.int .i64 a0_0,.bool a0_1,.int .i64 a0_2,.int .i64 a0_3,.int .i64 a0_4,.int .i64 a0_5,.int .i64 a0_6,.slice A0_7 l0_7.length c0_7,.slice A0_8 l0_8.length c0_8]) (t := 25) ?hr ?_; (case hd => rfl); (case hg => rfl); (case hr => first | (go_simp; done) | (go_simp; rfl)); intro gb101 hg w5 hbox hb; have n0_ := Aside0.mk (below_step (by repeat (first | (with_reducible first | exact HB.out | apply below_alloc | apply pw_below_drewN | apply below_drew1) | exact HB.out)) hb); have n1_ := Aside0.mk (hbox); have n2_ := Aside0.mk ((by rw [hg]; exact (below_size (by repeat (first | (with_reducible first | exact HB.out | apply below_alloc | apply pw_below_drewN | apply below_drew1) | exact HB.out))) : w.heap.size ≤ gb101)); have n3_ := Aside0.mk ((by rw [hg]; exact (below_size (by repeat (first | (with_reducible first | exact HB.out | apply below_alloc | apply pw_below_drewN | apply below_drew1) | exact HB.out))) : w.heap.size ≤ gb101)); clear HB; have HB := n0_; have BK101 := n1_; have GW101 := n2_; have GE101 := n3_; clear n0_ n1_ n2_ n3_; clear hb hbox hg) | ((with_reducible refine gate_dst (N := 2) rfl ?_); refine box_event ?hg (N := 2) ?hd (cs := #[.int .i64 0,.bool false,.int .i64 0,.int .i64 0,.int .i64 0,.int .i64 0,.int .i64 0,.slice none 0 0,.slice none 0 0]) (t := 25) ?hr ?_; (case hd => rfl); (case hg => rfl); (case hr => first | (go_simp; done) | (go_simp; rfl)); intro gb102 hg w6 hbox hb; have n0_ := Aside0.mk (blk_below (g := gb101) (o := .cells #[.int .i64 a0_0,.bool a0_1,.int .i64 a0_2,.int .i64 a0_3,.int .i64 a0_4,.int .i64 a0_5,.int .i64 a0_6,.slice A0_7 l0_7.length c0_7,.slice A0_8 l0_8.length c0_8] 25 (0,0)) (by (with_reducible repeat (first | refine blk_drewN ?_ _ | refine blk_drew ?_ | refine blk_alloc ?_ _)); exact BK101.out) hb); have n1_ := Aside0.mk (below_step (by repeat (first | (with_reducible first | exact HB.out | apply below_alloc | apply pw_below_drewN | apply below_drew1 | refine below_set ?_ GE101.out) | exact HB.out)) hb); have n2_ := Aside0.mk (hbox); have n3_ := Aside0.mk ((by rw [hg]; exact (below_size (by repeat (first | (with_reducible first | exact HB.out | apply below_alloc | apply pw_below_drewN | apply below_drew1 | refine below_set ?_ GE101.out) | exact HB.out))) : w.heap.size ≤ gb102)); have n4_ := Aside0.mk ((by rw [hg]; exact (below_size (by repeat (first | (with_reducible first | exact HB.out | apply below_alloc | apply pw_below_drewN | apply below_drew1 | refine below_set ?_ GE101.out) | exact HB.out))) : w.heap.size ≤ gb102)); have n5_ := Aside0.mk ((by rw [hg]; exact Nat.ne_of_lt (blk_lt (g := gb101) (o := .cells #[.int .i64 a0_0,.bool a0_1,.int .i64 a0_2,.int .i64 a0_3,.int .i64 a0_4,.int .i64 a0_5,.int .i64 a0_6,.slice A0_7 l0_7.length c0_7,.slice A0_8 l0_8.length c0_8] 25 (0,0)) (by (with_reducible repeat (first | refine blk_drewN ?_ _ | refine blk_drew ?_ | refine blk_alloc ?_ _)); exact BK101.out)) : gb101 ≠ gb102)); have n6_ := Aside0.mk ((by rw [hg]; exact Nat.ne_of_gt (blk_lt (g := gb101) (o := .cells #[.int .i64 a0_0,.bool a0_1,.int .i64 a0_2,.int .i64 a0_3,.int .i64 a0_4,.int .i64 a0_5,.int .i64 a0_6,.slice A0_7 l0_7.length c0_7,.slice A0_8 l0_8.length c0_8] 25 (0,0)) (by (with_reducible repeat (first | refine blk_drewN ?_ _ | refine blk_drew ?_ | refine blk_alloc ?_ _)); exact BK101.out)) : gb102 ≠ gb101)); clear BK101; clear HB; have BK101 := n0_; have HB := n1_; have BK102 := n2_; have GW102 := n3_; have GE102 := n4_; have NB101_102 := n5_; have NB102_101 := n6_; clear n0_ n1_ n2_ n3_ n4_ n5_ n6_; clear hb hbox hg))
  have n0_ := Aside0.mk (blk_drew BK101.out)
  have n1_ := Aside0.mk (blk_drew BK102.out)
  have n2_ := Aside0.mk (below_drew1 HB.out)
  clear BK101
  clear BK102
  clear HB
  have BK101 := n0_
  have BK102 := n1_
  have HB := n2_
  clear n0_ n1_ n2_
  refine start_ (n := 24) (S := fun w' => w'.cell? ⟨gb101,0,none⟩ = some (.int .i64 a0_0) ∧ w'.cell? ⟨gb101,1,none⟩ = some (.bool a0_1) ∧ w'.cell? ⟨gb101,2,none⟩ = some (.int .i64 a0_2) ∧ w'.cell? ⟨gb101,3,none⟩ = some (.int .i64 a0_3) ∧ w'.cell? ⟨gb101,4,none⟩ = some (.int .i64 a0_4) ∧ w'.cell? ⟨gb101,5,none⟩ = some (.int .i64 a0_5) ∧ w'.cell? ⟨gb101,6,none⟩ = some (.int .i64 a0_6) ∧ w'.cell? ⟨gb101,7,none⟩ = some (.slice A0_7 l0_7.length c0_7) ∧ w'.cell? ⟨gb101,8,none⟩ = some (.slice A0_8 l0_8.length c0_8)) (ds := []) #[false,false,false,false,false,false,false,false,false,false,false,false,false,false,false,false,false,false,false,false,false,false,false,false] (by kernel_rfl) rfl rfl ⟨(blk_cell BK101.out 0).trans rfl,(blk_cell BK101.out 1).trans rfl,(blk_cell BK101.out 2).trans rfl,(blk_cell BK101.out 3).trans rfl,(blk_cell BK101.out 4).trans rfl,(blk_cell BK101.out 5).trans rfl,(blk_cell BK101.out 6).trans rfl,(blk_cell BK101.out 7).trans rfl,(blk_cell BK101.out 8).trans rfl⟩ (fun hHeld => ?_); refine with_tabW phaetonref22_Made.tab1 phaetonref22_Made.bits1 (fun HT_ HW_ => ?_)
  generalize w6.drew = w7 at BK101 BK102 HB hHeld ⊢
  refine pure_ (i := 0) (N := some 7) (v := ?_) (a' := ?_) #[true,false,false,false,false,false,false,false,false,false,false,false,false,false,false,false,false,false,false,false,false,false,false,false] rfl rfl (any_of HT_.out (by kernel_rfl)) (fun _ _ _ h => h) (Or.inl ⟨by rfl,?_⟩) ?_ ?_
  rotate_left
  · intro w'
    go_simp
    with_reducible rfl
  rotate_left
  · simp only [Act.put, List.setIfInBounds_toArray, List.set_cons_zero, List.set_cons_succ, i64_w, i32_w]
    rfl
  refine pure_ (i := 5) (N := some 12) (v := ?_) (a' := ?_) #[true,false,false,false,false,true,false,false,false,false,false,false,false,false,false,false,false,false,false,false,false,false,false,false] rfl rfl (any_of HT_.out (by kernel_rfl)) (fun _ _ _ h => h) (Or.inl ⟨by rfl,?_⟩) ?_ ?_
  rotate_left
  · intro w'
    go_simp
    with_reducible rfl
  rotate_left
  · simp only [Act.put, List.setIfInBounds_toArray, List.set_cons_zero, List.set_cons_succ, i64_w, i32_w]
    rfl
  refine pure_ (i := 7) (N := some 14) (v := ?_) (a' := ?_) #[true,false,false,false,false,true,false,true,false,false,false,false,false,false,false,false,false,false,false,false,false,false,false,false] rfl rfl (any_of HT_.out (by kernel_rfl)) (fun _ _ _ h => h) (Or.inl ⟨by rfl,?_⟩) ?_ ?_
  rotate_left
  · intro w'
    go_simp
    with_reducible rfl
  rotate_left
  · simp only [Act.put, List.setIfInBounds_toArray, List.set_cons_zero, List.set_cons_succ, i64_w, i32_w]
    rfl
  refine pure_ (i := 11) (N := some 18) (v := ?_) (a' := ?_) #[true,false,false,false,false,true,false,true,false,false,false,true,false,false,false,false,false,false,false,false,false,false,false,false] rfl rfl (any_of HT_.out (by kernel_rfl)) (fun _ _ _ h => h) (Or.inl ⟨by rfl,?_⟩) ?_ ?_
  rotate_left
  · intro w'
    go_simp
    with_reducible rfl
  rotate_left
  · simp only [Act.put, List.setIfInBounds_toArray, List.set_cons_zero, List.set_cons_succ, i64_w, i32_w]
    rfl
  refine pure_ (i := 15) (N := some 22) (v := ?_) (a' := ?_) #[true,false,false,false,false,true,false,true,false,false,false,true,false,false,false,true,false,false,false,false,false,false,false,false] rfl rfl (any_of HT_.out (by kernel_rfl)) (fun _ _ _ h => h) (Or.inl ⟨by rfl,?_⟩) ?_ ?_
  rotate_left
  · intro w'
    go_simp
    with_reducible rfl
  rotate_left
  · simp only [Act.put, List.setIfInBounds_toArray, List.set_cons_zero, List.set_cons_succ, i64_w, i32_w]
    rfl
  refine pure_ (i := 18) (N := some 25) (v := ?_) (a' := ?_) #[true,false,false,false,false,true,false,true,false,false,false,true,false,false,false,true,false,false,true,false,false,false,false,false] rfl rfl (any_of HT_.out (by kernel_rfl)) (fun _ _ _ h => h) (Or.inl ⟨by rfl,?_⟩) ?_ ?_
  rotate_left
  · intro w'
    go_simp
    with_reducible rfl
  rotate_left
  · simp only [Act.put, List.setIfInBounds_toArray, List.set_cons_zero, List.set_cons_succ, i64_w, i32_w]
    rfl
  refine take_ (i := 1) (N := some 8) (v := ?_) (a' := ?_) #[true,true,false,false,false,true,false,true,false,false,false,true,false,false,false,true,false,false,true,false,false,false,false,false] rfl rfl (take_ofW HT_.out HW_.out (by kernel_rfl)) (fun _ _ _ h => h) (Or.inl ⟨by rfl,?_⟩) hHeld ?_ ?_
  rotate_left
  · rintro w' ⟨s0, s1, s2, s3, s4, s5, s6, s7, s8⟩
    go_simp
    with_reducible rfl
  rotate_left
  · simp only [Act.put, List.setIfInBounds_toArray, List.set_cons_zero, List.set_cons_succ, i64_w, i32_w]
    rfl
  refine pure_ (i := 2) (N := some 9) (v := ?_) (a' := ?_) #[true,true,true,false,false,true,false,true,false,false,false,true,false,false,false,true,false,false,true,false,false,false,false,false] rfl rfl (any_of HT_.out (by kernel_rfl)) (fun _ _ _ h => h) (Or.inl ⟨by rfl,?_⟩) ?_ ?_
  rotate_left
  · intro w'
    go_simp
    with_reducible rfl
  rotate_left
  · simp only [Act.put, List.setIfInBounds_toArray, List.set_cons_zero, List.set_cons_succ, i64_w, i32_w]
    rfl
  refine pure_ (i := 3) (N := some 10) (v := ?_) (a' := ?_) #[true,true,true,true,false,true,false,true,false,false,false,true,false,false,false,true,false,false,true,false,false,false,false,false] rfl rfl (any_of HT_.out (by kernel_rfl)) (fun _ _ _ h => h) (Or.inl ⟨by rfl,?_⟩) ?_ ?_
  rotate_left
  · intro w'
    go_simp
    with_reducible rfl
  rotate_left
  · simp only [Act.put, List.setIfInBounds_toArray, List.set_cons_zero, List.set_cons_succ, i64_w, i32_w]
    rfl
  refine pure_ (i := 4) (N := some 11) (v := ?_) (a' := ?_) #[true,true,true,true,true,true,false,true,false,false,false,true,false,false,false,true,false,false,true,false,false,false,false,false] rfl rfl (any_of HT_.out (by kernel_rfl)) (fun _ _ _ h => h) (Or.inl ⟨by rfl,?_⟩) ?_ ?_
  rotate_left
  · intro w'
    go_simp
    with_reducible rfl
  rotate_left
  · simp only [Act.put, List.setIfInBounds_toArray, List.set_cons_zero, List.set_cons_succ, i64_w, i32_w]
    rfl
  refine take_ (i := 6) (N := some 13) (v := ?_) (a' := ?_) #[true,true,true,true,true,true,true,true,false,false,false,true,false,false,false,true,false,false,true,false,false,false,false,false] rfl rfl (take_ofW HT_.out HW_.out (by kernel_rfl)) (fun _ _ _ h => h) (Or.inl ⟨by rfl,?_⟩) hHeld ?_ ?_
  rotate_left
  · rintro w' ⟨s0, s1, s2, s3, s4, s5, s6, s7, s8⟩
    go_simp
    with_reducible rfl
  rotate_left
  · simp only [Act.put, List.setIfInBounds_toArray, List.set_cons_zero, List.set_cons_succ, i64_w, i32_w]
    rfl
  refine take_ (i := 8) (N := some 15) (v := ?_) (a' := ?_) #[true,true,true,true,true,true,true,true,true,false,false,true,false,false,false,true,false,false,true,false,false,false,false,false] rfl rfl (take_ofW HT_.out HW_.out (by kernel_rfl)) (fun _ _ _ h => h) (Or.inl ⟨by rfl,?_⟩) hHeld ?_ ?_
  rotate_left
  · rintro w' ⟨s0, s1, s2, s3, s4, s5, s6, s7, s8⟩
    go_simp
    with_reducible rfl
  rotate_left
  · simp only [Act.put, List.setIfInBounds_toArray, List.set_cons_zero, List.set_cons_succ, i64_w, i32_w]
    rfl
  refine pure_ (i := 9) (N := some 16) (v := ?_) (a' := ?_) #[true,true,true,true,true,true,true,true,true,true,false,true,false,false,false,true,false,false,true,false,false,false,false,false] rfl rfl (any_of HT_.out (by kernel_rfl)) (fun _ _ _ h => h) (Or.inl ⟨by rfl,?_⟩) ?_ ?_
  rotate_left
  · intro w'
    go_simp
    with_reducible rfl
  rotate_left
  · simp only [Act.put, List.setIfInBounds_toArray, List.set_cons_zero, List.set_cons_succ, i64_w, i32_w]
    rfl
  refine pure_ (i := 10) (N := some 17) (v := ?_) (a' := ?_) #[true,true,true,true,true,true,true,true,true,true,true,true,false,false,false,true,false,false,true,false,false,false,false,false] rfl rfl (any_of HT_.out (by kernel_rfl)) (fun _ _ _ h => h) (Or.inl ⟨by rfl,?_⟩) ?_ ?_
  rotate_left
  · intro w'
    go_simp
    with_reducible rfl
  rotate_left
  · simp only [Act.put, List.setIfInBounds_toArray, List.set_cons_zero, List.set_cons_succ, i64_w, i32_w]
    rfl
  refine take_ (i := 12) (N := some 19) (v := ?_) (a' := ?_) #[true,true,true,true,true,true,true,true,true,true,true,true,true,false,false,true,false,false,true,false,false,false,false,false] rfl rfl (take_ofW HT_.out HW_.out (by kernel_rfl)) (fun _ _ _ h => h) (Or.inl ⟨by rfl,?_⟩) hHeld ?_ ?_
  rotate_left
  · rintro w' ⟨s0, s1, s2, s3, s4, s5, s6, s7, s8⟩
    go_simp
    with_reducible rfl
  rotate_left
  · simp only [Act.put, List.setIfInBounds_toArray, List.set_cons_zero, List.set_cons_succ, i64_w, i32_w]
    rfl
  refine pure_ (i := 13) (N := some 20) (v := ?_) (a' := ?_) #[true,true,true,true,true,true,true,true,true,true,true,true,true,true,false,true,false,false,true,false,false,false,false,false] rfl rfl (any_of HT_.out (by kernel_rfl)) (fun _ _ _ h => h) (Or.inl ⟨by rfl,?_⟩) ?_ ?_
  rotate_left
  · intro w'
    go_simp
    with_reducible rfl
  rotate_left
  · simp only [Act.put, List.setIfInBounds_toArray, List.set_cons_zero, List.set_cons_succ, i64_w, i32_w]
    rfl
  refine pure_ (i := 14) (N := some 21) (v := ?_) (a' := ?_) #[true,true,true,true,true,true,true,true,true,true,true,true,true,true,true,true,false,false,true,false,false,false,false,false] rfl rfl (any_of HT_.out (by kernel_rfl)) (fun _ _ _ h => h) (Or.inl ⟨by rfl,?_⟩) ?_ ?_
  rotate_left
  · intro w'
    go_simp
    with_reducible rfl
  rotate_left
  · simp only [Act.put, List.setIfInBounds_toArray, List.set_cons_zero, List.set_cons_succ, i64_w, i32_w]
    rfl
  refine take_ (i := 16) (N := some 23) (v := ?_) (a' := ?_) #[true,true,true,true,true,true,true,true,true,true,true,true,true,true,true,true,true,false,true,false,false,false,false,false] rfl rfl (take_ofW HT_.out HW_.out (by kernel_rfl)) (fun _ _ _ h => h) (Or.inl ⟨by rfl,?_⟩) hHeld ?_ ?_
  rotate_left
  · rintro w' ⟨s0, s1, s2, s3, s4, s5, s6, s7, s8⟩
    go_simp
    with_reducible rfl
  rotate_left
  · simp only [Act.put, List.setIfInBounds_toArray, List.set_cons_zero, List.set_cons_succ, i64_w, i32_w]
    rfl
  refine take_ (i := 19) (N := some 26) (v := ?_) (a' := ?_) #[true,true,true,true,true,true,true,true,true,true,true,true,true,true,true,true,true,false,true,true,false,false,false,false] rfl rfl (take_ofW HT_.out HW_.out (by kernel_rfl)) (fun _ _ _ h => h) (Or.inl ⟨by rfl,?_⟩) hHeld ?_ ?_
  rotate_left
  · rintro w' ⟨s0, s1, s2, s3, s4, s5, s6, s7, s8⟩
    go_simp
    with_reducible rfl
  rotate_left
  · simp only [Act.put, List.setIfInBounds_toArray, List.set_cons_zero, List.set_cons_succ, i64_w, i32_w]
    rfl
  refine join_ (σ := Nat) 1 #[true,true,true,true,true,true,true,true,true,true,true,true,true,true,true,true,true,true,true,true,true,true,true,false] (fun s_ => [(24,.int .i64 t103),(27,.int .i64 t104),(3,.pointer (some ⟨s_,0,none⟩)),(28,.agg #[.int .i64 (wrap64 (1 + (Int.tmod (Go.bits .and .i64 a0_0 65535) 3))),.bool a0_1,.int .i64 (-1),.int .i64 (Int.tmod (Go.bits .and .i64 a0_3 65535) 13),.int .i64 (Int.tmod (Go.bits .and .i64 a0_4 65535) 52),.int .i64 t103,.int .i64 t104,.slice none 0 0,.slice none 0 0])]) (fun s_ w' => (w'.cell? ⟨gb101,0,none⟩ = some (.int .i64 a0_0) ∧ w'.cell? ⟨gb101,1,none⟩ = some (.bool a0_1) ∧ w'.cell? ⟨gb101,2,none⟩ = some (.int .i64 a0_2) ∧ w'.cell? ⟨gb101,3,none⟩ = some (.int .i64 a0_3) ∧ w'.cell? ⟨gb101,4,none⟩ = some (.int .i64 a0_4) ∧ w'.cell? ⟨gb101,5,none⟩ = some (.int .i64 a0_5) ∧ w'.cell? ⟨gb101,6,none⟩ = some (.int .i64 a0_6) ∧ w'.cell? ⟨gb101,7,none⟩ = some (.slice A0_7 l0_7.length c0_7) ∧ w'.cell? ⟨gb101,8,none⟩ = some (.slice A0_8 l0_8.length c0_8)) ∧ (w'.heap[gb101]? = some (.cells #[.int .i64 a0_0,.bool a0_1,.int .i64 a0_2,.int .i64 a0_3,.int .i64 a0_4,.int .i64 a0_5,.int .i64 a0_6,.slice A0_7 l0_7.length c0_7,.slice A0_8 l0_8.length c0_8] 25 (0,0))) ∧ (w'.heap[gb102]? = some (.cells #[.int .i64 0,.bool false,.int .i64 0,.int .i64 0,.int .i64 0,.int .i64 0,.int .i64 0,.slice none 0 0,.slice none 0 0] 25 (0,0))) ∧ (w'.heap[s_]? = some (.cells #[.int .i64 0,.bool false,.int .i64 0,.int .i64 0,.int .i64 0,.int .i64 0,.int .i64 0,.slice none 0 0,.slice none 0 0] 25 (0,0))) ∧ (w.heap.size ≤ s_) ∧ (w.heap.size ≤ s_) ∧ (gb101 ≠ s_) ∧ (s_ ≠ gb101) ∧ (gb102 ≠ s_) ∧ (s_ ≠ gb102) ∧ (Below w.heap.size w w')) ?_ ?_
  rotate_left
  · intro hCont
    refine two_ (i := 17) (j := 22) (Ni := some 24) (Nj := some 3) #[true,true,true,true,true,true,true,true,true,true,true,true,true,true,true,true,true,true,true,true,false,false,false,false] #[true,true,true,true,true,true,true,true,true,true,true,true,true,true,true,true,true,false,true,true,false,false,true,false] rfl rfl rfl rfl (two_of HT_.out (by kernel_rfl)) (by decide) (by decide) (fun K hK => ?_) (fun K hK => ?_)
    · skip
      refine goes_ Try.func79 (by kernel_rfl) rfl #[.int .i64 a0_5] (by rfl) rfl rfl (by (try simp only [List.map_toArray,List.map_cons,List.map_nil]); first | done | rfl | (simp only [List.length_drop,List.length_take]; rfl)) ?_
      with_reducible refine (phaetonref22_low.calls a0_5 t103 _ A2.out).mono ?_
      rintro e w' ⟨rfl, ⟨nd, rfl⟩⟩
      refine ⟨_, rfl, ?_⟩
      refine hK.out _ _ ⟨(blk_cell BK101.out 0).trans rfl,(blk_cell BK101.out 1).trans rfl,(blk_cell BK101.out 2).trans rfl,(blk_cell BK101.out 3).trans rfl,(blk_cell BK101.out 4).trans rfl,(blk_cell BK101.out 5).trans rfl,(blk_cell BK101.out 6).trans rfl,(blk_cell BK101.out 7).trans rfl,(blk_cell BK101.out 8).trans rfl⟩ (fun hHeld => ?_)
      clear hK K
      refine norm_ (a' := ?_) ?_ ?_
      rotate_left
      · show Act.put _ (some 24) _ = _
        simp only [Act.put, List.setIfInBounds_toArray, List.set_cons_zero, List.set_cons_succ, i64_w, i32_w]
        rfl
      refine two_ (i := 20) (j := 22) (Ni := some 27) (Nj := some 3) #[true,true,true,true,true,true,true,true,true,true,true,true,true,true,true,true,true,true,true,true,true,false,false,false] #[true,true,true,true,true,true,true,true,true,true,true,true,true,true,true,true,true,true,true,true,false,false,true,false] rfl rfl rfl rfl (two_of HT_.out (by kernel_rfl)) (by decide) (by decide) (fun K hK => ?_) (fun K hK => ?_)
      · skip
        refine goes_ Try.func79 (by kernel_rfl) rfl #[.int .i64 a0_6] (by rfl) rfl rfl (by (try simp only [List.map_toArray,List.map_cons,List.map_nil]); first | done | rfl | (simp only [List.length_drop,List.length_take]; rfl)) ?_
        with_reducible refine (phaetonref22_low.calls a0_6 t104 _ A3.out).mono ?_
        rintro e w' ⟨rfl, ⟨nd, rfl⟩⟩
        refine ⟨_, rfl, ?_⟩
        refine hK.out _ _ ⟨(blk_cell BK101.out 0).trans rfl,(blk_cell BK101.out 1).trans rfl,(blk_cell BK101.out 2).trans rfl,(blk_cell BK101.out 3).trans rfl,(blk_cell BK101.out 4).trans rfl,(blk_cell BK101.out 5).trans rfl,(blk_cell BK101.out 6).trans rfl,(blk_cell BK101.out 7).trans rfl,(blk_cell BK101.out 8).trans rfl⟩ (fun hHeld => ?_)
        clear hK K
        refine norm_ (a' := ?_) ?_ ?_
        rotate_left
        · show Act.put _ (some 27) _ = _
          simp only [Act.put, List.setIfInBounds_toArray, List.set_cons_zero, List.set_cons_succ, i64_w, i32_w]
          rfl
        refine pure_ (i := 21) (N := some 28) (v := ?_) (a' := ?_) #[true,true,true,true,true,true,true,true,true,true,true,true,true,true,true,true,true,true,true,true,true,true,false,false] rfl rfl (any_of HT_.out (by kernel_rfl)) (fun _ _ _ h => h) (Or.inl ⟨by rfl,?_⟩) ?_ ?_
        rotate_left
        · intro w'
          go_simp
          with_reducible rfl
        rotate_left
        · simp only [Act.put, List.setIfInBounds_toArray, List.set_cons_zero, List.set_cons_succ, i64_w, i32_w]
          rfl
        refine one_ (i := 22) (N := some 3) #[true,true,true,true,true,true,true,true,true,true,true,true,true,true,true,true,true,true,true,true,true,true,true,false] rfl rfl (one_of HT_.out (by kernel_rfl)) (by decide) (fun K hK => ?_)
        refine box_step ?hg (N := 3) ?hd (cs := #[.int .i64 0,.bool false,.int .i64 0,.int .i64 0,.int .i64 0,.int .i64 0,.int .i64 0,.slice none 0 0,.slice none 0 0]) (t := 25) ?hr ?_; (case hd => rfl); (case hg => rfl); (case hr => first | (go_simp; done) | (go_simp; rfl))
        intro gb105 hg w8 hbox hb
        have n0_ := Aside0.mk (blk_below (g := gb101) (o := .cells #[.int .i64 a0_0,.bool a0_1,.int .i64 a0_2,.int .i64 a0_3,.int .i64 a0_4,.int .i64 a0_5,.int .i64 a0_6,.slice A0_7 l0_7.length c0_7,.slice A0_8 l0_8.length c0_8] 25 (0,0)) (by (with_reducible repeat (first | refine blk_drewN ?_ _ | refine blk_drew ?_ | refine blk_alloc ?_ _)); exact BK101.out) hb)
        have n1_ := Aside0.mk (blk_below (g := gb102) (o := .cells #[.int .i64 0,.bool false,.int .i64 0,.int .i64 0,.int .i64 0,.int .i64 0,.int .i64 0,.slice none 0 0,.slice none 0 0] 25 (0,0)) (by (with_reducible repeat (first | refine blk_drewN ?_ _ | refine blk_drew ?_ | refine blk_alloc ?_ _)); exact BK102.out) hb)
        have n2_ := Aside0.mk (below_step (by repeat (first | (with_reducible first | exact HB.out | apply below_alloc | apply pw_below_drewN | apply below_drew1 | refine below_set ?_ GE101.out | refine below_set ?_ GE102.out) | exact HB.out)) hb)
        have n3_ := Aside0.mk (hbox)
        have n4_ := Aside0.mk ((by rw [hg]; exact (below_size (by repeat (first | (with_reducible first | exact HB.out | apply below_alloc | apply pw_below_drewN | apply below_drew1 | refine below_set ?_ GE101.out | refine below_set ?_ GE102.out) | exact HB.out))) : w.heap.size ≤ gb105))
        have n5_ := Aside0.mk ((by rw [hg]; exact (below_size (by repeat (first | (with_reducible first | exact HB.out | apply below_alloc | apply pw_below_drewN | apply below_drew1 | refine below_set ?_ GE101.out | refine below_set ?_ GE102.out) | exact HB.out))) : w.heap.size ≤ gb105))
        have n6_ := Aside0.mk ((by rw [hg]; exact Nat.ne_of_lt (blk_lt (g := gb101) (o := .cells #[.int .i64 a0_0,.bool a0_1,.int .i64 a0_2,.int .i64 a0_3,.int .i64 a0_4,.int .i64 a0_5,.int .i64 a0_6,.slice A0_7 l0_7.length c0_7,.slice A0_8 l0_8.length c0_8] 25 (0,0)) (by (with_reducible repeat (first | refine blk_drewN ?_ _ | refine blk_drew ?_ | refine blk_alloc ?_ _)); exact BK101.out)) : gb101 ≠ gb105))
        have n7_ := Aside0.mk ((by rw [hg]; exact Nat.ne_of_gt (blk_lt (g := gb101) (o := .cells #[.int .i64 a0_0,.bool a0_1,.int .i64 a0_2,.int .i64 a0_3,.int .i64 a0_4,.int .i64 a0_5,.int .i64 a0_6,.slice A0_7 l0_7.length c0_7,.slice A0_8 l0_8.length c0_8] 25 (0,0)) (by (with_reducible repeat (first | refine blk_drewN ?_ _ | refine blk_drew ?_ | refine blk_alloc ?_ _)); exact BK101.out)) : gb105 ≠ gb101))
        have n8_ := Aside0.mk ((by rw [hg]; exact Nat.ne_of_lt (blk_lt (g := gb102) (o := .cells #[.int .i64 0,.bool false,.int .i64 0,.int .i64 0,.int .i64 0,.int .i64 0,.int .i64 0,.slice none 0 0,.slice none 0 0] 25 (0,0)) (by (with_reducible repeat (first | refine blk_drewN ?_ _ | refine blk_drew ?_ | refine blk_alloc ?_ _)); exact BK102.out)) : gb102 ≠ gb105))
        have n9_ := Aside0.mk ((by rw [hg]; exact Nat.ne_of_gt (blk_lt (g := gb102) (o := .cells #[.int .i64 0,.bool false,.int .i64 0,.int .i64 0,.int .i64 0,.int .i64 0,.int .i64 0,.slice none 0 0,.slice none 0 0] 25 (0,0)) (by (with_reducible repeat (first | refine blk_drewN ?_ _ | refine blk_drew ?_ | refine blk_alloc ?_ _)); exact BK102.out)) : gb105 ≠ gb102))
        clear BK101
        clear BK102
        clear HB
        have BK101 := n0_
        have BK102 := n1_
        have HB := n2_
        have BK105 := n3_
        have GW105 := n4_
        have GE105 := n5_
        have NB101_105 := n6_
        have NB105_101 := n7_
        have NB102_105 := n8_
        have NB105_102 := n9_
        clear n0_ n1_ n2_ n3_ n4_ n5_ n6_ n7_ n8_ n9_
        clear hb hbox hg
        refine hK.out _ _ ⟨(blk_cell BK101.out 0).trans rfl,(blk_cell BK101.out 1).trans rfl,(blk_cell BK101.out 2).trans rfl,(blk_cell BK101.out 3).trans rfl,(blk_cell BK101.out 4).trans rfl,(blk_cell BK101.out 5).trans rfl,(blk_cell BK101.out 6).trans rfl,(blk_cell BK101.out 7).trans rfl,(blk_cell BK101.out 8).trans rfl⟩ (fun hHeld => ?_)
        clear hK K
        refine norm_ (a' := ?_) ?_ ?_
        rotate_left
        · show Act.put _ (some 3) _ = _
          simp only [Act.put, List.setIfInBounds_toArray, List.set_cons_zero, List.set_cons_succ, i64_w, i32_w]
          rfl
        exact norm_ (by simp only [putAll,Act.put,List.setIfInBounds_toArray,List.set_cons_zero,List.set_cons_succ]) (hCont (gb105) _ ⟨hHeld,(by (with_reducible repeat (first | refine blk_drewN ?_ _ | refine blk_drew ?_ | refine blk_alloc ?_ _)); exact BK101.out),(by (with_reducible repeat (first | refine blk_drewN ?_ _ | refine blk_drew ?_ | refine blk_alloc ?_ _)); exact BK102.out),(by (with_reducible repeat (first | refine blk_drewN ?_ _ | refine blk_drew ?_ | refine blk_alloc ?_ _)); exact BK105.out),GW105.out,GE105.out,NB101_105.out,NB105_101.out,NB102_105.out,NB105_102.out,(by repeat (first | (with_reducible first | exact HB.out | apply below_alloc | apply pw_below_drewN | apply below_drew1 | refine below_set ?_ GE101.out | refine below_set ?_ GE102.out | refine below_set ?_ GE105.out) | exact HB.out))⟩)
      · skip
        refine box_step ?hg (N := 3) ?hd (cs := #[.int .i64 0,.bool false,.int .i64 0,.int .i64 0,.int .i64 0,.int .i64 0,.int .i64 0,.slice none 0 0,.slice none 0 0]) (t := 25) ?hr ?_; (case hd => rfl); (case hg => rfl); (case hr => first | (go_simp; done) | (go_simp; rfl))
        intro gb105 hg w8 hbox hb
        have n0_ := Aside0.mk (blk_below (g := gb101) (o := .cells #[.int .i64 a0_0,.bool a0_1,.int .i64 a0_2,.int .i64 a0_3,.int .i64 a0_4,.int .i64 a0_5,.int .i64 a0_6,.slice A0_7 l0_7.length c0_7,.slice A0_8 l0_8.length c0_8] 25 (0,0)) (by (with_reducible repeat (first | refine blk_drewN ?_ _ | refine blk_drew ?_ | refine blk_alloc ?_ _)); exact BK101.out) hb)
        have n1_ := Aside0.mk (blk_below (g := gb102) (o := .cells #[.int .i64 0,.bool false,.int .i64 0,.int .i64 0,.int .i64 0,.int .i64 0,.int .i64 0,.slice none 0 0,.slice none 0 0] 25 (0,0)) (by (with_reducible repeat (first | refine blk_drewN ?_ _ | refine blk_drew ?_ | refine blk_alloc ?_ _)); exact BK102.out) hb)
        have n2_ := Aside0.mk (below_step (by repeat (first | (with_reducible first | exact HB.out | apply below_alloc | apply pw_below_drewN | apply below_drew1 | refine below_set ?_ GE101.out | refine below_set ?_ GE102.out) | exact HB.out)) hb)
        have n3_ := Aside0.mk (hbox)
        have n4_ := Aside0.mk ((by rw [hg]; exact (below_size (by repeat (first | (with_reducible first | exact HB.out | apply below_alloc | apply pw_below_drewN | apply below_drew1 | refine below_set ?_ GE101.out | refine below_set ?_ GE102.out) | exact HB.out))) : w.heap.size ≤ gb105))
        have n5_ := Aside0.mk ((by rw [hg]; exact (below_size (by repeat (first | (with_reducible first | exact HB.out | apply below_alloc | apply pw_below_drewN | apply below_drew1 | refine below_set ?_ GE101.out | refine below_set ?_ GE102.out) | exact HB.out))) : w.heap.size ≤ gb105))
        have n6_ := Aside0.mk ((by rw [hg]; exact Nat.ne_of_lt (blk_lt (g := gb101) (o := .cells #[.int .i64 a0_0,.bool a0_1,.int .i64 a0_2,.int .i64 a0_3,.int .i64 a0_4,.int .i64 a0_5,.int .i64 a0_6,.slice A0_7 l0_7.length c0_7,.slice A0_8 l0_8.length c0_8] 25 (0,0)) (by (with_reducible repeat (first | refine blk_drewN ?_ _ | refine blk_drew ?_ | refine blk_alloc ?_ _)); exact BK101.out)) : gb101 ≠ gb105))
        have n7_ := Aside0.mk ((by rw [hg]; exact Nat.ne_of_gt (blk_lt (g := gb101) (o := .cells #[.int .i64 a0_0,.bool a0_1,.int .i64 a0_2,.int .i64 a0_3,.int .i64 a0_4,.int .i64 a0_5,.int .i64 a0_6,.slice A0_7 l0_7.length c0_7,.slice A0_8 l0_8.length c0_8] 25 (0,0)) (by (with_reducible repeat (first | refine blk_drewN ?_ _ | refine blk_drew ?_ | refine blk_alloc ?_ _)); exact BK101.out)) : gb105 ≠ gb101))
        have n8_ := Aside0.mk ((by rw [hg]; exact Nat.ne_of_lt (blk_lt (g := gb102) (o := .cells #[.int .i64 0,.bool false,.int .i64 0,.int .i64 0,.int .i64 0,.int .i64 0,.int .i64 0,.slice none 0 0,.slice none 0 0] 25 (0,0)) (by (with_reducible repeat (first | refine blk_drewN ?_ _ | refine blk_drew ?_ | refine blk_alloc ?_ _)); exact BK102.out)) : gb102 ≠ gb105))
        have n9_ := Aside0.mk ((by rw [hg]; exact Nat.ne_of_gt (blk_lt (g := gb102) (o := .cells #[.int .i64 0,.bool false,.int .i64 0,.int .i64 0,.int .i64 0,.int .i64 0,.int .i64 0,.slice none 0 0,.slice none 0 0] 25 (0,0)) (by (with_reducible repeat (first | refine blk_drewN ?_ _ | refine blk_drew ?_ | refine blk_alloc ?_ _)); exact BK102.out)) : gb105 ≠ gb102))
        clear BK101
        clear BK102
        clear HB
        have BK101 := n0_
        have BK102 := n1_
        have HB := n2_
        have BK105 := n3_
        have GW105 := n4_
        have GE105 := n5_
        have NB101_105 := n6_
        have NB105_101 := n7_
        have NB102_105 := n8_
        have NB105_102 := n9_
        clear n0_ n1_ n2_ n3_ n4_ n5_ n6_ n7_ n8_ n9_
        clear hb hbox hg
        refine hK.out _ _ ⟨(blk_cell BK101.out 0).trans rfl,(blk_cell BK101.out 1).trans rfl,(blk_cell BK101.out 2).trans rfl,(blk_cell BK101.out 3).trans rfl,(blk_cell BK101.out 4).trans rfl,(blk_cell BK101.out 5).trans rfl,(blk_cell BK101.out 6).trans rfl,(blk_cell BK101.out 7).trans rfl,(blk_cell BK101.out 8).trans rfl⟩ (fun hHeld => ?_)
        clear hK K
        refine norm_ (a' := ?_) ?_ ?_
        rotate_left
        · show Act.put _ (some 3) _ = _
          simp only [Act.put, List.setIfInBounds_toArray, List.set_cons_zero, List.set_cons_succ, i64_w, i32_w]
          rfl
        refine one_ (i := 20) (N := some 27) #[true,true,true,true,true,true,true,true,true,true,true,true,true,true,true,true,true,true,true,true,true,false,true,false] rfl rfl (one_of HT_.out (by kernel_rfl)) (by decide) (fun K hK => ?_)
        refine goes_ Try.func79 (by kernel_rfl) rfl #[.int .i64 a0_6] (by rfl) rfl rfl (by (try simp only [List.map_toArray,List.map_cons,List.map_nil]); first | done | rfl | (simp only [List.length_drop,List.length_take]; rfl)) ?_
        with_reducible refine (phaetonref22_low.calls a0_6 t104 _ A3.out).mono ?_
        rintro e w' ⟨rfl, ⟨nd, rfl⟩⟩
        refine ⟨_, rfl, ?_⟩
        refine hK.out _ _ ⟨(blk_cell BK101.out 0).trans rfl,(blk_cell BK101.out 1).trans rfl,(blk_cell BK101.out 2).trans rfl,(blk_cell BK101.out 3).trans rfl,(blk_cell BK101.out 4).trans rfl,(blk_cell BK101.out 5).trans rfl,(blk_cell BK101.out 6).trans rfl,(blk_cell BK101.out 7).trans rfl,(blk_cell BK101.out 8).trans rfl⟩ (fun hHeld => ?_)
        clear hK K
        refine norm_ (a' := ?_) ?_ ?_
        rotate_left
        · show Act.put _ (some 27) _ = _
          simp only [Act.put, List.setIfInBounds_toArray, List.set_cons_zero, List.set_cons_succ, i64_w, i32_w]
          rfl
        refine pure_ (i := 21) (N := some 28) (v := ?_) (a' := ?_) #[true,true,true,true,true,true,true,true,true,true,true,true,true,true,true,true,true,true,true,true,true,true,true,false] rfl rfl (any_of HT_.out (by kernel_rfl)) (fun _ _ _ h => h) (Or.inl ⟨by rfl,?_⟩) ?_ ?_
        rotate_left
        · intro w'
          go_simp
          with_reducible rfl
        rotate_left
        · simp only [Act.put, List.setIfInBounds_toArray, List.set_cons_zero, List.set_cons_succ, i64_w, i32_w]
          rfl
        exact norm_ (by simp only [putAll,Act.put,List.setIfInBounds_toArray,List.set_cons_zero,List.set_cons_succ]) (hCont (gb105) _ ⟨hHeld,(by (with_reducible repeat (first | refine blk_drewN ?_ _ | refine blk_drew ?_ | refine blk_alloc ?_ _)); exact BK101.out),(by (with_reducible repeat (first | refine blk_drewN ?_ _ | refine blk_drew ?_ | refine blk_alloc ?_ _)); exact BK102.out),(by (with_reducible repeat (first | refine blk_drewN ?_ _ | refine blk_drew ?_ | refine blk_alloc ?_ _)); exact BK105.out),GW105.out,GE105.out,NB101_105.out,NB105_101.out,NB102_105.out,NB105_102.out,(by repeat (first | (with_reducible first | exact HB.out | apply below_alloc | apply pw_below_drewN | apply below_drew1 | refine below_set ?_ GE101.out | refine below_set ?_ GE102.out | refine below_set ?_ GE105.out) | exact HB.out))⟩)
    · skip
      refine box_step ?hg (N := 3) ?hd (cs := #[.int .i64 0,.bool false,.int .i64 0,.int .i64 0,.int .i64 0,.int .i64 0,.int .i64 0,.slice none 0 0,.slice none 0 0]) (t := 25) ?hr ?_; (case hd => rfl); (case hg => rfl); (case hr => first | (go_simp; done) | (go_simp; rfl))
      intro gb105 hg w8 hbox hb
      have n0_ := Aside0.mk (blk_below (g := gb101) (o := .cells #[.int .i64 a0_0,.bool a0_1,.int .i64 a0_2,.int .i64 a0_3,.int .i64 a0_4,.int .i64 a0_5,.int .i64 a0_6,.slice A0_7 l0_7.length c0_7,.slice A0_8 l0_8.length c0_8] 25 (0,0)) (by (with_reducible repeat (first | refine blk_drewN ?_ _ | refine blk_drew ?_ | refine blk_alloc ?_ _)); exact BK101.out) hb)
      have n1_ := Aside0.mk (blk_below (g := gb102) (o := .cells #[.int .i64 0,.bool false,.int .i64 0,.int .i64 0,.int .i64 0,.int .i64 0,.int .i64 0,.slice none 0 0,.slice none 0 0] 25 (0,0)) (by (with_reducible repeat (first | refine blk_drewN ?_ _ | refine blk_drew ?_ | refine blk_alloc ?_ _)); exact BK102.out) hb)
      have n2_ := Aside0.mk (below_step (by repeat (first | (with_reducible first | exact HB.out | apply below_alloc | apply pw_below_drewN | apply below_drew1 | refine below_set ?_ GE101.out | refine below_set ?_ GE102.out) | exact HB.out)) hb)
      have n3_ := Aside0.mk (hbox)
      have n4_ := Aside0.mk ((by rw [hg]; exact (below_size (by repeat (first | (with_reducible first | exact HB.out | apply below_alloc | apply pw_below_drewN | apply below_drew1 | refine below_set ?_ GE101.out | refine below_set ?_ GE102.out) | exact HB.out))) : w.heap.size ≤ gb105))
      have n5_ := Aside0.mk ((by rw [hg]; exact (below_size (by repeat (first | (with_reducible first | exact HB.out | apply below_alloc | apply pw_below_drewN | apply below_drew1 | refine below_set ?_ GE101.out | refine below_set ?_ GE102.out) | exact HB.out))) : w.heap.size ≤ gb105))
      have n6_ := Aside0.mk ((by rw [hg]; exact Nat.ne_of_lt (blk_lt (g := gb101) (o := .cells #[.int .i64 a0_0,.bool a0_1,.int .i64 a0_2,.int .i64 a0_3,.int .i64 a0_4,.int .i64 a0_5,.int .i64 a0_6,.slice A0_7 l0_7.length c0_7,.slice A0_8 l0_8.length c0_8] 25 (0,0)) (by (with_reducible repeat (first | refine blk_drewN ?_ _ | refine blk_drew ?_ | refine blk_alloc ?_ _)); exact BK101.out)) : gb101 ≠ gb105))
      have n7_ := Aside0.mk ((by rw [hg]; exact Nat.ne_of_gt (blk_lt (g := gb101) (o := .cells #[.int .i64 a0_0,.bool a0_1,.int .i64 a0_2,.int .i64 a0_3,.int .i64 a0_4,.int .i64 a0_5,.int .i64 a0_6,.slice A0_7 l0_7.length c0_7,.slice A0_8 l0_8.length c0_8] 25 (0,0)) (by (with_reducible repeat (first | refine blk_drewN ?_ _ | refine blk_drew ?_ | refine blk_alloc ?_ _)); exact BK101.out)) : gb105 ≠ gb101))
      have n8_ := Aside0.mk ((by rw [hg]; exact Nat.ne_of_lt (blk_lt (g := gb102) (o := .cells #[.int .i64 0,.bool false,.int .i64 0,.int .i64 0,.int .i64 0,.int .i64 0,.int .i64 0,.slice none 0 0,.slice none 0 0] 25 (0,0)) (by (with_reducible repeat (first | refine blk_drewN ?_ _ | refine blk_drew ?_ | refine blk_alloc ?_ _)); exact BK102.out)) : gb102 ≠ gb105))
      have n9_ := Aside0.mk ((by rw [hg]; exact Nat.ne_of_gt (blk_lt (g := gb102) (o := .cells #[.int .i64 0,.bool false,.int .i64 0,.int .i64 0,.int .i64 0,.int .i64 0,.int .i64 0,.slice none 0 0,.slice none 0 0] 25 (0,0)) (by (with_reducible repeat (first | refine blk_drewN ?_ _ | refine blk_drew ?_ | refine blk_alloc ?_ _)); exact BK102.out)) : gb105 ≠ gb102))
      clear BK101
      clear BK102
      clear HB
      have BK101 := n0_
      have BK102 := n1_
      have HB := n2_
      have BK105 := n3_
      have GW105 := n4_
      have GE105 := n5_
      have NB101_105 := n6_
      have NB105_101 := n7_
      have NB102_105 := n8_
      have NB105_102 := n9_
      clear n0_ n1_ n2_ n3_ n4_ n5_ n6_ n7_ n8_ n9_
      clear hb hbox hg
      refine hK.out _ _ ⟨(blk_cell BK101.out 0).trans rfl,(blk_cell BK101.out 1).trans rfl,(blk_cell BK101.out 2).trans rfl,(blk_cell BK101.out 3).trans rfl,(blk_cell BK101.out 4).trans rfl,(blk_cell BK101.out 5).trans rfl,(blk_cell BK101.out 6).trans rfl,(blk_cell BK101.out 7).trans rfl,(blk_cell BK101.out 8).trans rfl⟩ (fun hHeld => ?_)
      clear hK K
      refine norm_ (a' := ?_) ?_ ?_
      rotate_left
      · show Act.put _ (some 3) _ = _
        simp only [Act.put, List.setIfInBounds_toArray, List.set_cons_zero, List.set_cons_succ, i64_w, i32_w]
        rfl
      refine one_ (i := 17) (N := some 24) #[true,true,true,true,true,true,true,true,true,true,true,true,true,true,true,true,true,true,true,true,false,false,true,false] rfl rfl (one_of HT_.out (by kernel_rfl)) (by decide) (fun K hK => ?_)
      refine goes_ Try.func79 (by kernel_rfl) rfl #[.int .i64 a0_5] (by rfl) rfl rfl (by (try simp only [List.map_toArray,List.map_cons,List.map_nil]); first | done | rfl | (simp only [List.length_drop,List.length_take]; rfl)) ?_
      with_reducible refine (phaetonref22_low.calls a0_5 t103 _ A2.out).mono ?_
      rintro e w' ⟨rfl, ⟨nd, rfl⟩⟩
      refine ⟨_, rfl, ?_⟩
      refine hK.out _ _ ⟨(blk_cell BK101.out 0).trans rfl,(blk_cell BK101.out 1).trans rfl,(blk_cell BK101.out 2).trans rfl,(blk_cell BK101.out 3).trans rfl,(blk_cell BK101.out 4).trans rfl,(blk_cell BK101.out 5).trans rfl,(blk_cell BK101.out 6).trans rfl,(blk_cell BK101.out 7).trans rfl,(blk_cell BK101.out 8).trans rfl⟩ (fun hHeld => ?_)
      clear hK K
      refine norm_ (a' := ?_) ?_ ?_
      rotate_left
      · show Act.put _ (some 24) _ = _
        simp only [Act.put, List.setIfInBounds_toArray, List.set_cons_zero, List.set_cons_succ, i64_w, i32_w]
        rfl
      refine one_ (i := 20) (N := some 27) #[true,true,true,true,true,true,true,true,true,true,true,true,true,true,true,true,true,true,true,true,true,false,true,false] rfl rfl (one_of HT_.out (by kernel_rfl)) (by decide) (fun K hK => ?_)
      refine goes_ Try.func79 (by kernel_rfl) rfl #[.int .i64 a0_6] (by rfl) rfl rfl (by (try simp only [List.map_toArray,List.map_cons,List.map_nil]); first | done | rfl | (simp only [List.length_drop,List.length_take]; rfl)) ?_
      with_reducible refine (phaetonref22_low.calls a0_6 t104 _ A3.out).mono ?_
      rintro e w' ⟨rfl, ⟨nd, rfl⟩⟩
      refine ⟨_, rfl, ?_⟩
      refine hK.out _ _ ⟨(blk_cell BK101.out 0).trans rfl,(blk_cell BK101.out 1).trans rfl,(blk_cell BK101.out 2).trans rfl,(blk_cell BK101.out 3).trans rfl,(blk_cell BK101.out 4).trans rfl,(blk_cell BK101.out 5).trans rfl,(blk_cell BK101.out 6).trans rfl,(blk_cell BK101.out 7).trans rfl,(blk_cell BK101.out 8).trans rfl⟩ (fun hHeld => ?_)
      clear hK K
      refine norm_ (a' := ?_) ?_ ?_
      rotate_left
      · show Act.put _ (some 27) _ = _
        simp only [Act.put, List.setIfInBounds_toArray, List.set_cons_zero, List.set_cons_succ, i64_w, i32_w]
        rfl
      refine pure_ (i := 21) (N := some 28) (v := ?_) (a' := ?_) #[true,true,true,true,true,true,true,true,true,true,true,true,true,true,true,true,true,true,true,true,true,true,true,false] rfl rfl (any_of HT_.out (by kernel_rfl)) (fun _ _ _ h => h) (Or.inl ⟨by rfl,?_⟩) ?_ ?_
      rotate_left
      · intro w'
        go_simp
        with_reducible rfl
      rotate_left
      · simp only [Act.put, List.setIfInBounds_toArray, List.set_cons_zero, List.set_cons_succ, i64_w, i32_w]
        rfl
      exact norm_ (by simp only [putAll,Act.put,List.setIfInBounds_toArray,List.set_cons_zero,List.set_cons_succ]) (hCont (gb105) _ ⟨hHeld,(by (with_reducible repeat (first | refine blk_drewN ?_ _ | refine blk_drew ?_ | refine blk_alloc ?_ _)); exact BK101.out),(by (with_reducible repeat (first | refine blk_drewN ?_ _ | refine blk_drew ?_ | refine blk_alloc ?_ _)); exact BK102.out),(by (with_reducible repeat (first | refine blk_drewN ?_ _ | refine blk_drew ?_ | refine blk_alloc ?_ _)); exact BK105.out),GW105.out,GE105.out,NB101_105.out,NB105_101.out,NB102_105.out,NB105_102.out,(by repeat (first | (with_reducible first | exact HB.out | apply below_alloc | apply pw_below_drewN | apply below_drew1 | refine below_set ?_ GE101.out | refine below_set ?_ GE102.out | refine below_set ?_ GE105.out) | exact HB.out))⟩)
  rintro gb105 w9 ⟨hS_, h0_, h1_, h2_, h3_, h4_, h5_, h6_, h7_, h8_, h9_⟩
  have n0_ : Aside0 (w9.heap[gb101]? = some (.cells #[.int .i64 a0_0,.bool a0_1,.int .i64 a0_2,.int .i64 a0_3,.int .i64 a0_4,.int .i64 a0_5,.int .i64 a0_6,.slice A0_7 l0_7.length c0_7,.slice A0_8 l0_8.length c0_8] 25 (0,0))) := ⟨h0_⟩
  have n1_ : Aside0 (w9.heap[gb102]? = some (.cells #[.int .i64 0,.bool false,.int .i64 0,.int .i64 0,.int .i64 0,.int .i64 0,.int .i64 0,.slice none 0 0,.slice none 0 0] 25 (0,0))) := ⟨h1_⟩
  have n2_ : Aside0 (w9.heap[gb105]? = some (.cells #[.int .i64 0,.bool false,.int .i64 0,.int .i64 0,.int .i64 0,.int .i64 0,.int .i64 0,.slice none 0 0,.slice none 0 0] 25 (0,0))) := ⟨h2_⟩
  have n3_ : Aside0 (w.heap.size ≤ gb105) := ⟨h3_⟩
  have n4_ : Aside0 (w.heap.size ≤ gb105) := ⟨h4_⟩
  have n5_ : Aside0 (gb101 ≠ gb105) := ⟨h5_⟩
  have n6_ : Aside0 (gb105 ≠ gb101) := ⟨h6_⟩
  have n7_ : Aside0 (gb102 ≠ gb105) := ⟨h7_⟩
  have n8_ : Aside0 (gb105 ≠ gb102) := ⟨h8_⟩
  have n9_ : Aside0 (Below w.heap.size w w9) := ⟨h9_⟩
  clear BK101
  clear BK102
  clear HB
  clear h0_ h1_ h2_ h3_ h4_ h5_ h6_ h7_ h8_ h9_
  have BK101 := n0_
  have BK102 := n1_
  have BK105 := n2_
  have GW105 := n3_
  have GE105 := n4_
  have NB101_105 := n5_
  have NB105_101 := n6_
  have NB102_105 := n7_
  have NB105_102 := n8_
  have HB := n9_
  clear n0_ n1_ n2_ n3_ n4_ n5_ n6_ n7_ n8_ n9_
  have hHeld : w9.cell? ⟨gb101,0,none⟩ = some (.int .i64 a0_0) ∧ w9.cell? ⟨gb101,1,none⟩ = some (.bool a0_1) ∧ w9.cell? ⟨gb101,2,none⟩ = some (.int .i64 a0_2) ∧ w9.cell? ⟨gb101,3,none⟩ = some (.int .i64 a0_3) ∧ w9.cell? ⟨gb101,4,none⟩ = some (.int .i64 a0_4) ∧ w9.cell? ⟨gb101,5,none⟩ = some (.int .i64 a0_5) ∧ w9.cell? ⟨gb101,6,none⟩ = some (.int .i64 a0_6) ∧ w9.cell? ⟨gb101,7,none⟩ = some (.slice A0_7 l0_7.length c0_7) ∧ w9.cell? ⟨gb101,8,none⟩ = some (.slice A0_8 l0_8.length c0_8) := hS_
  refine norm_ (a' := ?_) ?_ ?_
  rotate_left
  · simp only [putAll, Act.put, List.setIfInBounds_toArray, List.set_cons_zero, List.set_cons_succ]
    rfl
  refine one_ (i := 23) (N := none) #[true,true,true,true,true,true,true,true,true,true,true,true,true,true,true,true,true,true,true,true,true,true,true,true] rfl rfl (one_of HT_.out (by kernel_rfl)) (by decide) (fun K hK => ?_)
  have hs10 : w9.cell? ⟨gb105, 0, none⟩ = some (.int .i64 0) := (blk_cell BK105.out 0).trans rfl
  have hfs10 := blk_frozen BK105.out 0
  have hns10_0 := NB101_105.out
  have hns10_1 := NB102_105.out
  have hms10_0 := NB105_101.out
  have hms10_1 := NB105_102.out
  have hs11 : w9.cell? ⟨gb105, 1, none⟩ = some (.bool false) := (blk_cell BK105.out 1).trans rfl
  have hfs11 := blk_frozen BK105.out 1
  have hns11_0 := NB101_105.out
  have hns11_1 := NB102_105.out
  have hms11_0 := NB105_101.out
  have hms11_1 := NB105_102.out
  have hs12 : w9.cell? ⟨gb105, 2, none⟩ = some (.int .i64 0) := (blk_cell BK105.out 2).trans rfl
  have hfs12 := blk_frozen BK105.out 2
  have hns12_0 := NB101_105.out
  have hns12_1 := NB102_105.out
  have hms12_0 := NB105_101.out
  have hms12_1 := NB105_102.out
  have hs13 : w9.cell? ⟨gb105, 3, none⟩ = some (.int .i64 0) := (blk_cell BK105.out 3).trans rfl
  have hfs13 := blk_frozen BK105.out 3
  have hns13_0 := NB101_105.out
  have hns13_1 := NB102_105.out
  have hms13_0 := NB105_101.out
  have hms13_1 := NB105_102.out
  have hs14 : w9.cell? ⟨gb105, 4, none⟩ = some (.int .i64 0) := (blk_cell BK105.out 4).trans rfl
  have hfs14 := blk_frozen BK105.out 4
  have hns14_0 := NB101_105.out
  have hns14_1 := NB102_105.out
  have hms14_0 := NB105_101.out
  have hms14_1 := NB105_102.out
  have hs15 : w9.cell? ⟨gb105, 5, none⟩ = some (.int .i64 0) := (blk_cell BK105.out 5).trans rfl
  have hfs15 := blk_frozen BK105.out 5
  have hns15_0 := NB101_105.out
  have hns15_1 := NB102_105.out
  have hms15_0 := NB105_101.out
  have hms15_1 := NB105_102.out
  have hs16 : w9.cell? ⟨gb105, 6, none⟩ = some (.int .i64 0) := (blk_cell BK105.out 6).trans rfl
  have hfs16 := blk_frozen BK105.out 6
  have hns16_0 := NB101_105.out
  have hns16_1 := NB102_105.out
  have hms16_0 := NB105_101.out
  have hms16_1 := NB105_102.out
  have hs17 : w9.cell? ⟨gb105, 7, none⟩ = some (.slice none 0 0) := (blk_cell BK105.out 7).trans rfl
  have hfs17 := blk_frozen BK105.out 7
  have hns17_0 := NB101_105.out
  have hns17_1 := NB102_105.out
  have hms17_0 := NB105_101.out
  have hms17_1 := NB105_102.out
  have hs18 : w9.cell? ⟨gb105, 8, none⟩ = some (.slice none 0 0) := (blk_cell BK105.out 8).trans rfl
  have hfs18 := blk_frozen BK105.out 8
  have hns18_0 := NB101_105.out
  have hns18_1 := NB102_105.out
  have hms18_0 := NB105_101.out
  have hms18_1 := NB105_102.out
  refine skip_ (w1 := ?_) (by rfl) rfl ?_ ?_
  rotate_left
  · go_simp
    rfl
  refine hK.out _ _ ⟨((cell_far (p := ⟨gb105,_,none⟩) NB101_105.out _).trans (((cell_far (p := ⟨gb105,_,none⟩) NB101_105.out _).trans (((cell_far (p := ⟨gb105,_,none⟩) NB101_105.out _).trans (((cell_far (p := ⟨gb105,_,none⟩) NB101_105.out _).trans (((cell_far (p := ⟨gb105,_,none⟩) NB101_105.out _).trans (((cell_far (p := ⟨gb105,_,none⟩) NB101_105.out _).trans (((cell_far (p := ⟨gb105,_,none⟩) NB101_105.out _).trans (((cell_far (p := ⟨gb105,_,none⟩) NB101_105.out _).trans (((cell_far (p := ⟨gb105,_,none⟩) NB101_105.out _).trans (hHeld.1)))))))))))))))))),((cell_far (p := ⟨gb105,_,none⟩) NB101_105.out _).trans (((cell_far (p := ⟨gb105,_,none⟩) NB101_105.out _).trans (((cell_far (p := ⟨gb105,_,none⟩) NB101_105.out _).trans (((cell_far (p := ⟨gb105,_,none⟩) NB101_105.out _).trans (((cell_far (p := ⟨gb105,_,none⟩) NB101_105.out _).trans (((cell_far (p := ⟨gb105,_,none⟩) NB101_105.out _).trans (((cell_far (p := ⟨gb105,_,none⟩) NB101_105.out _).trans (((cell_far (p := ⟨gb105,_,none⟩) NB101_105.out _).trans (((cell_far (p := ⟨gb105,_,none⟩) NB101_105.out _).trans (hHeld.2.1)))))))))))))))))),((cell_far (p := ⟨gb105,_,none⟩) NB101_105.out _).trans (((cell_far (p := ⟨gb105,_,none⟩) NB101_105.out _).trans (((cell_far (p := ⟨gb105,_,none⟩) NB101_105.out _).trans (((cell_far (p := ⟨gb105,_,none⟩) NB101_105.out _).trans (((cell_far (p := ⟨gb105,_,none⟩) NB101_105.out _).trans (((cell_far (p := ⟨gb105,_,none⟩) NB101_105.out _).trans (((cell_far (p := ⟨gb105,_,none⟩) NB101_105.out _).trans (((cell_far (p := ⟨gb105,_,none⟩) NB101_105.out _).trans (((cell_far (p := ⟨gb105,_,none⟩) NB101_105.out _).trans (hHeld.2.2.1)))))))))))))))))),((cell_far (p := ⟨gb105,_,none⟩) NB101_105.out _).trans (((cell_far (p := ⟨gb105,_,none⟩) NB101_105.out _).trans (((cell_far (p := ⟨gb105,_,none⟩) NB101_105.out _).trans (((cell_far (p := ⟨gb105,_,none⟩) NB101_105.out _).trans (((cell_far (p := ⟨gb105,_,none⟩) NB101_105.out _).trans (((cell_far (p := ⟨gb105,_,none⟩) NB101_105.out _).trans (((cell_far (p := ⟨gb105,_,none⟩) NB101_105.out _).trans (((cell_far (p := ⟨gb105,_,none⟩) NB101_105.out _).trans (((cell_far (p := ⟨gb105,_,none⟩) NB101_105.out _).trans (hHeld.2.2.2.1)))))))))))))))))),((cell_far (p := ⟨gb105,_,none⟩) NB101_105.out _).trans (((cell_far (p := ⟨gb105,_,none⟩) NB101_105.out _).trans (((cell_far (p := ⟨gb105,_,none⟩) NB101_105.out _).trans (((cell_far (p := ⟨gb105,_,none⟩) NB101_105.out _).trans (((cell_far (p := ⟨gb105,_,none⟩) NB101_105.out _).trans (((cell_far (p := ⟨gb105,_,none⟩) NB101_105.out _).trans (((cell_far (p := ⟨gb105,_,none⟩) NB101_105.out _).trans (((cell_far (p := ⟨gb105,_,none⟩) NB101_105.out _).trans (((cell_far (p := ⟨gb105,_,none⟩) NB101_105.out _).trans (hHeld.2.2.2.2.1)))))))))))))))))),((cell_far (p := ⟨gb105,_,none⟩) NB101_105.out _).trans (((cell_far (p := ⟨gb105,_,none⟩) NB101_105.out _).trans (((cell_far (p := ⟨gb105,_,none⟩) NB101_105.out _).trans (((cell_far (p := ⟨gb105,_,none⟩) NB101_105.out _).trans (((cell_far (p := ⟨gb105,_,none⟩) NB101_105.out _).trans (((cell_far (p := ⟨gb105,_,none⟩) NB101_105.out _).trans (((cell_far (p := ⟨gb105,_,none⟩) NB101_105.out _).trans (((cell_far (p := ⟨gb105,_,none⟩) NB101_105.out _).trans (((cell_far (p := ⟨gb105,_,none⟩) NB101_105.out _).trans (hHeld.2.2.2.2.2.1)))))))))))))))))),((cell_far (p := ⟨gb105,_,none⟩) NB101_105.out _).trans (((cell_far (p := ⟨gb105,_,none⟩) NB101_105.out _).trans (((cell_far (p := ⟨gb105,_,none⟩) NB101_105.out _).trans (((cell_far (p := ⟨gb105,_,none⟩) NB101_105.out _).trans (((cell_far (p := ⟨gb105,_,none⟩) NB101_105.out _).trans (((cell_far (p := ⟨gb105,_,none⟩) NB101_105.out _).trans (((cell_far (p := ⟨gb105,_,none⟩) NB101_105.out _).trans (((cell_far (p := ⟨gb105,_,none⟩) NB101_105.out _).trans (((cell_far (p := ⟨gb105,_,none⟩) NB101_105.out _).trans (hHeld.2.2.2.2.2.2.1)))))))))))))))))),((cell_far (p := ⟨gb105,_,none⟩) NB101_105.out _).trans (((cell_far (p := ⟨gb105,_,none⟩) NB101_105.out _).trans (((cell_far (p := ⟨gb105,_,none⟩) NB101_105.out _).trans (((cell_far (p := ⟨gb105,_,none⟩) NB101_105.out _).trans (((cell_far (p := ⟨gb105,_,none⟩) NB101_105.out _).trans (((cell_far (p := ⟨gb105,_,none⟩) NB101_105.out _).trans (((cell_far (p := ⟨gb105,_,none⟩) NB101_105.out _).trans (((cell_far (p := ⟨gb105,_,none⟩) NB101_105.out _).trans (((cell_far (p := ⟨gb105,_,none⟩) NB101_105.out _).trans (hHeld.2.2.2.2.2.2.2.1)))))))))))))))))),((cell_far (p := ⟨gb105,_,none⟩) NB101_105.out _).trans (((cell_far (p := ⟨gb105,_,none⟩) NB101_105.out _).trans (((cell_far (p := ⟨gb105,_,none⟩) NB101_105.out _).trans (((cell_far (p := ⟨gb105,_,none⟩) NB101_105.out _).trans (((cell_far (p := ⟨gb105,_,none⟩) NB101_105.out _).trans (((cell_far (p := ⟨gb105,_,none⟩) NB101_105.out _).trans (((cell_far (p := ⟨gb105,_,none⟩) NB101_105.out _).trans (((cell_far (p := ⟨gb105,_,none⟩) NB101_105.out _).trans (((cell_far (p := ⟨gb105,_,none⟩) NB101_105.out _).trans (hHeld.2.2.2.2.2.2.2.2))))))))))))))))))⟩ (fun hHeld => ?_)
  clear hK K
  refine done_ (done_of HT_.out (by kernel_rfl)) ?_
  have hnb19 := NB101_102.out
  have hnc19 := NB102_101.out
  have hnb20 := NB101_105.out
  have hnc20 := NB105_101.out
  have hcz21_0 : w9.cell? ⟨gb101, 0, none⟩ = some (.int .i64 a0_0) := (blk_cell BK101.out 0).trans rfl
  have hcz21_1 : w9.cell? ⟨gb101, 1, none⟩ = some (.bool a0_1) := (blk_cell BK101.out 1).trans rfl
  have hcz21_2 : w9.cell? ⟨gb101, 2, none⟩ = some (.int .i64 a0_2) := (blk_cell BK101.out 2).trans rfl
  have hcz21_3 : w9.cell? ⟨gb101, 3, none⟩ = some (.int .i64 a0_3) := (blk_cell BK101.out 3).trans rfl
  have hcz21_4 : w9.cell? ⟨gb101, 4, none⟩ = some (.int .i64 a0_4) := (blk_cell BK101.out 4).trans rfl
  have hcz21_5 : w9.cell? ⟨gb101, 5, none⟩ = some (.int .i64 a0_5) := (blk_cell BK101.out 5).trans rfl
  have hcz21_6 : w9.cell? ⟨gb101, 6, none⟩ = some (.int .i64 a0_6) := (blk_cell BK101.out 6).trans rfl
  have hcz21_7 : w9.cell? ⟨gb101, 7, none⟩ = some (.slice A0_7 l0_7.length c0_7) := (blk_cell BK101.out 7).trans rfl
  have hcz21_8 : w9.cell? ⟨gb101, 8, none⟩ = some (.slice A0_8 l0_8.length c0_8) := (blk_cell BK101.out 8).trans rfl
  have hfz21_0 := blk_frozen BK101.out 0
  have hfz21_1 := blk_frozen BK101.out 1
  have hfz21_2 := blk_frozen BK101.out 2
  have hfz21_3 := blk_frozen BK101.out 3
  have hfz21_4 := blk_frozen BK101.out 4
  have hfz21_5 := blk_frozen BK101.out 5
  have hfz21_6 := blk_frozen BK101.out 6
  have hfz21_7 := blk_frozen BK101.out 7
  have hfz21_8 := blk_frozen BK101.out 8
  go_upto_if 31 with (fail)
  go_cut [] (fun wc => ∃ (kq : Nat) (x106002_3 : Int),Aside0 (phaetonref22_Made.j0 kq a0_0 a0_1 a0_2 a0_3 a0_4 a0_5 a0_6 l0_7 l0_8 (wrap64 (1 + (Int.tmod (Go.bits .and .i64 a0_0 65535) 3))) a0_1 x106002_3 (Int.tmod (Go.bits .and .i64 a0_3 65535) 13) (Int.tmod (Go.bits .and .i64 a0_4 65535) 52) t103 t104 = some (r1,r2,r3,r4,r5,r6,r7,r8,r9)) ∧ Aside0 (kq ≤ k) ∧ Aside0 (wc.heap[gb101]? = some (.cells #[.int .i64 a0_0,.bool a0_1,.int .i64 a0_2,.int .i64 a0_3,.int .i64 a0_4,.int .i64 a0_5,.int .i64 a0_6,(.slice A0_7 l0_7.length c0_7),(.slice A0_8 l0_8.length c0_8)] 25 (0,0))) ∧ Aside0 (wc.heap[gb102]? = some (.cells #[.int .i64 0,.bool false,.int .i64 0,.int .i64 0,.int .i64 0,.int .i64 0,.int .i64 0,(.slice none 0 0),(.slice none 0 0)] 25 (0,0))) ∧ Aside0 (wc.heap[gb105]? = some (.cells #[.int .i64 (wrap64 (1 + (Int.tmod (Go.bits .and .i64 a0_0 65535) 3))),.bool a0_1,.int .i64 x106002_3,.int .i64 (Int.tmod (Go.bits .and .i64 a0_3 65535) 13),.int .i64 (Int.tmod (Go.bits .and .i64 a0_4 65535) 52),.int .i64 t103,.int .i64 t104,(.slice none 0 0),(.slice none 0 0)] 25 (0,0))) ∧ Aside0 (Below w.heap.size w wc))
  case first =>
    have H := HC4.out
    clear HC4
    by_cases c22 : a0_2 ≥ 0
    · rw [if_pos c22] at H
      have c22b0 : decide (0 ≤ a0_2) = true := decide_eq_true c22
      clear c22
      (first | rw [c22b0] | (simp only [i64_w, i32_w]; rw [c22b0]) | skip)
      replace H := Option.bind_eq_some_iff.mp H
      obtain ⟨t106, A230, H⟩ := H
      replace H : (phaetonref22_Made.j0 k a0_0 a0_1 a0_2 a0_3 a0_4 a0_5 a0_6 l0_7 l0_8 (wrap64 (1 + (Int.tmod (Go.bits .and .i64 a0_0 65535) 3))) a0_1 t106 (Int.tmod (Go.bits .and .i64 a0_3 65535) 13) (Int.tmod (Go.bits .and .i64 a0_4 65535) 52) t103 t104) = some (r1,r2,r3,r4,r5,r6,r7,r8,r9) := H
      have A23 := Aside0.mk A230
      clear A230
      have H' := Aside0.mk H
      clear H
      have hnb24 := NB101_102.out
      have hnc24 := NB102_101.out
      have hnb25 := NB101_105.out
      have hnc25 := NB105_101.out
      have hcz26_0 : w9.cell? ⟨gb101, 0, none⟩ = some (.int .i64 a0_0) := (blk_cell BK101.out 0).trans rfl
      have hcz26_1 : w9.cell? ⟨gb101, 1, none⟩ = some (.bool a0_1) := (blk_cell BK101.out 1).trans rfl
      have hcz26_2 : w9.cell? ⟨gb101, 2, none⟩ = some (.int .i64 a0_2) := (blk_cell BK101.out 2).trans rfl
      have hcz26_3 : w9.cell? ⟨gb101, 3, none⟩ = some (.int .i64 a0_3) := (blk_cell BK101.out 3).trans rfl
      have hcz26_4 : w9.cell? ⟨gb101, 4, none⟩ = some (.int .i64 a0_4) := (blk_cell BK101.out 4).trans rfl
      have hcz26_5 : w9.cell? ⟨gb101, 5, none⟩ = some (.int .i64 a0_5) := (blk_cell BK101.out 5).trans rfl
      have hcz26_6 : w9.cell? ⟨gb101, 6, none⟩ = some (.int .i64 a0_6) := (blk_cell BK101.out 6).trans rfl
      have hcz26_7 : w9.cell? ⟨gb101, 7, none⟩ = some (.slice A0_7 l0_7.length c0_7) := (blk_cell BK101.out 7).trans rfl
      have hcz26_8 : w9.cell? ⟨gb101, 8, none⟩ = some (.slice A0_8 l0_8.length c0_8) := (blk_cell BK101.out 8).trans rfl
      have hfz26_0 := blk_frozen BK101.out 0
      have hfz26_1 := blk_frozen BK101.out 1
      have hfz26_2 := blk_frozen BK101.out 2
      have hfz26_3 := blk_frozen BK101.out 3
      have hfz26_4 := blk_frozen BK101.out 4
      have hfz26_5 := blk_frozen BK101.out 5
      have hfz26_6 := blk_frozen BK101.out 6
      have hfz26_7 := blk_frozen BK101.out 7
      have hfz26_8 := blk_frozen BK101.out 8
      go_wp2_with (first | ((with_reducible refine gate_callee (f := 79) rfl ?_); refine goesL_ (some 34) rfl rfl Try.func79 (by kernel_rfl) rfl #[.int .i64 a0_2] rfl (by (try simp only [List.map_toArray,List.map_cons,List.map_nil]); first | done | rfl | (simp only [List.length_drop,List.length_take]; rfl)) ?_; (with_reducible refine (phaetonref22_low.calls a0_2 t106 _ A23.out).mono ?_); rintro e w' ⟨rfl,⟨nd,rfl⟩⟩; refine ⟨_,rfl,?_⟩; have hnb27 := NB105_102.out; have hnc27 := NB102_105.out; have hcz28_0 : w9.cell? ⟨gb105,0,none⟩ = some (.int .i64 0) := (blk_cell BK105.out 0).trans rfl; have hcz28_1 : w9.cell? ⟨gb105,1,none⟩ = some (.bool false) := (blk_cell BK105.out 1).trans rfl; have hcz28_2 : w9.cell? ⟨gb105,2,none⟩ = some (.int .i64 0) := (blk_cell BK105.out 2).trans rfl; have hcz28_3 : w9.cell? ⟨gb105,3,none⟩ = some (.int .i64 0) := (blk_cell BK105.out 3).trans rfl; have hcz28_4 : w9.cell? ⟨gb105,4,none⟩ = some (.int .i64 0) := (blk_cell BK105.out 4).trans rfl; have hcz28_5 : w9.cell? ⟨gb105,5,none⟩ = some (.int .i64 0) := (blk_cell BK105.out 5).trans rfl; have hcz28_6 : w9.cell? ⟨gb105,6,none⟩ = some (.int .i64 0) := (blk_cell BK105.out 6).trans rfl; have hcz28_7 : w9.cell? ⟨gb105,7,none⟩ = some (.slice none 0 0) := (blk_cell BK105.out 7).trans rfl; have hcz28_8 : w9.cell? ⟨gb105,8,none⟩ = some (.slice none 0 0) := (blk_cell BK105.out 8).trans rfl; have hfz28_0 := blk_frozen BK105.out 0; have hfz28_1 := blk_frozen BK105.out 1; have hfz28_2 := blk_frozen BK105.out 2; have hfz28_3 := blk_frozen BK105.out 3; have hfz28_4 := blk_frozen BK105.out 4; have hfz28_5 := blk_frozen BK105.out 5; have hfz28_6 := blk_frozen BK105.out 6; have hfz28_7 := blk_frozen BK105.out 7; have hfz28_8 := blk_frozen BK105.out 8))
      go_meet
      case rel => exact ⟨_,(t106),H',⟨by first | omega | exact Nat.le_refl _⟩,⟨by (with_reducible repeat (first | refine blk_drewN ?_ _ | refine blk_drew ?_ | refine blk_alloc ?_ _)); refine blk_far ?_ NB101_105.out _; (with_reducible repeat (first | refine blk_drewN ?_ _ | refine blk_drew ?_ | refine blk_alloc ?_ _)); refine blk_far ?_ NB101_105.out _; (with_reducible repeat (first | refine blk_drewN ?_ _ | refine blk_drew ?_ | refine blk_alloc ?_ _)); refine blk_far ?_ NB101_105.out _; (with_reducible repeat (first | refine blk_drewN ?_ _ | refine blk_drew ?_ | refine blk_alloc ?_ _)); refine blk_far ?_ NB101_105.out _; (with_reducible repeat (first | refine blk_drewN ?_ _ | refine blk_drew ?_ | refine blk_alloc ?_ _)); refine blk_far ?_ NB101_105.out _; (with_reducible repeat (first | refine blk_drewN ?_ _ | refine blk_drew ?_ | refine blk_alloc ?_ _)); refine blk_far ?_ NB101_105.out _; (with_reducible repeat (first | refine blk_drewN ?_ _ | refine blk_drew ?_ | refine blk_alloc ?_ _)); refine blk_far ?_ NB101_105.out _; (with_reducible repeat (first | refine blk_drewN ?_ _ | refine blk_drew ?_ | refine blk_alloc ?_ _)); refine blk_far ?_ NB101_105.out _; (with_reducible repeat (first | refine blk_drewN ?_ _ | refine blk_drew ?_ | refine blk_alloc ?_ _)); refine blk_far ?_ NB101_105.out _; (with_reducible repeat (first | refine blk_drewN ?_ _ | refine blk_drew ?_ | refine blk_alloc ?_ _)); refine blk_far ?_ NB101_105.out _; (with_reducible repeat (first | refine blk_drewN ?_ _ | refine blk_drew ?_ | refine blk_alloc ?_ _)); exact BK101.out⟩,⟨by (with_reducible repeat (first | refine blk_drewN ?_ _ | refine blk_drew ?_ | refine blk_alloc ?_ _)); refine blk_far ?_ NB102_105.out _; (with_reducible repeat (first | refine blk_drewN ?_ _ | refine blk_drew ?_ | refine blk_alloc ?_ _)); refine blk_far ?_ NB102_105.out _; (with_reducible repeat (first | refine blk_drewN ?_ _ | refine blk_drew ?_ | refine blk_alloc ?_ _)); refine blk_far ?_ NB102_105.out _; (with_reducible repeat (first | refine blk_drewN ?_ _ | refine blk_drew ?_ | refine blk_alloc ?_ _)); refine blk_far ?_ NB102_105.out _; (with_reducible repeat (first | refine blk_drewN ?_ _ | refine blk_drew ?_ | refine blk_alloc ?_ _)); refine blk_far ?_ NB102_105.out _; (with_reducible repeat (first | refine blk_drewN ?_ _ | refine blk_drew ?_ | refine blk_alloc ?_ _)); refine blk_far ?_ NB102_105.out _; (with_reducible repeat (first | refine blk_drewN ?_ _ | refine blk_drew ?_ | refine blk_alloc ?_ _)); refine blk_far ?_ NB102_105.out _; (with_reducible repeat (first | refine blk_drewN ?_ _ | refine blk_drew ?_ | refine blk_alloc ?_ _)); refine blk_far ?_ NB102_105.out _; (with_reducible repeat (first | refine blk_drewN ?_ _ | refine blk_drew ?_ | refine blk_alloc ?_ _)); refine blk_far ?_ NB102_105.out _; (with_reducible repeat (first | refine blk_drewN ?_ _ | refine blk_drew ?_ | refine blk_alloc ?_ _)); refine blk_far ?_ NB102_105.out _; (with_reducible repeat (first | refine blk_drewN ?_ _ | refine blk_drew ?_ | refine blk_alloc ?_ _)); exact BK102.out⟩,⟨by (with_reducible repeat (first | refine blk_drewN ?_ _ | refine blk_drew ?_ | refine blk_alloc ?_ _)); refine blk_put (cs := #[.int .i64 (wrap64 (1 + (Int.tmod (Go.bits .and .i64 a0_0 65535) 3))),.bool a0_1,.int .i64 (-1),.int .i64 (Int.tmod (Go.bits .and .i64 a0_3 65535) 13),.int .i64 (Int.tmod (Go.bits .and .i64 a0_4 65535) 52),.int .i64 t103,.int .i64 t104,.slice none 0 0,.slice none 0 0]) ?_ 2 _ rfl; (with_reducible repeat (first | refine blk_drewN ?_ _ | refine blk_drew ?_ | refine blk_alloc ?_ _)); refine blk_put (cs := #[.int .i64 (wrap64 (1 + (Int.tmod (Go.bits .and .i64 a0_0 65535) 3))),.bool a0_1,.int .i64 (-1),.int .i64 (Int.tmod (Go.bits .and .i64 a0_3 65535) 13),.int .i64 (Int.tmod (Go.bits .and .i64 a0_4 65535) 52),.int .i64 t103,.int .i64 t104,.slice none 0 0,.slice none 0 0]) ?_ 8 _ rfl; (with_reducible repeat (first | refine blk_drewN ?_ _ | refine blk_drew ?_ | refine blk_alloc ?_ _)); refine blk_put (cs := #[.int .i64 (wrap64 (1 + (Int.tmod (Go.bits .and .i64 a0_0 65535) 3))),.bool a0_1,.int .i64 (-1),.int .i64 (Int.tmod (Go.bits .and .i64 a0_3 65535) 13),.int .i64 (Int.tmod (Go.bits .and .i64 a0_4 65535) 52),.int .i64 t103,.int .i64 t104,.slice none 0 0,.slice none 0 0]) ?_ 7 _ rfl; (with_reducible repeat (first | refine blk_drewN ?_ _ | refine blk_drew ?_ | refine blk_alloc ?_ _)); refine blk_put (cs := #[.int .i64 (wrap64 (1 + (Int.tmod (Go.bits .and .i64 a0_0 65535) 3))),.bool a0_1,.int .i64 (-1),.int .i64 (Int.tmod (Go.bits .and .i64 a0_3 65535) 13),.int .i64 (Int.tmod (Go.bits .and .i64 a0_4 65535) 52),.int .i64 t103,.int .i64 0,.slice none 0 0,.slice none 0 0]) ?_ 6 _ rfl; (with_reducible repeat (first | refine blk_drewN ?_ _ | refine blk_drew ?_ | refine blk_alloc ?_ _)); refine blk_put (cs := #[.int .i64 (wrap64 (1 + (Int.tmod (Go.bits .and .i64 a0_0 65535) 3))),.bool a0_1,.int .i64 (-1),.int .i64 (Int.tmod (Go.bits .and .i64 a0_3 65535) 13),.int .i64 (Int.tmod (Go.bits .and .i64 a0_4 65535) 52),.int .i64 0,.int .i64 0,.slice none 0 0,.slice none 0 0]) ?_ 5 _ rfl; (with_reducible repeat (first | refine blk_drewN ?_ _ | refine blk_drew ?_ | refine blk_alloc ?_ _)); refine blk_put (cs := #[.int .i64 (wrap64 (1 + (Int.tmod (Go.bits .and .i64 a0_0 65535) 3))),.bool a0_1,.int .i64 (-1),.int .i64 (Int.tmod (Go.bits .and .i64 a0_3 65535) 13),.int .i64 0,.int .i64 0,.int .i64 0,.slice none 0 0,.slice none 0 0]) ?_ 4 _ rfl; (with_reducible repeat (first | refine blk_drewN ?_ _ | refine blk_drew ?_ | refine blk_alloc ?_ _)); refine blk_put (cs := #[.int .i64 (wrap64 (1 + (Int.tmod (Go.bits .and .i64 a0_0 65535) 3))),.bool a0_1,.int .i64 (-1),.int .i64 0,.int .i64 0,.int .i64 0,.int .i64 0,.slice none 0 0,.slice none 0 0]) ?_ 3 _ rfl; (with_reducible repeat (first | refine blk_drewN ?_ _ | refine blk_drew ?_ | refine blk_alloc ?_ _)); refine blk_put (cs := #[.int .i64 (wrap64 (1 + (Int.tmod (Go.bits .and .i64 a0_0 65535) 3))),.bool a0_1,.int .i64 0,.int .i64 0,.int .i64 0,.int .i64 0,.int .i64 0,.slice none 0 0,.slice none 0 0]) ?_ 2 _ rfl; (with_reducible repeat (first | refine blk_drewN ?_ _ | refine blk_drew ?_ | refine blk_alloc ?_ _)); refine blk_put (cs := #[.int .i64 (wrap64 (1 + (Int.tmod (Go.bits .and .i64 a0_0 65535) 3))),.bool false,.int .i64 0,.int .i64 0,.int .i64 0,.int .i64 0,.int .i64 0,.slice none 0 0,.slice none 0 0]) ?_ 1 _ rfl; (with_reducible repeat (first | refine blk_drewN ?_ _ | refine blk_drew ?_ | refine blk_alloc ?_ _)); refine blk_put (cs := #[.int .i64 0,.bool false,.int .i64 0,.int .i64 0,.int .i64 0,.int .i64 0,.int .i64 0,.slice none 0 0,.slice none 0 0]) ?_ 0 _ rfl; (with_reducible repeat (first | refine blk_drewN ?_ _ | refine blk_drew ?_ | refine blk_alloc ?_ _)); exact BK105.out⟩,⟨by repeat (first | (with_reducible first | exact HB.out | apply below_alloc | apply pw_below_drewN | apply below_drew1 | refine below_set ?_ GE101.out | refine below_set ?_ GE102.out | refine below_set ?_ GE105.out) | exact HB.out)⟩⟩
    · rw [if_neg c22] at H
      have c22b0 : decide (0 ≤ a0_2) = false := decide_eq_false c22
      clear c22
      (first | rw [c22b0] | (simp only [i64_w, i32_w]; rw [c22b0]) | skip)
      have H' := Aside0.mk H
      clear H
      go_wp2
      go_meet
      case rel => exact ⟨_,((-1)),H',⟨by first | omega | exact Nat.le_refl _⟩,⟨by (with_reducible repeat (first | refine blk_drewN ?_ _ | refine blk_drew ?_ | refine blk_alloc ?_ _)); refine blk_far ?_ NB101_105.out _; (with_reducible repeat (first | refine blk_drewN ?_ _ | refine blk_drew ?_ | refine blk_alloc ?_ _)); refine blk_far ?_ NB101_105.out _; (with_reducible repeat (first | refine blk_drewN ?_ _ | refine blk_drew ?_ | refine blk_alloc ?_ _)); refine blk_far ?_ NB101_105.out _; (with_reducible repeat (first | refine blk_drewN ?_ _ | refine blk_drew ?_ | refine blk_alloc ?_ _)); refine blk_far ?_ NB101_105.out _; (with_reducible repeat (first | refine blk_drewN ?_ _ | refine blk_drew ?_ | refine blk_alloc ?_ _)); refine blk_far ?_ NB101_105.out _; (with_reducible repeat (first | refine blk_drewN ?_ _ | refine blk_drew ?_ | refine blk_alloc ?_ _)); refine blk_far ?_ NB101_105.out _; (with_reducible repeat (first | refine blk_drewN ?_ _ | refine blk_drew ?_ | refine blk_alloc ?_ _)); refine blk_far ?_ NB101_105.out _; (with_reducible repeat (first | refine blk_drewN ?_ _ | refine blk_drew ?_ | refine blk_alloc ?_ _)); refine blk_far ?_ NB101_105.out _; (with_reducible repeat (first | refine blk_drewN ?_ _ | refine blk_drew ?_ | refine blk_alloc ?_ _)); refine blk_far ?_ NB101_105.out _; (with_reducible repeat (first | refine blk_drewN ?_ _ | refine blk_drew ?_ | refine blk_alloc ?_ _)); exact BK101.out⟩,⟨by (with_reducible repeat (first | refine blk_drewN ?_ _ | refine blk_drew ?_ | refine blk_alloc ?_ _)); refine blk_far ?_ NB102_105.out _; (with_reducible repeat (first | refine blk_drewN ?_ _ | refine blk_drew ?_ | refine blk_alloc ?_ _)); refine blk_far ?_ NB102_105.out _; (with_reducible repeat (first | refine blk_drewN ?_ _ | refine blk_drew ?_ | refine blk_alloc ?_ _)); refine blk_far ?_ NB102_105.out _; (with_reducible repeat (first | refine blk_drewN ?_ _ | refine blk_drew ?_ | refine blk_alloc ?_ _)); refine blk_far ?_ NB102_105.out _; (with_reducible repeat (first | refine blk_drewN ?_ _ | refine blk_drew ?_ | refine blk_alloc ?_ _)); refine blk_far ?_ NB102_105.out _; (with_reducible repeat (first | refine blk_drewN ?_ _ | refine blk_drew ?_ | refine blk_alloc ?_ _)); refine blk_far ?_ NB102_105.out _; (with_reducible repeat (first | refine blk_drewN ?_ _ | refine blk_drew ?_ | refine blk_alloc ?_ _)); refine blk_far ?_ NB102_105.out _; (with_reducible repeat (first | refine blk_drewN ?_ _ | refine blk_drew ?_ | refine blk_alloc ?_ _)); refine blk_far ?_ NB102_105.out _; (with_reducible repeat (first | refine blk_drewN ?_ _ | refine blk_drew ?_ | refine blk_alloc ?_ _)); refine blk_far ?_ NB102_105.out _; (with_reducible repeat (first | refine blk_drewN ?_ _ | refine blk_drew ?_ | refine blk_alloc ?_ _)); exact BK102.out⟩,⟨by (with_reducible repeat (first | refine blk_drewN ?_ _ | refine blk_drew ?_ | refine blk_alloc ?_ _)); refine blk_put (cs := #[.int .i64 (wrap64 (1 + (Int.tmod (Go.bits .and .i64 a0_0 65535) 3))),.bool a0_1,.int .i64 (-1),.int .i64 (Int.tmod (Go.bits .and .i64 a0_3 65535) 13),.int .i64 (Int.tmod (Go.bits .and .i64 a0_4 65535) 52),.int .i64 t103,.int .i64 t104,.slice none 0 0,.slice none 0 0]) ?_ 8 _ rfl; (with_reducible repeat (first | refine blk_drewN ?_ _ | refine blk_drew ?_ | refine blk_alloc ?_ _)); refine blk_put (cs := #[.int .i64 (wrap64 (1 + (Int.tmod (Go.bits .and .i64 a0_0 65535) 3))),.bool a0_1,.int .i64 (-1),.int .i64 (Int.tmod (Go.bits .and .i64 a0_3 65535) 13),.int .i64 (Int.tmod (Go.bits .and .i64 a0_4 65535) 52),.int .i64 t103,.int .i64 t104,.slice none 0 0,.slice none 0 0]) ?_ 7 _ rfl; (with_reducible repeat (first | refine blk_drewN ?_ _ | refine blk_drew ?_ | refine blk_alloc ?_ _)); refine blk_put (cs := #[.int .i64 (wrap64 (1 + (Int.tmod (Go.bits .and .i64 a0_0 65535) 3))),.bool a0_1,.int .i64 (-1),.int .i64 (Int.tmod (Go.bits .and .i64 a0_3 65535) 13),.int .i64 (Int.tmod (Go.bits .and .i64 a0_4 65535) 52),.int .i64 t103,.int .i64 0,.slice none 0 0,.slice none 0 0]) ?_ 6 _ rfl; (with_reducible repeat (first | refine blk_drewN ?_ _ | refine blk_drew ?_ | refine blk_alloc ?_ _)); refine blk_put (cs := #[.int .i64 (wrap64 (1 + (Int.tmod (Go.bits .and .i64 a0_0 65535) 3))),.bool a0_1,.int .i64 (-1),.int .i64 (Int.tmod (Go.bits .and .i64 a0_3 65535) 13),.int .i64 (Int.tmod (Go.bits .and .i64 a0_4 65535) 52),.int .i64 0,.int .i64 0,.slice none 0 0,.slice none 0 0]) ?_ 5 _ rfl; (with_reducible repeat (first | refine blk_drewN ?_ _ | refine blk_drew ?_ | refine blk_alloc ?_ _)); refine blk_put (cs := #[.int .i64 (wrap64 (1 + (Int.tmod (Go.bits .and .i64 a0_0 65535) 3))),.bool a0_1,.int .i64 (-1),.int .i64 (Int.tmod (Go.bits .and .i64 a0_3 65535) 13),.int .i64 0,.int .i64 0,.int .i64 0,.slice none 0 0,.slice none 0 0]) ?_ 4 _ rfl; (with_reducible repeat (first | refine blk_drewN ?_ _ | refine blk_drew ?_ | refine blk_alloc ?_ _)); refine blk_put (cs := #[.int .i64 (wrap64 (1 + (Int.tmod (Go.bits .and .i64 a0_0 65535) 3))),.bool a0_1,.int .i64 (-1),.int .i64 0,.int .i64 0,.int .i64 0,.int .i64 0,.slice none 0 0,.slice none 0 0]) ?_ 3 _ rfl; (with_reducible repeat (first | refine blk_drewN ?_ _ | refine blk_drew ?_ | refine blk_alloc ?_ _)); refine blk_put (cs := #[.int .i64 (wrap64 (1 + (Int.tmod (Go.bits .and .i64 a0_0 65535) 3))),.bool a0_1,.int .i64 0,.int .i64 0,.int .i64 0,.int .i64 0,.int .i64 0,.slice none 0 0,.slice none 0 0]) ?_ 2 _ rfl; (with_reducible repeat (first | refine blk_drewN ?_ _ | refine blk_drew ?_ | refine blk_alloc ?_ _)); refine blk_put (cs := #[.int .i64 (wrap64 (1 + (Int.tmod (Go.bits .and .i64 a0_0 65535) 3))),.bool false,.int .i64 0,.int .i64 0,.int .i64 0,.int .i64 0,.int .i64 0,.slice none 0 0,.slice none 0 0]) ?_ 1 _ rfl; (with_reducible repeat (first | refine blk_drewN ?_ _ | refine blk_drew ?_ | refine blk_alloc ?_ _)); refine blk_put (cs := #[.int .i64 0,.bool false,.int .i64 0,.int .i64 0,.int .i64 0,.int .i64 0,.int .i64 0,.slice none 0 0,.slice none 0 0]) ?_ 0 _ rfl; (with_reducible repeat (first | refine blk_drewN ?_ _ | refine blk_drew ?_ | refine blk_alloc ?_ _)); exact BK105.out⟩,⟨by repeat (first | (with_reducible first | exact HB.out | apply below_alloc | apply pw_below_drewN | apply below_drew1 | refine below_set ?_ GE101.out | refine below_set ?_ GE102.out | refine below_set ?_ GE105.out) | exact HB.out)⟩⟩
  case rest =>
    clear HC4
    try clear c1
    try clear c2
    try clear p2
    try clear c3
    try clear p6
    try clear c7
    try clear c19
    try clear c20
    try clear c22
    try clear c22b0
    try clear c24
    try clear c25
    try clear c27
    try clear hcz21_0
    try clear hcz21_1
    try clear hcz21_2
    try clear hcz21_3
    try clear hcz21_4
    try clear hcz21_5
    try clear hcz21_6
    try clear hcz21_7
    try clear hcz21_8
    try clear hcz26_0
    try clear hcz26_1
    try clear hcz26_2
    try clear hcz26_3
    try clear hcz26_4
    try clear hcz26_5
    try clear hcz26_6
    try clear hcz26_7
    try clear hcz26_8
    try clear hcz28_0
    try clear hcz28_1
    try clear hcz28_2
    try clear hcz28_3
    try clear hcz28_4
    try clear hcz28_5
    try clear hcz28_6
    try clear hcz28_7
    try clear hcz28_8
    try clear hfz21_0
    try clear hfz21_1
    try clear hfz21_2
    try clear hfz21_3
    try clear hfz21_4
    try clear hfz21_5
    try clear hfz21_6
    try clear hfz21_7
    try clear hfz21_8
    try clear hfz26_0
    try clear hfz26_1
    try clear hfz26_2
    try clear hfz26_3
    try clear hfz26_4
    try clear hfz26_5
    try clear hfz26_6
    try clear hfz26_7
    try clear hfz26_8
    try clear hfz28_0
    try clear hfz28_1
    try clear hfz28_2
    try clear hfz28_3
    try clear hfz28_4
    try clear hfz28_5
    try clear hfz28_6
    try clear hfz28_7
    try clear hfz28_8
    obtain ⟨kq, x106002_3, HA, HJ3, BK101, BK102, BK105, HB⟩ := hcut
    cases kq with
    | zero => exact absurd HA.out (by simp [phaetonref22_Made.j0])
    | succ kj3 =>
      have H := HA.out
      clear HA
      simp only [phaetonref22_Made.j0] at H
      have H' := Aside0.mk H
      clear H
      go_wp2
      go_loopg [4,5] kj3 (fun kq v4 v5 w' => ∃ (x4_2 : Int) (x5_2 : Int) (x106007_2 : List (S47)) (u106007 : Value),v4 = .int .i64 x4_2 ∧ v5 = .int .i64 x5_2 ∧ Aside0 (phaetonref22_Made.l0 kq x4_2 x5_2 a0_0 a0_1 a0_2 a0_3 a0_4 a0_5 a0_6 l0_7 l0_8 (wrap64 (1 + (Int.tmod (Go.bits .and .i64 a0_0 65535) 3))) a0_1 x106002_3 (Int.tmod (Go.bits .and .i64 a0_3 65535) 13) (Int.tmod (Go.bits .and .i64 a0_4 65535) 52) t103 t104 x106007_2 = some (r1,r2,r3,r4,r5,r6,r7,r8,r9)) ∧ Aside0 (kq ≤ kj3) ∧ Aside0 (Kd.S k47 47 w' w.heap.size (fun _ => True) u106007 x106007_2) ∧ Aside0 (w'.heap[gb101]? = some (.cells #[.int .i64 a0_0,.bool a0_1,.int .i64 a0_2,.int .i64 a0_3,.int .i64 a0_4,.int .i64 a0_5,.int .i64 a0_6,(.slice A0_7 l0_7.length c0_7),(.slice A0_8 l0_8.length c0_8)] 25 (0,0))) ∧ Aside0 (w'.heap[gb102]? = some (.cells #[.int .i64 0,.bool false,.int .i64 0,.int .i64 0,.int .i64 0,.int .i64 0,.int .i64 0,(.slice none 0 0),(.slice none 0 0)] 25 (0,0))) ∧ Aside0 (w'.heap[gb105]? = some (.cells #[.int .i64 (wrap64 (1 + (Int.tmod (Go.bits .and .i64 a0_0 65535) 3))),.bool a0_1,.int .i64 x106002_3,.int .i64 (Int.tmod (Go.bits .and .i64 a0_3 65535) 13),.int .i64 (Int.tmod (Go.bits .and .i64 a0_4 65535) 52),.int .i64 t103,.int .i64 t104,u106007,(.slice none 0 0)] 25 (0,0))) ∧ Aside0 (Below w.heap.size w w'))
      case atStart => exact ⟨((-1)),(0),(([] : List (S47))),(.slice none 0 0),(by first | rfl | (simp; done) | (simp [*]; done)),(by first | rfl | (simp; done) | (simp [*]; done)),H',⟨Nat.le_refl _⟩,⟨by first | exact Kd.S_nil _ _ _ _ _ | exact Kd.N_nil _ _ _ _ _ | exact Kd.V_nil _ _ _ _ _ | exact Kd.Q_nil _ _ _ _ _ | exact Kd.R_nil _ _ _ _ _⟩,⟨by (with_reducible repeat (first | refine blk_drewN ?_ _ | refine blk_drew ?_ | refine blk_alloc ?_ _)); exact BK101.out⟩,⟨by (with_reducible repeat (first | refine blk_drewN ?_ _ | refine blk_drew ?_ | refine blk_alloc ?_ _)); exact BK102.out⟩,⟨by (with_reducible repeat (first | refine blk_drewN ?_ _ | refine blk_drew ?_ | refine blk_alloc ?_ _)); exact BK105.out⟩,⟨by repeat (first | (with_reducible first | exact HB.out | apply below_alloc | apply pw_below_drewN | apply below_drew1 | refine below_set ?_ GE101.out | refine below_set ?_ GE102.out | refine below_set ?_ GE105.out) | exact HB.out)⟩⟩
      case round =>
        clear H'
        try clear c1
        try clear c2
        try clear p2
        try clear c3
        try clear p6
        try clear c7
        try clear c19
        try clear c20
        try clear c22
        try clear c22b0
        try clear c24
        try clear c25
        try clear c27
        try clear hcz21_0
        try clear hcz21_1
        try clear hcz21_2
        try clear hcz21_3
        try clear hcz21_4
        try clear hcz21_5
        try clear hcz21_6
        try clear hcz21_7
        try clear hcz21_8
        try clear hcz26_0
        try clear hcz26_1
        try clear hcz26_2
        try clear hcz26_3
        try clear hcz26_4
        try clear hcz26_5
        try clear hcz26_6
        try clear hcz26_7
        try clear hcz26_8
        try clear hcz28_0
        try clear hcz28_1
        try clear hcz28_2
        try clear hcz28_3
        try clear hcz28_4
        try clear hcz28_5
        try clear hcz28_6
        try clear hcz28_7
        try clear hcz28_8
        try clear hfz21_0
        try clear hfz21_1
        try clear hfz21_2
        try clear hfz21_3
        try clear hfz21_4
        try clear hfz21_5
        try clear hfz21_6
        try clear hfz21_7
        try clear hfz21_8
        try clear hfz26_0
        try clear hfz26_1
        try clear hfz26_2
        try clear hfz26_3
        try clear hfz26_4
        try clear hfz26_5
        try clear hfz26_6
        try clear hfz26_7
        try clear hfz26_8
        try clear hfz28_0
        try clear hfz28_1
        try clear hfz28_2
        try clear hfz28_3
        try clear hfz28_4
        try clear hfz28_5
        try clear hfz28_6
        try clear hfz28_7
        try clear hfz28_8
        try clear p2
        try clear p6
        obtain ⟨x4_2, x5_2, x106007_2, u106007, rfl, rfl, HA, HK2, HO_106007, BK101, BK102, BK105, HB⟩ := hrel
        cases gk with
        | zero => exact absurd HA.out (by simp [phaetonref22_Made.l0])
        | succ k2 =>
          have H := HA.out
          clear HA
          simp only [phaetonref22_Made.l0] at H
          have HC29 := Aside0.mk H
          clear H
          go_upto_region 6 with (fail)
          go_cut [44] (fun v44 wc => ∃ (kq : Nat) (x44_28 : Bool),v44 = .bool x44_28 ∧ Aside0 (phaetonref22_Made.j2 kq x4_2 x5_2 x44_28 a0_0 a0_1 a0_2 a0_3 a0_4 a0_5 a0_6 l0_7 l0_8 (wrap64 (1 + (Int.tmod (Go.bits .and .i64 a0_0 65535) 3))) a0_1 x106002_3 (Int.tmod (Go.bits .and .i64 a0_3 65535) 13) (Int.tmod (Go.bits .and .i64 a0_4 65535) 52) t103 t104 x106007_2 = some (r1,r2,r3,r4,r5,r6,r7,r8,r9)) ∧ Aside0 (kq ≤ k2) ∧ Aside0 (Kd.S k47 47 wc w.heap.size (fun _ => True) u106007 x106007_2) ∧ Aside0 (wc.heap[gb101]? = some (.cells #[.int .i64 a0_0,.bool a0_1,.int .i64 a0_2,.int .i64 a0_3,.int .i64 a0_4,.int .i64 a0_5,.int .i64 a0_6,(.slice A0_7 l0_7.length c0_7),(.slice A0_8 l0_8.length c0_8)] 25 (0,0))) ∧ Aside0 (wc.heap[gb102]? = some (.cells #[.int .i64 0,.bool false,.int .i64 0,.int .i64 0,.int .i64 0,.int .i64 0,.int .i64 0,(.slice none 0 0),(.slice none 0 0)] 25 (0,0))) ∧ Aside0 (wc.heap[gb105]? = some (.cells #[.int .i64 (wrap64 (1 + (Int.tmod (Go.bits .and .i64 a0_0 65535) 3))),.bool a0_1,.int .i64 x106002_3,.int .i64 (Int.tmod (Go.bits .and .i64 a0_3 65535) 13),.int .i64 (Int.tmod (Go.bits .and .i64 a0_4 65535) 52),.int .i64 t103,.int .i64 t104,u106007,(.slice none 0 0)] 25 (0,0))) ∧ Aside0 (Below w.heap.size w wc))
          case first =>
            have H := HC29.out
            clear HC29
            by_cases c30 : x5_2 < (l0_7.length : Int)
            · rw [if_pos c30] at H
              have c30b0 : decide (x5_2 < (l0_7.length : Int)) = true := decide_eq_true c30
              clear c30
              (first | rw [c30b0] | (simp only [i64_w, i32_w]; rw [c30b0]) | skip)
              have H' := Aside0.mk H
              clear H
              have hnb31 := NB101_102.out
              have hnc31 := NB102_101.out
              have hnb32 := NB101_105.out
              have hnc32 := NB105_101.out
              have hcz33_0 : wr.cell? ⟨gb101, 0, none⟩ = some (.int .i64 a0_0) := (blk_cell BK101.out 0).trans rfl
              have hcz33_1 : wr.cell? ⟨gb101, 1, none⟩ = some (.bool a0_1) := (blk_cell BK101.out 1).trans rfl
              have hcz33_2 : wr.cell? ⟨gb101, 2, none⟩ = some (.int .i64 a0_2) := (blk_cell BK101.out 2).trans rfl
              have hcz33_3 : wr.cell? ⟨gb101, 3, none⟩ = some (.int .i64 a0_3) := (blk_cell BK101.out 3).trans rfl
              have hcz33_4 : wr.cell? ⟨gb101, 4, none⟩ = some (.int .i64 a0_4) := (blk_cell BK101.out 4).trans rfl
              have hcz33_5 : wr.cell? ⟨gb101, 5, none⟩ = some (.int .i64 a0_5) := (blk_cell BK101.out 5).trans rfl
              have hcz33_6 : wr.cell? ⟨gb101, 6, none⟩ = some (.int .i64 a0_6) := (blk_cell BK101.out 6).trans rfl
              have hcz33_7 : wr.cell? ⟨gb101, 7, none⟩ = some (.slice A0_7 l0_7.length c0_7) := (blk_cell BK101.out 7).trans rfl
              have hcz33_8 : wr.cell? ⟨gb101, 8, none⟩ = some (.slice A0_8 l0_8.length c0_8) := (blk_cell BK101.out 8).trans rfl
              have hfz33_0 := blk_frozen BK101.out 0
              have hfz33_1 := blk_frozen BK101.out 1
              have hfz33_2 := blk_frozen BK101.out 2
              have hfz33_3 := blk_frozen BK101.out 3
              have hfz33_4 := blk_frozen BK101.out 4
              have hfz33_5 := blk_frozen BK101.out 5
              have hfz33_6 := blk_frozen BK101.out 6
              have hfz33_7 := blk_frozen BK101.out 7
              have hfz33_8 := blk_frozen BK101.out 8
              go_wp2
              go_meet
              case rel => exact ⟨_,(decide (x5_2 < 16)),(by first | rfl | (simp; done) | (simp [*]; done)),H',⟨by have := HJ3.out; have := HK2.out; first | omega | exact Nat.le_refl _⟩,⟨by (with_reducible repeat (first | apply Kd.S_alloc | apply Kd.S_drewN | apply Kd.S_drew)); exact HO_106007.out⟩,⟨by (with_reducible repeat (first | refine blk_drewN ?_ _ | refine blk_drew ?_ | refine blk_alloc ?_ _)); exact BK101.out⟩,⟨by (with_reducible repeat (first | refine blk_drewN ?_ _ | refine blk_drew ?_ | refine blk_alloc ?_ _)); exact BK102.out⟩,⟨by (with_reducible repeat (first | refine blk_drewN ?_ _ | refine blk_drew ?_ | refine blk_alloc ?_ _)); exact BK105.out⟩,⟨by repeat (first | (with_reducible first | exact HB.out | apply below_alloc | apply pw_below_drewN | apply below_drew1 | refine below_set ?_ GE101.out | refine below_set ?_ GE102.out | refine below_set ?_ GE105.out) | exact HB.out)⟩⟩
            · rw [if_neg c30] at H
              have c30b0 : decide (x5_2 < (l0_7.length : Int)) = false := decide_eq_false c30
              clear c30
              (first | rw [c30b0] | (simp only [i64_w, i32_w]; rw [c30b0]) | skip)
              have H' := Aside0.mk H
              clear H
              have hnb34 := NB101_102.out
              have hnc34 := NB102_101.out
              have hnb35 := NB101_105.out
              have hnc35 := NB105_101.out
              have hcz36_0 : wr.cell? ⟨gb101, 0, none⟩ = some (.int .i64 a0_0) := (blk_cell BK101.out 0).trans rfl
              have hcz36_1 : wr.cell? ⟨gb101, 1, none⟩ = some (.bool a0_1) := (blk_cell BK101.out 1).trans rfl
              have hcz36_2 : wr.cell? ⟨gb101, 2, none⟩ = some (.int .i64 a0_2) := (blk_cell BK101.out 2).trans rfl
              have hcz36_3 : wr.cell? ⟨gb101, 3, none⟩ = some (.int .i64 a0_3) := (blk_cell BK101.out 3).trans rfl
              have hcz36_4 : wr.cell? ⟨gb101, 4, none⟩ = some (.int .i64 a0_4) := (blk_cell BK101.out 4).trans rfl
              have hcz36_5 : wr.cell? ⟨gb101, 5, none⟩ = some (.int .i64 a0_5) := (blk_cell BK101.out 5).trans rfl
              have hcz36_6 : wr.cell? ⟨gb101, 6, none⟩ = some (.int .i64 a0_6) := (blk_cell BK101.out 6).trans rfl
              have hcz36_7 : wr.cell? ⟨gb101, 7, none⟩ = some (.slice A0_7 l0_7.length c0_7) := (blk_cell BK101.out 7).trans rfl
              have hcz36_8 : wr.cell? ⟨gb101, 8, none⟩ = some (.slice A0_8 l0_8.length c0_8) := (blk_cell BK101.out 8).trans rfl
              have hfz36_0 := blk_frozen BK101.out 0
              have hfz36_1 := blk_frozen BK101.out 1
              have hfz36_2 := blk_frozen BK101.out 2
              have hfz36_3 := blk_frozen BK101.out 3
              have hfz36_4 := blk_frozen BK101.out 4
              have hfz36_5 := blk_frozen BK101.out 5
              have hfz36_6 := blk_frozen BK101.out 6
              have hfz36_7 := blk_frozen BK101.out 7
              have hfz36_8 := blk_frozen BK101.out 8
              go_wp2
              go_meet
              case rel => exact ⟨_,(false),(by first | rfl | (simp; done) | (simp [*]; done)),H',⟨by have := HJ3.out; have := HK2.out; first | omega | exact Nat.le_refl _⟩,⟨by (with_reducible repeat (first | apply Kd.S_alloc | apply Kd.S_drewN | apply Kd.S_drew)); exact HO_106007.out⟩,⟨by (with_reducible repeat (first | refine blk_drewN ?_ _ | refine blk_drew ?_ | refine blk_alloc ?_ _)); exact BK101.out⟩,⟨by (with_reducible repeat (first | refine blk_drewN ?_ _ | refine blk_drew ?_ | refine blk_alloc ?_ _)); exact BK102.out⟩,⟨by (with_reducible repeat (first | refine blk_drewN ?_ _ | refine blk_drew ?_ | refine blk_alloc ?_ _)); exact BK105.out⟩,⟨by repeat (first | (with_reducible first | exact HB.out | apply below_alloc | apply pw_below_drewN | apply below_drew1 | refine below_set ?_ GE101.out | refine below_set ?_ GE102.out | refine below_set ?_ GE105.out) | exact HB.out)⟩⟩
          case rest =>
            clear HC29
            try clear c1
            try clear c2
            try clear p2
            try clear c3
            try clear p6
            try clear c7
            try clear c19
            try clear c20
            try clear c22
            try clear c22b0
            try clear c24
            try clear c25
            try clear c27
            try clear c30
            try clear c30b0
            try clear c31
            try clear c32
            try clear c34
            try clear c35
            try clear hcz21_0
            try clear hcz21_1
            try clear hcz21_2
            try clear hcz21_3
            try clear hcz21_4
            try clear hcz21_5
            try clear hcz21_6
            try clear hcz21_7
            try clear hcz21_8
            try clear hcz26_0
            try clear hcz26_1
            try clear hcz26_2
            try clear hcz26_3
            try clear hcz26_4
            try clear hcz26_5
            try clear hcz26_6
            try clear hcz26_7
            try clear hcz26_8
            try clear hcz28_0
            try clear hcz28_1
            try clear hcz28_2
            try clear hcz28_3
            try clear hcz28_4
            try clear hcz28_5
            try clear hcz28_6
            try clear hcz28_7
            try clear hcz28_8
            try clear hcz33_0
            try clear hcz33_1
            try clear hcz33_2
            try clear hcz33_3
            try clear hcz33_4
            try clear hcz33_5
            try clear hcz33_6
            try clear hcz33_7
            try clear hcz33_8
            try clear hcz36_0
            try clear hcz36_1
            try clear hcz36_2
            try clear hcz36_3
            try clear hcz36_4
            try clear hcz36_5
            try clear hcz36_6
            try clear hcz36_7
            try clear hcz36_8
            try clear hfz21_0
            try clear hfz21_1
            try clear hfz21_2
            try clear hfz21_3
            try clear hfz21_4
            try clear hfz21_5
            try clear hfz21_6
            try clear hfz21_7
            try clear hfz21_8
            try clear hfz26_0
            try clear hfz26_1
            try clear hfz26_2
            try clear hfz26_3
            try clear hfz26_4
            try clear hfz26_5
            try clear hfz26_6
            try clear hfz26_7
            try clear hfz26_8
            try clear hfz28_0
            try clear hfz28_1
            try clear hfz28_2
            try clear hfz28_3
            try clear hfz28_4
            try clear hfz28_5
            try clear hfz28_6
            try clear hfz28_7
            try clear hfz28_8
            try clear hfz33_0
            try clear hfz33_1
            try clear hfz33_2
            try clear hfz33_3
            try clear hfz33_4
            try clear hfz33_5
            try clear hfz33_6
            try clear hfz33_7
            try clear hfz33_8
            try clear hfz36_0
            try clear hfz36_1
            try clear hfz36_2
            try clear hfz36_3
            try clear hfz36_4
            try clear hfz36_5
            try clear hfz36_6
            try clear hfz36_7
            try clear hfz36_8
            try clear p2
            try clear p6
            obtain ⟨kq, x44_28, rfl, HA, HJ28, HO_106007, BK101, BK102, BK105, HB⟩ := hcut
            cases kq with
            | zero => exact absurd HA.out (by simp [phaetonref22_Made.j2])
            | succ kj28 =>
              have H := HA.out
              clear HA
              simp only [phaetonref22_Made.j2] at H
              by_cases c37 : x44_28 = true
              · subst c37
                have H1 : (if 0 ≤ x5_2 then (if x5_2 < (l0_7.length : Int) then (if (Go.bits .and .i64 ((rd_T47 l0_7 x5_2).f0) 65535) > x4_2 then (if (((rd_T47 l0_7 x5_2).f2).length : Int) > 0 then ((some (([] : List Int) : List Int)).bind fun y110 => (if 0 ≤ (mn (((rd_T47 l0_7 x5_2).f2).length : Int) 64) then (if (mn (((rd_T47 l0_7 x5_2).f2).length : Int) 64) ≤ (((rd_T47 l0_7 x5_2).f2).length : Int) then (if y110.length + (((rd_T47 l0_7 x5_2).f2).take ((mn (((rd_T47 l0_7 x5_2).f2).length : Int) 64) : Int).toNat).length < 140737488355328 then (if x106007_2.length < 3518437208883 then (phaetonref22_Made.l0 kj28 (Go.bits .and .i64 ((rd_T47 l0_7 x5_2).f0) 65535) (wrap64 (x5_2 + 1)) a0_0 a0_1 a0_2 a0_3 a0_4 a0_5 a0_6 l0_7 l0_8 (wrap64 (1 + (Int.tmod (Go.bits .and .i64 a0_0 65535) 3))) a0_1 x106002_3 (Int.tmod (Go.bits .and .i64 a0_3 65535) 13) (Int.tmod (Go.bits .and .i64 a0_4 65535) 52) t103 t104 (x106007_2 ++ [(⟨Go.bits .and .i64 ((rd_T47 l0_7 x5_2).f0) 65535,(rd_T47 l0_7 x5_2).f1,(y110 ++ (((rd_T47 l0_7 x5_2).f2).take ((mn (((rd_T47 l0_7 x5_2).f2).length : Int) 64) : Int).toNat))⟩ : S47)])) else (none)) else (none)) else (none)) else (none))) else (phaetonref22_Made.l0 kj28 x4_2 (wrap64 (x5_2 + 1)) a0_0 a0_1 a0_2 a0_3 a0_4 a0_5 a0_6 l0_7 l0_8 (wrap64 (1 + (Int.tmod (Go.bits .and .i64 a0_0 65535) 3))) a0_1 x106002_3 (Int.tmod (Go.bits .and .i64 a0_3 65535) 13) (Int.tmod (Go.bits .and .i64 a0_4 65535) 52) t103 t104 x106007_2)) else (phaetonref22_Made.l0 kj28 x4_2 (wrap64 (x5_2 + 1)) a0_0 a0_1 a0_2 a0_3 a0_4 a0_5 a0_6 l0_7 l0_8 (wrap64 (1 + (Int.tmod (Go.bits .and .i64 a0_0 65535) 3))) a0_1 x106002_3 (Int.tmod (Go.bits .and .i64 a0_3 65535) 13) (Int.tmod (Go.bits .and .i64 a0_4 65535) 52) t103 t104 x106007_2)) else (none)) else (none)) = some (r1,r2,r3,r4,r5,r6,r7,r8,r9) := by rw [if_pos rfl] at H; exact H
                clear H
                have H := H1
                clear H1
                by_cases c38 : 0 ≤ x5_2
                · rw [if_pos c38] at H
                  have c38b0 : decide (0 ≤ x5_2) = true := decide_eq_true c38
                  clear c38
                  by_cases c39 : x5_2 < (l0_7.length : Int)
                  · rw [if_pos c39] at H
                    have c39b0 : decide (x5_2 < (l0_7.length : Int)) = true := decide_eq_true c39
                    clear c39
                    by_cases c40 : (Go.bits .and .i64 ((rd_T47 l0_7 x5_2).f0) 65535) > x4_2
                    · rw [if_pos c40] at H
                      have c40b0 : decide (x4_2 < (Go.bits .and .i64 ((rd_T47 l0_7 x5_2).f0) 65535)) = true := decide_eq_true c40
                      clear c40
                      by_cases c41 : (((rd_T47 l0_7 x5_2).f2).length : Int) > 0
                      · rw [if_pos c41] at H
                        have c41b0 : decide (0 < (((rd_T47 l0_7 x5_2).f2).length : Int)) = true := decide_eq_true c41
                        have c41b1 : decide (0 < ((rd_T47 l0_7 x5_2).f2).length) = true := decide_eq_true (by omega)
                        clear c41
                        obtain ⟨y110, hy110⟩ : ∃ y_ : List Int, y_ = (([] : List Int)) := ⟨_, rfl⟩
                        replace H : (if 0 ≤ (mn (((rd_T47 l0_7 x5_2).f2).length : Int) 64) then (if (mn (((rd_T47 l0_7 x5_2).f2).length : Int) 64) ≤ (((rd_T47 l0_7 x5_2).f2).length : Int) then (if y110.length + (((rd_T47 l0_7 x5_2).f2).take ((mn (((rd_T47 l0_7 x5_2).f2).length : Int) 64) : Int).toNat).length < 140737488355328 then (if x106007_2.length < 3518437208883 then (phaetonref22_Made.l0 kj28 (Go.bits .and .i64 ((rd_T47 l0_7 x5_2).f0) 65535) (wrap64 (x5_2 + 1)) a0_0 a0_1 a0_2 a0_3 a0_4 a0_5 a0_6 l0_7 l0_8 (wrap64 (1 + (Int.tmod (Go.bits .and .i64 a0_0 65535) 3))) a0_1 x106002_3 (Int.tmod (Go.bits .and .i64 a0_3 65535) 13) (Int.tmod (Go.bits .and .i64 a0_4 65535) 52) t103 t104 (x106007_2 ++ [(⟨Go.bits .and .i64 ((rd_T47 l0_7 x5_2).f0) 65535,(rd_T47 l0_7 x5_2).f1,(y110 ++ (((rd_T47 l0_7 x5_2).f2).take ((mn (((rd_T47 l0_7 x5_2).f2).length : Int) 64) : Int).toNat))⟩ : S47)])) else (none)) else (none)) else (none)) else (none)) = some (r1,r2,r3,r4,r5,r6,r7,r8,r9) := by first | (rw [hy110]; with_reducible exact H) | (have H2_ := (Option.bind_some _ _).symm.trans H; rw [hy110]; with_reducible exact H2_) | (have H2_ := (Option.bind_some _ _).symm.trans H; with_reducible exact H2_) | with_reducible exact H | (rw [hy110]; exact H) | exact H
                        have Ny110 := Aside0.mk hy110
                        clear hy110
                        obtain ⟨ji42, hji42⟩ : ∃ j_ : Int, (mn (((rd_T47 l0_7 x5_2).f2).length : Int) 64) = j_ := ⟨_, rfl⟩
                        replace H : (if 0 ≤ (ji42) then (if (ji42) ≤ (((rd_T47 l0_7 x5_2).f2).length : Int) then (if y110.length + (((rd_T47 l0_7 x5_2).f2).take ((ji42) : Int).toNat).length < 140737488355328 then (if x106007_2.length < 3518437208883 then (phaetonref22_Made.l0 kj28 (Go.bits .and .i64 ((rd_T47 l0_7 x5_2).f0) 65535) (wrap64 (x5_2 + 1)) a0_0 a0_1 a0_2 a0_3 a0_4 a0_5 a0_6 l0_7 l0_8 (wrap64 (1 + (Int.tmod (Go.bits .and .i64 a0_0 65535) 3))) a0_1 x106002_3 (Int.tmod (Go.bits .and .i64 a0_3 65535) 13) (Int.tmod (Go.bits .and .i64 a0_4 65535) 52) t103 t104 (x106007_2 ++ [(⟨Go.bits .and .i64 ((rd_T47 l0_7 x5_2).f0) 65535,(rd_T47 l0_7 x5_2).f1,(y110 ++ (((rd_T47 l0_7 x5_2).f2).take ((ji42) : Int).toNat))⟩ : S47)])) else (none)) else (none)) else (none)) else (none)) = some (r1,r2,r3,r4,r5,r6,r7,r8,r9) := by first | (rw [hji42] at H; exact H) | (simp only [hji42] at H ⊢; exact H)
                        have hji42_ : (if 64 < (((rd_T47 l0_7 x5_2).f2).length : Int) then 64 else (((rd_T47 l0_7 x5_2).f2).length : Int)) = ji42 := hji42
                        by_cases c43 : 0 ≤ (ji42)
                        · rw [if_pos c43] at H
                          have c43b0 := eq_true c43
                          have c43b1 : decide (0 ≤ (ji42)) = true := decide_eq_true c43
                          clear c43
                          by_cases c44 : (ji42) ≤ (((rd_T47 l0_7 x5_2).f2).length : Int)
                          · rw [if_pos c44] at H
                            have c44b0 := eq_true c44
                            have c44b1 : decide ((ji42) ≤ (((rd_T47 l0_7 x5_2).f2).length : Int)) = true := decide_eq_true c44
                            clear c44
                            by_cases c45 : y110.length + (((rd_T47 l0_7 x5_2).f2).take ((ji42) : Int).toNat).length < 140737488355328
                            · rw [if_pos c45] at H
                              have LMc45 := Aside0.mk c45
                              clear c45
                              obtain ⟨y116, hy116⟩ : ∃ y_ : List Int, y_ = (y110 ++ (((rd_T47 l0_7 x5_2).f2).take ((ji42) : Int).toNat)) := ⟨_, rfl⟩
                              replace H : (if x106007_2.length < 3518437208883 then (phaetonref22_Made.l0 kj28 (Go.bits .and .i64 ((rd_T47 l0_7 x5_2).f0) 65535) (wrap64 (x5_2 + 1)) a0_0 a0_1 a0_2 a0_3 a0_4 a0_5 a0_6 l0_7 l0_8 (wrap64 (1 + (Int.tmod (Go.bits .and .i64 a0_0 65535) 3))) a0_1 x106002_3 (Int.tmod (Go.bits .and .i64 a0_3 65535) 13) (Int.tmod (Go.bits .and .i64 a0_4 65535) 52) t103 t104 (x106007_2 ++ [(⟨Go.bits .and .i64 ((rd_T47 l0_7 x5_2).f0) 65535,(rd_T47 l0_7 x5_2).f1,y116⟩ : S47)])) else (none)) = some (r1,r2,r3,r4,r5,r6,r7,r8,r9) := by first | (rw [hy116]; with_reducible exact H) | (have H2_ := (Option.bind_some _ _).symm.trans H; rw [hy116]; with_reducible exact H2_) | (have H2_ := (Option.bind_some _ _).symm.trans H; with_reducible exact H2_) | with_reducible exact H | (rw [hy116]; exact H) | exact H
                              have Ny116 := Aside0.mk hy116
                              clear hy116
                              by_cases c46 : x106007_2.length < 3518437208883
                              · rw [if_pos c46] at H
                                have LMc46 := Aside0.mk c46
                                clear c46
                                obtain ⟨y119,hy119⟩ : ∃ y_ : List (S47),y_ = (x106007_2 ++ [(⟨Go.bits .and .i64 ((rd_T47 l0_7 x5_2).f0) 65535,(rd_T47 l0_7 x5_2).f1,y116⟩ : S47)]) := ⟨_,rfl⟩
                                replace H : (phaetonref22_Made.l0 kj28 (Go.bits .and .i64 ((rd_T47 l0_7 x5_2).f0) 65535) (wrap64 (x5_2 + 1)) a0_0 a0_1 a0_2 a0_3 a0_4 a0_5 a0_6 l0_7 l0_8 (wrap64 (1 + (Int.tmod (Go.bits .and .i64 a0_0 65535) 3))) a0_1 x106002_3 (Int.tmod (Go.bits .and .i64 a0_3 65535) 13) (Int.tmod (Go.bits .and .i64 a0_4 65535) 52) t103 t104 y119) = some (r1,r2,r3,r4,r5,r6,r7,r8,r9) := by first | (rw [hy119]; with_reducible exact H) | (have H2_ := (Option.bind_some _ _).symm.trans H; rw [hy119]; with_reducible exact H2_) | (have H2_ := (Option.bind_some _ _).symm.trans H; with_reducible exact H2_) | with_reducible exact H | (rw [hy119]; exact H) | exact H
                                have Ny119 := Aside0.mk hy119
                                clear hy119
                                have H' := Aside0.mk H
                                clear H
                                have hnb47 := NB101_102.out
                                have hnc47 := NB102_101.out
                                have hnb48 := NB101_105.out
                                have hnc48 := NB105_101.out
                                have hcz49_0 : wc.cell? ⟨gb101, 0, none⟩ = some (.int .i64 a0_0) := (blk_cell BK101.out 0).trans rfl
                                have hcz49_1 : wc.cell? ⟨gb101, 1, none⟩ = some (.bool a0_1) := (blk_cell BK101.out 1).trans rfl
                                have hcz49_2 : wc.cell? ⟨gb101, 2, none⟩ = some (.int .i64 a0_2) := (blk_cell BK101.out 2).trans rfl
                                have hcz49_3 : wc.cell? ⟨gb101, 3, none⟩ = some (.int .i64 a0_3) := (blk_cell BK101.out 3).trans rfl
                                have hcz49_4 : wc.cell? ⟨gb101, 4, none⟩ = some (.int .i64 a0_4) := (blk_cell BK101.out 4).trans rfl
                                have hcz49_5 : wc.cell? ⟨gb101, 5, none⟩ = some (.int .i64 a0_5) := (blk_cell BK101.out 5).trans rfl
                                have hcz49_6 : wc.cell? ⟨gb101, 6, none⟩ = some (.int .i64 a0_6) := (blk_cell BK101.out 6).trans rfl
                                have hcz49_7 : wc.cell? ⟨gb101, 7, none⟩ = some (.slice A0_7 l0_7.length c0_7) := (blk_cell BK101.out 7).trans rfl
                                have hcz49_8 : wc.cell? ⟨gb101, 8, none⟩ = some (.slice A0_8 l0_8.length c0_8) := (blk_cell BK101.out 8).trans rfl
                                have hfz49_0 := blk_frozen BK101.out 0
                                have hfz49_1 := blk_frozen BK101.out 1
                                have hfz49_2 := blk_frozen BK101.out 2
                                have hfz49_3 := blk_frozen BK101.out 3
                                have hfz49_4 := blk_frozen BK101.out 4
                                have hfz49_5 := blk_frozen BK101.out 5
                                have hfz49_6 := blk_frozen BK101.out 6
                                have hfz49_7 := blk_frozen BK101.out 7
                                have hfz49_8 := blk_frozen BK101.out 8
                                have p107 : 0 ≤ (x5_2 : Int) := of_decide_eq_true (by first | (with_reducible assumption) | assumption)
                                have q107 : x5_2 < (l0_7.length : Int) := of_decide_eq_true (by first | (with_reducible assumption) | assumption)
                                obtain ⟨ad107, A107_2, c107_2, e107, hx107_0, hx107_1, hx107_2, hl107_2, hi107_2⟩ := at_T47 HR0_7.out x5_2 p107 q107
                                cases e107
                                replace hx107_0 := (HB.out.cell (World.block_lt_of_cell? w _ hx107_0)).trans hx107_0
                                replace hx107_1 := (HB.out.cell (World.block_lt_of_cell? w _ hx107_1)).trans hx107_1
                                replace hx107_2 := (HB.out.cell (World.block_lt_of_cell? w _ hx107_2)).trans hx107_2
                                have HR107_2 := Aside0.mk hi107_2
                                have HC107_2 := Aside0.mk hl107_2
                                clear hi107_2 hl107_2
                                replace p107 := eq_true p107
                                replace q107 := eq_true q107
                                have p108 : 0 ≤ (x5_2 : Int) := of_decide_eq_true (by first | (with_reducible assumption) | assumption)
                                have q108 : x5_2 < (l0_7.length : Int) := of_decide_eq_true (by first | (with_reducible assumption) | assumption)
                                obtain ⟨ad108, A108_2, c108_2, e108, hx108_0, hx108_1, hx108_2, hl108_2, hi108_2⟩ := at_T47 HR0_7.out x5_2 p108 q108
                                obtain rfl : ad107 = ad108 := (by injection e108)
                                replace hx108_0 := (HB.out.cell (World.block_lt_of_cell? w _ hx108_0)).trans hx108_0
                                replace hx108_1 := (HB.out.cell (World.block_lt_of_cell? w _ hx108_1)).trans hx108_1
                                replace hx108_2 := (HB.out.cell (World.block_lt_of_cell? w _ hx108_2)).trans hx108_2
                                have HR108_2 := Aside0.mk hi108_2
                                have HC108_2 := Aside0.mk hl108_2
                                clear hi108_2 hl108_2
                                replace p108 := eq_true p108
                                replace q108 := eq_true q108
                                have ea_ := Option.some.inj (hx107_2.symm.trans hx108_2)
                                injection ea_ with ea_ en_ ec_
                                subst ea_
                                subst ec_
                                clear en_
                                try go_wp2
                                have n0_ := Aside0.mk (Kd.S_drew HO_106007.out)
                                have n1_ := Aside0.mk (blk_drew BK101.out)
                                have n2_ := Aside0.mk (blk_drew BK102.out)
                                have n3_ := Aside0.mk (blk_drew BK105.out)
                                have n4_ := Aside0.mk (below_drew1 HB.out)
                                clear HO_106007
                                clear BK101
                                clear BK102
                                clear BK105
                                clear HB
                                have HO_106007 := n0_
                                have BK101 := n1_
                                have BK102 := n2_
                                have BK105 := n3_
                                have HB := n4_
                                clear n0_ n1_ n2_ n3_ n4_
                                have p109 : 0 ≤ (x5_2 : Int) := of_decide_eq_true (by first | (with_reducible assumption) | assumption)
                                have q109 : x5_2 < (l0_7.length : Int) := of_decide_eq_true (by first | (with_reducible assumption) | assumption)
                                obtain ⟨ad109, A109_2, c109_2, e109, hx109_0, hx109_1, hx109_2, hl109_2, hi109_2⟩ := at_T47 HR0_7.out x5_2 p109 q109
                                have hw109_2 := hx109_2
                                have hw109_1 := hx109_1
                                have hw109_0 := hx109_0
                                obtain rfl : ad107 = ad109 := (by injection e109)
                                replace hx109_0 := (HB.out.cell (World.block_lt_of_cell? w _ hx109_0)).trans hx109_0
                                replace hx109_1 := (HB.out.cell (World.block_lt_of_cell? w _ hx109_1)).trans hx109_1
                                replace hx109_2 := (HB.out.cell (World.block_lt_of_cell? w _ hx109_2)).trans hx109_2
                                have HR109_2 := Aside0.mk hi109_2
                                have HC109_2 := Aside0.mk hl109_2
                                clear hi109_2 hl109_2
                                replace p109 := eq_true p109
                                replace q109 := eq_true q109
                                have p113 : 0 ≤ (x5_2 : Int) := of_decide_eq_true (by first | (with_reducible assumption) | assumption)
                                have q113 : x5_2 < (l0_7.length : Int) := of_decide_eq_true (by first | (with_reducible assumption) | assumption)
                                obtain ⟨ad113, A113_2, c113_2, e113, hx113_0, hx113_1, hx113_2, hl113_2, hi113_2⟩ := at_T47 HR0_7.out x5_2 p113 q113
                                have hw113_2 := hx113_2
                                have hw113_1 := hx113_1
                                have hw113_0 := hx113_0
                                obtain rfl : ad107 = ad113 := (by injection e113)
                                replace hx113_0 := (HB.out.cell (World.block_lt_of_cell? w _ hx113_0)).trans hx113_0
                                replace hx113_1 := (HB.out.cell (World.block_lt_of_cell? w _ hx113_1)).trans hx113_1
                                replace hx113_2 := (HB.out.cell (World.block_lt_of_cell? w _ hx113_2)).trans hx113_2
                                have HR113_2 := Aside0.mk hi113_2
                                have HC113_2 := Aside0.mk hl113_2
                                clear hi113_2 hl113_2
                                replace p113 := eq_true p113
                                replace q113 := eq_true q113
                                have ea_ := Option.some.inj (hx109_2.symm.trans hx113_2)
                                injection ea_ with ea_ en_ ec_
                                subst ea_
                                subst ec_
                                clear en_
                                have p114 : 0 ≤ (x5_2 : Int) := of_decide_eq_true (by first | (with_reducible assumption) | assumption)
                                have q114 : x5_2 < (l0_7.length : Int) := of_decide_eq_true (by first | (with_reducible assumption) | assumption)
                                obtain ⟨ad114, A114_2, c114_2, e114, hx114_0, hx114_1, hx114_2, hl114_2, hi114_2⟩ := at_T47 HR0_7.out x5_2 p114 q114
                                have hw114_2 := hx114_2
                                have hw114_1 := hx114_1
                                have hw114_0 := hx114_0
                                obtain rfl : ad107 = ad114 := (by injection e114)
                                replace hx114_0 := (HB.out.cell (World.block_lt_of_cell? w _ hx114_0)).trans hx114_0
                                replace hx114_1 := (HB.out.cell (World.block_lt_of_cell? w _ hx114_1)).trans hx114_1
                                replace hx114_2 := (HB.out.cell (World.block_lt_of_cell? w _ hx114_2)).trans hx114_2
                                have HR114_2 := Aside0.mk hi114_2
                                have HC114_2 := Aside0.mk hl114_2
                                clear hi114_2 hl114_2
                                replace p114 := eq_true p114
                                replace q114 := eq_true q114
                                have ea_ := Option.some.inj (hx109_2.symm.trans hx114_2)
                                injection ea_ with ea_ en_ ec_
                                subst ea_
                                subst ec_
                                clear en_
                                obtain ⟨i051, hi051, _, hsz51, _⟩ := info_parts info5
                                obtain ⟨hcut51,hA51,hC51⟩ := print_take_of (P := Try.prog) (Value.int .u8) 0 31 5 .i64 Try.underlying31 hi051 hsz51 A109_2 c109_2 ((rd_T47 l0_7 x5_2).f2) (ji42) (of_decide_eq_true (by first | (with_reducible assumption) | assumption)) (of_decide_eq_true (by first | (with_reducible assumption) | assumption)) HC113_2.out
                                have HR115 := Aside0.mk (Kd.C_of_reads (h1 := fun _ => rfl) (hA51 _ (Kd.reads_of_C HR113_2.out)))
                                have HC115 := Aside0.mk hC51
                                clear hA51 hC51 hi051 hsz51
                                refine start_ (n := 31) (S := fun w' => w'.cell? ⟨gb105,0,none⟩ = some (.int .i64 (wrap64 (1 + (Int.tmod (Go.bits .and .i64 a0_0 65535) 3)))) ∧ w'.cell? ⟨gb105,1,none⟩ = some (.bool a0_1) ∧ w'.cell? ⟨gb105,2,none⟩ = some (.int .i64 x106002_3) ∧ w'.cell? ⟨gb105,3,none⟩ = some (.int .i64 (Int.tmod (Go.bits .and .i64 a0_3 65535) 13)) ∧ w'.cell? ⟨gb105,4,none⟩ = some (.int .i64 (Int.tmod (Go.bits .and .i64 a0_4 65535) 52)) ∧ w'.cell? ⟨gb105,5,none⟩ = some (.int .i64 t103) ∧ w'.cell? ⟨gb105,6,none⟩ = some (.int .i64 t104) ∧ w'.cell? ⟨gb105,7,none⟩ = some (u106007) ∧ w'.cell? ⟨gb105,8,none⟩ = some (.slice none 0 0) ∧ w'.cell? ⟨gb101,0,none⟩ = some (.int .i64 a0_0) ∧ w'.cell? ⟨gb101,1,none⟩ = some (.bool a0_1) ∧ w'.cell? ⟨gb101,2,none⟩ = some (.int .i64 a0_2) ∧ w'.cell? ⟨gb101,3,none⟩ = some (.int .i64 a0_3) ∧ w'.cell? ⟨gb101,4,none⟩ = some (.int .i64 a0_4) ∧ w'.cell? ⟨gb101,5,none⟩ = some (.int .i64 a0_5) ∧ w'.cell? ⟨gb101,6,none⟩ = some (.int .i64 a0_6) ∧ w'.cell? ⟨gb101,7,none⟩ = some (.slice (some ad107) l0_7.length c0_7) ∧ w'.cell? ⟨gb101,8,none⟩ = some (.slice A0_8 l0_8.length c0_8) ∧ w'.cell? (ad107.add ((x5_2).toNat * 3)) = some (.int .i64 ((rd_T47 l0_7 x5_2).f0)) ∧ w'.cell? ⟨(ad107.add ((x5_2).toNat * 3)).block,(ad107.add ((x5_2).toNat * 3)).off + 1,none⟩ = some (.bool ((rd_T47 l0_7 x5_2).f1)) ∧ w'.cell? ⟨(ad107.add ((x5_2).toNat * 3)).block,(ad107.add ((x5_2).toNat * 3)).off + 2,none⟩ = some (.slice A109_2 ((rd_T47 l0_7 x5_2).f2).length c109_2) ∧ w'.cell? (ad107.add ((x5_2).toNat * 3)) = some (.int .i64 ((rd_T47 l0_7 x5_2).f0)) ∧ w'.cell? ⟨(ad107.add ((x5_2).toNat * 3)).block,(ad107.add ((x5_2).toNat * 3)).off + 1,none⟩ = some (.bool ((rd_T47 l0_7 x5_2).f1)) ∧ w'.cell? ⟨(ad107.add ((x5_2).toNat * 3)).block,(ad107.add ((x5_2).toNat * 3)).off + 2,none⟩ = some (.slice A109_2 ((rd_T47 l0_7 x5_2).f2).length c109_2) ∧ w'.cell? (ad107.add ((x5_2).toNat * 3)) = some (.int .i64 ((rd_T47 l0_7 x5_2).f0)) ∧ w'.cell? ⟨(ad107.add ((x5_2).toNat * 3)).block,(ad107.add ((x5_2).toNat * 3)).off + 1,none⟩ = some (.bool ((rd_T47 l0_7 x5_2).f1)) ∧ w'.cell? ⟨(ad107.add ((x5_2).toNat * 3)).block,(ad107.add ((x5_2).toNat * 3)).off + 2,none⟩ = some (.slice A109_2 ((rd_T47 l0_7 x5_2).f2).length c109_2)) (ds := [30]) #[false,false,false,false,false,false,false,false,false,false,false,false,false,false,false,false,false,false,false,false,false,false,false,false,false,false,false,false,false,false,false] (by kernel_rfl) rfl rfl ⟨(blk_cell BK105.out 0).trans rfl,(blk_cell BK105.out 1).trans rfl,(blk_cell BK105.out 2).trans rfl,(blk_cell BK105.out 3).trans rfl,(blk_cell BK105.out 4).trans rfl,(blk_cell BK105.out 5).trans rfl,(blk_cell BK105.out 6).trans rfl,(blk_cell BK105.out 7).trans rfl,(blk_cell BK105.out 8).trans rfl,(blk_cell BK101.out 0).trans rfl,(blk_cell BK101.out 1).trans rfl,(blk_cell BK101.out 2).trans rfl,(blk_cell BK101.out 3).trans rfl,(blk_cell BK101.out 4).trans rfl,(blk_cell BK101.out 5).trans rfl,(blk_cell BK101.out 6).trans rfl,(blk_cell BK101.out 7).trans rfl,(blk_cell BK101.out 8).trans rfl,((HB.out.cell (World.block_lt_of_cell? w _ hw109_0)).trans hw109_0),((HB.out.cell (World.block_lt_of_cell? w _ hw109_1)).trans hw109_1),((HB.out.cell (World.block_lt_of_cell? w _ hw109_2)).trans hw109_2),((HB.out.cell (World.block_lt_of_cell? w _ hw113_0)).trans hw113_0),((HB.out.cell (World.block_lt_of_cell? w _ hw113_1)).trans hw113_1),((HB.out.cell (World.block_lt_of_cell? w _ hw113_2)).trans hw113_2),((HB.out.cell (World.block_lt_of_cell? w _ hw114_0)).trans hw114_0),((HB.out.cell (World.block_lt_of_cell? w _ hw114_1)).trans hw114_1),((HB.out.cell (World.block_lt_of_cell? w _ hw114_2)).trans hw114_2)⟩ (fun hHeld => ?_); refine with_tabW phaetonref22_Made.tab10 phaetonref22_Made.bits10 (fun HT_ HW_ => ?_)
                                generalize wc.drew = w50 at HO_106007 BK101 BK102 BK105 HB HR109_2 HR113_2 HR114_2 HR115 hx109_0 hx109_1 hx109_2 hx113_0 hx113_1 hx113_2 hx114_0 hx114_1 hx114_2 hHeld ⊢
                                refine pure_ (i := 0) (N := some 67) (v := ?_) (a' := ?_) #[true,false,false,false,false,false,false,false,false,false,false,false,false,false,false,false,false,false,false,false,false,false,false,false,false,false,false,false,false,false,false] rfl rfl (any_of HT_.out (by kernel_rfl)) (fun _ _ _ h => h) (Or.inl ⟨by rfl,?_⟩) ?_ ?_
                                rotate_left
                                · intro w'
                                  go_simp
                                  with_reducible rfl
                                rotate_left
                                · simp only [Act.put, List.setIfInBounds_toArray, List.set_cons_zero, List.set_cons_succ, i64_w, i32_w]
                                  rfl
                                refine pure_ (i := 2) (N := some 69) (v := ?_) (a' := ?_) #[true,false,true,false,false,false,false,false,false,false,false,false,false,false,false,false,false,false,false,false,false,false,false,false,false,false,false,false,false,false,false] rfl rfl (any_of HT_.out (by kernel_rfl)) (fun _ _ _ h => h) (Or.inl ⟨by rfl,?_⟩) ?_ ?_
                                rotate_left
                                · intro w'
                                  go_simp
                                  with_reducible rfl
                                rotate_left
                                · simp only [Act.put, List.setIfInBounds_toArray, List.set_cons_zero, List.set_cons_succ, i64_w, i32_w]
                                  rfl
                                refine pure_ (i := 3) (N := some 70) (v := ?_) (a' := ?_) #[true,false,true,true,false,false,false,false,false,false,false,false,false,false,false,false,false,false,false,false,false,false,false,false,false,false,false,false,false,false,false] rfl rfl (any_of HT_.out (by kernel_rfl)) (fun _ _ _ h => h) (Or.inl ⟨by rfl,?_⟩) ?_ ?_
                                rotate_left
                                · intro w'
                                  go_simp
                                  with_reducible rfl
                                rotate_left
                                · simp only [Act.put, List.setIfInBounds_toArray, List.set_cons_zero, List.set_cons_succ, i64_w, i32_w]
                                  rfl
                                refine pure_ (i := 5) (N := some 72) (v := ?_) (a' := ?_) #[true,false,true,true,false,true,false,false,false,false,false,false,false,false,false,false,false,false,false,false,false,false,false,false,false,false,false,false,false,false,false] rfl rfl (any_of HT_.out (by kernel_rfl)) (fun _ _ _ h => h) (Or.inl ⟨by rfl,?_⟩) ?_ ?_
                                rotate_left
                                · intro w'
                                  go_simp
                                  with_reducible rfl
                                rotate_left
                                · simp only [Act.put, List.setIfInBounds_toArray, List.set_cons_zero, List.set_cons_succ, i64_w, i32_w]
                                  rfl
                                refine pure_ (i := 10) (N := some 77) (v := ?_) (a' := ?_) #[true,false,true,true,false,true,false,false,false,false,true,false,false,false,false,false,false,false,false,false,false,false,false,false,false,false,false,false,false,false,false] rfl rfl (any_of HT_.out (by kernel_rfl)) (fun _ _ _ h => h) (Or.inl ⟨by rfl,?_⟩) ?_ ?_
                                rotate_left
                                · intro w'
                                  go_simp
                                  with_reducible rfl
                                rotate_left
                                · simp only [Act.put, List.setIfInBounds_toArray, List.set_cons_zero, List.set_cons_succ, i64_w, i32_w]
                                  rfl
                                refine pure_ (i := 12) (N := some 79) (v := ?_) (a' := ?_) #[true,false,true,true,false,true,false,false,false,false,true,false,true,false,false,false,false,false,false,false,false,false,false,false,false,false,false,false,false,false,false] rfl rfl (any_of HT_.out (by kernel_rfl)) (fun _ _ _ h => h) (Or.inl ⟨by rfl,?_⟩) ?_ ?_
                                rotate_left
                                · intro w'
                                  go_simp
                                  with_reducible rfl
                                rotate_left
                                · simp only [Act.put, List.setIfInBounds_toArray, List.set_cons_zero, List.set_cons_succ, i64_w, i32_w]
                                  rfl
                                refine pure_ (i := 16) (N := some 83) (v := ?_) (a' := ?_) #[true,false,true,true,false,true,false,false,false,false,true,false,true,false,false,false,true,false,false,false,false,false,false,false,false,false,false,false,false,false,false] rfl rfl (any_of HT_.out (by kernel_rfl)) (fun _ _ _ h => h) (Or.inl ⟨by rfl,?_⟩) ?_ ?_
                                rotate_left
                                · intro w'
                                  go_simp
                                  with_reducible rfl
                                rotate_left
                                · simp only [Act.put, List.setIfInBounds_toArray, List.set_cons_zero, List.set_cons_succ, i64_w, i32_w]
                                  rfl
                                refine pure_ (i := 18) (N := some 85) (v := ?_) (a' := ?_) #[true,false,true,true,false,true,false,false,false,false,true,false,true,false,false,false,true,false,true,false,false,false,false,false,false,false,false,false,false,false,false] rfl rfl (any_of HT_.out (by kernel_rfl)) (fun _ _ _ h => h) (Or.inl ⟨by rfl,?_⟩) ?_ ?_
                                rotate_left
                                · intro w'
                                  go_simp
                                  with_reducible rfl
                                rotate_left
                                · simp only [Act.put, List.setIfInBounds_toArray, List.set_cons_zero, List.set_cons_succ, i64_w, i32_w]
                                  rfl
                                refine take_ (i := 1) (N := some 68) (v := ?_) (a' := ?_) #[true,true,true,true,false,true,false,false,false,false,true,false,true,false,false,false,true,false,true,false,false,false,false,false,false,false,false,false,false,false,false] rfl rfl (take_ofW HT_.out HW_.out (by kernel_rfl)) (fun _ _ _ h => h) (Or.inl ⟨by rfl,?_⟩) hHeld ?_ ?_
                                rotate_left
                                · rintro w' ⟨s0,s1,s2,s3,s4,s5,s6,s7,s8,s9,s10,s11,s12,s13,s14,s15,s16,s17,s18,s19,s20,s21,s22,s23,s24,s25,s26⟩
                                  go_simp
                                  with_reducible rfl
                                rotate_left
                                · simp only [Act.put, List.setIfInBounds_toArray, List.set_cons_zero, List.set_cons_succ, i64_w, i32_w]
                                  rfl
                                refine take_ (i := 4) (N := some 71) (v := ?_) (a' := ?_) #[true,true,true,true,true,true,false,false,false,false,true,false,true,false,false,false,true,false,true,false,false,false,false,false,false,false,false,false,false,false,false] rfl rfl (take_ofW HT_.out HW_.out (by kernel_rfl)) (fun _ _ _ h => h) (Or.inl ⟨by rfl,?_⟩) hHeld ?_ ?_
                                rotate_left
                                · rintro w' ⟨s0,s1,s2,s3,s4,s5,s6,s7,s8,s9,s10,s11,s12,s13,s14,s15,s16,s17,s18,s19,s20,s21,s22,s23,s24,s25,s26⟩
                                  go_simp
                                  with_reducible rfl
                                rotate_left
                                · simp only [Act.put, List.setIfInBounds_toArray, List.set_cons_zero, List.set_cons_succ, i64_w, i32_w]
                                  rfl
                                refine pure_ (i := 6) (N := some 73) (v := ?_) (a' := ?_) #[true,true,true,true,true,true,true,false,false,false,true,false,true,false,false,false,true,false,true,false,false,false,false,false,false,false,false,false,false,false,false] rfl rfl (any_of HT_.out (by kernel_rfl)) (fun _ _ _ h => h) (Or.inl ⟨by rfl,?_⟩) ?_ ?_
                                rotate_left
                                · intro w'
                                  go_simp
                                  with_reducible rfl
                                rotate_left
                                · simp only [Act.put, List.setIfInBounds_toArray, List.set_cons_zero, List.set_cons_succ, i64_w, i32_w]
                                  rfl
                                refine pure_ (i := 7) (N := some 74) (v := ?_) (a' := ?_) #[true,true,true,true,true,true,true,true,false,false,true,false,true,false,false,false,true,false,true,false,false,false,false,false,false,false,false,false,false,false,false] rfl rfl (any_of HT_.out (by kernel_rfl)) (fun _ _ _ h => h) (Or.inl ⟨by rfl,?_⟩) ?_ ?_
                                rotate_left
                                · intro w'
                                  go_simp
                                  with_reducible rfl
                                rotate_left
                                · simp only [Act.put, List.setIfInBounds_toArray, List.set_cons_zero, List.set_cons_succ, i64_w, i32_w]
                                  rfl
                                refine take_ (i := 8) (N := some 75) (v := ?_) (a' := ?_) #[true,true,true,true,true,true,true,true,true,false,true,false,true,false,false,false,true,false,true,false,false,false,false,false,false,false,false,false,false,false,false] rfl rfl (take_ofW HT_.out HW_.out (by kernel_rfl)) (fun _ _ _ h => h) (Or.inl ⟨by rfl,?_⟩) hHeld ?_ ?_
                                rotate_left
                                · rintro w' ⟨s0,s1,s2,s3,s4,s5,s6,s7,s8,s9,s10,s11,s12,s13,s14,s15,s16,s17,s18,s19,s20,s21,s22,s23,s24,s25,s26⟩
                                  go_simp
                                  with_reducible rfl
                                rotate_left
                                · simp only [Act.put, List.setIfInBounds_toArray, List.set_cons_zero, List.set_cons_succ, i64_w, i32_w]
                                  rfl
                                refine take_ (i := 11) (N := some 78) (v := ?_) (a' := ?_) #[true,true,true,true,true,true,true,true,true,false,true,true,true,false,false,false,true,false,true,false,false,false,false,false,false,false,false,false,false,false,false] rfl rfl (take_ofW HT_.out HW_.out (by kernel_rfl)) (fun _ _ _ h => h) (Or.inl ⟨by rfl,?_⟩) hHeld ?_ ?_
                                rotate_left
                                · rintro w' ⟨s0,s1,s2,s3,s4,s5,s6,s7,s8,s9,s10,s11,s12,s13,s14,s15,s16,s17,s18,s19,s20,s21,s22,s23,s24,s25,s26⟩
                                  go_simp
                                  with_reducible rfl
                                rotate_left
                                · simp only [Act.put, List.setIfInBounds_toArray, List.set_cons_zero, List.set_cons_succ, i64_w, i32_w]
                                  rfl
                                refine pure_ (i := 13) (N := some 80) (v := ?_) (a' := ?_) #[true,true,true,true,true,true,true,true,true,false,true,true,true,true,false,false,true,false,true,false,false,false,false,false,false,false,false,false,false,false,false] rfl rfl (any_of HT_.out (by kernel_rfl)) (fun _ _ _ h => h) (Or.inl ⟨by rfl,?_⟩) ?_ ?_
                                rotate_left
                                · intro w'
                                  go_simp
                                  with_reducible rfl
                                rotate_left
                                · simp only [Act.put, List.setIfInBounds_toArray, List.set_cons_zero, List.set_cons_succ, i64_w, i32_w]
                                  rfl
                                refine pure_ (i := 14) (N := some 81) (v := ?_) (a' := ?_) #[true,true,true,true,true,true,true,true,true,false,true,true,true,true,true,false,true,false,true,false,false,false,false,false,false,false,false,false,false,false,false] rfl rfl (any_of HT_.out (by kernel_rfl)) (fun _ _ _ h => h) (Or.inl ⟨by rfl,?_⟩) ?_ ?_
                                rotate_left
                                · intro w'
                                  go_simp
                                  with_reducible rfl
                                rotate_left
                                · simp only [Act.put, List.setIfInBounds_toArray, List.set_cons_zero, List.set_cons_succ, i64_w, i32_w]
                                  rfl
                                refine take_ (i := 15) (N := some 82) (v := ?_) (a' := ?_) #[true,true,true,true,true,true,true,true,true,false,true,true,true,true,true,true,true,false,true,false,false,false,false,false,false,false,false,false,false,false,false] rfl rfl (take_ofW HT_.out HW_.out (by kernel_rfl)) (fun _ _ _ h => h) (Or.inl ⟨by rfl,?_⟩) hHeld ?_ ?_
                                rotate_left
                                · rintro w' ⟨s0,s1,s2,s3,s4,s5,s6,s7,s8,s9,s10,s11,s12,s13,s14,s15,s16,s17,s18,s19,s20,s21,s22,s23,s24,s25,s26⟩
                                  go_simp
                                  with_reducible rfl
                                rotate_left
                                · simp only [Act.put, List.setIfInBounds_toArray, List.set_cons_zero, List.set_cons_succ, i64_w, i32_w]
                                  rfl
                                refine take_ (i := 17) (N := some 84) (v := ?_) (a' := ?_) #[true,true,true,true,true,true,true,true,true,false,true,true,true,true,true,true,true,true,true,false,false,false,false,false,false,false,false,false,false,false,false] rfl rfl (take_ofW HT_.out HW_.out (by kernel_rfl)) (fun _ _ _ h => h) (Or.inl ⟨by rfl,?_⟩) hHeld ?_ ?_
                                rotate_left
                                · rintro w' ⟨s0,s1,s2,s3,s4,s5,s6,s7,s8,s9,s10,s11,s12,s13,s14,s15,s16,s17,s18,s19,s20,s21,s22,s23,s24,s25,s26⟩
                                  go_simp
                                  with_reducible rfl
                                rotate_left
                                · simp only [Act.put, List.setIfInBounds_toArray, List.set_cons_zero, List.set_cons_succ, i64_w, i32_w]
                                  rfl
                                refine pure_ (i := 19) (N := some 86) (v := ?_) (a' := ?_) #[true,true,true,true,true,true,true,true,true,false,true,true,true,true,true,true,true,true,true,true,false,false,false,false,false,false,false,false,false,false,false] rfl rfl (any_of HT_.out (by kernel_rfl)) (fun _ _ _ h => h) (Or.inl ⟨by rfl,?_⟩) ?_ ?_
                                rotate_left
                                · intro w'
                                  go_simp
                                  with_reducible rfl
                                rotate_left
                                · simp only [Act.put, List.setIfInBounds_toArray, List.set_cons_zero, List.set_cons_succ, i64_w, i32_w]
                                  rfl
                                refine pure_ (i := 20) (N := some 87) (v := ?_) (a' := ?_) #[true,true,true,true,true,true,true,true,true,false,true,true,true,true,true,true,true,true,true,true,true,false,false,false,false,false,false,false,false,false,false] rfl rfl (any_of HT_.out (by kernel_rfl)) (fun _ _ _ h => h) (Or.inl ⟨by rfl,?_⟩) ?_ ?_
                                rotate_left
                                · intro w'
                                  go_simp
                                  with_reducible rfl
                                rotate_left
                                · simp only [Act.put, List.setIfInBounds_toArray, List.set_cons_zero, List.set_cons_succ, i64_w, i32_w]
                                  rfl
                                refine take_ (i := 21) (N := some 88) (v := ?_) (a' := ?_) #[true,true,true,true,true,true,true,true,true,false,true,true,true,true,true,true,true,true,true,true,true,true,false,false,false,false,false,false,false,false,false] rfl rfl (take_ofW HT_.out HW_.out (by kernel_rfl)) (fun _ _ _ h => h) (Or.inl ⟨by rfl,?_⟩) hHeld ?_ ?_
                                rotate_left
                                · rintro w' ⟨s0,s1,s2,s3,s4,s5,s6,s7,s8,s9,s10,s11,s12,s13,s14,s15,s16,s17,s18,s19,s20,s21,s22,s23,s24,s25,s26⟩
                                  go_simp
                                  with_reducible rfl
                                rotate_left
                                · simp only [Act.put, List.setIfInBounds_toArray, List.set_cons_zero, List.set_cons_succ, i64_w, i32_w]
                                  rfl
                                refine pure_ (i := 22) (N := some 89) (v := ?_) (a' := ?_) #[true,true,true,true,true,true,true,true,true,false,true,true,true,true,true,true,true,true,true,true,true,true,true,false,false,false,false,false,false,false,false] rfl rfl (any_of HT_.out (by kernel_rfl)) (fun _ _ _ h => h) (Or.inl ⟨by rfl,?_⟩) ?_ ?_
                                rotate_left
                                · intro w'
                                  go_simp
                                  with_reducible rfl
                                rotate_left
                                · simp only [Act.put, List.setIfInBounds_toArray, List.set_cons_zero, List.set_cons_succ, i64_w, i32_w]
                                  rfl
                                refine pure_ (i := 23) (N := some 90) (v := ?_) (a' := ?_) #[true,true,true,true,true,true,true,true,true,false,true,true,true,true,true,true,true,true,true,true,true,true,true,true,false,false,false,false,false,false,false] rfl rfl (any_of HT_.out (by kernel_rfl)) (fun _ _ _ h => h) (Or.inl ⟨by rfl,?_⟩) ?_ ?_
                                rotate_left
                                · intro w'
                                  go_simp
                                  with_reducible rfl
                                rotate_left
                                · simp only [Act.put, List.setIfInBounds_toArray, List.set_cons_zero, List.set_cons_succ, i64_w, i32_w]
                                  rfl
                                refine pure_ (i := 24) (N := some 91) (v := ?_) (a' := ?_) #[true,true,true,true,true,true,true,true,true,false,true,true,true,true,true,true,true,true,true,true,true,true,true,true,true,false,false,false,false,false,false] rfl rfl (any_of HT_.out (by kernel_rfl)) (fun _ _ _ h => h) (Or.inl ⟨by rfl,?_⟩) ?_ ?_
                                rotate_left
                                · intro w'
                                  go_simp
                                  with_reducible rfl
                                rotate_left
                                · simp only [Act.put, List.setIfInBounds_toArray, List.set_cons_zero, List.set_cons_succ, i64_w, i32_w]
                                  rfl
                                refine one_ (i := 9) (N := some 76) #[true,true,true,true,true,true,true,true,true,true,true,true,true,true,true,true,true,true,true,true,true,true,true,true,true,false,false,false,false,false,false] rfl rfl (one_of HT_.out (by kernel_rfl)) (by decide) (fun K hK => ?_)
                                refine Kd.R_lit_step (Kd.int .u8) _ 5 ?hg (N := 76) ?hd (xs := ([] : List Int)) (inner := []) (ok := fun _ => True) (okp := fun _ => True) ?hr ?hp (fun _ hk => hk) trivial (Below.refl _ _) (Nat.le_refl _) (by simp) ?_; (case hd => rfl); (case hg => rfl); (case hr => first | (go_simp; done) | (go_simp; rfl)); (case hp => exact (Reps.none _ _))
                                intro v111 w52 ho53 hb hg_ hnew_
                                clear hg_ hnew_
                                (first | rw [← Ny110.out] at ho53 | (simp only [Int.reduceToNat] at ho53; rw [← Ny110.out] at ho53))
                                have n0_ := Aside0.mk (Kd.S_elder' (by (with_reducible repeat (first | apply Kd.S_alloc | apply Kd.S_drewN | apply Kd.S_drew)); exact HO_106007.out) (Kd.R_base ho53) hb)
                                have n1_ := Aside0.mk (Kd.R_lower ho53 (below_size (by repeat (first | (with_reducible first | exact HB.out | apply below_alloc | apply pw_below_drewN | apply below_drew1 | refine below_set ?_ GE101.out | refine below_set ?_ GE102.out | refine below_set ?_ GE105.out) | exact HB.out))))
                                have n2_ := Aside0.mk (blk_below (g := gb101) (o := .cells #[.int .i64 a0_0,.bool a0_1,.int .i64 a0_2,.int .i64 a0_3,.int .i64 a0_4,.int .i64 a0_5,.int .i64 a0_6,.slice (some ad107) l0_7.length c0_7,.slice A0_8 l0_8.length c0_8] 25 (0,0)) (by (with_reducible repeat (first | refine blk_drewN ?_ _ | refine blk_drew ?_ | refine blk_alloc ?_ _)); exact BK101.out) hb)
                                have n3_ := Aside0.mk (blk_below (g := gb102) (o := .cells #[.int .i64 0,.bool false,.int .i64 0,.int .i64 0,.int .i64 0,.int .i64 0,.int .i64 0,.slice none 0 0,.slice none 0 0] 25 (0,0)) (by (with_reducible repeat (first | refine blk_drewN ?_ _ | refine blk_drew ?_ | refine blk_alloc ?_ _)); exact BK102.out) hb)
                                have n4_ := Aside0.mk (blk_below (g := gb105) (o := .cells #[.int .i64 (wrap64 (1 + (Int.tmod (Go.bits .and .i64 a0_0 65535) 3))),.bool a0_1,.int .i64 x106002_3,.int .i64 (Int.tmod (Go.bits .and .i64 a0_3 65535) 13),.int .i64 (Int.tmod (Go.bits .and .i64 a0_4 65535) 52),.int .i64 t103,.int .i64 t104,u106007,.slice none 0 0] 25 (0,0)) (by (with_reducible repeat (first | refine blk_drewN ?_ _ | refine blk_drew ?_ | refine blk_alloc ?_ _)); exact BK105.out) hb)
                                have n5_ := Aside0.mk (below_step (by repeat (first | (with_reducible first | exact HB.out | apply below_alloc | apply pw_below_drewN | apply below_drew1 | refine below_set ?_ GE101.out | refine below_set ?_ GE102.out | refine below_set ?_ GE105.out) | exact HB.out)) hb)
                                clear HO_106007
                                clear BK101
                                clear BK102
                                clear BK105
                                clear HB
                                have HO_106007 := n0_
                                have HO112 := n1_
                                have BK101 := n2_
                                have BK102 := n3_
                                have BK105 := n4_
                                have HB := n5_
                                clear n0_ n1_ n2_ n3_ n4_ n5_
                                clear hb ho53
                                refine hK.out _ _ ⟨(blk_cell BK105.out 0).trans rfl,(blk_cell BK105.out 1).trans rfl,(blk_cell BK105.out 2).trans rfl,(blk_cell BK105.out 3).trans rfl,(blk_cell BK105.out 4).trans rfl,(blk_cell BK105.out 5).trans rfl,(blk_cell BK105.out 6).trans rfl,(blk_cell BK105.out 7).trans rfl,(blk_cell BK105.out 8).trans rfl,(blk_cell BK101.out 0).trans rfl,(blk_cell BK101.out 1).trans rfl,(blk_cell BK101.out 2).trans rfl,(blk_cell BK101.out 3).trans rfl,(blk_cell BK101.out 4).trans rfl,(blk_cell BK101.out 5).trans rfl,(blk_cell BK101.out 6).trans rfl,(blk_cell BK101.out 7).trans rfl,(blk_cell BK101.out 8).trans rfl,((HB.out.cell (World.block_lt_of_cell? w _ hw109_0)).trans hw109_0),((HB.out.cell (World.block_lt_of_cell? w _ hw109_1)).trans hw109_1),((HB.out.cell (World.block_lt_of_cell? w _ hw109_2)).trans hw109_2),((HB.out.cell (World.block_lt_of_cell? w _ hw113_0)).trans hw113_0),((HB.out.cell (World.block_lt_of_cell? w _ hw113_1)).trans hw113_1),((HB.out.cell (World.block_lt_of_cell? w _ hw113_2)).trans hw113_2),((HB.out.cell (World.block_lt_of_cell? w _ hw114_0)).trans hw114_0),((HB.out.cell (World.block_lt_of_cell? w _ hw114_1)).trans hw114_1),((HB.out.cell (World.block_lt_of_cell? w _ hw114_2)).trans hw114_2)⟩ (fun hHeld => ?_)
                                clear hK K
                                refine norm_ (a' := ?_) ?_ ?_
                                rotate_left
                                · show Act.put _ (some 76) _ = _
                                  simp only [Act.put, List.setIfInBounds_toArray, List.set_cons_zero, List.set_cons_succ, i64_w, i32_w]
                                  rfl
                                refine one_ (i := 25) (N := some 92) #[true,true,true,true,true,true,true,true,true,true,true,true,true,true,true,true,true,true,true,true,true,true,true,true,true,true,false,false,false,false,false] rfl rfl (one_of HT_.out (by kernel_rfl)) (by decide) (fun K hK => ?_)
                                refine Kd.R_append_rows_step (Kd.int .u8) (w0 := w) w.heap.size (by rfl) (.tmp 76) (.tmp 91) 31 5 (.int .u8 0) 1 rfl Try.underlying31 info5 rfl (by decide) (by omega) v111 y110 (((rd_T47 l0_7 x5_2).f2).take ((ji42) : Int).toNat) _ _ _ (fun _ => True) (fun _ => False) rfl rfl ?aO ?aR (fun _ _ h => h) (fun _ h => h.elim) ?aF ?aB ?aS ?aL ?_
                                (case aR => have hlen_ : (((rd_T47 l0_7 x5_2).f2).take ((ji42) : Int).toNat).length = (ji42).toNat := (by rw [List.length_take]; have h_ : ((ji42) : Int) ≤ (((rd_T47 l0_7 x5_2).f2).length : Int) := of_decide_eq_true (by first | (with_reducible assumption) | assumption); omega); have hr_ := HR115.out; (rw [hlen_] at hr_); repeat (first | exact (Kd.C_below hr_ HB.out) | (with_reducible refine Kd.C_alloc ?_ _) | (with_reducible refine Kd.C_drewN ?_ _) | (with_reducible refine Kd.C_drew ?_)))
                                (case aB => exact (by repeat (first | (with_reducible first | exact HB.out | apply below_alloc | apply pw_below_drewN | apply below_drew1 | refine below_set ?_ GE101.out | refine below_set ?_ GE102.out | refine below_set ?_ GE105.out) | exact HB.out)))
                                (case aF => exact (fun _ _ => trivial))
                                (case aO => exact (by (with_reducible repeat (first | apply Kd.R_alloc | apply Kd.R_drewN | apply Kd.R_drew)); exact HO112.out))
                                (case aS => exact (below_size (by repeat (first | (with_reducible first | exact HB.out | apply below_alloc | apply pw_below_drewN | apply below_drew1 | refine below_set ?_ GE101.out | refine below_set ?_ GE102.out | refine below_set ?_ GE105.out) | exact HB.out))))
                                (case aL => have := LMc45.out; have hlx_ := (show (((rd_T47 l0_7 x5_2).f2).take ((ji42) : Int).toNat).length = (ji42).toNat from (by rw [List.length_take]; have h_ : ((ji42) : Int) ≤ (((rd_T47 l0_7 x5_2).f2).length : Int) := of_decide_eq_true (by first | (with_reducible assumption) | assumption); omega)); omega)
                                intro v117 w54 ho hb hg hat
                                rw [← Ny116.out] at ho
                                have n0_ := Aside0.mk (Kd.S_after (ok := (fun _ => True)) (by (with_reducible repeat (first | apply Kd.S_alloc | apply Kd.S_drewN | apply Kd.S_drew)); exact HO_106007.out) hg hat)
                                have n1_ := Aside0.mk (blk_grown (g := gb101) (o := .cells #[.int .i64 a0_0,.bool a0_1,.int .i64 a0_2,.int .i64 a0_3,.int .i64 a0_4,.int .i64 a0_5,.int .i64 a0_6,.slice (some ad107) l0_7.length c0_7,.slice A0_8 l0_8.length c0_8] 25 (0,0)) (by (with_reducible repeat (first | refine blk_drewN ?_ _ | refine blk_drew ?_ | refine blk_alloc ?_ _)); exact BK101.out) hg (Kd.R_ne HO112.out BK101.out (by decide)))
                                have n2_ := Aside0.mk (blk_grown (g := gb102) (o := .cells #[.int .i64 0,.bool false,.int .i64 0,.int .i64 0,.int .i64 0,.int .i64 0,.int .i64 0,.slice none 0 0,.slice none 0 0] 25 (0,0)) (by (with_reducible repeat (first | refine blk_drewN ?_ _ | refine blk_drew ?_ | refine blk_alloc ?_ _)); exact BK102.out) hg (Kd.R_ne HO112.out BK102.out (by decide)))
                                have n3_ := Aside0.mk (blk_grown (g := gb105) (o := .cells #[.int .i64 (wrap64 (1 + (Int.tmod (Go.bits .and .i64 a0_0 65535) 3))),.bool a0_1,.int .i64 x106002_3,.int .i64 (Int.tmod (Go.bits .and .i64 a0_3 65535) 13),.int .i64 (Int.tmod (Go.bits .and .i64 a0_4 65535) 52),.int .i64 t103,.int .i64 t104,u106007,.slice none 0 0] 25 (0,0)) (by (with_reducible repeat (first | refine blk_drewN ?_ _ | refine blk_drew ?_ | refine blk_alloc ?_ _)); exact BK105.out) hg (Kd.R_ne HO112.out BK105.out (by decide)))
                                have n4_ := Aside0.mk (hb)
                                have n5_ := Aside0.mk (ho)
                                clear HO_106007
                                clear BK101
                                clear BK102
                                clear BK105
                                clear HB
                                clear HO112
                                have HO_106007 := n0_
                                have BK101 := n1_
                                have BK102 := n2_
                                have BK105 := n3_
                                have HB := n4_
                                have HO118 := n5_
                                clear n0_ n1_ n2_ n3_ n4_ n5_
                                clear ho hb hg hat
                                obtain ⟨Ao55, co55, eo55⟩ := Kd.R_slice HO118.out
                                (first | subst eo55 | (injection eo55 with f1_ f2_ f3_; have f4_ := f1_.symm; have f5_ := f3_.symm; clear f1_ f2_ f3_; subst f4_; subst f5_))
                                refine hK.out _ _ ⟨(blk_cell BK105.out 0).trans rfl,(blk_cell BK105.out 1).trans rfl,(blk_cell BK105.out 2).trans rfl,(blk_cell BK105.out 3).trans rfl,(blk_cell BK105.out 4).trans rfl,(blk_cell BK105.out 5).trans rfl,(blk_cell BK105.out 6).trans rfl,(blk_cell BK105.out 7).trans rfl,(blk_cell BK105.out 8).trans rfl,(blk_cell BK101.out 0).trans rfl,(blk_cell BK101.out 1).trans rfl,(blk_cell BK101.out 2).trans rfl,(blk_cell BK101.out 3).trans rfl,(blk_cell BK101.out 4).trans rfl,(blk_cell BK101.out 5).trans rfl,(blk_cell BK101.out 6).trans rfl,(blk_cell BK101.out 7).trans rfl,(blk_cell BK101.out 8).trans rfl,((HB.out.cell (World.block_lt_of_cell? w _ hw109_0)).trans hw109_0),((HB.out.cell (World.block_lt_of_cell? w _ hw109_1)).trans hw109_1),((HB.out.cell (World.block_lt_of_cell? w _ hw109_2)).trans hw109_2),((HB.out.cell (World.block_lt_of_cell? w _ hw113_0)).trans hw113_0),((HB.out.cell (World.block_lt_of_cell? w _ hw113_1)).trans hw113_1),((HB.out.cell (World.block_lt_of_cell? w _ hw113_2)).trans hw113_2),((HB.out.cell (World.block_lt_of_cell? w _ hw114_0)).trans hw114_0),((HB.out.cell (World.block_lt_of_cell? w _ hw114_1)).trans hw114_1),((HB.out.cell (World.block_lt_of_cell? w _ hw114_2)).trans hw114_2)⟩ (fun hHeld => ?_)
                                clear hK K
                                refine norm_ (a' := ?_) ?_ ?_
                                rotate_left
                                · show Act.put _ (some 92) _ = _
                                  simp only [Act.put, List.setIfInBounds_toArray, List.set_cons_zero, List.set_cons_succ, i64_w, i32_w]
                                  rfl
                                refine pure_ (i := 26) (N := some 93) (v := ?_) (a' := ?_) #[true,true,true,true,true,true,true,true,true,true,true,true,true,true,true,true,true,true,true,true,true,true,true,true,true,true,true,false,false,false,false] rfl rfl (any_of HT_.out (by kernel_rfl)) (fun _ _ _ h => h) (Or.inl ⟨by rfl,?_⟩) ?_ ?_
                                rotate_left
                                · intro w'
                                  go_simp
                                  with_reducible rfl
                                rotate_left
                                · simp only [Act.put, List.setIfInBounds_toArray, List.set_cons_zero, List.set_cons_succ, i64_w, i32_w]
                                  rfl
                                refine one_ (i := 27) (N := some 94) #[true,true,true,true,true,true,true,true,true,true,true,true,true,true,true,true,true,true,true,true,true,true,true,true,true,true,true,true,false,false,false] rfl rfl (one_of HT_.out (by kernel_rfl)) (by decide) (fun K hK => ?_)
                                refine value_ (w1 := ?_) (v := ?_) (by rfl) rfl ?_ ?_
                                rotate_left 2
                                · go_simp
                                  constructor
                                  · rfl
                                  · rfl
                                refine hK.out _ _ ⟨(blk_cell (blk_alloc BK105.out _) 0).trans rfl,(blk_cell (blk_alloc BK105.out _) 1).trans rfl,(blk_cell (blk_alloc BK105.out _) 2).trans rfl,(blk_cell (blk_alloc BK105.out _) 3).trans rfl,(blk_cell (blk_alloc BK105.out _) 4).trans rfl,(blk_cell (blk_alloc BK105.out _) 5).trans rfl,(blk_cell (blk_alloc BK105.out _) 6).trans rfl,(blk_cell (blk_alloc BK105.out _) 7).trans rfl,(blk_cell (blk_alloc BK105.out _) 8).trans rfl,(blk_cell (blk_alloc BK101.out _) 0).trans rfl,(blk_cell (blk_alloc BK101.out _) 1).trans rfl,(blk_cell (blk_alloc BK101.out _) 2).trans rfl,(blk_cell (blk_alloc BK101.out _) 3).trans rfl,(blk_cell (blk_alloc BK101.out _) 4).trans rfl,(blk_cell (blk_alloc BK101.out _) 5).trans rfl,(blk_cell (blk_alloc BK101.out _) 6).trans rfl,(blk_cell (blk_alloc BK101.out _) 7).trans rfl,(blk_cell (blk_alloc BK101.out _) 8).trans rfl,(World.cell?_alloc_lt _ _ _ (World.block_lt_of_cell? _ _ (((HB.out.cell (World.block_lt_of_cell? w _ hw109_0)).trans hw109_0)))).trans (((HB.out.cell (World.block_lt_of_cell? w _ hw109_0)).trans hw109_0)),(World.cell?_alloc_lt _ _ _ (World.block_lt_of_cell? _ _ (((HB.out.cell (World.block_lt_of_cell? w _ hw109_1)).trans hw109_1)))).trans (((HB.out.cell (World.block_lt_of_cell? w _ hw109_1)).trans hw109_1)),(World.cell?_alloc_lt _ _ _ (World.block_lt_of_cell? _ _ (((HB.out.cell (World.block_lt_of_cell? w _ hw109_2)).trans hw109_2)))).trans (((HB.out.cell (World.block_lt_of_cell? w _ hw109_2)).trans hw109_2)),(World.cell?_alloc_lt _ _ _ (World.block_lt_of_cell? _ _ (((HB.out.cell (World.block_lt_of_cell? w _ hw113_0)).trans hw113_0)))).trans (((HB.out.cell (World.block_lt_of_cell? w _ hw113_0)).trans hw113_0)),(World.cell?_alloc_lt _ _ _ (World.block_lt_of_cell? _ _ (((HB.out.cell (World.block_lt_of_cell? w _ hw113_1)).trans hw113_1)))).trans (((HB.out.cell (World.block_lt_of_cell? w _ hw113_1)).trans hw113_1)),(World.cell?_alloc_lt _ _ _ (World.block_lt_of_cell? _ _ (((HB.out.cell (World.block_lt_of_cell? w _ hw113_2)).trans hw113_2)))).trans (((HB.out.cell (World.block_lt_of_cell? w _ hw113_2)).trans hw113_2)),(World.cell?_alloc_lt _ _ _ (World.block_lt_of_cell? _ _ (((HB.out.cell (World.block_lt_of_cell? w _ hw114_0)).trans hw114_0)))).trans (((HB.out.cell (World.block_lt_of_cell? w _ hw114_0)).trans hw114_0)),(World.cell?_alloc_lt _ _ _ (World.block_lt_of_cell? _ _ (((HB.out.cell (World.block_lt_of_cell? w _ hw114_1)).trans hw114_1)))).trans (((HB.out.cell (World.block_lt_of_cell? w _ hw114_1)).trans hw114_1)),(World.cell?_alloc_lt _ _ _ (World.block_lt_of_cell? _ _ (((HB.out.cell (World.block_lt_of_cell? w _ hw114_2)).trans hw114_2)))).trans (((HB.out.cell (World.block_lt_of_cell? w _ hw114_2)).trans hw114_2))⟩ (fun hHeld => ?_)
                                clear hK K
                                refine norm_ (a' := ?_) ?_ ?_
                                rotate_left
                                · show Act.put _ (some 94) _ = _
                                  simp only [Act.put, List.setIfInBounds_toArray, List.set_cons_zero, List.set_cons_succ, i64_w, i32_w]
                                  rfl
                                refine one_ (i := 28) (N := some 95) #[true,true,true,true,true,true,true,true,true,true,true,true,true,true,true,true,true,true,true,true,true,true,true,true,true,true,true,true,true,false,false] rfl rfl (one_of HT_.out (by kernel_rfl)) (by decide) (fun K hK => ?_)
                                refine Kd.S_append_step k47 (w0 := w) w.heap.size (by rfl) (.tmp 68) (.tmp 94) 22 47 (.agg #[(.int .i64 0),(.bool false),(.slice none 0 0)]) 40 rfl Try.underlying22 info47 rfl (by decide) (by omega) u106007 x106007_2 (⟨Go.bits .and .i64 ((rd_T47 l0_7 x5_2).f0) 65535,(rd_T47 l0_7 x5_2).f1,y116⟩ : S47) [.int .i64 (Go.bits .and .i64 ((rd_T47 l0_7 x5_2).f0) 65535),.bool ((rd_T47 l0_7 x5_2).f1),.slice Ao55 y116.length co55] (fun _ => True) (fun k_ => some k_ = (.slice Ao55 y116.length co55 : Value).ownBlock) rfl rfl ?aP (fun k_ hk_ => ((Kd.R_mono (ok' := fun k_ => ((fun _ => True)) k_ ∧ some k_ ≠ (u106007 : Value).ownBlock) (Kd.R_apart' (HO118.out) (Kd.S_typed HO_106007.out) (by decide)) (fun k_ hk => ⟨trivial,hk.2⟩))).1 k_ hk_.symm) ?aF ?aO ?aB ?aS ?aL ?_
                                (case aP => exact k47_mkM _ _ _ (⟨Go.bits .and .i64 ((rd_T47 l0_7 x5_2).f0) 65535,(rd_T47 l0_7 x5_2).f1,y116⟩ : S47) (Kd.R_mono (Kd.R_tight rfl (Kd.R_mono (ok' := fun k_ => ((fun _ => True)) k_ ∧ some k_ ≠ (u106007 : Value).ownBlock) (Kd.R_apart' (HO118.out) (Kd.S_typed HO_106007.out) (by decide)) (fun k_ hk => ⟨trivial,hk.2⟩))) (fun _ h_ => h_)))
                                (case aB => exact (by repeat (first | (with_reducible first | exact HB.out | apply below_alloc | apply pw_below_drewN | apply below_drew1 | refine below_set ?_ GE101.out | refine below_set ?_ GE102.out | refine below_set ?_ GE105.out) | exact HB.out)))
                                (case aF => exact (fun _ _ => trivial))
                                (case aO => exact (by (with_reducible repeat (first | apply Kd.S_alloc | apply Kd.S_drewN | apply Kd.S_drew)); exact Kd.S_mono HO_106007.out (fun k_ hk => ⟨trivial,fun e_ => hk.2 e_⟩)))
                                (case aS => exact (below_size (by repeat (first | (with_reducible first | exact HB.out | apply below_alloc | apply pw_below_drewN | apply below_drew1 | refine below_set ?_ GE101.out | refine below_set ?_ GE102.out | refine below_set ?_ GE105.out) | exact HB.out))))
                                (case aL => have := LMc46.out; omega)
                                intro v120 w56 ho hb hg hat
                                rw [← Ny119.out] at ho
                                have n0_ := Aside0.mk (blk_grown (g := gb101) (o := .cells #[.int .i64 a0_0,.bool a0_1,.int .i64 a0_2,.int .i64 a0_3,.int .i64 a0_4,.int .i64 a0_5,.int .i64 a0_6,.slice (some ad107) l0_7.length c0_7,.slice A0_8 l0_8.length c0_8] 25 (0,0)) (by (with_reducible repeat (first | refine blk_drewN ?_ _ | refine blk_drew ?_ | refine blk_alloc ?_ _)); exact BK101.out) hg (Kd.S_ne HO_106007.out BK101.out (by decide)))
                                have n1_ := Aside0.mk (blk_grown (g := gb102) (o := .cells #[.int .i64 0,.bool false,.int .i64 0,.int .i64 0,.int .i64 0,.int .i64 0,.int .i64 0,.slice none 0 0,.slice none 0 0] 25 (0,0)) (by (with_reducible repeat (first | refine blk_drewN ?_ _ | refine blk_drew ?_ | refine blk_alloc ?_ _)); exact BK102.out) hg (Kd.S_ne HO_106007.out BK102.out (by decide)))
                                have n2_ := Aside0.mk (blk_grown (g := gb105) (o := .cells #[.int .i64 (wrap64 (1 + (Int.tmod (Go.bits .and .i64 a0_0 65535) 3))),.bool a0_1,.int .i64 x106002_3,.int .i64 (Int.tmod (Go.bits .and .i64 a0_3 65535) 13),.int .i64 (Int.tmod (Go.bits .and .i64 a0_4 65535) 52),.int .i64 t103,.int .i64 t104,u106007,.slice none 0 0] 25 (0,0)) (by (with_reducible repeat (first | refine blk_drewN ?_ _ | refine blk_drew ?_ | refine blk_alloc ?_ _)); exact BK105.out) hg (Kd.S_ne HO_106007.out BK105.out (by decide)))
                                have n3_ := Aside0.mk (hb)
                                have n4_ := Aside0.mk (ho)
                                clear BK101
                                clear BK102
                                clear BK105
                                clear HB
                                clear HO_106007
                                clear HO118
                                have BK101 := n0_
                                have BK102 := n1_
                                have BK105 := n2_
                                have HB := n3_
                                have HO121 := n4_
                                clear n0_ n1_ n2_ n3_ n4_
                                clear ho hb hg hat
                                obtain ⟨Ao57, co57, eo57⟩ := Kd.S_slice HO121.out
                                (first | subst eo57 | (injection eo57 with f1_ f2_ f3_; have f4_ := f1_.symm; have f5_ := f3_.symm; clear f1_ f2_ f3_; subst f4_; subst f5_))
                                refine hK.out _ _ ⟨(blk_cell BK105.out 0).trans rfl,(blk_cell BK105.out 1).trans rfl,(blk_cell BK105.out 2).trans rfl,(blk_cell BK105.out 3).trans rfl,(blk_cell BK105.out 4).trans rfl,(blk_cell BK105.out 5).trans rfl,(blk_cell BK105.out 6).trans rfl,(blk_cell BK105.out 7).trans rfl,(blk_cell BK105.out 8).trans rfl,(blk_cell BK101.out 0).trans rfl,(blk_cell BK101.out 1).trans rfl,(blk_cell BK101.out 2).trans rfl,(blk_cell BK101.out 3).trans rfl,(blk_cell BK101.out 4).trans rfl,(blk_cell BK101.out 5).trans rfl,(blk_cell BK101.out 6).trans rfl,(blk_cell BK101.out 7).trans rfl,(blk_cell BK101.out 8).trans rfl,((HB.out.cell (World.block_lt_of_cell? w _ hw109_0)).trans hw109_0),((HB.out.cell (World.block_lt_of_cell? w _ hw109_1)).trans hw109_1),((HB.out.cell (World.block_lt_of_cell? w _ hw109_2)).trans hw109_2),((HB.out.cell (World.block_lt_of_cell? w _ hw113_0)).trans hw113_0),((HB.out.cell (World.block_lt_of_cell? w _ hw113_1)).trans hw113_1),((HB.out.cell (World.block_lt_of_cell? w _ hw113_2)).trans hw113_2),((HB.out.cell (World.block_lt_of_cell? w _ hw114_0)).trans hw114_0),((HB.out.cell (World.block_lt_of_cell? w _ hw114_1)).trans hw114_1),((HB.out.cell (World.block_lt_of_cell? w _ hw114_2)).trans hw114_2)⟩ (fun hHeld => ?_)
                                clear hK K
                                refine norm_ (a' := ?_) ?_ ?_
                                rotate_left
                                · show Act.put _ (some 95) _ = _
                                  simp only [Act.put, List.setIfInBounds_toArray, List.set_cons_zero, List.set_cons_succ, i64_w, i32_w]
                                  rfl
                                refine pure_ (i := 29) (N := some 96) (v := ?_) (a' := ?_) #[true,true,true,true,true,true,true,true,true,true,true,true,true,true,true,true,true,true,true,true,true,true,true,true,true,true,true,true,true,true,false] rfl rfl (any_of HT_.out (by kernel_rfl)) (fun _ _ _ h => h) (Or.inl ⟨by rfl,?_⟩) ?_ ?_
                                rotate_left
                                · intro w'
                                  go_simp
                                  with_reducible rfl
                                rotate_left
                                · simp only [Act.put, List.setIfInBounds_toArray, List.set_cons_zero, List.set_cons_succ, i64_w, i32_w]
                                  rfl
                                refine last_ (i := 30) (N := none) #[true,true,true,true,true,true,true,true,true,true,true,true,true,true,true,true,true,true,true,true,true,true,true,true,true,true,true,true,true,true,true] rfl rfl (one_of HT_.out (by kernel_rfl)) (by decide) (fun K hK => ?_)
                                have hs58 : w56.cell? ⟨gb105, 7, none⟩ = some (u106007) := (blk_cell BK105.out 7).trans rfl
                                have hfs58 := blk_frozen BK105.out 7
                                have hns58_0 := NB101_105.out
                                have hns58_1 := NB102_105.out
                                have hms58_0 := NB105_101.out
                                have hms58_1 := NB105_102.out
                                refine skip_ (w1 := ?_) (by rfl) rfl ?_ ?_
                                rotate_left
                                · go_simp
                                  rfl
                                refine hK.out _ _ ?_
                                clear hK K
                                refine done_ (done_of HT_.out (by kernel_rfl)) ?_
                                try go_wp2
                                go_roundg kj28
                                case measure => have := HJ3.out; have := HK2.out; have := HJ28.out; omega
                                case rel => exact ⟨(Go.bits .and .i64 ((rd_T47 l0_7 x5_2).f0) 65535),(wrap64 (x5_2 + 1)),(y119),(.slice Ao57 y119.length co57),(by first | rfl | (simp; done) | (simp [*]; done)),(by first | rfl | (simp; done) | (simp [*]; done)),H',⟨by have := HJ3.out; have := HK2.out; have := HJ28.out; omega⟩,⟨by (with_reducible repeat (first | apply Kd.S_alloc | apply Kd.S_drewN | apply Kd.S_drew)); exact Kd.S_mono (Kd.S_far (p := ⟨gb105,7,none⟩) (Kd.S_types HO121.out BK105.out (by decide)) (fun _ hk => hk.2) (.slice Ao57 y119.length co57)) (fun _ hk => trivial)⟩,⟨by (with_reducible repeat (first | refine blk_drewN ?_ _ | refine blk_drew ?_ | refine blk_alloc ?_ _)); refine blk_far ?_ NB101_105.out _; (with_reducible repeat (first | refine blk_drewN ?_ _ | refine blk_drew ?_ | refine blk_alloc ?_ _)); exact BK101.out⟩,⟨by (with_reducible repeat (first | refine blk_drewN ?_ _ | refine blk_drew ?_ | refine blk_alloc ?_ _)); refine blk_far ?_ NB102_105.out _; (with_reducible repeat (first | refine blk_drewN ?_ _ | refine blk_drew ?_ | refine blk_alloc ?_ _)); exact BK102.out⟩,⟨by (with_reducible repeat (first | refine blk_drewN ?_ _ | refine blk_drew ?_ | refine blk_alloc ?_ _)); refine blk_put (cs := #[.int .i64 (wrap64 (1 + (Int.tmod (Go.bits .and .i64 a0_0 65535) 3))),.bool a0_1,.int .i64 x106002_3,.int .i64 (Int.tmod (Go.bits .and .i64 a0_3 65535) 13),.int .i64 (Int.tmod (Go.bits .and .i64 a0_4 65535) 52),.int .i64 t103,.int .i64 t104,u106007,.slice none 0 0]) ?_ 7 _ rfl; (with_reducible repeat (first | refine blk_drewN ?_ _ | refine blk_drew ?_ | refine blk_alloc ?_ _)); exact BK105.out⟩,⟨by repeat (first | (with_reducible first | exact HB.out | apply below_alloc | apply pw_below_drewN | apply below_drew1 | refine below_set ?_ GE101.out | refine below_set ?_ GE102.out | refine below_set ?_ GE105.out) | exact HB.out)⟩⟩
                              · rw [if_neg c46] at H
                                exact absurd H (by simp)
                            · rw [if_neg c45] at H
                              exact absurd H (by simp)
                          · rw [if_neg c44] at H
                            exact absurd H (by simp)
                        · rw [if_neg c43] at H
                          exact absurd H (by simp)
                      · rw [if_neg c41] at H
                        have c41b0 : decide (0 < (((rd_T47 l0_7 x5_2).f2).length : Int)) = false := decide_eq_false c41
                        have c41b1 : decide (0 < ((rd_T47 l0_7 x5_2).f2).length) = false := decide_eq_false (by omega)
                        clear c41
                        have H' := Aside0.mk H
                        clear H
                        have hnb59 := NB101_102.out
                        have hnc59 := NB102_101.out
                        have hnb60 := NB101_105.out
                        have hnc60 := NB105_101.out
                        have hcz61_0 : wc.cell? ⟨gb101, 0, none⟩ = some (.int .i64 a0_0) := (blk_cell BK101.out 0).trans rfl
                        have hcz61_1 : wc.cell? ⟨gb101, 1, none⟩ = some (.bool a0_1) := (blk_cell BK101.out 1).trans rfl
                        have hcz61_2 : wc.cell? ⟨gb101, 2, none⟩ = some (.int .i64 a0_2) := (blk_cell BK101.out 2).trans rfl
                        have hcz61_3 : wc.cell? ⟨gb101, 3, none⟩ = some (.int .i64 a0_3) := (blk_cell BK101.out 3).trans rfl
                        have hcz61_4 : wc.cell? ⟨gb101, 4, none⟩ = some (.int .i64 a0_4) := (blk_cell BK101.out 4).trans rfl
                        have hcz61_5 : wc.cell? ⟨gb101, 5, none⟩ = some (.int .i64 a0_5) := (blk_cell BK101.out 5).trans rfl
                        have hcz61_6 : wc.cell? ⟨gb101, 6, none⟩ = some (.int .i64 a0_6) := (blk_cell BK101.out 6).trans rfl
                        have hcz61_7 : wc.cell? ⟨gb101, 7, none⟩ = some (.slice A0_7 l0_7.length c0_7) := (blk_cell BK101.out 7).trans rfl
                        have hcz61_8 : wc.cell? ⟨gb101, 8, none⟩ = some (.slice A0_8 l0_8.length c0_8) := (blk_cell BK101.out 8).trans rfl
                        have hfz61_0 := blk_frozen BK101.out 0
                        have hfz61_1 := blk_frozen BK101.out 1
                        have hfz61_2 := blk_frozen BK101.out 2
                        have hfz61_3 := blk_frozen BK101.out 3
                        have hfz61_4 := blk_frozen BK101.out 4
                        have hfz61_5 := blk_frozen BK101.out 5
                        have hfz61_6 := blk_frozen BK101.out 6
                        have hfz61_7 := blk_frozen BK101.out 7
                        have hfz61_8 := blk_frozen BK101.out 8
                        have p107 : 0 ≤ (x5_2 : Int) := of_decide_eq_true (by first | (with_reducible assumption) | assumption)
                        have q107 : x5_2 < (l0_7.length : Int) := of_decide_eq_true (by first | (with_reducible assumption) | assumption)
                        obtain ⟨ad107, A107_2, c107_2, e107, hx107_0, hx107_1, hx107_2, hl107_2, hi107_2⟩ := at_T47 HR0_7.out x5_2 p107 q107
                        cases e107
                        replace hx107_0 := (HB.out.cell (World.block_lt_of_cell? w _ hx107_0)).trans hx107_0
                        replace hx107_1 := (HB.out.cell (World.block_lt_of_cell? w _ hx107_1)).trans hx107_1
                        replace hx107_2 := (HB.out.cell (World.block_lt_of_cell? w _ hx107_2)).trans hx107_2
                        have HR107_2 := Aside0.mk hi107_2
                        have HC107_2 := Aside0.mk hl107_2
                        clear hi107_2 hl107_2
                        replace p107 := eq_true p107
                        replace q107 := eq_true q107
                        have p108 : 0 ≤ (x5_2 : Int) := of_decide_eq_true (by first | (with_reducible assumption) | assumption)
                        have q108 : x5_2 < (l0_7.length : Int) := of_decide_eq_true (by first | (with_reducible assumption) | assumption)
                        obtain ⟨ad108, A108_2, c108_2, e108, hx108_0, hx108_1, hx108_2, hl108_2, hi108_2⟩ := at_T47 HR0_7.out x5_2 p108 q108
                        obtain rfl : ad107 = ad108 := (by injection e108)
                        replace hx108_0 := (HB.out.cell (World.block_lt_of_cell? w _ hx108_0)).trans hx108_0
                        replace hx108_1 := (HB.out.cell (World.block_lt_of_cell? w _ hx108_1)).trans hx108_1
                        replace hx108_2 := (HB.out.cell (World.block_lt_of_cell? w _ hx108_2)).trans hx108_2
                        have HR108_2 := Aside0.mk hi108_2
                        have HC108_2 := Aside0.mk hl108_2
                        clear hi108_2 hl108_2
                        replace p108 := eq_true p108
                        replace q108 := eq_true q108
                        have ea_ := Option.some.inj (hx107_2.symm.trans hx108_2)
                        injection ea_ with ea_ en_ ec_
                        subst ea_
                        subst ec_
                        clear en_
                        go_wp2
                        go_roundg kj28
                        case measure => have := HJ3.out; have := HK2.out; have := HJ28.out; omega
                        case rel => exact ⟨(x4_2),(wrap64 (x5_2 + 1)),(x106007_2),(u106007),(by first | rfl | (simp; done) | (simp [*]; done)),(by first | rfl | (simp; done) | (simp [*]; done)),H',⟨by have := HJ3.out; have := HK2.out; have := HJ28.out; omega⟩,⟨by (with_reducible repeat (first | apply Kd.S_alloc | apply Kd.S_drewN | apply Kd.S_drew)); exact HO_106007.out⟩,⟨by (with_reducible repeat (first | refine blk_drewN ?_ _ | refine blk_drew ?_ | refine blk_alloc ?_ _)); exact BK101.out⟩,⟨by (with_reducible repeat (first | refine blk_drewN ?_ _ | refine blk_drew ?_ | refine blk_alloc ?_ _)); exact BK102.out⟩,⟨by (with_reducible repeat (first | refine blk_drewN ?_ _ | refine blk_drew ?_ | refine blk_alloc ?_ _)); exact BK105.out⟩,⟨by repeat (first | (with_reducible first | exact HB.out | apply below_alloc | apply pw_below_drewN | apply below_drew1 | refine below_set ?_ GE101.out | refine below_set ?_ GE102.out | refine below_set ?_ GE105.out) | exact HB.out)⟩⟩
                    · rw [if_neg c40] at H
                      have c40b0 : decide (x4_2 < (Go.bits .and .i64 ((rd_T47 l0_7 x5_2).f0) 65535)) = false := decide_eq_false c40
                      clear c40
                      have H' := Aside0.mk H
                      clear H
                      have hnb62 := NB101_102.out
                      have hnc62 := NB102_101.out
                      have hnb63 := NB101_105.out
                      have hnc63 := NB105_101.out
                      have hcz64_0 : wc.cell? ⟨gb101, 0, none⟩ = some (.int .i64 a0_0) := (blk_cell BK101.out 0).trans rfl
                      have hcz64_1 : wc.cell? ⟨gb101, 1, none⟩ = some (.bool a0_1) := (blk_cell BK101.out 1).trans rfl
                      have hcz64_2 : wc.cell? ⟨gb101, 2, none⟩ = some (.int .i64 a0_2) := (blk_cell BK101.out 2).trans rfl
                      have hcz64_3 : wc.cell? ⟨gb101, 3, none⟩ = some (.int .i64 a0_3) := (blk_cell BK101.out 3).trans rfl
                      have hcz64_4 : wc.cell? ⟨gb101, 4, none⟩ = some (.int .i64 a0_4) := (blk_cell BK101.out 4).trans rfl
                      have hcz64_5 : wc.cell? ⟨gb101, 5, none⟩ = some (.int .i64 a0_5) := (blk_cell BK101.out 5).trans rfl
                      have hcz64_6 : wc.cell? ⟨gb101, 6, none⟩ = some (.int .i64 a0_6) := (blk_cell BK101.out 6).trans rfl
                      have hcz64_7 : wc.cell? ⟨gb101, 7, none⟩ = some (.slice A0_7 l0_7.length c0_7) := (blk_cell BK101.out 7).trans rfl
                      have hcz64_8 : wc.cell? ⟨gb101, 8, none⟩ = some (.slice A0_8 l0_8.length c0_8) := (blk_cell BK101.out 8).trans rfl
                      have hfz64_0 := blk_frozen BK101.out 0
                      have hfz64_1 := blk_frozen BK101.out 1
                      have hfz64_2 := blk_frozen BK101.out 2
                      have hfz64_3 := blk_frozen BK101.out 3
                      have hfz64_4 := blk_frozen BK101.out 4
                      have hfz64_5 := blk_frozen BK101.out 5
                      have hfz64_6 := blk_frozen BK101.out 6
                      have hfz64_7 := blk_frozen BK101.out 7
                      have hfz64_8 := blk_frozen BK101.out 8
                      have p107 : 0 ≤ (x5_2 : Int) := of_decide_eq_true (by first | (with_reducible assumption) | assumption)
                      have q107 : x5_2 < (l0_7.length : Int) := of_decide_eq_true (by first | (with_reducible assumption) | assumption)
                      obtain ⟨ad107, A107_2, c107_2, e107, hx107_0, hx107_1, hx107_2, hl107_2, hi107_2⟩ := at_T47 HR0_7.out x5_2 p107 q107
                      cases e107
                      replace hx107_0 := (HB.out.cell (World.block_lt_of_cell? w _ hx107_0)).trans hx107_0
                      replace hx107_1 := (HB.out.cell (World.block_lt_of_cell? w _ hx107_1)).trans hx107_1
                      replace hx107_2 := (HB.out.cell (World.block_lt_of_cell? w _ hx107_2)).trans hx107_2
                      have HR107_2 := Aside0.mk hi107_2
                      have HC107_2 := Aside0.mk hl107_2
                      clear hi107_2 hl107_2
                      replace p107 := eq_true p107
                      replace q107 := eq_true q107
                      go_wp2
                      go_roundg kj28
                      case measure => have := HJ3.out; have := HK2.out; have := HJ28.out; omega
                      case rel => exact ⟨(x4_2),(wrap64 (x5_2 + 1)),(x106007_2),(u106007),(by first | rfl | (simp; done) | (simp [*]; done)),(by first | rfl | (simp; done) | (simp [*]; done)),H',⟨by have := HJ3.out; have := HK2.out; have := HJ28.out; omega⟩,⟨by (with_reducible repeat (first | apply Kd.S_alloc | apply Kd.S_drewN | apply Kd.S_drew)); exact HO_106007.out⟩,⟨by (with_reducible repeat (first | refine blk_drewN ?_ _ | refine blk_drew ?_ | refine blk_alloc ?_ _)); exact BK101.out⟩,⟨by (with_reducible repeat (first | refine blk_drewN ?_ _ | refine blk_drew ?_ | refine blk_alloc ?_ _)); exact BK102.out⟩,⟨by (with_reducible repeat (first | refine blk_drewN ?_ _ | refine blk_drew ?_ | refine blk_alloc ?_ _)); exact BK105.out⟩,⟨by repeat (first | (with_reducible first | exact HB.out | apply below_alloc | apply pw_below_drewN | apply below_drew1 | refine below_set ?_ GE101.out | refine below_set ?_ GE102.out | refine below_set ?_ GE105.out) | exact HB.out)⟩⟩
                  · rw [if_neg c39] at H
                    exact absurd H (by simp)
                · rw [if_neg c38] at H
                  exact absurd H (by simp)
              · replace c37 := Bool.eq_false_iff.mpr c37
                subst c37
                have H1 : ((phaetonref21_Right.f l0_8).bind fun t122 => (if t122 = true then ((some (([] : List (S161)) : List (S161))).bind fun y123 => (if y123.length + l0_8.length < 4398046511104 then (some ((wrap64 (1 + (Int.tmod (Go.bits .and .i64 a0_0 65535) 3))),a0_1,x106002_3,(Int.tmod (Go.bits .and .i64 a0_3 65535) 13),(Int.tmod (Go.bits .and .i64 a0_4 65535) 52),t103,t104,x106007_2,(y123 ++ l0_8))) else (none))) else (some ((wrap64 (1 + (Int.tmod (Go.bits .and .i64 a0_0 65535) 3))),a0_1,x106002_3,(Int.tmod (Go.bits .and .i64 a0_3 65535) 13),(Int.tmod (Go.bits .and .i64 a0_4 65535) 52),t103,t104,x106007_2,([] : List (S161)))))) = some (r1,r2,r3,r4,r5,r6,r7,r8,r9) := by rw [if_neg (show ¬ (false = true) by decide)] at H; exact H
                clear H
                have H := H1
                clear H1
                replace H := Option.bind_eq_some_iff.mp H
                obtain ⟨t122, A650, H⟩ := H
                replace H : (if t122 = true then ((some (([] : List (S161)) : List (S161))).bind fun y123 => (if y123.length + l0_8.length < 4398046511104 then (some ((wrap64 (1 + (Int.tmod (Go.bits .and .i64 a0_0 65535) 3))),a0_1,x106002_3,(Int.tmod (Go.bits .and .i64 a0_3 65535) 13),(Int.tmod (Go.bits .and .i64 a0_4 65535) 52),t103,t104,x106007_2,(y123 ++ l0_8))) else (none))) else (some ((wrap64 (1 + (Int.tmod (Go.bits .and .i64 a0_0 65535) 3))),a0_1,x106002_3,(Int.tmod (Go.bits .and .i64 a0_3 65535) 13),(Int.tmod (Go.bits .and .i64 a0_4 65535) 52),t103,t104,x106007_2,([] : List (S161))))) = some (r1,r2,r3,r4,r5,r6,r7,r8,r9) := H
                have A65 := Aside0.mk A650
                clear A650
                by_cases c66 : t122 = true
                · subst c66
                  have H1 : ((some (([] : List (S161)) : List (S161))).bind fun y123 => (if y123.length + l0_8.length < 4398046511104 then (some ((wrap64 (1 + (Int.tmod (Go.bits .and .i64 a0_0 65535) 3))),a0_1,x106002_3,(Int.tmod (Go.bits .and .i64 a0_3 65535) 13),(Int.tmod (Go.bits .and .i64 a0_4 65535) 52),t103,t104,x106007_2,(y123 ++ l0_8))) else (none))) = some (r1,r2,r3,r4,r5,r6,r7,r8,r9) := by rw [if_pos rfl] at H; exact H
                  clear H
                  have H := H1
                  clear H1
                  obtain ⟨y123, hy123⟩ : ∃ y_ : List (S161), y_ = (([] : List (S161))) := ⟨_, rfl⟩
                  replace H : (if y123.length + l0_8.length < 4398046511104 then (some ((wrap64 (1 + (Int.tmod (Go.bits .and .i64 a0_0 65535) 3))),a0_1,x106002_3,(Int.tmod (Go.bits .and .i64 a0_3 65535) 13),(Int.tmod (Go.bits .and .i64 a0_4 65535) 52),t103,t104,x106007_2,(y123 ++ l0_8))) else (none)) = some (r1,r2,r3,r4,r5,r6,r7,r8,r9) := by first | (rw [hy123]; with_reducible exact H) | (have H2_ := (Option.bind_some _ _).symm.trans H; rw [hy123]; with_reducible exact H2_) | (have H2_ := (Option.bind_some _ _).symm.trans H; with_reducible exact H2_) | with_reducible exact H | (rw [hy123]; exact H) | exact H
                  have Ny123 := Aside0.mk hy123
                  clear hy123
                  by_cases c67 : y123.length + l0_8.length < 4398046511104
                  · rw [if_pos c67] at H
                    have LMc67 := Aside0.mk c67
                    clear c67
                    obtain ⟨y126, hy126⟩ : ∃ y_ : List (S161), y_ = (y123 ++ l0_8) := ⟨_, rfl⟩
                    replace H : (some ((wrap64 (1 + (Int.tmod (Go.bits .and .i64 a0_0 65535) 3))),a0_1,x106002_3,(Int.tmod (Go.bits .and .i64 a0_3 65535) 13),(Int.tmod (Go.bits .and .i64 a0_4 65535) 52),t103,t104,x106007_2,y126)) = some (r1,r2,r3,r4,r5,r6,r7,r8,r9) := by first | (rw [hy126]; with_reducible exact H) | (have H2_ := (Option.bind_some _ _).symm.trans H; rw [hy126]; with_reducible exact H2_) | (have H2_ := (Option.bind_some _ _).symm.trans H; with_reducible exact H2_) | with_reducible exact H | (rw [hy126]; exact H) | exact H
                    have Ny126 := Aside0.mk hy126
                    clear hy126
                    simp only [Option.some.injEq, Prod.mk.injEq] at H
                    obtain ⟨rfl, rfl, rfl, rfl, rfl, rfl, rfl, rfl, rfl⟩ := H
                    have hnb68 := NB101_102.out
                    have hnc68 := NB102_101.out
                    have hnb69 := NB101_105.out
                    have hnc69 := NB105_101.out
                    have hcz70_0 : wc.cell? ⟨gb101, 0, none⟩ = some (.int .i64 a0_0) := (blk_cell BK101.out 0).trans rfl
                    have hcz70_1 : wc.cell? ⟨gb101, 1, none⟩ = some (.bool a0_1) := (blk_cell BK101.out 1).trans rfl
                    have hcz70_2 : wc.cell? ⟨gb101, 2, none⟩ = some (.int .i64 a0_2) := (blk_cell BK101.out 2).trans rfl
                    have hcz70_3 : wc.cell? ⟨gb101, 3, none⟩ = some (.int .i64 a0_3) := (blk_cell BK101.out 3).trans rfl
                    have hcz70_4 : wc.cell? ⟨gb101, 4, none⟩ = some (.int .i64 a0_4) := (blk_cell BK101.out 4).trans rfl
                    have hcz70_5 : wc.cell? ⟨gb101, 5, none⟩ = some (.int .i64 a0_5) := (blk_cell BK101.out 5).trans rfl
                    have hcz70_6 : wc.cell? ⟨gb101, 6, none⟩ = some (.int .i64 a0_6) := (blk_cell BK101.out 6).trans rfl
                    have hcz70_7 : wc.cell? ⟨gb101, 7, none⟩ = some (.slice A0_7 l0_7.length c0_7) := (blk_cell BK101.out 7).trans rfl
                    have hcz70_8 : wc.cell? ⟨gb101, 8, none⟩ = some (.slice A0_8 l0_8.length c0_8) := (blk_cell BK101.out 8).trans rfl
                    have hfz70_0 := blk_frozen BK101.out 0
                    have hfz70_1 := blk_frozen BK101.out 1
                    have hfz70_2 := blk_frozen BK101.out 2
                    have hfz70_3 := blk_frozen BK101.out 3
                    have hfz70_4 := blk_frozen BK101.out 4
                    have hfz70_5 := blk_frozen BK101.out 5
                    have hfz70_6 := blk_frozen BK101.out 6
                    have hfz70_7 := blk_frozen BK101.out 7
                    have hfz70_8 := blk_frozen BK101.out 8
                    go_wp2_with (first | ((with_reducible refine gate_callee (f := 78) rfl ?_); refine goesL_ (some 100) rfl rfl Try.func78 (by kernel_rfl) rfl #[.slice A0_8 l0_8.length c0_8] rfl (by (try simp only [List.map_toArray,List.map_cons,List.map_nil]); first | done | rfl | (simp only [List.length_drop,List.length_take]; rfl)) ?_; (with_reducible refine (phaetonref21_Right.calls _ _ l0_8 true _ ?side1 ?side2 A65.out).mono ?_); (case side1 => repeat (first | exact (Kd.C_below HR0_8.out HB.out) | (with_reducible refine Kd.C_alloc ?_ _) | (with_reducible refine Kd.C_drewN ?_ _) | (with_reducible refine Kd.C_drew ?_))); (case side2 => exact HC0_8.out); rintro e w71 ⟨rfl,hb⟩; refine ⟨_,rfl,?_⟩; have n0_ := Aside0.mk (Kd.S_below (by (with_reducible repeat (first | apply Kd.S_alloc | apply Kd.S_drewN | apply Kd.S_drew)); exact HO_106007.out) hb); have n1_ := Aside0.mk (blk_below (g := gb101) (o := .cells #[.int .i64 a0_0,.bool a0_1,.int .i64 a0_2,.int .i64 a0_3,.int .i64 a0_4,.int .i64 a0_5,.int .i64 a0_6,.slice A0_7 l0_7.length c0_7,.slice A0_8 l0_8.length c0_8] 25 (0,0)) (by (with_reducible repeat (first | refine blk_drewN ?_ _ | refine blk_drew ?_ | refine blk_alloc ?_ _)); exact BK101.out) hb); have n2_ := Aside0.mk (blk_below (g := gb102) (o := .cells #[.int .i64 0,.bool false,.int .i64 0,.int .i64 0,.int .i64 0,.int .i64 0,.int .i64 0,.slice none 0 0,.slice none 0 0] 25 (0,0)) (by (with_reducible repeat (first | refine blk_drewN ?_ _ | refine blk_drew ?_ | refine blk_alloc ?_ _)); exact BK102.out) hb); have n3_ := Aside0.mk (blk_below (g := gb105) (o := .cells #[.int .i64 (wrap64 (1 + (Int.tmod (Go.bits .and .i64 a0_0 65535) 3))),.bool a0_1,.int .i64 x106002_3,.int .i64 (Int.tmod (Go.bits .and .i64 a0_3 65535) 13),.int .i64 (Int.tmod (Go.bits .and .i64 a0_4 65535) 52),.int .i64 t103,.int .i64 t104,u106007,.slice none 0 0] 25 (0,0)) (by (with_reducible repeat (first | refine blk_drewN ?_ _ | refine blk_drew ?_ | refine blk_alloc ?_ _)); exact BK105.out) hb); have n4_ := Aside0.mk (below_step (by repeat (first | (with_reducible first | exact HB.out | apply below_alloc | apply pw_below_drewN | apply below_drew1 | refine below_set ?_ GE101.out | refine below_set ?_ GE102.out | refine below_set ?_ GE105.out) | exact HB.out)) hb); clear HO_106007; clear BK101; clear BK102; clear BK105; clear HB; have HO_106007 := n0_; have BK101 := n1_; have BK102 := n2_; have BK105 := n3_; have HB := n4_; clear n0_ n1_ n2_ n3_ n4_; (try clear hb); (try clear hb2); (try clear hk); (try clear hi)) | ((with_reducible refine gate_dst (N := 101) rfl ?_); refine Kd.R_lit k161 _ 161 ?hg (N := 101) ?hd (xs := ([] : List (S161))) (inner := []) (ok := fun _ => True) (okp := fun _ => True) ?hr ?hp (fun _ hk => hk) trivial (Below.refl _ _) (Nat.le_refl _) (by simp) ?_; (case hd => rfl); (case hg => rfl); (case hr => first | (go_simp; done) | (go_simp; rfl)); (case hp => exact (Reps.none _ _)); intro v124 w72 ho73 hb hg_ hnew_; clear hg_ hnew_; (first | rw [← Ny123.out] at ho73 | (simp only [Int.reduceToNat] at ho73; rw [← Ny123.out] at ho73)); have n0_ := Aside0.mk (Kd.S_below (by (with_reducible repeat (first | apply Kd.S_alloc | apply Kd.S_drewN | apply Kd.S_drew)); exact HO_106007.out) hb); have n1_ := Aside0.mk (Kd.R_lower ho73 (below_size (by repeat (first | (with_reducible first | exact HB.out | apply below_alloc | apply pw_below_drewN | apply below_drew1 | refine below_set ?_ GE101.out | refine below_set ?_ GE102.out | refine below_set ?_ GE105.out) | exact HB.out)))); have n2_ := Aside0.mk (blk_below (g := gb101) (o := .cells #[.int .i64 a0_0,.bool a0_1,.int .i64 a0_2,.int .i64 a0_3,.int .i64 a0_4,.int .i64 a0_5,.int .i64 a0_6,.slice A0_7 l0_7.length c0_7,.slice A0_8 l0_8.length c0_8] 25 (0,0)) (by (with_reducible repeat (first | refine blk_drewN ?_ _ | refine blk_drew ?_ | refine blk_alloc ?_ _)); exact BK101.out) hb); have n3_ := Aside0.mk (blk_below (g := gb102) (o := .cells #[.int .i64 0,.bool false,.int .i64 0,.int .i64 0,.int .i64 0,.int .i64 0,.int .i64 0,.slice none 0 0,.slice none 0 0] 25 (0,0)) (by (with_reducible repeat (first | refine blk_drewN ?_ _ | refine blk_drew ?_ | refine blk_alloc ?_ _)); exact BK102.out) hb); have n4_ := Aside0.mk (blk_below (g := gb105) (o := .cells #[.int .i64 (wrap64 (1 + (Int.tmod (Go.bits .and .i64 a0_0 65535) 3))),.bool a0_1,.int .i64 x106002_3,.int .i64 (Int.tmod (Go.bits .and .i64 a0_3 65535) 13),.int .i64 (Int.tmod (Go.bits .and .i64 a0_4 65535) 52),.int .i64 t103,.int .i64 t104,u106007,.slice none 0 0] 25 (0,0)) (by (with_reducible repeat (first | refine blk_drewN ?_ _ | refine blk_drew ?_ | refine blk_alloc ?_ _)); exact BK105.out) hb); have n5_ := Aside0.mk (below_step (by repeat (first | (with_reducible first | exact HB.out | apply below_alloc | apply pw_below_drewN | apply below_drew1 | refine below_set ?_ GE101.out | refine below_set ?_ GE102.out | refine below_set ?_ GE105.out) | exact HB.out)) hb); clear HO_106007; clear BK101; clear BK102; clear BK105; clear HB; have HO_106007 := n0_; have HO125 := n1_; have BK101 := n2_; have BK102 := n3_; have BK105 := n4_; have HB := n5_; clear n0_ n1_ n2_ n3_ n4_ n5_; clear hb ho73; have hcz74_0 : w72.cell? ⟨gb101,0,none⟩ = some (.int .i64 a0_0) := (blk_cell BK101.out 0).trans rfl; have hcz74_1 : w72.cell? ⟨gb101,1,none⟩ = some (.bool a0_1) := (blk_cell BK101.out 1).trans rfl; have hcz74_2 : w72.cell? ⟨gb101,2,none⟩ = some (.int .i64 a0_2) := (blk_cell BK101.out 2).trans rfl; have hcz74_3 : w72.cell? ⟨gb101,3,none⟩ = some (.int .i64 a0_3) := (blk_cell BK101.out 3).trans rfl; have hcz74_4 : w72.cell? ⟨gb101,4,none⟩ = some (.int .i64 a0_4) := (blk_cell BK101.out 4).trans rfl; have hcz74_5 : w72.cell? ⟨gb101,5,none⟩ = some (.int .i64 a0_5) := (blk_cell BK101.out 5).trans rfl; have hcz74_6 : w72.cell? ⟨gb101,6,none⟩ = some (.int .i64 a0_6) := (blk_cell BK101.out 6).trans rfl; have hcz74_7 : w72.cell? ⟨gb101,7,none⟩ = some (.slice A0_7 l0_7.length c0_7) := (blk_cell BK101.out 7).trans rfl; have hcz74_8 : w72.cell? ⟨gb101,8,none⟩ = some (.slice A0_8 l0_8.length c0_8) := (blk_cell BK101.out 8).trans rfl; have hfz74_0 := blk_frozen BK101.out 0; have hfz74_1 := blk_frozen BK101.out 1; have hfz74_2 := blk_frozen BK101.out 2; have hfz74_3 := blk_frozen BK101.out 3; have hfz74_4 := blk_frozen BK101.out 4; have hfz74_5 := blk_frozen BK101.out 5; have hfz74_6 := blk_frozen BK101.out 6; have hfz74_7 := blk_frozen BK101.out 7; have hfz74_8 := blk_frozen BK101.out 8) | ((with_reducible refine gate_builtin (b := .append) (xs := #[.tmp 101,.tmp 103]) rfl ?_); at_builtin; refine Kd.R_append_rows k161 (w0 := w) w.heap.size rfl (.tmp 101) (.tmp 103) 23 161 (.agg #[(.int .i64 0),(.int .i64 0),(.int .i64 0),(.int .i64 0)]) 32 rfl Try.underlying23 info161 rfl (by decide) (by omega) v124 y123 l0_8 _ _ _ (fun _ => True) (fun _ => False) rfl rfl ?aO ?aR (fun _ _ h => h) (fun _ h => h.elim) ?aF ?aB ?aS ?aL ?_; (case aR => repeat (first | exact (Kd.C_below HR0_8.out HB.out) | (with_reducible refine Kd.C_alloc ?_ _) | (with_reducible refine Kd.C_drewN ?_ _) | (with_reducible refine Kd.C_drew ?_))); (case aB => exact (by repeat (first | (with_reducible first | exact HB.out | apply below_alloc | apply pw_below_drewN | apply below_drew1 | refine below_set ?_ GE101.out | refine below_set ?_ GE102.out | refine below_set ?_ GE105.out) | exact HB.out))); (case aF => exact (fun _ _ => trivial)); (case aO => exact (by (with_reducible repeat (first | apply Kd.R_alloc | apply Kd.R_drewN | apply Kd.R_drew)); exact HO125.out)); (case aS => exact (below_size (by repeat (first | (with_reducible first | exact HB.out | apply below_alloc | apply pw_below_drewN | apply below_drew1 | refine below_set ?_ GE101.out | refine below_set ?_ GE102.out | refine below_set ?_ GE105.out) | exact HB.out)))); (case aL => have := LMc67.out; omega); intro v127 w75 ho hb hg hat; rw [← Ny126.out] at ho; have n0_ := Aside0.mk (Kd.S_over' (by (with_reducible repeat (first | apply Kd.S_alloc | apply Kd.S_drewN | apply Kd.S_drew)); exact HO_106007.out) (Kd.R_typed (by (with_reducible repeat (first | apply Kd.R_alloc | apply Kd.R_drewN | apply Kd.R_drew)); exact HO125.out)) (by decide) hg); have n1_ := Aside0.mk (blk_grown (g := gb101) (o := .cells #[.int .i64 a0_0,.bool a0_1,.int .i64 a0_2,.int .i64 a0_3,.int .i64 a0_4,.int .i64 a0_5,.int .i64 a0_6,.slice A0_7 l0_7.length c0_7,.slice A0_8 l0_8.length c0_8] 25 (0,0)) (by (with_reducible repeat (first | refine blk_drewN ?_ _ | refine blk_drew ?_ | refine blk_alloc ?_ _)); exact BK101.out) hg (Kd.R_ne HO125.out BK101.out (by decide))); have n2_ := Aside0.mk (blk_grown (g := gb102) (o := .cells #[.int .i64 0,.bool false,.int .i64 0,.int .i64 0,.int .i64 0,.int .i64 0,.int .i64 0,.slice none 0 0,.slice none 0 0] 25 (0,0)) (by (with_reducible repeat (first | refine blk_drewN ?_ _ | refine blk_drew ?_ | refine blk_alloc ?_ _)); exact BK102.out) hg (Kd.R_ne HO125.out BK102.out (by decide))); have n3_ := Aside0.mk (blk_grown (g := gb105) (o := .cells #[.int .i64 (wrap64 (1 + (Int.tmod (Go.bits .and .i64 a0_0 65535) 3))),.bool a0_1,.int .i64 x106002_3,.int .i64 (Int.tmod (Go.bits .and .i64 a0_3 65535) 13),.int .i64 (Int.tmod (Go.bits .and .i64 a0_4 65535) 52),.int .i64 t103,.int .i64 t104,u106007,.slice none 0 0] 25 (0,0)) (by (with_reducible repeat (first | refine blk_drewN ?_ _ | refine blk_drew ?_ | refine blk_alloc ?_ _)); exact BK105.out) hg (Kd.R_ne HO125.out BK105.out (by decide))); have n4_ := Aside0.mk (hb); have n5_ := Aside0.mk (ho); clear HO_106007; clear BK101; clear BK102; clear BK105; clear HB; clear HO125; have HO_106007 := n0_; have BK101 := n1_; have BK102 := n2_; have BK105 := n3_; have HB := n4_; have HO128 := n5_; clear n0_ n1_ n2_ n3_ n4_ n5_; clear ho hb hg hat; obtain ⟨Ao76,co76,eo76⟩ := Kd.R_slice HO128.out; subst eo76; have hnb77 := NB105_102.out; have hnc77 := NB102_105.out; have hcz78_0 : w75.cell? ⟨gb105,0,none⟩ = some (.int .i64 (wrap64 (1 + (Int.tmod (Go.bits .and .i64 a0_0 65535) 3)))) := (blk_cell BK105.out 0).trans rfl; have hcz78_1 : w75.cell? ⟨gb105,1,none⟩ = some (.bool a0_1) := (blk_cell BK105.out 1).trans rfl; have hcz78_2 : w75.cell? ⟨gb105,2,none⟩ = some (.int .i64 x106002_3) := (blk_cell BK105.out 2).trans rfl; have hcz78_3 : w75.cell? ⟨gb105,3,none⟩ = some (.int .i64 (Int.tmod (Go.bits .and .i64 a0_3 65535) 13)) := (blk_cell BK105.out 3).trans rfl; have hcz78_4 : w75.cell? ⟨gb105,4,none⟩ = some (.int .i64 (Int.tmod (Go.bits .and .i64 a0_4 65535) 52)) := (blk_cell BK105.out 4).trans rfl; have hcz78_5 : w75.cell? ⟨gb105,5,none⟩ = some (.int .i64 t103) := (blk_cell BK105.out 5).trans rfl; have hcz78_6 : w75.cell? ⟨gb105,6,none⟩ = some (.int .i64 t104) := (blk_cell BK105.out 6).trans rfl; have hcz78_7 : w75.cell? ⟨gb105,7,none⟩ = some (u106007) := (blk_cell BK105.out 7).trans rfl; have hcz78_8 : w75.cell? ⟨gb105,8,none⟩ = some (.slice none 0 0) := (blk_cell BK105.out 8).trans rfl; have hfz78_0 := blk_frozen BK105.out 0; have hfz78_1 := blk_frozen BK105.out 1; have hfz78_2 := blk_frozen BK105.out 2; have hfz78_3 := blk_frozen BK105.out 3; have hfz78_4 := blk_frozen BK105.out 4; have hfz78_5 := blk_frozen BK105.out 5; have hfz78_6 := blk_frozen BK105.out 6; have hfz78_7 := blk_frozen BK105.out 7; have hfz78_8 := blk_frozen BK105.out 8; have hcz79_0 : w75.cell? ⟨gb102,0,none⟩ = some (.int .i64 0) := (blk_cell BK102.out 0).trans rfl; have hcz79_1 : w75.cell? ⟨gb102,1,none⟩ = some (.bool false) := (blk_cell BK102.out 1).trans rfl; have hcz79_2 : w75.cell? ⟨gb102,2,none⟩ = some (.int .i64 0) := (blk_cell BK102.out 2).trans rfl; have hcz79_3 : w75.cell? ⟨gb102,3,none⟩ = some (.int .i64 0) := (blk_cell BK102.out 3).trans rfl; have hcz79_4 : w75.cell? ⟨gb102,4,none⟩ = some (.int .i64 0) := (blk_cell BK102.out 4).trans rfl; have hcz79_5 : w75.cell? ⟨gb102,5,none⟩ = some (.int .i64 0) := (blk_cell BK102.out 5).trans rfl; have hcz79_6 : w75.cell? ⟨gb102,6,none⟩ = some (.int .i64 0) := (blk_cell BK102.out 6).trans rfl; have hcz79_7 : w75.cell? ⟨gb102,7,none⟩ = some (.slice none 0 0) := (blk_cell BK102.out 7).trans rfl; have hcz79_8 : w75.cell? ⟨gb102,8,none⟩ = some (.slice none 0 0) := (blk_cell BK102.out 8).trans rfl; have hfz79_0 := blk_frozen BK102.out 0; have hfz79_1 := blk_frozen BK102.out 1; have hfz79_2 := blk_frozen BK102.out 2; have hfz79_3 := blk_frozen BK102.out 3; have hfz79_4 := blk_frozen BK102.out 4; have hfz79_5 := blk_frozen BK102.out 5; have hfz79_6 := blk_frozen BK102.out 6; have hfz79_7 := blk_frozen BK102.out 7; have hfz79_8 := blk_frozen BK102.out 8; obtain ⟨Ao80,co80,eo80⟩ := Kd.S_slice HO_106007.out; subst eo80))
                    refine bodyPost_ret (results_cell_row rfl _ _ gb102 25 #[.int .i64 (wrap64 (1 + (Int.tmod (Go.bits .and .i64 a0_0 65535) 3))),.bool a0_1,.int .i64 x106002_3,.int .i64 (Int.tmod (Go.bits .and .i64 a0_3 65535) 13),.int .i64 (Int.tmod (Go.bits .and .i64 a0_4 65535) 52),.int .i64 t103,.int .i64 t104,.slice Ao80 x106007_2.length co80,.slice Ao76 y126.length co76] (0,0) _ rfl (by (with_reducible repeat (first | refine blk_drewN ?_ _ | refine blk_drew ?_ | refine blk_alloc ?_ _)); refine blk_put (cs := #[.int .i64 (wrap64 (1 + (Int.tmod (Go.bits .and .i64 a0_0 65535) 3))),.bool a0_1,.int .i64 x106002_3,.int .i64 (Int.tmod (Go.bits .and .i64 a0_3 65535) 13),.int .i64 (Int.tmod (Go.bits .and .i64 a0_4 65535) 52),.int .i64 t103,.int .i64 t104,.slice Ao80 x106007_2.length co80,.slice none 0 0]) ?_ 8 _ rfl; (with_reducible repeat (first | refine blk_drewN ?_ _ | refine blk_drew ?_ | refine blk_alloc ?_ _)); refine blk_put (cs := #[.int .i64 (wrap64 (1 + (Int.tmod (Go.bits .and .i64 a0_0 65535) 3))),.bool a0_1,.int .i64 x106002_3,.int .i64 (Int.tmod (Go.bits .and .i64 a0_3 65535) 13),.int .i64 (Int.tmod (Go.bits .and .i64 a0_4 65535) 52),.int .i64 t103,.int .i64 t104,.slice none 0 0,.slice none 0 0]) ?_ 7 _ rfl; (with_reducible repeat (first | refine blk_drewN ?_ _ | refine blk_drew ?_ | refine blk_alloc ?_ _)); refine blk_put (cs := #[.int .i64 (wrap64 (1 + (Int.tmod (Go.bits .and .i64 a0_0 65535) 3))),.bool a0_1,.int .i64 x106002_3,.int .i64 (Int.tmod (Go.bits .and .i64 a0_3 65535) 13),.int .i64 (Int.tmod (Go.bits .and .i64 a0_4 65535) 52),.int .i64 t103,.int .i64 0,.slice none 0 0,.slice none 0 0]) ?_ 6 _ rfl; (with_reducible repeat (first | refine blk_drewN ?_ _ | refine blk_drew ?_ | refine blk_alloc ?_ _)); refine blk_put (cs := #[.int .i64 (wrap64 (1 + (Int.tmod (Go.bits .and .i64 a0_0 65535) 3))),.bool a0_1,.int .i64 x106002_3,.int .i64 (Int.tmod (Go.bits .and .i64 a0_3 65535) 13),.int .i64 (Int.tmod (Go.bits .and .i64 a0_4 65535) 52),.int .i64 0,.int .i64 0,.slice none 0 0,.slice none 0 0]) ?_ 5 _ rfl; (with_reducible repeat (first | refine blk_drewN ?_ _ | refine blk_drew ?_ | refine blk_alloc ?_ _)); refine blk_put (cs := #[.int .i64 (wrap64 (1 + (Int.tmod (Go.bits .and .i64 a0_0 65535) 3))),.bool a0_1,.int .i64 x106002_3,.int .i64 (Int.tmod (Go.bits .and .i64 a0_3 65535) 13),.int .i64 0,.int .i64 0,.int .i64 0,.slice none 0 0,.slice none 0 0]) ?_ 4 _ rfl; (with_reducible repeat (first | refine blk_drewN ?_ _ | refine blk_drew ?_ | refine blk_alloc ?_ _)); refine blk_put (cs := #[.int .i64 (wrap64 (1 + (Int.tmod (Go.bits .and .i64 a0_0 65535) 3))),.bool a0_1,.int .i64 x106002_3,.int .i64 0,.int .i64 0,.int .i64 0,.int .i64 0,.slice none 0 0,.slice none 0 0]) ?_ 3 _ rfl; (with_reducible repeat (first | refine blk_drewN ?_ _ | refine blk_drew ?_ | refine blk_alloc ?_ _)); refine blk_put (cs := #[.int .i64 (wrap64 (1 + (Int.tmod (Go.bits .and .i64 a0_0 65535) 3))),.bool a0_1,.int .i64 0,.int .i64 0,.int .i64 0,.int .i64 0,.int .i64 0,.slice none 0 0,.slice none 0 0]) ?_ 2 _ rfl; (with_reducible repeat (first | refine blk_drewN ?_ _ | refine blk_drew ?_ | refine blk_alloc ?_ _)); refine blk_put (cs := #[.int .i64 (wrap64 (1 + (Int.tmod (Go.bits .and .i64 a0_0 65535) 3))),.bool false,.int .i64 0,.int .i64 0,.int .i64 0,.int .i64 0,.int .i64 0,.slice none 0 0,.slice none 0 0]) ?_ 1 _ rfl; (with_reducible repeat (first | refine blk_drewN ?_ _ | refine blk_drew ?_ | refine blk_alloc ?_ _)); refine blk_put (cs := #[.int .i64 0,.bool false,.int .i64 0,.int .i64 0,.int .i64 0,.int .i64 0,.int .i64 0,.slice none 0 0,.slice none 0 0]) ?_ 0 _ rfl; (with_reducible repeat (first | refine blk_drewN ?_ _ | refine blk_drew ?_ | refine blk_alloc ?_ _)); refine blk_far ?_ NB102_105.out _; (with_reducible repeat (first | refine blk_drewN ?_ _ | refine blk_drew ?_ | refine blk_alloc ?_ _)); exact BK102.out) Try.underlying25 rfl (by kernel_rfl)) rfl ?_
                    exact ⟨_,_,by first | rfl | (simp [errW_none,errW_some] <;> rfl) | (simp [*,errW_none,errW_some] <;> rfl),by (with_reducible repeat (first | apply Kd.S_alloc | apply Kd.S_drewN | apply Kd.S_drew)); exact Kd.S_mono (Kd.S_far (p := ⟨gb102,8,none⟩) (Kd.S_far (p := ⟨gb102,7,none⟩) (Kd.S_far (p := ⟨gb102,6,none⟩) (Kd.S_far (p := ⟨gb102,5,none⟩) (Kd.S_far (p := ⟨gb102,4,none⟩) (Kd.S_far (p := ⟨gb102,3,none⟩) (Kd.S_far (p := ⟨gb102,2,none⟩) (Kd.S_far (p := ⟨gb102,1,none⟩) (Kd.S_far (p := ⟨gb102,0,none⟩) (Kd.S_far (p := ⟨gb105,8,none⟩) (Kd.S_types (Kd.S_types HO_106007.out BK105.out (by decide)) BK102.out (by decide)) (fun _ hk => hk.1.2) (.slice Ao76 y126.length co76)) (fun _ hk => hk.2) (.int .i64 (wrap64 (1 + (Int.tmod (Go.bits .and .i64 a0_0 65535) 3))))) (fun _ hk => hk.2) (.bool a0_1)) (fun _ hk => hk.2) (.int .i64 x106002_3)) (fun _ hk => hk.2) (.int .i64 (Int.tmod (Go.bits .and .i64 a0_3 65535) 13))) (fun _ hk => hk.2) (.int .i64 (Int.tmod (Go.bits .and .i64 a0_4 65535) 52))) (fun _ hk => hk.2) (.int .i64 t103)) (fun _ hk => hk.2) (.int .i64 t104)) (fun _ hk => hk.2) (.slice Ao80 x106007_2.length co80)) (fun _ hk => hk.2) (.slice Ao76 y126.length co76)) (fun _ hk => trivial),by (with_reducible repeat (first | apply Kd.R_alloc | apply Kd.R_drewN | apply Kd.R_drew)); exact Kd.R_mono (Kd.R_far (p := ⟨gb102,8,none⟩) (Kd.R_far (p := ⟨gb102,7,none⟩) (Kd.R_far (p := ⟨gb102,6,none⟩) (Kd.R_far (p := ⟨gb102,5,none⟩) (Kd.R_far (p := ⟨gb102,4,none⟩) (Kd.R_far (p := ⟨gb102,3,none⟩) (Kd.R_far (p := ⟨gb102,2,none⟩) (Kd.R_far (p := ⟨gb102,1,none⟩) (Kd.R_far (p := ⟨gb102,0,none⟩) (Kd.R_far (p := ⟨gb105,8,none⟩) (Kd.R_types (Kd.R_types HO128.out BK105.out (by decide)) BK102.out (by decide)) (fun _ hk => hk.1.2) (.slice Ao76 y126.length co76)) (fun _ hk => hk.2) (.int .i64 (wrap64 (1 + (Int.tmod (Go.bits .and .i64 a0_0 65535) 3))))) (fun _ hk => hk.2) (.bool a0_1)) (fun _ hk => hk.2) (.int .i64 x106002_3)) (fun _ hk => hk.2) (.int .i64 (Int.tmod (Go.bits .and .i64 a0_3 65535) 13))) (fun _ hk => hk.2) (.int .i64 (Int.tmod (Go.bits .and .i64 a0_4 65535) 52))) (fun _ hk => hk.2) (.int .i64 t103)) (fun _ hk => hk.2) (.int .i64 t104)) (fun _ hk => hk.2) (.slice Ao80 x106007_2.length co80)) (fun _ hk => hk.2) (.slice Ao76 y126.length co76)) (fun _ hk => trivial),by repeat (first | (with_reducible first | exact HB.out | apply below_alloc | apply pw_below_drewN | apply below_drew1 | refine below_set ?_ GE101.out | refine below_set ?_ GE102.out | refine below_set ?_ GE105.out) | exact HB.out)⟩
                  · rw [if_neg c67] at H
                    exact absurd H (by simp)
                · replace c66 := Bool.eq_false_iff.mpr c66
                  subst c66
                  have H1 : (some ((wrap64 (1 + (Int.tmod (Go.bits .and .i64 a0_0 65535) 3))),a0_1,x106002_3,(Int.tmod (Go.bits .and .i64 a0_3 65535) 13),(Int.tmod (Go.bits .and .i64 a0_4 65535) 52),t103,t104,x106007_2,([] : List (S161)))) = some (r1,r2,r3,r4,r5,r6,r7,r8,r9) := by rw [if_neg (show ¬ (false = true) by decide)] at H; exact H
                  clear H
                  have H := H1
                  clear H1
                  simp only [Option.some.injEq, Prod.mk.injEq] at H
                  obtain ⟨rfl, rfl, rfl, rfl, rfl, rfl, rfl, rfl, rfl⟩ := H
                  have hnb81 := NB101_102.out
                  have hnc81 := NB102_101.out
                  have hnb82 := NB101_105.out
                  have hnc82 := NB105_101.out
                  have hcz83_0 : wc.cell? ⟨gb101, 0, none⟩ = some (.int .i64 a0_0) := (blk_cell BK101.out 0).trans rfl
                  have hcz83_1 : wc.cell? ⟨gb101, 1, none⟩ = some (.bool a0_1) := (blk_cell BK101.out 1).trans rfl
                  have hcz83_2 : wc.cell? ⟨gb101, 2, none⟩ = some (.int .i64 a0_2) := (blk_cell BK101.out 2).trans rfl
                  have hcz83_3 : wc.cell? ⟨gb101, 3, none⟩ = some (.int .i64 a0_3) := (blk_cell BK101.out 3).trans rfl
                  have hcz83_4 : wc.cell? ⟨gb101, 4, none⟩ = some (.int .i64 a0_4) := (blk_cell BK101.out 4).trans rfl
                  have hcz83_5 : wc.cell? ⟨gb101, 5, none⟩ = some (.int .i64 a0_5) := (blk_cell BK101.out 5).trans rfl
                  have hcz83_6 : wc.cell? ⟨gb101, 6, none⟩ = some (.int .i64 a0_6) := (blk_cell BK101.out 6).trans rfl
                  have hcz83_7 : wc.cell? ⟨gb101, 7, none⟩ = some (.slice A0_7 l0_7.length c0_7) := (blk_cell BK101.out 7).trans rfl
                  have hcz83_8 : wc.cell? ⟨gb101, 8, none⟩ = some (.slice A0_8 l0_8.length c0_8) := (blk_cell BK101.out 8).trans rfl
                  have hfz83_0 := blk_frozen BK101.out 0
                  have hfz83_1 := blk_frozen BK101.out 1
                  have hfz83_2 := blk_frozen BK101.out 2
                  have hfz83_3 := blk_frozen BK101.out 3
                  have hfz83_4 := blk_frozen BK101.out 4
                  have hfz83_5 := blk_frozen BK101.out 5
                  have hfz83_6 := blk_frozen BK101.out 6
                  have hfz83_7 := blk_frozen BK101.out 7
                  have hfz83_8 := blk_frozen BK101.out 8
                  go_wp2_with (first | ((with_reducible refine gate_callee (f := 78) rfl ?_); refine goesL_ (some 100) rfl rfl Try.func78 (by kernel_rfl) rfl #[.slice A0_8 l0_8.length c0_8] rfl (by (try simp only [List.map_toArray,List.map_cons,List.map_nil]); first | done | rfl | (simp only [List.length_drop,List.length_take]; rfl)) ?_; (with_reducible refine (phaetonref21_Right.calls _ _ l0_8 false _ ?side1 ?side2 A65.out).mono ?_); (case side1 => repeat (first | exact (Kd.C_below HR0_8.out HB.out) | (with_reducible refine Kd.C_alloc ?_ _) | (with_reducible refine Kd.C_drewN ?_ _) | (with_reducible refine Kd.C_drew ?_))); (case side2 => exact HC0_8.out); rintro e w84 ⟨rfl,hb⟩; refine ⟨_,rfl,?_⟩; have n0_ := Aside0.mk (Kd.S_below (by (with_reducible repeat (first | apply Kd.S_alloc | apply Kd.S_drewN | apply Kd.S_drew)); exact HO_106007.out) hb); have n1_ := Aside0.mk (blk_below (g := gb101) (o := .cells #[.int .i64 a0_0,.bool a0_1,.int .i64 a0_2,.int .i64 a0_3,.int .i64 a0_4,.int .i64 a0_5,.int .i64 a0_6,.slice A0_7 l0_7.length c0_7,.slice A0_8 l0_8.length c0_8] 25 (0,0)) (by (with_reducible repeat (first | refine blk_drewN ?_ _ | refine blk_drew ?_ | refine blk_alloc ?_ _)); exact BK101.out) hb); have n2_ := Aside0.mk (blk_below (g := gb102) (o := .cells #[.int .i64 0,.bool false,.int .i64 0,.int .i64 0,.int .i64 0,.int .i64 0,.int .i64 0,.slice none 0 0,.slice none 0 0] 25 (0,0)) (by (with_reducible repeat (first | refine blk_drewN ?_ _ | refine blk_drew ?_ | refine blk_alloc ?_ _)); exact BK102.out) hb); have n3_ := Aside0.mk (blk_below (g := gb105) (o := .cells #[.int .i64 (wrap64 (1 + (Int.tmod (Go.bits .and .i64 a0_0 65535) 3))),.bool a0_1,.int .i64 x106002_3,.int .i64 (Int.tmod (Go.bits .and .i64 a0_3 65535) 13),.int .i64 (Int.tmod (Go.bits .and .i64 a0_4 65535) 52),.int .i64 t103,.int .i64 t104,u106007,.slice none 0 0] 25 (0,0)) (by (with_reducible repeat (first | refine blk_drewN ?_ _ | refine blk_drew ?_ | refine blk_alloc ?_ _)); exact BK105.out) hb); have n4_ := Aside0.mk (below_step (by repeat (first | (with_reducible first | exact HB.out | apply below_alloc | apply pw_below_drewN | apply below_drew1 | refine below_set ?_ GE101.out | refine below_set ?_ GE102.out | refine below_set ?_ GE105.out) | exact HB.out)) hb); clear HO_106007; clear BK101; clear BK102; clear BK105; clear HB; have HO_106007 := n0_; have BK101 := n1_; have BK102 := n2_; have BK105 := n3_; have HB := n4_; clear n0_ n1_ n2_ n3_ n4_; (try clear hb); (try clear hb2); (try clear hk); (try clear hi); have hnb85 := NB105_102.out; have hnc85 := NB102_105.out; have hcz86_0 : w84.cell? ⟨gb105,0,none⟩ = some (.int .i64 (wrap64 (1 + (Int.tmod (Go.bits .and .i64 a0_0 65535) 3)))) := (blk_cell BK105.out 0).trans rfl; have hcz86_1 : w84.cell? ⟨gb105,1,none⟩ = some (.bool a0_1) := (blk_cell BK105.out 1).trans rfl; have hcz86_2 : w84.cell? ⟨gb105,2,none⟩ = some (.int .i64 x106002_3) := (blk_cell BK105.out 2).trans rfl; have hcz86_3 : w84.cell? ⟨gb105,3,none⟩ = some (.int .i64 (Int.tmod (Go.bits .and .i64 a0_3 65535) 13)) := (blk_cell BK105.out 3).trans rfl; have hcz86_4 : w84.cell? ⟨gb105,4,none⟩ = some (.int .i64 (Int.tmod (Go.bits .and .i64 a0_4 65535) 52)) := (blk_cell BK105.out 4).trans rfl; have hcz86_5 : w84.cell? ⟨gb105,5,none⟩ = some (.int .i64 t103) := (blk_cell BK105.out 5).trans rfl; have hcz86_6 : w84.cell? ⟨gb105,6,none⟩ = some (.int .i64 t104) := (blk_cell BK105.out 6).trans rfl; have hcz86_7 : w84.cell? ⟨gb105,7,none⟩ = some (u106007) := (blk_cell BK105.out 7).trans rfl; have hcz86_8 : w84.cell? ⟨gb105,8,none⟩ = some (.slice none 0 0) := (blk_cell BK105.out 8).trans rfl; have hfz86_0 := blk_frozen BK105.out 0; have hfz86_1 := blk_frozen BK105.out 1; have hfz86_2 := blk_frozen BK105.out 2; have hfz86_3 := blk_frozen BK105.out 3; have hfz86_4 := blk_frozen BK105.out 4; have hfz86_5 := blk_frozen BK105.out 5; have hfz86_6 := blk_frozen BK105.out 6; have hfz86_7 := blk_frozen BK105.out 7; have hfz86_8 := blk_frozen BK105.out 8; have hcz87_0 : w84.cell? ⟨gb102,0,none⟩ = some (.int .i64 0) := (blk_cell BK102.out 0).trans rfl; have hcz87_1 : w84.cell? ⟨gb102,1,none⟩ = some (.bool false) := (blk_cell BK102.out 1).trans rfl; have hcz87_2 : w84.cell? ⟨gb102,2,none⟩ = some (.int .i64 0) := (blk_cell BK102.out 2).trans rfl; have hcz87_3 : w84.cell? ⟨gb102,3,none⟩ = some (.int .i64 0) := (blk_cell BK102.out 3).trans rfl; have hcz87_4 : w84.cell? ⟨gb102,4,none⟩ = some (.int .i64 0) := (blk_cell BK102.out 4).trans rfl; have hcz87_5 : w84.cell? ⟨gb102,5,none⟩ = some (.int .i64 0) := (blk_cell BK102.out 5).trans rfl; have hcz87_6 : w84.cell? ⟨gb102,6,none⟩ = some (.int .i64 0) := (blk_cell BK102.out 6).trans rfl; have hcz87_7 : w84.cell? ⟨gb102,7,none⟩ = some (.slice none 0 0) := (blk_cell BK102.out 7).trans rfl; have hcz87_8 : w84.cell? ⟨gb102,8,none⟩ = some (.slice none 0 0) := (blk_cell BK102.out 8).trans rfl; have hfz87_0 := blk_frozen BK102.out 0; have hfz87_1 := blk_frozen BK102.out 1; have hfz87_2 := blk_frozen BK102.out 2; have hfz87_3 := blk_frozen BK102.out 3; have hfz87_4 := blk_frozen BK102.out 4; have hfz87_5 := blk_frozen BK102.out 5; have hfz87_6 := blk_frozen BK102.out 6; have hfz87_7 := blk_frozen BK102.out 7; have hfz87_8 := blk_frozen BK102.out 8; obtain ⟨Ao88,co88,eo88⟩ := Kd.S_slice HO_106007.out; subst eo88))
                  refine bodyPost_ret (results_cell_row rfl _ _ gb102 25 #[.int .i64 (wrap64 (1 + (Int.tmod (Go.bits .and .i64 a0_0 65535) 3))),.bool a0_1,.int .i64 x106002_3,.int .i64 (Int.tmod (Go.bits .and .i64 a0_3 65535) 13),.int .i64 (Int.tmod (Go.bits .and .i64 a0_4 65535) 52),.int .i64 t103,.int .i64 t104,.slice Ao88 x106007_2.length co88,.slice none 0 0] (0,0) _ rfl (by (with_reducible repeat (first | refine blk_drewN ?_ _ | refine blk_drew ?_ | refine blk_alloc ?_ _)); refine blk_put (cs := #[.int .i64 (wrap64 (1 + (Int.tmod (Go.bits .and .i64 a0_0 65535) 3))),.bool a0_1,.int .i64 x106002_3,.int .i64 (Int.tmod (Go.bits .and .i64 a0_3 65535) 13),.int .i64 (Int.tmod (Go.bits .and .i64 a0_4 65535) 52),.int .i64 t103,.int .i64 t104,.slice Ao88 x106007_2.length co88,.slice none 0 0]) ?_ 8 _ rfl; (with_reducible repeat (first | refine blk_drewN ?_ _ | refine blk_drew ?_ | refine blk_alloc ?_ _)); refine blk_put (cs := #[.int .i64 (wrap64 (1 + (Int.tmod (Go.bits .and .i64 a0_0 65535) 3))),.bool a0_1,.int .i64 x106002_3,.int .i64 (Int.tmod (Go.bits .and .i64 a0_3 65535) 13),.int .i64 (Int.tmod (Go.bits .and .i64 a0_4 65535) 52),.int .i64 t103,.int .i64 t104,.slice none 0 0,.slice none 0 0]) ?_ 7 _ rfl; (with_reducible repeat (first | refine blk_drewN ?_ _ | refine blk_drew ?_ | refine blk_alloc ?_ _)); refine blk_put (cs := #[.int .i64 (wrap64 (1 + (Int.tmod (Go.bits .and .i64 a0_0 65535) 3))),.bool a0_1,.int .i64 x106002_3,.int .i64 (Int.tmod (Go.bits .and .i64 a0_3 65535) 13),.int .i64 (Int.tmod (Go.bits .and .i64 a0_4 65535) 52),.int .i64 t103,.int .i64 0,.slice none 0 0,.slice none 0 0]) ?_ 6 _ rfl; (with_reducible repeat (first | refine blk_drewN ?_ _ | refine blk_drew ?_ | refine blk_alloc ?_ _)); refine blk_put (cs := #[.int .i64 (wrap64 (1 + (Int.tmod (Go.bits .and .i64 a0_0 65535) 3))),.bool a0_1,.int .i64 x106002_3,.int .i64 (Int.tmod (Go.bits .and .i64 a0_3 65535) 13),.int .i64 (Int.tmod (Go.bits .and .i64 a0_4 65535) 52),.int .i64 0,.int .i64 0,.slice none 0 0,.slice none 0 0]) ?_ 5 _ rfl; (with_reducible repeat (first | refine blk_drewN ?_ _ | refine blk_drew ?_ | refine blk_alloc ?_ _)); refine blk_put (cs := #[.int .i64 (wrap64 (1 + (Int.tmod (Go.bits .and .i64 a0_0 65535) 3))),.bool a0_1,.int .i64 x106002_3,.int .i64 (Int.tmod (Go.bits .and .i64 a0_3 65535) 13),.int .i64 0,.int .i64 0,.int .i64 0,.slice none 0 0,.slice none 0 0]) ?_ 4 _ rfl; (with_reducible repeat (first | refine blk_drewN ?_ _ | refine blk_drew ?_ | refine blk_alloc ?_ _)); refine blk_put (cs := #[.int .i64 (wrap64 (1 + (Int.tmod (Go.bits .and .i64 a0_0 65535) 3))),.bool a0_1,.int .i64 x106002_3,.int .i64 0,.int .i64 0,.int .i64 0,.int .i64 0,.slice none 0 0,.slice none 0 0]) ?_ 3 _ rfl; (with_reducible repeat (first | refine blk_drewN ?_ _ | refine blk_drew ?_ | refine blk_alloc ?_ _)); refine blk_put (cs := #[.int .i64 (wrap64 (1 + (Int.tmod (Go.bits .and .i64 a0_0 65535) 3))),.bool a0_1,.int .i64 0,.int .i64 0,.int .i64 0,.int .i64 0,.int .i64 0,.slice none 0 0,.slice none 0 0]) ?_ 2 _ rfl; (with_reducible repeat (first | refine blk_drewN ?_ _ | refine blk_drew ?_ | refine blk_alloc ?_ _)); refine blk_put (cs := #[.int .i64 (wrap64 (1 + (Int.tmod (Go.bits .and .i64 a0_0 65535) 3))),.bool false,.int .i64 0,.int .i64 0,.int .i64 0,.int .i64 0,.int .i64 0,.slice none 0 0,.slice none 0 0]) ?_ 1 _ rfl; (with_reducible repeat (first | refine blk_drewN ?_ _ | refine blk_drew ?_ | refine blk_alloc ?_ _)); refine blk_put (cs := #[.int .i64 0,.bool false,.int .i64 0,.int .i64 0,.int .i64 0,.int .i64 0,.int .i64 0,.slice none 0 0,.slice none 0 0]) ?_ 0 _ rfl; (with_reducible repeat (first | refine blk_drewN ?_ _ | refine blk_drew ?_ | refine blk_alloc ?_ _)); exact BK102.out) Try.underlying25 rfl (by kernel_rfl)) rfl ?_
                  exact ⟨_,_,by first | rfl | (simp [errW_none,errW_some] <;> rfl) | (simp [*,errW_none,errW_some] <;> rfl),by (with_reducible repeat (first | apply Kd.S_alloc | apply Kd.S_drewN | apply Kd.S_drew)); exact Kd.S_mono (Kd.S_far (p := ⟨gb102,8,none⟩) (Kd.S_far (p := ⟨gb102,7,none⟩) (Kd.S_far (p := ⟨gb102,6,none⟩) (Kd.S_far (p := ⟨gb102,5,none⟩) (Kd.S_far (p := ⟨gb102,4,none⟩) (Kd.S_far (p := ⟨gb102,3,none⟩) (Kd.S_far (p := ⟨gb102,2,none⟩) (Kd.S_far (p := ⟨gb102,1,none⟩) (Kd.S_far (p := ⟨gb102,0,none⟩) (Kd.S_types HO_106007.out BK102.out (by decide)) (fun _ hk => hk.2) (.int .i64 (wrap64 (1 + (Int.tmod (Go.bits .and .i64 a0_0 65535) 3))))) (fun _ hk => hk.2) (.bool a0_1)) (fun _ hk => hk.2) (.int .i64 x106002_3)) (fun _ hk => hk.2) (.int .i64 (Int.tmod (Go.bits .and .i64 a0_3 65535) 13))) (fun _ hk => hk.2) (.int .i64 (Int.tmod (Go.bits .and .i64 a0_4 65535) 52))) (fun _ hk => hk.2) (.int .i64 t103)) (fun _ hk => hk.2) (.int .i64 t104)) (fun _ hk => hk.2) (.slice Ao88 x106007_2.length co88)) (fun _ hk => hk.2) (.slice none 0 0)) (fun _ hk => trivial),by first | exact Kd.R_nil _ _ _ _ _ | exact Kd.N_nil _ _ _ _ _ | exact Kd.V_nil _ _ _ _ _ | exact Kd.Q_nil _ _ _ _ _ | exact Kd.S_nil _ _ _ _ _,by repeat (first | (with_reducible first | exact HB.out | apply below_alloc | apply pw_below_drewN | apply below_drew1 | refine below_set ?_ GE101.out | refine below_set ?_ GE102.out | refine below_set ?_ GE105.out) | exact HB.out)⟩
end Go.Proofs.Ph.Ma
