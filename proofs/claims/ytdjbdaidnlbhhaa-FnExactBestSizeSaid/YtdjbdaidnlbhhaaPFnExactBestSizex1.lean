-- PRINTED BY print.sh 35421559b90ae4d0a3588c463048766b98c2df88dd9212a6774a882060cdf62d: not written by this session
import Derived.Test.YtdjbdaidnlbhhaaPFnExactBestSizex0
namespace Go.Proofs.Ytdjbdaidnlbhhaa.PFnExactBestSize
open Go.RowKit Go.Proofs.YtdjbdaidnlbhhaaW.PrintWords Go.Proofs.YtdjbdaidnlbhhaaW.PrintLast Go.Proofs.YtdjbdaidnlbhhaaW.PrintMore
attribute [local go_sem] max2_int min2_int max_two min_two max_three min_three max_four min_four   -- for this text's walks alone
set_option linter.unusedVariables false
set_option linter.unusedSimpArgs false

/-! ### spec_l00In: function 51 -/
def spec_l00In.f (a0 : Int) (a1 : Int) (a2 : Int) : Option (Bool) := if a0 ≥ a1 then (some (decide (a0 ≤ a2))) else (some false)
set_option maxHeartbeats 8000000 in
set_option maxRecDepth 100000 in
theorem spec_l00In.calls (a0 : Int) (a1 : Int) (a2 : Int) (r : Bool) (w : World) (h : spec_l00In.f a0 a1 a2 = some r) :
    Calls Try.prog 51 #[.int .i64 a0, .int .i64 a1, .int .i64 a2] w fun e w' => e = .returned (.bool r) ∧ Drawn0 w w' := by
  have H : (if a0 ≥ a1 then (some (decide (a0 ≤ a2))) else (some false)) = some r := h
  clear h
  by_cases c4 : a0 ≥ a1
  · rw [if_pos c4] at H
    have c4b0 : decide (a1 ≤ a0) = true := decide_eq_true c4
    clear c4
    obtain rfl := Option.some.inj H
    go_enter Try.func51, Try.ntmps51
    go_wp2
    go_ret
    exact ⟨by first | rfl | (simp; done) | (simp [*]; done), by repeat (first | exact Drawn0.refl _ | apply Drawn0.step)⟩
  · rw [if_neg c4] at H
    have c4b0 : decide (a1 ≤ a0) = false := decide_eq_false c4
    clear c4
    obtain rfl := Option.some.inj H
    go_enter Try.func51, Try.ntmps51
    go_wp2
    go_ret
    exact ⟨by first | rfl | (simp; done) | (simp [*]; done), by repeat (first | exact Drawn0.refl _ | apply Drawn0.step)⟩

/-! ### spec_l00Max: function 54 -/
def spec_l00Max.f (a0 : Int) (a1 : Int) : Option (Int) := if a0 > a1 then (some a0) else (some a1)
set_option maxHeartbeats 8000000 in
set_option maxRecDepth 100000 in
theorem spec_l00Max.calls (a0 : Int) (a1 : Int) (r : Int) (w : World) (h : spec_l00Max.f a0 a1 = some r) :
    Calls Try.prog 54 #[.int .i64 a0, .int .i64 a1] w fun e w' => e = .returned (.int .i64 r) ∧ Drawn0 w w' := by
  have H : (if a0 > a1 then (some a0) else (some a1)) = some r := h
  clear h
  by_cases c3 : a0 > a1
  · rw [if_pos c3] at H
    have c3b0 : decide (a1 < a0) = true := decide_eq_true c3
    clear c3
    obtain rfl := Option.some.inj H
    go_enter Try.func54, Try.ntmps54
    go_wp2
    go_ret
    exact ⟨by first | rfl | (simp; done) | (simp [*]; done), by repeat (first | exact Drawn0.refl _ | apply Drawn0.step)⟩
  · rw [if_neg c3] at H
    have c3b0 : decide (a1 < a0) = false := decide_eq_false c3
    clear c3
    obtain rfl := Option.some.inj H
    go_enter Try.func54, Try.ntmps54
    go_wp2
    go_ret
    exact ⟨by first | rfl | (simp; done) | (simp [*]; done), by repeat (first | exact Drawn0.refl _ | apply Drawn0.step)⟩

/-! ### spec_l06Chance: function 55 -/
mutual
def spec_l06Chance.l0 : Nat → Int → Int → Int → Int → Int → Int → Option (Int)
  | 0, _, _, _, _, _, _ => none
  | k + 1, x0, x1, x2, x3, x9, x10 => if x10 < x2 then (if x0 = 0 then (none) else (spec_l06Chance.l0 k x0 x1 x2 x3 (wrap64 (Int.tdiv (wrap64 (x9 * (wrap64 (x0 - x1)))) x0)) (wrap64 (x10 + 1)))) else (spec_l06Chance.l1 k x1 x3 x9 1000000000 0)
def spec_l06Chance.l1 : Nat → Int → Int → Int → Int → Int → Option (Int)
  | 0, _, _, _, _, _ => none
  | k + 1, x1, x3, x9, x11, x12 => if x12 < (wrap64 (x1 * x3)) then (spec_l06Chance.l1 k x1 x3 x9 (wrap64 (Int.tdiv (wrap64 (x11 * (wrap64 (1000000000 - x9)))) 1000000000)) (wrap64 (x12 + 1))) else (some x11)
end
def spec_l06Chance.f (k : Nat) (a0 : Int) (a1 : Int) (a2 : Int) (a3 : Int) : Option (Int) := spec_l06Chance.l0 k a0 a1 a2 a3 1000000000 0
theorem spec_l06Chance.mono_l : ∀ k, (∀ y0 y1 y2 y3 y4 y5, LeO (spec_l06Chance.l0 k y0 y1 y2 y3 y4 y5) (spec_l06Chance.l0 (k + 1) y0 y1 y2 y3 y4 y5)) ∧ (∀ y0 y1 y2 y3 y4, LeO (spec_l06Chance.l1 k y0 y1 y2 y3 y4) (spec_l06Chance.l1 (k + 1) y0 y1 y2 y3 y4))
  | 0 => ⟨fun _ _ _ _ _ _ r h => by simp [spec_l06Chance.l0] at h, fun _ _ _ _ _ r h => by simp [spec_l06Chance.l1] at h⟩
  | k + 1 => by
    obtain ⟨ih0, ih1⟩ := spec_l06Chance.mono_l k
    refine ⟨?_, ?_⟩
    · intro y0 y1 y2 y3 y4 y5
      unfold spec_l06Chance.l0
      repeat' first
      | (with_reducible exact ih0 _ _ _ _ _ _)
      | (with_reducible exact ih1 _ _ _ _ _)
      | (with_reducible exact LeO.refl _)
      | (with_reducible exact LeO.none _)
      | (with_reducible refine LeO.ite ?_ ?_)
      | (with_reducible refine LeO.bind ?_ (fun _ => ?_))
      | exact ih0 _ _ _ _ _ _
      | exact ih1 _ _ _ _ _
      | exact LeO.none _
      | refine LeO.ite ?_ ?_
      | refine LeO.bind ?_ (fun _ => ?_)
    · intro y0 y1 y2 y3 y4
      unfold spec_l06Chance.l1
      repeat' first
      | (with_reducible exact ih0 _ _ _ _ _ _)
      | (with_reducible exact ih1 _ _ _ _ _)
      | (with_reducible exact LeO.refl _)
      | (with_reducible exact LeO.none _)
      | (with_reducible refine LeO.ite ?_ ?_)
      | (with_reducible refine LeO.bind ?_ (fun _ => ?_))
      | exact ih0 _ _ _ _ _ _
      | exact ih1 _ _ _ _ _
      | exact LeO.none _
      | refine LeO.ite ?_ ?_
      | refine LeO.bind ?_ (fun _ => ?_)
theorem spec_l06Chance.mono : ∀ a0 a1 a2 a3 k, LeO (spec_l06Chance.f k a0 a1 a2 a3) (spec_l06Chance.f (k + 1) a0 a1 a2 a3) := by
  intro a0 a1 a2 a3 k
  obtain ⟨ih0, ih1⟩ := spec_l06Chance.mono_l k
  unfold spec_l06Chance.f
  repeat' first
      | (with_reducible exact ih0 _ _ _ _ _ _)
      | (with_reducible exact ih1 _ _ _ _ _)
      | (with_reducible exact LeO.refl _)
      | (with_reducible exact LeO.none _)
      | (with_reducible refine LeO.ite ?_ ?_)
      | (with_reducible refine LeO.bind ?_ (fun _ => ?_))
      | exact ih0 _ _ _ _ _ _
      | exact ih1 _ _ _ _ _
      | exact LeO.none _
      | refine LeO.ite ?_ ?_
      | refine LeO.bind ?_ (fun _ => ?_)
set_option maxHeartbeats 8000000 in
set_option maxRecDepth 100000 in
theorem spec_l06Chance.calls (k : Nat) (a0 : Int) (a1 : Int) (a2 : Int) (a3 : Int) (r : Int) (w : World) (h : spec_l06Chance.f k a0 a1 a2 a3 = some r) :
    Calls Try.prog 55 #[.int .i64 a0, .int .i64 a1, .int .i64 a2, .int .i64 a3] w fun e w' => e = .returned (.int .i64 r) ∧ Drawn0 w w' := by
  have H : (spec_l06Chance.l0 k a0 a1 a2 a3 1000000000 0) = some r := h
  clear h
  have H' := Aside0.mk H
  clear H
  go_enter Try.func55, Try.ntmps55
  go_wp2
  go_loopg [9, 10] k (fun kq v9 v10 w' => ∃ (x9_1 : Int) (x10_1 : Int), v9 = .int .i64 x9_1 ∧ v10 = .int .i64 x10_1 ∧ Aside0 (spec_l06Chance.l0 kq a0 a1 a2 a3 x9_1 x10_1 = some r) ∧ Aside0 (kq ≤ k) ∧ Drawn0 w w')
  case atStart => exact ⟨(1000000000), (0), (by first | rfl | (simp; done) | (simp [*]; done)), (by first | rfl | (simp; done) | (simp [*]; done)), H', ⟨Nat.le_refl _⟩, by repeat (first | exact Drawn0.refl _ | apply Drawn0.step)⟩
  case round =>
    clear H'
    try clear p2
    obtain ⟨x9_1, x10_1, rfl, rfl, HA, HK1, ⟨m1, rfl⟩⟩ := hrel
    cases gk with
    | zero => exact absurd HA.out (by simp [spec_l06Chance.l0])
    | succ k1 =>
      have H := HA.out
      clear HA
      simp only [spec_l06Chance.l0] at H
      by_cases c5 : x10_1 < a2
      · rw [if_pos c5] at H
        have c5b0 : decide (x10_1 < a2) = true := decide_eq_true c5
        clear c5
        by_cases c6 : a0 = 0
        · rw [if_pos c6] at H
          exact absurd H (by simp)
        · rw [if_neg c6] at H
          have c6b0 : (a0 == 0) = false := beq_eq_false_iff_ne.mpr c6
          have c6b1 : (a0 != 0) = true := bne_iff_ne.mpr c6
          have H' := Aside0.mk H
          clear H
          go_wp2
          go_roundg k1
          case measure => have := HK1.out; omega
          case rel => exact ⟨(wrap64 (Int.tdiv (wrap64 (x9_1 * (wrap64 (a0 - a1)))) a0)), (wrap64 (x10_1 + 1)), (by first | rfl | (simp; done) | (simp [*]; done)), (by first | rfl | (simp; done) | (simp [*]; done)), H', ⟨by have := HK1.out; omega⟩, by repeat (first | exact Drawn0.refl _ | apply Drawn0.step)⟩
      · rw [if_neg c5] at H
        have c5b0 : decide (x10_1 < a2) = false := decide_eq_false c5
        clear c5
        have H' := Aside0.mk H
        clear H
        go_wp2
        go_loopg [11, 12] k1 (fun kq v11 v12 w' => ∃ (x11_2 : Int) (x12_2 : Int), v11 = .int .i64 x11_2 ∧ v12 = .int .i64 x12_2 ∧ Aside0 (spec_l06Chance.l1 kq a1 a3 x9_1 x11_2 x12_2 = some r) ∧ Aside0 (kq ≤ k1) ∧ Drawn0 w w')
        case atStart => exact ⟨(1000000000), (0), (by first | rfl | (simp; done) | (simp [*]; done)), (by first | rfl | (simp; done) | (simp [*]; done)), H', ⟨Nat.le_refl _⟩, by repeat (first | exact Drawn0.refl _ | apply Drawn0.step)⟩
        case round =>
          clear H'
          try clear p2
          try clear c5
          try clear c5b0
          try clear c6
          try clear c6b0
          try clear c6b1
          try clear p6
          try clear p2
          obtain ⟨x11_2, x12_2, rfl, rfl, HA, HK2, ⟨m2, rfl⟩⟩ := hrel
          cases gk with
          | zero => exact absurd HA.out (by simp [spec_l06Chance.l1])
          | succ k2 =>
            have H := HA.out
            clear HA
            simp only [spec_l06Chance.l1] at H
            by_cases c7 : x12_2 < (wrap64 (a1 * a3))
            · rw [if_pos c7] at H
              have c7b0 : decide (x12_2 < (wrap64 (a1 * a3))) = true := decide_eq_true c7
              clear c7
              have H' := Aside0.mk H
              clear H
              go_wp2
              go_roundg k2
              case measure => have := HK1.out; have := HK2.out; omega
              case rel => exact ⟨(wrap64 (Int.tdiv (wrap64 (x11_2 * (wrap64 (1000000000 - x9_1)))) 1000000000)), (wrap64 (x12_2 + 1)), (by first | rfl | (simp; done) | (simp [*]; done)), (by first | rfl | (simp; done) | (simp [*]; done)), H', ⟨by have := HK1.out; have := HK2.out; omega⟩, by repeat (first | exact Drawn0.refl _ | apply Drawn0.step)⟩
            · rw [if_neg c7] at H
              have c7b0 : decide (x12_2 < (wrap64 (a1 * a3))) = false := decide_eq_false c7
              clear c7
              obtain rfl := Option.some.inj H
              go_wp2
              go_ret
              exact ⟨by first | rfl | (simp; done) | (simp [*]; done), by repeat (first | exact Drawn0.refl _ | apply Drawn0.step)⟩

/-! ### spec_BestSize: function 17 -/
mutual
def spec_BestSize.j0 : Nat → Int → Int → Int → Int → Int → Bool → Option (Int × Int)
  | 0, _, _, _, _, _, _ => none
  | k + 1, x0, x1, x2, x3, x4, x35 => if x35 = true then (some (0, 2)) else ((spec_l00Max.f 4 (wrap64 (2 * x0))).bind fun t106 => (spec_BestSize.l0 k x0 x1 x2 x3 x4 t106))
def spec_BestSize.l0 : Nat → Int → Int → Int → Int → Int → Int → Option (Int × Int)
  | 0, _, _, _, _, _, _ => none
  | k + 1, x0, x1, x2, x3, x4, x12 => if x12 ≤ x3 then ((spec_l06Chance.f k x12 x0 x1 x2).bind fun t107 => (if t107 ≤ x4 then (some (x12, 0)) else (spec_BestSize.l0 k x0 x1 x2 x3 x4 (wrap64 (x12 + 1))))) else (some (0, 6))
end
def spec_BestSize.f (k : Nat) (a0 : Int) (a1 : Int) (a2 : Int) (a3 : Int) (a4 : Int) : Option (Int × Int) := (spec_l00In.f a0 1 8).bind fun t101 => (if t101 = true then ((spec_l00In.f a1 0 100).bind fun t102 => (if t102 = true then ((spec_l00In.f a2 0 12).bind fun t103 => (if t103 = true then ((spec_l00In.f a3 4 96).bind fun t104 => (if t104 = true then ((spec_l00In.f a4 0 1000000000).bind fun t105 => (spec_BestSize.j0 k a0 a1 a2 a3 a4 (!t105))) else (spec_BestSize.j0 k a0 a1 a2 a3 a4 true))) else (spec_BestSize.j0 k a0 a1 a2 a3 a4 true))) else (spec_BestSize.j0 k a0 a1 a2 a3 a4 true))) else (spec_BestSize.j0 k a0 a1 a2 a3 a4 true))
theorem spec_BestSize.mono_l : ∀ k, (∀ y0 y1 y2 y3 y4 y5, LeO (spec_BestSize.j0 k y0 y1 y2 y3 y4 y5) (spec_BestSize.j0 (k + 1) y0 y1 y2 y3 y4 y5)) ∧ (∀ y0 y1 y2 y3 y4 y5, LeO (spec_BestSize.l0 k y0 y1 y2 y3 y4 y5) (spec_BestSize.l0 (k + 1) y0 y1 y2 y3 y4 y5))
  | 0 => ⟨fun _ _ _ _ _ _ r h => by simp [spec_BestSize.j0] at h, fun _ _ _ _ _ _ r h => by simp [spec_BestSize.l0] at h⟩
  | k + 1 => by
    obtain ⟨ih0, ih1⟩ := spec_BestSize.mono_l k
    refine ⟨?_, ?_⟩
    · intro y0 y1 y2 y3 y4 y5
      unfold spec_BestSize.j0
      repeat' first
      | (with_reducible exact ih0 _ _ _ _ _ _)
      | (with_reducible exact ih1 _ _ _ _ _ _)
      | (with_reducible exact spec_l06Chance.mono _ _ _ _ _)
      | (with_reducible exact LeO.refl _)
      | (with_reducible exact LeO.none _)
      | (with_reducible refine LeO.ite ?_ ?_)
      | (with_reducible refine LeO.bind ?_ (fun _ => ?_))
      | exact ih0 _ _ _ _ _ _
      | exact ih1 _ _ _ _ _ _
      | exact spec_l06Chance.mono _ _ _ _ _
      | exact LeO.none _
      | refine LeO.ite ?_ ?_
      | refine LeO.bind ?_ (fun _ => ?_)
    · intro y0 y1 y2 y3 y4 y5
      unfold spec_BestSize.l0
      repeat' first
      | (with_reducible exact ih0 _ _ _ _ _ _)
      | (with_reducible exact ih1 _ _ _ _ _ _)
      | (with_reducible exact spec_l06Chance.mono _ _ _ _ _)
      | (with_reducible exact LeO.refl _)
      | (with_reducible exact LeO.none _)
      | (with_reducible refine LeO.ite ?_ ?_)
      | (with_reducible refine LeO.bind ?_ (fun _ => ?_))
      | exact ih0 _ _ _ _ _ _
      | exact ih1 _ _ _ _ _ _
      | exact spec_l06Chance.mono _ _ _ _ _
      | exact LeO.none _
      | refine LeO.ite ?_ ?_
      | refine LeO.bind ?_ (fun _ => ?_)
theorem spec_BestSize.mono : ∀ a0 a1 a2 a3 a4 k, LeO (spec_BestSize.f k a0 a1 a2 a3 a4) (spec_BestSize.f (k + 1) a0 a1 a2 a3 a4) := by
  intro a0 a1 a2 a3 a4 k
  obtain ⟨ih0, ih1⟩ := spec_BestSize.mono_l k
  unfold spec_BestSize.f
  repeat' first
      | (with_reducible exact ih0 _ _ _ _ _ _)
      | (with_reducible exact ih1 _ _ _ _ _ _)
      | (with_reducible exact spec_l06Chance.mono _ _ _ _ _)
      | (with_reducible exact LeO.refl _)
      | (with_reducible exact LeO.none _)
      | (with_reducible refine LeO.ite ?_ ?_)
      | (with_reducible refine LeO.bind ?_ (fun _ => ?_))
      | exact ih0 _ _ _ _ _ _
      | exact ih1 _ _ _ _ _ _
      | exact spec_l06Chance.mono _ _ _ _ _
      | exact LeO.none _
      | refine LeO.ite ?_ ?_
      | refine LeO.bind ?_ (fun _ => ?_)
set_option maxHeartbeats 8000000 in
set_option maxRecDepth 100000 in
theorem spec_BestSize.calls (k : Nat) (a0 : Int) (a1 : Int) (a2 : Int) (a3 : Int) (a4 : Int) (r1 : Int) (r2 : Int) (w : World) (h : spec_BestSize.f k a0 a1 a2 a3 a4 = some (r1, r2)) :
    Calls Try.prog 17 #[.int .i64 a0, .int .i64 a1, .int .i64 a2, .int .i64 a3, .int .i64 a4] w fun e w' => e = .returned (.tuple #[.int .i64 r1, .int .i64 r2]) ∧ Drawn0 w w' := by
  have H : ((spec_l00In.f a0 1 8).bind fun t101 => (if t101 = true then ((spec_l00In.f a1 0 100).bind fun t102 => (if t102 = true then ((spec_l00In.f a2 0 12).bind fun t103 => (if t103 = true then ((spec_l00In.f a3 4 96).bind fun t104 => (if t104 = true then ((spec_l00In.f a4 0 1000000000).bind fun t105 => (spec_BestSize.j0 k a0 a1 a2 a3 a4 (!t105))) else (spec_BestSize.j0 k a0 a1 a2 a3 a4 true))) else (spec_BestSize.j0 k a0 a1 a2 a3 a4 true))) else (spec_BestSize.j0 k a0 a1 a2 a3 a4 true))) else (spec_BestSize.j0 k a0 a1 a2 a3 a4 true))) = some (r1, r2) := h
  clear h
  have HC6 := Aside0.mk H
  clear H
  go_enter Try.func17, Try.ntmps17
  go_upto_region 1 with (fail)
  go_cut [35] (fun v35 wc => ∃ (kq : Nat) (x35_5 : Bool), v35 = .bool x35_5 ∧ Aside0 (spec_BestSize.j0 kq a0 a1 a2 a3 a4 x35_5 = some (r1, r2)) ∧ Aside0 (kq ≤ k) ∧ Drawn0 w wc)
  case first =>
    have H := HC6.out
    clear HC6
    replace H := Option.bind_eq_some_iff.mp H
    obtain ⟨t101, A70, H⟩ := H
    replace H : (if t101 = true then ((spec_l00In.f a1 0 100).bind fun t102 => (if t102 = true then ((spec_l00In.f a2 0 12).bind fun t103 => (if t103 = true then ((spec_l00In.f a3 4 96).bind fun t104 => (if t104 = true then ((spec_l00In.f a4 0 1000000000).bind fun t105 => (spec_BestSize.j0 k a0 a1 a2 a3 a4 (!t105))) else (spec_BestSize.j0 k a0 a1 a2 a3 a4 true))) else (spec_BestSize.j0 k a0 a1 a2 a3 a4 true))) else (spec_BestSize.j0 k a0 a1 a2 a3 a4 true))) else (spec_BestSize.j0 k a0 a1 a2 a3 a4 true)) = some (r1, r2) := H
    have A7 := Aside0.mk A70
    clear A70
    by_cases c8 : t101 = true
    · subst c8
      have H1 : ((spec_l00In.f a1 0 100).bind fun t102 => (if t102 = true then ((spec_l00In.f a2 0 12).bind fun t103 => (if t103 = true then ((spec_l00In.f a3 4 96).bind fun t104 => (if t104 = true then ((spec_l00In.f a4 0 1000000000).bind fun t105 => (spec_BestSize.j0 k a0 a1 a2 a3 a4 (!t105))) else (spec_BestSize.j0 k a0 a1 a2 a3 a4 true))) else (spec_BestSize.j0 k a0 a1 a2 a3 a4 true))) else (spec_BestSize.j0 k a0 a1 a2 a3 a4 true))) = some (r1, r2) := by rw [if_pos rfl] at H; exact H
      clear H
      have H := H1
      clear H1
      replace H := Option.bind_eq_some_iff.mp H
      obtain ⟨t102, A90, H⟩ := H
      replace H : (if t102 = true then ((spec_l00In.f a2 0 12).bind fun t103 => (if t103 = true then ((spec_l00In.f a3 4 96).bind fun t104 => (if t104 = true then ((spec_l00In.f a4 0 1000000000).bind fun t105 => (spec_BestSize.j0 k a0 a1 a2 a3 a4 (!t105))) else (spec_BestSize.j0 k a0 a1 a2 a3 a4 true))) else (spec_BestSize.j0 k a0 a1 a2 a3 a4 true))) else (spec_BestSize.j0 k a0 a1 a2 a3 a4 true)) = some (r1, r2) := H
      have A9 := Aside0.mk A90
      clear A90
      by_cases c10 : t102 = true
      · subst c10
        have H1 : ((spec_l00In.f a2 0 12).bind fun t103 => (if t103 = true then ((spec_l00In.f a3 4 96).bind fun t104 => (if t104 = true then ((spec_l00In.f a4 0 1000000000).bind fun t105 => (spec_BestSize.j0 k a0 a1 a2 a3 a4 (!t105))) else (spec_BestSize.j0 k a0 a1 a2 a3 a4 true))) else (spec_BestSize.j0 k a0 a1 a2 a3 a4 true))) = some (r1, r2) := by rw [if_pos rfl] at H; exact H
        clear H
        have H := H1
        clear H1
        replace H := Option.bind_eq_some_iff.mp H
        obtain ⟨t103, A110, H⟩ := H
        replace H : (if t103 = true then ((spec_l00In.f a3 4 96).bind fun t104 => (if t104 = true then ((spec_l00In.f a4 0 1000000000).bind fun t105 => (spec_BestSize.j0 k a0 a1 a2 a3 a4 (!t105))) else (spec_BestSize.j0 k a0 a1 a2 a3 a4 true))) else (spec_BestSize.j0 k a0 a1 a2 a3 a4 true)) = some (r1, r2) := H
        have A11 := Aside0.mk A110
        clear A110
        by_cases c12 : t103 = true
        · subst c12
          have H1 : ((spec_l00In.f a3 4 96).bind fun t104 => (if t104 = true then ((spec_l00In.f a4 0 1000000000).bind fun t105 => (spec_BestSize.j0 k a0 a1 a2 a3 a4 (!t105))) else (spec_BestSize.j0 k a0 a1 a2 a3 a4 true))) = some (r1, r2) := by rw [if_pos rfl] at H; exact H
          clear H
          have H := H1
          clear H1
          replace H := Option.bind_eq_some_iff.mp H
          obtain ⟨t104, A130, H⟩ := H
          replace H : (if t104 = true then ((spec_l00In.f a4 0 1000000000).bind fun t105 => (spec_BestSize.j0 k a0 a1 a2 a3 a4 (!t105))) else (spec_BestSize.j0 k a0 a1 a2 a3 a4 true)) = some (r1, r2) := H
          have A13 := Aside0.mk A130
          clear A130
          by_cases c14 : t104 = true
          · subst c14
            have H1 : ((spec_l00In.f a4 0 1000000000).bind fun t105 => (spec_BestSize.j0 k a0 a1 a2 a3 a4 (!t105))) = some (r1, r2) := by rw [if_pos rfl] at H; exact H
            clear H
            have H := H1
            clear H1
            replace H := Option.bind_eq_some_iff.mp H
            obtain ⟨t105, A150, H⟩ := H
            replace H : (spec_BestSize.j0 k a0 a1 a2 a3 a4 (!t105)) = some (r1, r2) := H
            have A15 := Aside0.mk A150
            clear A150
            have H' := Aside0.mk H
            clear H
            go_wp2_with (first | ((with_reducible refine gate_callee (f := 51) rfl ?_); refine goesL_ (some 14) rfl rfl Try.func51 (by kernel_rfl) rfl #[.int .i64 a0, .int .i64 1, .int .i64 8] rfl (by (try simp only [List.map_toArray, List.map_cons, List.map_nil]); first | done | rfl | (simp only [List.length_drop, List.length_take]; rfl)) ?_; (with_reducible refine (spec_l00In.calls a0 1 8 true _ A7.out).mono ?_); rintro e w' ⟨rfl, ⟨nd, rfl⟩⟩; refine ⟨_, rfl, ?_⟩) | (go_at_call 51; (with_reducible refine (spec_l00In.calls a1 0 100 true _ A9.out).mono ?_); rintro e w' ⟨rfl, ⟨nd, rfl⟩⟩) | (go_at_call 51; (with_reducible refine (spec_l00In.calls a2 0 12 true _ A11.out).mono ?_); rintro e w' ⟨rfl, ⟨nd, rfl⟩⟩) | (go_at_call 51; (with_reducible refine (spec_l00In.calls a3 4 96 true _ A13.out).mono ?_); rintro e w' ⟨rfl, ⟨nd, rfl⟩⟩) | (go_at_call 51; (with_reducible refine (spec_l00In.calls a4 0 1000000000 t105 _ A15.out).mono ?_); rintro e w' ⟨rfl, ⟨nd, rfl⟩⟩))
            go_meet
            case rel => exact ⟨_, (!t105), (by first | rfl | (simp; done) | (simp [*]; done)), H', ⟨by first | omega | exact Nat.le_refl _⟩, by repeat (first | exact Drawn0.refl _ | apply Drawn0.step)⟩
          · replace c14 := Bool.eq_false_iff.mpr c14
            subst c14
            have H1 : (spec_BestSize.j0 k a0 a1 a2 a3 a4 true) = some (r1, r2) := by rw [if_neg (show ¬ (false = true) by decide)] at H; exact H
            clear H
            have H := H1
            clear H1
            have H' := Aside0.mk H
            clear H
            go_wp2_with (first | ((with_reducible refine gate_callee (f := 51) rfl ?_); refine goesL_ (some 14) rfl rfl Try.func51 (by kernel_rfl) rfl #[.int .i64 a0, .int .i64 1, .int .i64 8] rfl (by (try simp only [List.map_toArray, List.map_cons, List.map_nil]); first | done | rfl | (simp only [List.length_drop, List.length_take]; rfl)) ?_; (with_reducible refine (spec_l00In.calls a0 1 8 true _ A7.out).mono ?_); rintro e w' ⟨rfl, ⟨nd, rfl⟩⟩; refine ⟨_, rfl, ?_⟩) | (go_at_call 51; (with_reducible refine (spec_l00In.calls a1 0 100 true _ A9.out).mono ?_); rintro e w' ⟨rfl, ⟨nd, rfl⟩⟩) | (go_at_call 51; (with_reducible refine (spec_l00In.calls a2 0 12 true _ A11.out).mono ?_); rintro e w' ⟨rfl, ⟨nd, rfl⟩⟩) | (go_at_call 51; (with_reducible refine (spec_l00In.calls a3 4 96 false _ A13.out).mono ?_); rintro e w' ⟨rfl, ⟨nd, rfl⟩⟩))
            go_meet
            case rel => exact ⟨_, (true), (by first | rfl | (simp; done) | (simp [*]; done)), H', ⟨by first | omega | exact Nat.le_refl _⟩, by repeat (first | exact Drawn0.refl _ | apply Drawn0.step)⟩
        · replace c12 := Bool.eq_false_iff.mpr c12
          subst c12
          have H1 : (spec_BestSize.j0 k a0 a1 a2 a3 a4 true) = some (r1, r2) := by rw [if_neg (show ¬ (false = true) by decide)] at H; exact H
          clear H
          have H := H1
          clear H1
          have H' := Aside0.mk H
          clear H
          go_wp2_with (first | ((with_reducible refine gate_callee (f := 51) rfl ?_); refine goesL_ (some 14) rfl rfl Try.func51 (by kernel_rfl) rfl #[.int .i64 a0, .int .i64 1, .int .i64 8] rfl (by (try simp only [List.map_toArray, List.map_cons, List.map_nil]); first | done | rfl | (simp only [List.length_drop, List.length_take]; rfl)) ?_; (with_reducible refine (spec_l00In.calls a0 1 8 true _ A7.out).mono ?_); rintro e w' ⟨rfl, ⟨nd, rfl⟩⟩; refine ⟨_, rfl, ?_⟩) | (go_at_call 51; (with_reducible refine (spec_l00In.calls a1 0 100 true _ A9.out).mono ?_); rintro e w' ⟨rfl, ⟨nd, rfl⟩⟩) | (go_at_call 51; (with_reducible refine (spec_l00In.calls a2 0 12 false _ A11.out).mono ?_); rintro e w' ⟨rfl, ⟨nd, rfl⟩⟩))
          go_meet
          case rel => exact ⟨_, (true), (by first | rfl | (simp; done) | (simp [*]; done)), H', ⟨by first | omega | exact Nat.le_refl _⟩, by repeat (first | exact Drawn0.refl _ | apply Drawn0.step)⟩
      · replace c10 := Bool.eq_false_iff.mpr c10
        subst c10
        have H1 : (spec_BestSize.j0 k a0 a1 a2 a3 a4 true) = some (r1, r2) := by rw [if_neg (show ¬ (false = true) by decide)] at H; exact H
        clear H
        have H := H1
        clear H1
        have H' := Aside0.mk H
        clear H
        go_wp2_with (first | ((with_reducible refine gate_callee (f := 51) rfl ?_); refine goesL_ (some 14) rfl rfl Try.func51 (by kernel_rfl) rfl #[.int .i64 a0, .int .i64 1, .int .i64 8] rfl (by (try simp only [List.map_toArray, List.map_cons, List.map_nil]); first | done | rfl | (simp only [List.length_drop, List.length_take]; rfl)) ?_; (with_reducible refine (spec_l00In.calls a0 1 8 true _ A7.out).mono ?_); rintro e w' ⟨rfl, ⟨nd, rfl⟩⟩; refine ⟨_, rfl, ?_⟩) | (go_at_call 51; (with_reducible refine (spec_l00In.calls a1 0 100 false _ A9.out).mono ?_); rintro e w' ⟨rfl, ⟨nd, rfl⟩⟩))
        go_meet
        case rel => exact ⟨_, (true), (by first | rfl | (simp; done) | (simp [*]; done)), H', ⟨by first | omega | exact Nat.le_refl _⟩, by repeat (first | exact Drawn0.refl _ | apply Drawn0.step)⟩
    · replace c8 := Bool.eq_false_iff.mpr c8
      subst c8
      have H1 : (spec_BestSize.j0 k a0 a1 a2 a3 a4 true) = some (r1, r2) := by rw [if_neg (show ¬ (false = true) by decide)] at H; exact H
      clear H
      have H := H1
      clear H1
      have H' := Aside0.mk H
      clear H
      go_wp2_with (first | ((with_reducible refine gate_callee (f := 51) rfl ?_); refine goesL_ (some 14) rfl rfl Try.func51 (by kernel_rfl) rfl #[.int .i64 a0, .int .i64 1, .int .i64 8] rfl (by (try simp only [List.map_toArray, List.map_cons, List.map_nil]); first | done | rfl | (simp only [List.length_drop, List.length_take]; rfl)) ?_; (with_reducible refine (spec_l00In.calls a0 1 8 false _ A7.out).mono ?_); rintro e w' ⟨rfl, ⟨nd, rfl⟩⟩; refine ⟨_, rfl, ?_⟩))
      go_meet
      case rel => exact ⟨_, (true), (by first | rfl | (simp; done) | (simp [*]; done)), H', ⟨by first | omega | exact Nat.le_refl _⟩, by repeat (first | exact Drawn0.refl _ | apply Drawn0.step)⟩
  case rest =>
    clear HC6
    try clear c1
    try clear p2
    try clear c5
    try clear c8
    try clear c10
    try clear c12
    try clear c14
    obtain ⟨kq, x35_5, rfl, HA, HJ5, ⟨mc5, rfl⟩⟩ := hcut
    cases kq with
    | zero => exact absurd HA.out (by simp [spec_BestSize.j0])
    | succ kj5 =>
      have H := HA.out
      clear HA
      simp only [spec_BestSize.j0] at H
      by_cases c16 : x35_5 = true
      · subst c16
        have H1 : (some (0, 2)) = some (r1, r2) := by rw [if_pos rfl] at H; exact H
        clear H
        have H := H1
        clear H1
        simp only [Option.some.injEq, Prod.mk.injEq] at H
        obtain ⟨rfl, rfl⟩ := H
        go_wp2
        go_ret2
        exact ⟨by first | rfl | (simp; done) | (simp [*]; done), by repeat (first | exact Drawn0.refl _ | apply Drawn0.step)⟩
      · replace c16 := Bool.eq_false_iff.mpr c16
        subst c16
        have H1 : ((spec_l00Max.f 4 (wrap64 (2 * a0))).bind fun t106 => (spec_BestSize.l0 kj5 a0 a1 a2 a3 a4 t106)) = some (r1, r2) := by rw [if_neg (show ¬ (false = true) by decide)] at H; exact H
        clear H
        have H := H1
        clear H1
        replace H := Option.bind_eq_some_iff.mp H
        obtain ⟨t106, A170, H⟩ := H
        replace H : (spec_BestSize.l0 kj5 a0 a1 a2 a3 a4 t106) = some (r1, r2) := H
        have A17 := Aside0.mk A170
        clear A170
        have H' := Aside0.mk H
        clear H
        go_wp2_with (first | ((with_reducible refine gate_callee (f := 54) rfl ?_); refine goesL_ (some 38) rfl rfl Try.func54 (by kernel_rfl) rfl #[.int .i64 4, .int .i64 (wrap64 (2 * a0))] rfl (by (try simp only [List.map_toArray, List.map_cons, List.map_nil]); first | done | rfl | (simp only [List.length_drop, List.length_take]; rfl)) ?_; (with_reducible refine (spec_l00Max.calls 4 (wrap64 (2 * a0)) t106 _ A17.out).mono ?_); rintro e w' ⟨rfl, ⟨nd, rfl⟩⟩; refine ⟨_, rfl, ?_⟩))
        go_loopg [12] kj5 (fun kq v12 w' => ∃ (x12_2 : Int), v12 = .int .i64 x12_2 ∧ Aside0 (spec_BestSize.l0 kq a0 a1 a2 a3 a4 x12_2 = some (r1, r2)) ∧ Aside0 (kq ≤ kj5) ∧ Drawn0 w w')
        case atStart => exact ⟨(t106), (by first | rfl | (simp; done) | (simp [*]; done)), H', ⟨Nat.le_refl _⟩, by repeat (first | exact Drawn0.refl _ | apply Drawn0.step)⟩
        case round =>
          clear H'
          try clear c1
          try clear p2
          try clear c5
          try clear p6
          try clear c8
          try clear c10
          try clear c12
          try clear c14
          try clear c16
          try clear c17
          try clear p2
          obtain ⟨x12_2, rfl, HA, HK2, ⟨m2, rfl⟩⟩ := hrel
          cases gk with
          | zero => exact absurd HA.out (by simp [spec_BestSize.l0])
          | succ k2 =>
            have H := HA.out
            clear HA
            simp only [spec_BestSize.l0] at H
            by_cases c18 : x12_2 ≤ a3
            · rw [if_pos c18] at H
              have c18b0 : decide (x12_2 ≤ a3) = true := decide_eq_true c18
              clear c18
              replace H := Option.bind_eq_some_iff.mp H
              obtain ⟨t107, A190, H⟩ := H
              replace H : (if t107 ≤ a4 then (some (x12_2, 0)) else (spec_BestSize.l0 k2 a0 a1 a2 a3 a4 (wrap64 (x12_2 + 1)))) = some (r1, r2) := H
              have A19 := Aside0.mk A190
              clear A190
              by_cases c20 : t107 ≤ a4
              · rw [if_pos c20] at H
                have c20b0 : decide (t107 ≤ a4) = true := decide_eq_true c20
                clear c20
                simp only [Option.some.injEq, Prod.mk.injEq] at H
                obtain ⟨rfl, rfl⟩ := H
                go_wp2_with (first | ((with_reducible refine gate_callee (f := 55) rfl ?_); refine goesL_ (some 48) rfl rfl Try.func55 (by kernel_rfl) rfl #[.int .i64 x12_2, .int .i64 a0, .int .i64 a1, .int .i64 a2] rfl (by (try simp only [List.map_toArray, List.map_cons, List.map_nil]); first | done | rfl | (simp only [List.length_drop, List.length_take]; rfl)) ?_; (with_reducible refine (spec_l06Chance.calls k2 x12_2 a0 a1 a2 t107 _ A19.out).mono ?_); rintro e w' ⟨rfl, ⟨nd, rfl⟩⟩; refine ⟨_, rfl, ?_⟩))
                go_ret2
                exact ⟨by first | rfl | (simp; done) | (simp [*]; done), by repeat (first | exact Drawn0.refl _ | apply Drawn0.step)⟩
              · rw [if_neg c20] at H
                have c20b0 : decide (t107 ≤ a4) = false := decide_eq_false c20
                clear c20
                have H' := Aside0.mk H
                clear H
                go_wp2_with (first | ((with_reducible refine gate_callee (f := 55) rfl ?_); refine goesL_ (some 48) rfl rfl Try.func55 (by kernel_rfl) rfl #[.int .i64 x12_2, .int .i64 a0, .int .i64 a1, .int .i64 a2] rfl (by (try simp only [List.map_toArray, List.map_cons, List.map_nil]); first | done | rfl | (simp only [List.length_drop, List.length_take]; rfl)) ?_; (with_reducible refine (spec_l06Chance.calls k2 x12_2 a0 a1 a2 t107 _ A19.out).mono ?_); rintro e w' ⟨rfl, ⟨nd, rfl⟩⟩; refine ⟨_, rfl, ?_⟩))
                go_roundg k2
                case measure => have := HJ5.out; have := HK2.out; omega
                case rel => exact ⟨(wrap64 (x12_2 + 1)), (by first | rfl | (simp; done) | (simp [*]; done)), H', ⟨by have := HJ5.out; have := HK2.out; omega⟩, by repeat (first | exact Drawn0.refl _ | apply Drawn0.step)⟩
            · rw [if_neg c18] at H
              have c18b0 : decide (x12_2 ≤ a3) = false := decide_eq_false c18
              clear c18
              simp only [Option.some.injEq, Prod.mk.injEq] at H
              obtain ⟨rfl, rfl⟩ := H
              go_wp2
              go_ret2
              exact ⟨by first | rfl | (simp; done) | (simp [*]; done), by repeat (first | exact Drawn0.refl _ | apply Drawn0.step)⟩

/-! ### impl_falseChance: function 56 -/
mutual
def impl_falseChance.l0 : Nat → Int → Int → Int → Int → Int → Int → Option (Int)
  | 0, _, _, _, _, _, _ => none
  | k + 1, x0, x1, x3, x9, x11, x12 => if x12 < x11 then (if x0 = 0 then (none) else (impl_falseChance.l0 k x0 x1 x3 (wrap64 (Int.tdiv (wrap64 (x9 * (wrap64 (x0 - x1)))) x0)) x11 (wrap64 (x12 + 1)))) else (impl_falseChance.l1 k x9 1000000000 (wrap64 (x1 * x3)) 0)
def impl_falseChance.l1 : Nat → Int → Int → Int → Int → Option (Int)
  | 0, _, _, _, _ => none
  | k + 1, x9, x10, x24, x25 => if x25 < x24 then (impl_falseChance.l1 k x9 (wrap64 (Int.tdiv (wrap64 (x10 * (wrap64 (1000000000 - x9)))) 1000000000)) x24 (wrap64 (x25 + 1))) else (some x10)
end
def impl_falseChance.f (k : Nat) (a0 : Int) (a1 : Int) (a2 : Int) (a3 : Int) : Option (Int) := impl_falseChance.l0 k a0 a1 a3 1000000000 a2 0
theorem impl_falseChance.mono_l : ∀ k, (∀ y0 y1 y2 y3 y4 y5, LeO (impl_falseChance.l0 k y0 y1 y2 y3 y4 y5) (impl_falseChance.l0 (k + 1) y0 y1 y2 y3 y4 y5)) ∧ (∀ y0 y1 y2 y3, LeO (impl_falseChance.l1 k y0 y1 y2 y3) (impl_falseChance.l1 (k + 1) y0 y1 y2 y3))
  | 0 => ⟨fun _ _ _ _ _ _ r h => by simp [impl_falseChance.l0] at h, fun _ _ _ _ r h => by simp [impl_falseChance.l1] at h⟩
  | k + 1 => by
    obtain ⟨ih0, ih1⟩ := impl_falseChance.mono_l k
    refine ⟨?_, ?_⟩
    · intro y0 y1 y2 y3 y4 y5
      unfold impl_falseChance.l0
      repeat' first
      | (with_reducible exact ih0 _ _ _ _ _ _)
      | (with_reducible exact ih1 _ _ _ _)
      | (with_reducible exact LeO.refl _)
      | (with_reducible exact LeO.none _)
      | (with_reducible refine LeO.ite ?_ ?_)
      | (with_reducible refine LeO.bind ?_ (fun _ => ?_))
      | exact ih0 _ _ _ _ _ _
      | exact ih1 _ _ _ _
      | exact LeO.none _
      | refine LeO.ite ?_ ?_
      | refine LeO.bind ?_ (fun _ => ?_)
    · intro y0 y1 y2 y3
      unfold impl_falseChance.l1
      repeat' first
      | (with_reducible exact ih0 _ _ _ _ _ _)
      | (with_reducible exact ih1 _ _ _ _)
      | (with_reducible exact LeO.refl _)
      | (with_reducible exact LeO.none _)
      | (with_reducible refine LeO.ite ?_ ?_)
      | (with_reducible refine LeO.bind ?_ (fun _ => ?_))
      | exact ih0 _ _ _ _ _ _
      | exact ih1 _ _ _ _
      | exact LeO.none _
      | refine LeO.ite ?_ ?_
      | refine LeO.bind ?_ (fun _ => ?_)
theorem impl_falseChance.mono : ∀ a0 a1 a2 a3 k, LeO (impl_falseChance.f k a0 a1 a2 a3) (impl_falseChance.f (k + 1) a0 a1 a2 a3) := by
  intro a0 a1 a2 a3 k
  obtain ⟨ih0, ih1⟩ := impl_falseChance.mono_l k
  unfold impl_falseChance.f
  repeat' first
      | (with_reducible exact ih0 _ _ _ _ _ _)
      | (with_reducible exact ih1 _ _ _ _)
      | (with_reducible exact LeO.refl _)
      | (with_reducible exact LeO.none _)
      | (with_reducible refine LeO.ite ?_ ?_)
      | (with_reducible refine LeO.bind ?_ (fun _ => ?_))
      | exact ih0 _ _ _ _ _ _
      | exact ih1 _ _ _ _
      | exact LeO.none _
      | refine LeO.ite ?_ ?_
      | refine LeO.bind ?_ (fun _ => ?_)
set_option maxHeartbeats 8000000 in
set_option maxRecDepth 100000 in
theorem impl_falseChance.calls (k : Nat) (a0 : Int) (a1 : Int) (a2 : Int) (a3 : Int) (r : Int) (w : World) (h : impl_falseChance.f k a0 a1 a2 a3 = some r) :
    Calls Try.prog 56 #[.int .i64 a0, .int .i64 a1, .int .i64 a2, .int .i64 a3] w fun e w' => e = .returned (.int .i64 r) ∧ Drawn0 w w' := by
  have H : (impl_falseChance.l0 k a0 a1 a3 1000000000 a2 0) = some r := h
  clear h
  have H' := Aside0.mk H
  clear H
  go_enter Try.func56, Try.ntmps56
  go_wp2
  go_loopg [9, 12] k (fun kq v9 v12 w' => ∃ (x9_1 : Int) (x12_1 : Int), v9 = .int .i64 x9_1 ∧ v12 = .int .i64 x12_1 ∧ Aside0 (impl_falseChance.l0 kq a0 a1 a3 x9_1 a2 x12_1 = some r) ∧ Aside0 (kq ≤ k) ∧ Drawn0 w w')
  case atStart => exact ⟨(1000000000), (0), (by first | rfl | (simp; done) | (simp [*]; done)), (by first | rfl | (simp; done) | (simp [*]; done)), H', ⟨Nat.le_refl _⟩, by repeat (first | exact Drawn0.refl _ | apply Drawn0.step)⟩
  case round =>
    clear H'
    try clear p2
    obtain ⟨x9_1, x12_1, rfl, rfl, HA, HK1, ⟨m1, rfl⟩⟩ := hrel
    cases gk with
    | zero => exact absurd HA.out (by simp [impl_falseChance.l0])
    | succ k1 =>
      have H := HA.out
      clear HA
      simp only [impl_falseChance.l0] at H
      by_cases c5 : x12_1 < a2
      · rw [if_pos c5] at H
        have c5b0 : decide (x12_1 < a2) = true := decide_eq_true c5
        clear c5
        by_cases c6 : a0 = 0
        · rw [if_pos c6] at H
          exact absurd H (by simp)
        · rw [if_neg c6] at H
          have c6b0 : (a0 == 0) = false := beq_eq_false_iff_ne.mpr c6
          have c6b1 : (a0 != 0) = true := bne_iff_ne.mpr c6
          have H' := Aside0.mk H
          clear H
          go_wp2
          go_roundg k1
          case measure => have := HK1.out; omega
          case rel => exact ⟨(wrap64 (Int.tdiv (wrap64 (x9_1 * (wrap64 (a0 - a1)))) a0)), (wrap64 (x12_1 + 1)), (by first | rfl | (simp; done) | (simp [*]; done)), (by first | rfl | (simp; done) | (simp [*]; done)), H', ⟨by have := HK1.out; omega⟩, by repeat (first | exact Drawn0.refl _ | apply Drawn0.step)⟩
      · rw [if_neg c5] at H
        have c5b0 : decide (x12_1 < a2) = false := decide_eq_false c5
        clear c5
        have H' := Aside0.mk H
        clear H
        go_wp2
        go_loopg [10, 25] k1 (fun kq v10 v25 w' => ∃ (x10_2 : Int) (x25_2 : Int), v10 = .int .i64 x10_2 ∧ v25 = .int .i64 x25_2 ∧ Aside0 (impl_falseChance.l1 kq x9_1 x10_2 (wrap64 (a1 * a3)) x25_2 = some r) ∧ Aside0 (kq ≤ k1) ∧ Drawn0 w w')
        case atStart => exact ⟨(1000000000), (0), (by first | rfl | (simp; done) | (simp [*]; done)), (by first | rfl | (simp; done) | (simp [*]; done)), H', ⟨Nat.le_refl _⟩, by repeat (first | exact Drawn0.refl _ | apply Drawn0.step)⟩
        case round =>
          clear H'
          try clear p2
          try clear c5
          try clear c5b0
          try clear c6
          try clear c6b0
          try clear c6b1
          try clear p6
          try clear p2
          obtain ⟨x10_2, x25_2, rfl, rfl, HA, HK2, ⟨m2, rfl⟩⟩ := hrel
          cases gk with
          | zero => exact absurd HA.out (by simp [impl_falseChance.l1])
          | succ k2 =>
            have H := HA.out
            clear HA
            simp only [impl_falseChance.l1] at H
            by_cases c7 : x25_2 < (wrap64 (a1 * a3))
            · rw [if_pos c7] at H
              have c7b0 : decide (x25_2 < (wrap64 (a1 * a3))) = true := decide_eq_true c7
              clear c7
              have H' := Aside0.mk H
              clear H
              go_wp2
              go_roundg k2
              case measure => have := HK1.out; have := HK2.out; omega
              case rel => exact ⟨(wrap64 (Int.tdiv (wrap64 (x10_2 * (wrap64 (1000000000 - x9_1)))) 1000000000)), (wrap64 (x25_2 + 1)), (by first | rfl | (simp; done) | (simp [*]; done)), (by first | rfl | (simp; done) | (simp [*]; done)), H', ⟨by have := HK1.out; have := HK2.out; omega⟩, by repeat (first | exact Drawn0.refl _ | apply Drawn0.step)⟩
            · rw [if_neg c7] at H
              have c7b0 : decide (x25_2 < (wrap64 (a1 * a3))) = false := decide_eq_false c7
              clear c7
              obtain rfl := Option.some.inj H
              go_wp2
              go_ret
              exact ⟨by first | rfl | (simp; done) | (simp [*]; done), by repeat (first | exact Drawn0.refl _ | apply Drawn0.step)⟩

end Go.Proofs.Ytdjbdaidnlbhhaa.PFnExactBestSize
