-- written by a program of this session (wip/tools): the functions that the laws reach, as plain Lean, and their walks
import Derived.Test.YtgkjoodlcojkkaaDoorQD0
namespace Go.Proofs.YtgkjoodlcojkkaaDoor.QD
open Go.RowKit Go.Proofs.YtgkjoodlcojkkaaDoorW.PrintWords Go.Proofs.YtgkjoodlcojkkaaDoorW.PrintLast Go.Proofs.YtgkjoodlcojkkaaDoorW.PrintMore
attribute [local go_sem] max2_int min2_int max_two min_two max_three min_three max_four min_four   -- for this text's walks alone
set_option linter.unusedVariables false
set_option linter.unusedSimpArgs false

/-! ### swingbridgeref7_Name: function 18 -/
def swingbridgeref7_Name.l0 : Nat → ByteArray → Int → Option (Bool)
  | 0, _, _ => none
  | k + 1, x0, x3 => if x3 < (x0.size : Int) then (if 0 ≤ x3 then (if (bt x0 x3) < 97 then (if (bt x0 x3) < 48 then (some false) else (if (bt x0 x3) > 57 then (some false) else (if x3 = 0 then (some false) else (swingbridgeref7_Name.l0 k x0 (wrap64 (x3 + 1)))))) else (if (bt x0 x3) > 122 then (if (bt x0 x3) < 48 then (some false) else (if (bt x0 x3) > 57 then (some false) else (if x3 = 0 then (some false) else (swingbridgeref7_Name.l0 k x0 (wrap64 (x3 + 1)))))) else (swingbridgeref7_Name.l0 k x0 (wrap64 (x3 + 1))))) else (none)) else (if (x0.size : Int) ≥ 1 then (some (decide ((x0.size : Int) ≤ 8))) else (some false))
def swingbridgeref7_Name.f (k : Nat) (a0 : ByteArray) : Option (Bool) := swingbridgeref7_Name.l0 k a0 0
theorem swingbridgeref7_Name.mono_l : ∀ k, (∀ y0 y1, LeO (swingbridgeref7_Name.l0 k y0 y1) (swingbridgeref7_Name.l0 (k + 1) y0 y1))
  | 0 => fun _ _ r h => by simp [swingbridgeref7_Name.l0] at h
  | k + 1 => by
    have ih0 := swingbridgeref7_Name.mono_l k
    · intro y0 y1
      unfold swingbridgeref7_Name.l0
      repeat' first
      | (with_reducible exact ih0 _ _)
      | (with_reducible exact LeO.refl _)
      | (with_reducible exact LeO.none _)
      | (with_reducible refine LeO.ite ?_ ?_)
      | (with_reducible refine LeO.bind ?_ (fun _ => ?_))
      | exact ih0 _ _
      | exact LeO.none _
      | refine LeO.ite ?_ ?_
      | refine LeO.bind ?_ (fun _ => ?_)
theorem swingbridgeref7_Name.mono : ∀ a0 k, LeO (swingbridgeref7_Name.f k a0) (swingbridgeref7_Name.f (k + 1) a0) := by
  intro a0 k
  have ih0 := swingbridgeref7_Name.mono_l k
  unfold swingbridgeref7_Name.f
  repeat' first
      | (with_reducible exact ih0 _ _)
      | (with_reducible exact LeO.refl _)
      | (with_reducible exact LeO.none _)
      | (with_reducible refine LeO.ite ?_ ?_)
      | (with_reducible refine LeO.bind ?_ (fun _ => ?_))
      | exact ih0 _ _
      | exact LeO.none _
      | refine LeO.ite ?_ ?_
      | refine LeO.bind ?_ (fun _ => ?_)
set_option maxHeartbeats 8000000 in
set_option maxRecDepth 100000 in
theorem swingbridgeref7_Name.calls (k : Nat) (a0 : ByteArray) (r : Bool) (w : World) (h : swingbridgeref7_Name.f k a0 = some r) :
    Calls Tryd.prog 18 #[.string a0] w fun e w' => e = .returned (.bool r) ∧ Drawn0 w w' := by
  have H : (swingbridgeref7_Name.l0 k a0 0) = some r := h
  clear h
  have H' := Aside0.mk H
  clear H
  go_enter Tryd.func18, Tryd.ntmps18
  go_wp2
  go_loopg [3] k (fun kq v3 w' => ∃ (x3_1 : Int), v3 = .int .i64 x3_1 ∧ Aside0 (swingbridgeref7_Name.l0 kq a0 x3_1 = some r) ∧ Aside0 (kq ≤ k) ∧ Drawn0 w w')
  case atStart => exact ⟨(0), (by first | rfl | (simp; done) | (simp [*]; done)), H', ⟨Nat.le_refl _⟩, by repeat (first | exact Drawn0.refl _ | apply Drawn0.step)⟩
  clear H'
  (try clear c1)
  obtain ⟨x3_1, rfl, HA, HK1, ⟨m1, rfl⟩⟩ := hrel
  cases gk with
  | zero => exact absurd HA.out (by simp [swingbridgeref7_Name.l0])
  | succ k1 => ?_
  have H := HA.out
  clear HA
  simp only [swingbridgeref7_Name.l0] at H
  by_cases c2 : x3_1 < (a0.size : Int)
  rotate_left
  · rw [if_neg c2] at H
    have c2b0 : decide (x3_1 < (a0.size : Int)) = false := decide_eq_false c2
    clear c2
    by_cases c3 : (a0.size : Int) ≥ 1
    rotate_left
    · rw [if_neg c3] at H
      have c3b0 : decide (1 ≤ (a0.size : Int)) = false := decide_eq_false c3
      have c3b1 : decide (1 ≤ a0.size) = false := decide_eq_false (by omega)
      clear c3
      obtain rfl := Option.some.inj H
      go_wp2
      go_ret
      exact ⟨by first | rfl | (simp; done) | (simp [*]; done), by repeat (first | exact Drawn0.refl _ | apply Drawn0.step)⟩
    rw [if_pos c3] at H
    have c3b0 : decide (1 ≤ (a0.size : Int)) = true := decide_eq_true c3
    have c3b1 : decide (1 ≤ a0.size) = true := decide_eq_true (by omega)
    clear c3
    obtain rfl := Option.some.inj H
    go_wp2
    go_ret
    exact ⟨by first | rfl | (simp; done) | (simp [*]; done), by repeat (first | exact Drawn0.refl _ | apply Drawn0.step)⟩
  rw [if_pos c2] at H
  have c2b0 : decide (x3_1 < (a0.size : Int)) = true := decide_eq_true c2
  clear c2
  by_cases c4 : 0 ≤ x3_1
  rotate_left
  · rw [if_neg c4] at H
    exact absurd H (by simp)
  rw [if_pos c4] at H
  have c4b0 : decide (0 ≤ x3_1) = true := decide_eq_true c4
  clear c4
  by_cases c6 : (bt a0 x3_1) < 97
  · rw [if_pos c6] at H
    have c6b0 : decide ((bt a0 x3_1) < 97) = true := decide_eq_true c6
    clear c6
    by_cases c7 : (bt a0 x3_1) < 48
    · rw [if_pos c7] at H
      have c7b0 : decide ((bt a0 x3_1) < 48) = true := decide_eq_true c7
      clear c7
      obtain rfl := Option.some.inj H
      have p5 : 0 ≤ (x3_1 : Int) := of_decide_eq_true (by first | (with_reducible assumption) | assumption)
      have q5 : x3_1 < (a0.size : Int) := of_decide_eq_true (by first | (with_reducible assumption) | assumption)
      have hx5 := bt_at a0 x3_1
      replace p5 := eq_true p5
      replace q5 := eq_true q5
      go_wp2
      go_ret
      exact ⟨by first | rfl | (simp; done) | (simp [*]; done), by repeat (first | exact Drawn0.refl _ | apply Drawn0.step)⟩
    rw [if_neg c7] at H
    have c7b0 : decide ((bt a0 x3_1) < 48) = false := decide_eq_false c7
    clear c7
    by_cases c8 : (bt a0 x3_1) > 57
    · rw [if_pos c8] at H
      have c8b0 : decide (57 < (bt a0 x3_1)) = true := decide_eq_true c8
      clear c8
      obtain rfl := Option.some.inj H
      have p5 : 0 ≤ (x3_1 : Int) := of_decide_eq_true (by first | (with_reducible assumption) | assumption)
      have q5 : x3_1 < (a0.size : Int) := of_decide_eq_true (by first | (with_reducible assumption) | assumption)
      have hx5 := bt_at a0 x3_1
      replace p5 := eq_true p5
      replace q5 := eq_true q5
      go_wp2
      go_ret
      exact ⟨by first | rfl | (simp; done) | (simp [*]; done), by repeat (first | exact Drawn0.refl _ | apply Drawn0.step)⟩
    rw [if_neg c8] at H
    have c8b0 : decide (57 < (bt a0 x3_1)) = false := decide_eq_false c8
    clear c8
    by_cases c9 : x3_1 = 0
    rotate_left
    · rw [if_neg c9] at H
      have c9b0 : (x3_1 == 0) = false := beq_eq_false_iff_ne.mpr c9
      have c9b1 : (x3_1 != 0) = true := bne_iff_ne.mpr c9
      have H' := Aside0.mk H
      clear H
      have p5 : 0 ≤ (x3_1 : Int) := of_decide_eq_true (by first | (with_reducible assumption) | assumption)
      have q5 : x3_1 < (a0.size : Int) := of_decide_eq_true (by first | (with_reducible assumption) | assumption)
      have hx5 := bt_at a0 x3_1
      replace p5 := eq_true p5
      replace q5 := eq_true q5
      go_wp2
      go_roundg k1
      case measure => have := HK1.out; omega
      case rel => exact ⟨(wrap64 (x3_1 + 1)), (by first | rfl | (simp; done) | (simp [*]; done)), H', ⟨by have := HK1.out; omega⟩, by repeat (first | exact Drawn0.refl _ | apply Drawn0.step)⟩
    rw [if_pos c9] at H
    have c9b0 : (x3_1 == 0) = true := beq_iff_eq.mpr c9
    have c9b1 : (x3_1 != 0) = false := bne_eq_false_iff_eq.mpr c9
    clear c9
    obtain rfl := Option.some.inj H
    have p5 : 0 ≤ (x3_1 : Int) := of_decide_eq_true (by first | (with_reducible assumption) | assumption)
    have q5 : x3_1 < (a0.size : Int) := of_decide_eq_true (by first | (with_reducible assumption) | assumption)
    have hx5 := bt_at a0 x3_1
    replace p5 := eq_true p5
    replace q5 := eq_true q5
    go_wp2
    go_ret
    exact ⟨by first | rfl | (simp; done) | (simp [*]; done), by repeat (first | exact Drawn0.refl _ | apply Drawn0.step)⟩
  rw [if_neg c6] at H
  have c6b0 : decide ((bt a0 x3_1) < 97) = false := decide_eq_false c6
  clear c6
  by_cases c10 : (bt a0 x3_1) > 122
  rotate_left
  · rw [if_neg c10] at H
    have c10b0 : decide (122 < (bt a0 x3_1)) = false := decide_eq_false c10
    clear c10
    have H' := Aside0.mk H
    clear H
    have p5 : 0 ≤ (x3_1 : Int) := of_decide_eq_true (by first | (with_reducible assumption) | assumption)
    have q5 : x3_1 < (a0.size : Int) := of_decide_eq_true (by first | (with_reducible assumption) | assumption)
    have hx5 := bt_at a0 x3_1
    replace p5 := eq_true p5
    replace q5 := eq_true q5
    go_wp2
    go_roundg k1
    case measure => have := HK1.out; omega
    case rel => exact ⟨(wrap64 (x3_1 + 1)), (by first | rfl | (simp; done) | (simp [*]; done)), H', ⟨by have := HK1.out; omega⟩, by repeat (first | exact Drawn0.refl _ | apply Drawn0.step)⟩
  rw [if_pos c10] at H
  have c10b0 : decide (122 < (bt a0 x3_1)) = true := decide_eq_true c10
  clear c10
  by_cases c11 : (bt a0 x3_1) < 48
  · rw [if_pos c11] at H
    have c11b0 : decide ((bt a0 x3_1) < 48) = true := decide_eq_true c11
    clear c11
    obtain rfl := Option.some.inj H
    have p5 : 0 ≤ (x3_1 : Int) := of_decide_eq_true (by first | (with_reducible assumption) | assumption)
    have q5 : x3_1 < (a0.size : Int) := of_decide_eq_true (by first | (with_reducible assumption) | assumption)
    have hx5 := bt_at a0 x3_1
    replace p5 := eq_true p5
    replace q5 := eq_true q5
    go_wp2
    go_ret
    exact ⟨by first | rfl | (simp; done) | (simp [*]; done), by repeat (first | exact Drawn0.refl _ | apply Drawn0.step)⟩
  rw [if_neg c11] at H
  have c11b0 : decide ((bt a0 x3_1) < 48) = false := decide_eq_false c11
  clear c11
  by_cases c12 : (bt a0 x3_1) > 57
  · rw [if_pos c12] at H
    have c12b0 : decide (57 < (bt a0 x3_1)) = true := decide_eq_true c12
    clear c12
    obtain rfl := Option.some.inj H
    have p5 : 0 ≤ (x3_1 : Int) := of_decide_eq_true (by first | (with_reducible assumption) | assumption)
    have q5 : x3_1 < (a0.size : Int) := of_decide_eq_true (by first | (with_reducible assumption) | assumption)
    have hx5 := bt_at a0 x3_1
    replace p5 := eq_true p5
    replace q5 := eq_true q5
    go_wp2
    go_ret
    exact ⟨by first | rfl | (simp; done) | (simp [*]; done), by repeat (first | exact Drawn0.refl _ | apply Drawn0.step)⟩
  rw [if_neg c12] at H
  have c12b0 : decide (57 < (bt a0 x3_1)) = false := decide_eq_false c12
  clear c12
  by_cases c13 : x3_1 = 0
  rotate_left
  · rw [if_neg c13] at H
    have c13b0 : (x3_1 == 0) = false := beq_eq_false_iff_ne.mpr c13
    have c13b1 : (x3_1 != 0) = true := bne_iff_ne.mpr c13
    have H' := Aside0.mk H
    clear H
    have p5 : 0 ≤ (x3_1 : Int) := of_decide_eq_true (by first | (with_reducible assumption) | assumption)
    have q5 : x3_1 < (a0.size : Int) := of_decide_eq_true (by first | (with_reducible assumption) | assumption)
    have hx5 := bt_at a0 x3_1
    replace p5 := eq_true p5
    replace q5 := eq_true q5
    go_wp2
    go_roundg k1
    case measure => have := HK1.out; omega
    case rel => exact ⟨(wrap64 (x3_1 + 1)), (by first | rfl | (simp; done) | (simp [*]; done)), H', ⟨by have := HK1.out; omega⟩, by repeat (first | exact Drawn0.refl _ | apply Drawn0.step)⟩
  rw [if_pos c13] at H
  have c13b0 : (x3_1 == 0) = true := beq_iff_eq.mpr c13
  have c13b1 : (x3_1 != 0) = false := bne_eq_false_iff_eq.mpr c13
  clear c13
  obtain rfl := Option.some.inj H
  have p5 : 0 ≤ (x3_1 : Int) := of_decide_eq_true (by first | (with_reducible assumption) | assumption)
  have q5 : x3_1 < (a0.size : Int) := of_decide_eq_true (by first | (with_reducible assumption) | assumption)
  have hx5 := bt_at a0 x3_1
  replace p5 := eq_true p5
  replace q5 := eq_true q5
  go_wp2
  go_ret
  exact ⟨by first | rfl | (simp; done) | (simp [*]; done), by repeat (first | exact Drawn0.refl _ | apply Drawn0.step)⟩

end Go.Proofs.YtgkjoodlcojkkaaDoor.QD
