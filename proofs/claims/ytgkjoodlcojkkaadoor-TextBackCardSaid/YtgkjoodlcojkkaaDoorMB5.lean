import Derived.Test.YtgkjoodlcojkkaaDoorMB2
import Derived.Test.YtgkjoodlcojkkaaDoorMB4
section
namespace Go.Proofs.YtgkjoodlcojkkaaDoor.QD
open Go.RowKit Go.Proofs.YtgkjoodlcojkkaaDoorW.PrintWords Go.Proofs.YtgkjoodlcojkkaaDoorW.PrintLast Go.Proofs.YtgkjoodlcojkkaaDoorW.PrintMore
attribute [local go_sem] zbd_ zbe_ zbm_ zbl_ zaW_ zaX_ zbc_ zbb_
set_option linter.unusedVariables false
set_option linter.unusedSimpArgs false
attribute [local go_sem high] eqA50
def zbw_.f (k : Nat)  : Option (Bool) := (zao_.f k (⟨#[112, 114, 111, 116, 111, 99, 111, 108, 32, 102, 97, 105, 114, 10, 99, 111, 114, 101, 115, 32, 49, 10, 104, 111, 109, 101, 115, 32, 48, 10, 10, 116, 97, 115, 107, 32, 97, 32, 49, 48, 32, 49, 48, 32, 49, 32, 48, 32, 114, 117, 110, 58, 51, 32, 108, 111, 99, 107, 58, 48, 58, 50, 32, 35, 32, 115, 111, 10]⟩ : ByteArray)).bind fun a9 => ((zao_.f k (⟨#[112, 114, 111, 116, 111, 99, 111, 108, 32, 102, 97, 105, 114, 10, 99, 111, 114, 101, 115, 32, 49, 10, 104, 111, 109, 101, 115, 32, 48, 10, 116, 97, 115, 107, 32, 97, 32, 49, 48, 32, 49, 48, 32, 49, 32, 48, 32, 108, 111, 99, 107, 58, 48, 58, 108, 111, 99, 107, 58, 48, 58, 50, 10]⟩ : ByteArray)).bind fun g9 => ((zao_.f k (⟨#[99, 111, 114, 101, 115, 32, 49, 10]⟩ : ByteArray)).bind fun e6 => (if a9.2.2.2.2.2 = 0 then (if a9.2.2.2.2.1 = 5 then (if (a9.2.2.2.1.length : Int) = 1 then (if 0 < (a9.2.2.2.1.length : Int) then (if (((rd_T53 a9.2.2.2.1 0).f5).length : Int) = 2 then (if 1 < (((rd_T53 a9.2.2.2.1 0).f5).length : Int) then (if (((rd_T50 ((rd_T53 a9.2.2.2.1 0).f5) 1).f0) == 3 && (((rd_T50 ((rd_T53 a9.2.2.2.1 0).f5) 1).f1) == 2 && (((rd_T50 ((rd_T53 a9.2.2.2.1 0).f5) 1).f2) == 0))) = true then (if g9.2.2.2.2.2 = 18 then (if g9.2.2.2.2.1 = 3 then (if e6.2.2.2.2.2 = 10 then (if e6.2.2.2.2.1 = 0 then ((zau_.f k a9.1 a9.2.1 a9.2.2.1 a9.2.2.2.1).bind fun h0 => (some (h0.toList == ([112, 114, 111, 116, 111, 99, 111, 108, 32, 102, 97, 105, 114, 10, 99, 111, 114, 101, 115, 32, 49, 10, 104, 111, 109, 101, 115, 32, 48, 10, 116, 97, 115, 107, 32, 97, 32, 49, 48, 32, 49, 48, 32, 49, 32, 48, 32, 114, 117, 110, 58, 51, 32, 108, 111, 99, 107, 58, 48, 58, 50, 10] : List UInt8)))) else (some false)) else (some false)) else (some false)) else (some false)) else (some false)) else (none)) else (some false)) else (none)) else (some false)) else (some false)) else (some false))))
theorem zbw_.mono : ∀ k, LeO (zbw_.f k ) (zbw_.f (k + 1) ) := by
  intro  k
  unfold zbw_.f
  repeat' first
      | (with_reducible exact zao_.mono _ _)
      | (with_reducible exact zau_.mono _ _ _ _ _)
      | (with_reducible exact LeO.refl _)
      | (with_reducible exact LeO.none _)
      | (with_reducible refine LeO.ite ?_ ?_)
      | (with_reducible refine LeO.bind ?_ (fun _ => ?_))
      | exact zao_.mono _ _
      | exact zau_.mono _ _ _ _ _
      | exact LeO.none _
      | refine LeO.ite ?_ ?_
      | refine LeO.bind ?_ (fun _ => ?_)
set_option maxHeartbeats 8000000 in
set_option maxRecDepth 100000 in
theorem zbw_.calls (k : Nat)  (r : Bool) [hT_ : IsTrue r] (w : World) (hG : Glob w) (h : zbw_.f k  = some r) :
    Calls Tryd.prog 21 #[] w fun e w' => e = .returned (.bool r) ∧ Below w.heap.size w w' := by
  have hu37 := Tryd.underlying37
  have hu50 := Tryd.underlying50
  have HG := Aside0.mk hG
  clear hG
  have HB := Aside0.mk (Below.refl w.heap.size w)
  have H : ((zao_.f k (⟨#[112, 114, 111, 116, 111, 99, 111, 108, 32, 102, 97, 105, 114, 10, 99, 111, 114, 101, 115, 32, 49, 10, 104, 111, 109, 101, 115, 32, 48, 10, 10, 116, 97, 115, 107, 32, 97, 32, 49, 48, 32, 49, 48, 32, 49, 32, 48, 32, 114, 117, 110, 58, 51, 32, 108, 111, 99, 107, 58, 48, 58, 50, 32, 35, 32, 115, 111, 10]⟩ : ByteArray)).bind fun a9 => ((zao_.f k (⟨#[112, 114, 111, 116, 111, 99, 111, 108, 32, 102, 97, 105, 114, 10, 99, 111, 114, 101, 115, 32, 49, 10, 104, 111, 109, 101, 115, 32, 48, 10, 116, 97, 115, 107, 32, 97, 32, 49, 48, 32, 49, 48, 32, 49, 32, 48, 32, 108, 111, 99, 107, 58, 48, 58, 108, 111, 99, 107, 58, 48, 58, 50, 10]⟩ : ByteArray)).bind fun g9 => ((zao_.f k (⟨#[99, 111, 114, 101, 115, 32, 49, 10]⟩ : ByteArray)).bind fun e6 => (if a9.2.2.2.2.2 = 0 then (if a9.2.2.2.2.1 = 5 then (if (a9.2.2.2.1.length : Int) = 1 then (if 0 < (a9.2.2.2.1.length : Int) then (if (((rd_T53 a9.2.2.2.1 0).f5).length : Int) = 2 then (if 1 < (((rd_T53 a9.2.2.2.1 0).f5).length : Int) then (if (((rd_T50 ((rd_T53 a9.2.2.2.1 0).f5) 1).f0) == 3 && (((rd_T50 ((rd_T53 a9.2.2.2.1 0).f5) 1).f1) == 2 && (((rd_T50 ((rd_T53 a9.2.2.2.1 0).f5) 1).f2) == 0))) = true then (if g9.2.2.2.2.2 = 18 then (if g9.2.2.2.2.1 = 3 then (if e6.2.2.2.2.2 = 10 then (if e6.2.2.2.2.1 = 0 then ((zau_.f k a9.1 a9.2.1 a9.2.2.1 a9.2.2.2.1).bind fun h0 => (some (h0.toList == ([112, 114, 111, 116, 111, 99, 111, 108, 32, 102, 97, 105, 114, 10, 99, 111, 114, 101, 115, 32, 49, 10, 104, 111, 109, 101, 115, 32, 48, 10, 116, 97, 115, 107, 32, 97, 32, 49, 48, 32, 49, 48, 32, 49, 32, 48, 32, 114, 117, 110, 58, 51, 32, 108, 111, 99, 107, 58, 48, 58, 50, 10] : List UInt8)))) else (some false)) else (some false)) else (some false)) else (some false)) else (some false)) else (none)) else (some false)) else (none)) else (some false)) else (some false)) else (some false))))) = some r := h
  clear h
  replace H := Option.bind_eq_some_iff.mp H
  obtain ⟨⟨d3, b5, b9, a1, j2, j3⟩, r4, H⟩ := H
  replace H : ((zao_.f k (⟨#[112, 114, 111, 116, 111, 99, 111, 108, 32, 102, 97, 105, 114, 10, 99, 111, 114, 101, 115, 32, 49, 10, 104, 111, 109, 101, 115, 32, 48, 10, 116, 97, 115, 107, 32, 97, 32, 49, 48, 32, 49, 48, 32, 49, 32, 48, 32, 108, 111, 99, 107, 58, 48, 58, 108, 111, 99, 107, 58, 48, 58, 50, 10]⟩ : ByteArray)).bind fun g9 => ((zao_.f k (⟨#[99, 111, 114, 101, 115, 32, 49, 10]⟩ : ByteArray)).bind fun e6 => (if j3 = 0 then (if j2 = 5 then (if (a1.length : Int) = 1 then (if 0 < (a1.length : Int) then (if (((rd_T53 a1 0).f5).length : Int) = 2 then (if 1 < (((rd_T53 a1 0).f5).length : Int) then (if (((rd_T50 ((rd_T53 a1 0).f5) 1).f0) == 3 && (((rd_T50 ((rd_T53 a1 0).f5) 1).f1) == 2 && (((rd_T50 ((rd_T53 a1 0).f5) 1).f2) == 0))) = true then (if g9.2.2.2.2.2 = 18 then (if g9.2.2.2.2.1 = 3 then (if e6.2.2.2.2.2 = 10 then (if e6.2.2.2.2.1 = 0 then ((zau_.f k d3 b5 b9 a1).bind fun h0 => (some (h0.toList == ([112, 114, 111, 116, 111, 99, 111, 108, 32, 102, 97, 105, 114, 10, 99, 111, 114, 101, 115, 32, 49, 10, 104, 111, 109, 101, 115, 32, 48, 10, 116, 97, 115, 107, 32, 97, 32, 49, 48, 32, 49, 48, 32, 49, 32, 48, 32, 114, 117, 110, 58, 51, 32, 108, 111, 99, 107, 58, 48, 58, 50, 10] : List UInt8)))) else (some false)) else (some false)) else (some false)) else (some false)) else (some false)) else (none)) else (some false)) else (none)) else (some false)) else (some false)) else (some false)))) = some r := H
  have A1 := Aside0.mk r4
  clear r4
  replace H := Option.bind_eq_some_iff.mp H
  obtain ⟨⟨c3, b1, b4, c2, j8, j9⟩, r5, H⟩ := H
  replace H : ((zao_.f k (⟨#[99, 111, 114, 101, 115, 32, 49, 10]⟩ : ByteArray)).bind fun e6 => (if j3 = 0 then (if j2 = 5 then (if (a1.length : Int) = 1 then (if 0 < (a1.length : Int) then (if (((rd_T53 a1 0).f5).length : Int) = 2 then (if 1 < (((rd_T53 a1 0).f5).length : Int) then (if (((rd_T50 ((rd_T53 a1 0).f5) 1).f0) == 3 && (((rd_T50 ((rd_T53 a1 0).f5) 1).f1) == 2 && (((rd_T50 ((rd_T53 a1 0).f5) 1).f2) == 0))) = true then (if j9 = 18 then (if j8 = 3 then (if e6.2.2.2.2.2 = 10 then (if e6.2.2.2.2.1 = 0 then ((zau_.f k d3 b5 b9 a1).bind fun h0 => (some (h0.toList == ([112, 114, 111, 116, 111, 99, 111, 108, 32, 102, 97, 105, 114, 10, 99, 111, 114, 101, 115, 32, 49, 10, 104, 111, 109, 101, 115, 32, 48, 10, 116, 97, 115, 107, 32, 97, 32, 49, 48, 32, 49, 48, 32, 49, 32, 48, 32, 114, 117, 110, 58, 51, 32, 108, 111, 99, 107, 58, 48, 58, 50, 10] : List UInt8)))) else (some false)) else (some false)) else (some false)) else (some false)) else (some false)) else (none)) else (some false)) else (none)) else (some false)) else (some false)) else (some false))) = some r := H
  have A2 := Aside0.mk r5
  clear r5
  replace H := Option.bind_eq_some_iff.mp H
  obtain ⟨⟨g2, d0, d4, e8, k4, k5⟩, r6, H⟩ := H
  replace H : (if j3 = 0 then (if j2 = 5 then (if (a1.length : Int) = 1 then (if 0 < (a1.length : Int) then (if (((rd_T53 a1 0).f5).length : Int) = 2 then (if 1 < (((rd_T53 a1 0).f5).length : Int) then (if (((rd_T50 ((rd_T53 a1 0).f5) 1).f0) == 3 && (((rd_T50 ((rd_T53 a1 0).f5) 1).f1) == 2 && (((rd_T50 ((rd_T53 a1 0).f5) 1).f2) == 0))) = true then (if j9 = 18 then (if j8 = 3 then (if k5 = 10 then (if k4 = 0 then ((zau_.f k d3 b5 b9 a1).bind fun h0 => (some (h0.toList == ([112, 114, 111, 116, 111, 99, 111, 108, 32, 102, 97, 105, 114, 10, 99, 111, 114, 101, 115, 32, 49, 10, 104, 111, 109, 101, 115, 32, 48, 10, 116, 97, 115, 107, 32, 97, 32, 49, 48, 32, 49, 48, 32, 49, 32, 48, 32, 114, 117, 110, 58, 51, 32, 108, 111, 99, 107, 58, 48, 58, 50, 10] : List UInt8)))) else (some false)) else (some false)) else (some false)) else (some false)) else (some false)) else (none)) else (some false)) else (none)) else (some false)) else (some false)) else (some false)) = some r := H
  have A3 := Aside0.mk r6
  clear r6
  by_cases c4 : j3 = 0
  rotate_left
  · rw [if_neg c4] at H
    exact absurd ((Option.some.inj H).trans hT_.out) (by simp)
  rw [if_pos c4] at H
  have t9 : (j3 == 0) = true := beq_iff_eq.mpr c4
  have v0 : (j3 != 0) = false := bne_eq_false_iff_eq.mpr c4
  clear c4
  by_cases c5 : j2 = 5
  rotate_left
  · rw [if_neg c5] at H
    exact absurd ((Option.some.inj H).trans hT_.out) (by simp)
  rw [if_pos c5] at H
  have v1 : (j2 == 5) = true := beq_iff_eq.mpr c5
  have v2 : (j2 != 5) = false := bne_eq_false_iff_eq.mpr c5
  clear c5
  by_cases c6 : (a1.length : Int) = 1
  rotate_left
  · rw [if_neg c6] at H
    exact absurd ((Option.some.inj H).trans hT_.out) (by simp)
  rw [if_pos c6] at H
  have v3 : ((a1.length : Int) == 1) = true := beq_iff_eq.mpr c6
  have v4 : ((a1.length : Int) != 1) = false := bne_eq_false_iff_eq.mpr c6
  clear c6
  by_cases c7 : 0 < (a1.length : Int)
  rotate_left
  · rw [if_neg c7] at H
    exact absurd H (by simp)
  rw [if_pos c7] at H
  have v5 : decide (0 < (a1.length : Int)) = true := decide_eq_true c7
  have v6 : decide (0 < a1.length) = true := decide_eq_true (by omega)
  clear c7
  by_cases c8 : (((rd_T53 a1 0).f5).length : Int) = 2
  rotate_left
  · rw [if_neg c8] at H
    exact absurd ((Option.some.inj H).trans hT_.out) (by simp)
  rw [if_pos c8] at H
  have v7 : ((((rd_T53 a1 0).f5).length : Int) == 2) = true := beq_iff_eq.mpr c8
  have v8 : ((((rd_T53 a1 0).f5).length : Int) != 2) = false := bne_eq_false_iff_eq.mpr c8
  clear c8
  by_cases c9 : 1 < (((rd_T53 a1 0).f5).length : Int)
  rotate_left
  · rw [if_neg c9] at H
    exact absurd H (by simp)
  rw [if_pos c9] at H
  have v9 : decide (1 < (((rd_T53 a1 0).f5).length : Int)) = true := decide_eq_true c9
  have w0 : decide (1 < ((rd_T53 a1 0).f5).length) = true := decide_eq_true (by omega)
  clear c9
  by_cases k6 : (((rd_T50 ((rd_T53 a1 0).f5) 1).f0) == 3 && (((rd_T50 ((rd_T53 a1 0).f5) 1).f1) == 2 && (((rd_T50 ((rd_T53 a1 0).f5) 1).f2) == 0))) = true
  rotate_left
  · rw [if_neg k6] at H
    have l7 : (((rd_T50 ((rd_T53 a1 0).f5) 1).f0) == 3 && (((rd_T50 ((rd_T53 a1 0).f5) 1).f1) == 2 && (((rd_T50 ((rd_T53 a1 0).f5) 1).f2) == 0))) = false := by simpa using k6
    (try (have l8 : decide (((rd_T50 ((rd_T53 a1 0).f5) 1).f0) = 3 && (((rd_T50 ((rd_T53 a1 0).f5) 1).f1) == 2 && (((rd_T50 ((rd_T53 a1 0).f5) 1).f2) == 0))) = false := by simpa using k6))
    (try (have l9 : (((rd_T50 ((rd_T53 a1 0).f5) 1).f0) == 3 && (((rd_T50 ((rd_T53 a1 0).f5) 1).f1) == 2 && (((rd_T50 ((rd_T53 a1 0).f5) 1).f2) == 0))) = false := by simpa using k6))
    (try (have r7 : ¬ (((rd_T50 ((rd_T53 a1 0).f5) 1).f0) = 3 && (((rd_T50 ((rd_T53 a1 0).f5) 1).f1) == 2 && (((rd_T50 ((rd_T53 a1 0).f5) 1).f2) == 0))) := by simpa using k6))
    clear k6
    exact absurd ((Option.some.inj H).trans hT_.out) (by simp)
  rw [if_pos k6] at H
  have l7 : (((rd_T50 ((rd_T53 a1 0).f5) 1).f0) == 3 && (((rd_T50 ((rd_T53 a1 0).f5) 1).f1) == 2 && (((rd_T50 ((rd_T53 a1 0).f5) 1).f2) == 0))) = true := k6
  (try (have l8 : decide (((rd_T50 ((rd_T53 a1 0).f5) 1).f0) = 3 && (((rd_T50 ((rd_T53 a1 0).f5) 1).f1) == 2 && (((rd_T50 ((rd_T53 a1 0).f5) 1).f2) == 0))) = true := by simpa using k6))
  (try (have l9 : (((rd_T50 ((rd_T53 a1 0).f5) 1).f0) == 3 && (((rd_T50 ((rd_T53 a1 0).f5) 1).f1) == 2 && (((rd_T50 ((rd_T53 a1 0).f5) 1).f2) == 0))) = true := by simpa using k6))
  clear k6
  by_cases m0 : j9 = 18
  rotate_left
  · rw [if_neg m0] at H
    exact absurd ((Option.some.inj H).trans hT_.out) (by simp)
  rw [if_pos m0] at H
  have r8 : (j9 == 18) = true := beq_iff_eq.mpr m0
  have r9 : (j9 != 18) = false := bne_eq_false_iff_eq.mpr m0
  clear m0
  by_cases m1 : j8 = 3
  rotate_left
  · rw [if_neg m1] at H
    exact absurd ((Option.some.inj H).trans hT_.out) (by simp)
  rw [if_pos m1] at H
  have t0 : (j8 == 3) = true := beq_iff_eq.mpr m1
  have t1 : (j8 != 3) = false := bne_eq_false_iff_eq.mpr m1
  clear m1
  by_cases m2 : k5 = 10
  rotate_left
  · rw [if_neg m2] at H
    exact absurd ((Option.some.inj H).trans hT_.out) (by simp)
  rw [if_pos m2] at H
  have t2 : (k5 == 10) = true := beq_iff_eq.mpr m2
  have t3 : (k5 != 10) = false := bne_eq_false_iff_eq.mpr m2
  clear m2
  by_cases m3 : k4 = 0
  rotate_left
  · rw [if_neg m3] at H
    exact absurd ((Option.some.inj H).trans hT_.out) (by simp)
  rw [if_pos m3] at H
  have t4 : (k4 == 0) = true := beq_iff_eq.mpr m3
  have t5 : (k4 != 0) = false := bne_eq_false_iff_eq.mpr m3
  clear m3
  replace H := Option.bind_eq_some_iff.mp H
  obtain ⟨h0, m4, H⟩ := H
  replace H : (some (h0.toList == ([112, 114, 111, 116, 111, 99, 111, 108, 32, 102, 97, 105, 114, 10, 99, 111, 114, 101, 115, 32, 49, 10, 104, 111, 109, 101, 115, 32, 48, 10, 116, 97, 115, 107, 32, 97, 32, 49, 48, 32, 49, 48, 32, 49, 32, 48, 32, 114, 117, 110, 58, 51, 32, 108, 111, 99, 107, 58, 48, 58, 50, 10] : List UInt8))) = some r := H
  have w2 := Aside0.mk m4
  clear m4
  obtain rfl := Option.some.inj H
  go_enter Tryd.func21, Tryd.ntmps21
  go_wp2_with (first | ((with_reducible refine zar_ (f := 25) rfl ?_); refine goesL_ (some 11) rfl rfl Tryd.func25 (by kernel_rfl) rfl #[.string (⟨#[112, 114, 111, 116, 111, 99, 111, 108, 32, 102, 97, 105, 114, 10, 99, 111, 114, 101, 115, 32, 49, 10, 104, 111, 109, 101, 115, 32, 48, 10, 10, 116, 97, 115, 107, 32, 97, 32, 49, 48, 32, 49, 48, 32, 49, 32, 48, 32, 114, 117, 110, 58, 51, 32, 108, 111, 99, 107, 58, 48, 58, 50, 32, 35, 32, 115, 111, 10]⟩ : ByteArray)] rfl (by (try simp only [List.map_toArray, List.map_cons, List.map_nil]); first | done | rfl | (simp only [List.length_drop, List.length_take]; rfl)) ?_; (with_reducible refine (zao_.calls k (⟨#[112, 114, 111, 116, 111, 99, 111, 108, 32, 102, 97, 105, 114, 10, 99, 111, 114, 101, 115, 32, 49, 10, 104, 111, 109, 101, 115, 32, 48, 10, 10, 116, 97, 115, 107, 32, 97, 32, 49, 48, 32, 49, 48, 32, 49, 32, 48, 32, 114, 117, 110, 58, 51, 32, 108, 111, 99, 107, 58, 48, 58, 50, 32, 35, 32, 115, 111, 10]⟩ : ByteArray) d3 b5 b9 a1 j2 j3 _ ?side1 A1.out).mono ?_); (case side1 => first | exact Glob.below HG.out (HB.out) | (repeat (first | exact Glob.below HG.out HB.out | (with_reducible refine Glob.alloc ?_ _) | (with_reducible refine Glob.drewN ?_ _) | (with_reducible refine Glob.drew ?_)))); rintro e x2 ⟨w3, w4, w5, rfl, j5, j6, k7, hb⟩; refine ⟨_, rfl, ?_⟩; have h1 := Aside0.mk (Kd.zbp_ j5 (zam_ (HB.out))); have h2 := Aside0.mk (Kd.zbp_ j6 (zam_ (HB.out))); have h3 := Aside0.mk (Kd.S_lower k7 (zam_ (HB.out))); have h4 := Aside0.mk (zaj_ (HB.out) hb); clear HB; have a7 := h1; have a8 := h2; have a6 := h3; have HB := h4; clear h1 h2 h3 h4; (try clear hb); (try clear hb2); (try clear hk); (try clear hi); (try clear j5); (try clear j6); (try clear k7)) | ((with_reducible refine zaL_ (N := 1) rfl ?_); (try (refine zaF_ (by rfl) ?_; dsimp only)); refine zaD_ ?hg (N := 1) ?hd (cs := #[.int .i64 0, .slice none 0 0, .slice none 0 0, .slice none 0 0]) (t := 37) ?hr ?_; (case hd => rfl); (case hg => rfl); (case hr => first | (go_simp; done) | (go_simp; rfl)); intro a3 hg m9 hbox hb; have h1 := Aside0.mk (Kd.zaU_ (by (with_reducible repeat (first | apply Kd.zav_ | apply Kd.zaw_ | apply Kd.R_drew)); exact a7.out) hb); have h2 := Aside0.mk (Kd.zaU_ (by (with_reducible repeat (first | apply Kd.zav_ | apply Kd.zaw_ | apply Kd.R_drew)); exact a8.out) hb); have h3 := Aside0.mk (Kd.zbu_ (by (with_reducible repeat (first | apply Kd.zbg_ | apply Kd.zbi_ | apply Kd.S_drew)); exact a6.out) hb); have h4 := Aside0.mk (zaj_ (HB.out) hb); have h7 := Aside0.mk (hbox); have h6 := Aside0.mk ((by rw [hg]; exact (zam_ (HB.out)) : w.heap.size ≤ a3)); have h8 := h6; clear a7; clear a8; clear a6; clear HB; have a7 := h1; have a8 := h2; have a6 := h3; have HB := h4; have a4 := h7; have t6 := h6; have e7 := h8; clear h1 h2 h3 h4 h7 h6 h8; clear hb hbox hg; have n0 : m9.cell? ⟨a3, 0, none⟩ = some (.int .i64 0) := (zab_ a4.out 0).trans rfl; have n1 : m9.cell? ⟨a3, 1, none⟩ = some (.slice none 0 0) := (zab_ a4.out 1).trans rfl; have n2 : m9.cell? ⟨a3, 2, none⟩ = some (.slice none 0 0) := (zab_ a4.out 2).trans rfl; have n3 : m9.cell? ⟨a3, 3, none⟩ = some (.slice none 0 0) := (zab_ a4.out 3).trans rfl; have n4 := zaa_ a4.out 0; have n5 := zaa_ a4.out 1; have n6 := zaa_ a4.out 2; have n7 := zaa_ a4.out 3; obtain ⟨d5, d6, q3⟩ := Kd.zbf_ a7.out; subst q3; obtain ⟨e0, e1, q4⟩ := Kd.zbf_ a8.out; subst q4; obtain ⟨g3, g4, q5⟩ := Kd.S_slice a6.out; subst q5) | ((with_reducible refine zar_ (f := 25) rfl ?_); refine goesL_ (some 16) rfl rfl Tryd.func25 (by kernel_rfl) rfl #[.string (⟨#[112, 114, 111, 116, 111, 99, 111, 108, 32, 102, 97, 105, 114, 10, 99, 111, 114, 101, 115, 32, 49, 10, 104, 111, 109, 101, 115, 32, 48, 10, 116, 97, 115, 107, 32, 97, 32, 49, 48, 32, 49, 48, 32, 49, 32, 48, 32, 108, 111, 99, 107, 58, 48, 58, 108, 111, 99, 107, 58, 48, 58, 50, 10]⟩ : ByteArray)] rfl (by (try simp only [List.map_toArray, List.map_cons, List.map_nil]); first | done | rfl | (simp only [List.length_drop, List.length_take]; rfl)) ?_; (with_reducible refine (zao_.calls k (⟨#[112, 114, 111, 116, 111, 99, 111, 108, 32, 102, 97, 105, 114, 10, 99, 111, 114, 101, 115, 32, 49, 10, 104, 111, 109, 101, 115, 32, 48, 10, 116, 97, 115, 107, 32, 97, 32, 49, 48, 32, 49, 48, 32, 49, 32, 48, 32, 108, 111, 99, 107, 58, 48, 58, 108, 111, 99, 107, 58, 48, 58, 50, 10]⟩ : ByteArray) c3 b1 b4 c2 j8 j9 _ ?side1 A2.out).mono ?_); (case side1 => first | exact Glob.below HG.out (by repeat (first | (with_reducible first | exact HB.out | apply zah_ | apply zae_ | apply zag_ | refine zai_ ?_ e7.out) | exact HB.out)) | (repeat (first | exact Glob.below HG.out HB.out | (with_reducible refine Glob.alloc ?_ _) | (with_reducible refine Glob.drewN ?_ _) | (with_reducible refine Glob.drew ?_)))); rintro e x3 ⟨w6, w7, w8, rfl, j5, j6, k7, hb⟩; refine ⟨_, rfl, ?_⟩; have h1 := Aside0.mk (Kd.R_mono (Kd.R_told (Kd.R_told (Kd.R_old (by (with_reducible repeat (first | apply Kd.zav_ | apply Kd.zaw_ | apply Kd.R_drew)); exact (Kd.R_mono (Kd.R_far (p := ⟨a3, 3, none⟩) (Kd.R_far (p := ⟨a3, 2, none⟩) (Kd.R_far (p := ⟨a3, 1, none⟩) (Kd.R_far (p := ⟨a3, 0, none⟩) (Kd.zaV_ a7.out a4.out (by decide)) (fun _ hk => hk.2) (.int .i64 d3)) (fun _ hk => hk.2) (.slice d5 b5.length d6)) (fun _ hk => hk.2) (.slice e0 b9.length e1)) (fun _ hk => hk.2) (.slice g3 a1.length g4)) (fun _ h_ => h_.1))) hb) (Kd.R_base j5)) (Kd.R_base j6)) (fun _ h_ => h_.1)); have h2 := Aside0.mk (Kd.R_mono (Kd.R_told (Kd.R_told (Kd.R_old (by (with_reducible repeat (first | apply Kd.zav_ | apply Kd.zaw_ | apply Kd.R_drew)); exact (Kd.R_mono (Kd.R_far (p := ⟨a3, 3, none⟩) (Kd.R_far (p := ⟨a3, 2, none⟩) (Kd.R_far (p := ⟨a3, 1, none⟩) (Kd.R_far (p := ⟨a3, 0, none⟩) (Kd.zaV_ a8.out a4.out (by decide)) (fun _ hk => hk.2) (.int .i64 d3)) (fun _ hk => hk.2) (.slice d5 b5.length d6)) (fun _ hk => hk.2) (.slice e0 b9.length e1)) (fun _ hk => hk.2) (.slice g3 a1.length g4)) (fun _ h_ => h_.1))) hb) (Kd.R_base j5)) (Kd.R_base j6)) (fun _ h_ => h_.1)); have h3 := Aside0.mk (Kd.S_elder' (by (with_reducible repeat (first | apply Kd.zbg_ | apply Kd.zbi_ | apply Kd.S_drew)); exact (Kd.S_mono (Kd.S_far (p := ⟨a3, 3, none⟩) (Kd.S_far (p := ⟨a3, 2, none⟩) (Kd.S_far (p := ⟨a3, 1, none⟩) (Kd.S_far (p := ⟨a3, 0, none⟩) (Kd.zbB_ a6.out a4.out (by decide)) (fun _ hk => hk.2) (.int .i64 d3)) (fun _ hk => hk.2) (.slice d5 b5.length d6)) (fun _ hk => hk.2) (.slice e0 b9.length e1)) (fun _ hk => hk.2) (.slice g3 a1.length g4)) (fun _ h_ => h_.1))) (Kd.S_base k7) hb); have h4 := Aside0.mk (Kd.zbp_ (Kd.R_new' (Kd.R_new' j5 (Kd.R_lt (by (with_reducible repeat (first | apply Kd.zav_ | apply Kd.zaw_ | apply Kd.R_drew)); exact (Kd.R_mono (Kd.R_far (p := ⟨a3, 3, none⟩) (Kd.R_far (p := ⟨a3, 2, none⟩) (Kd.R_far (p := ⟨a3, 1, none⟩) (Kd.R_far (p := ⟨a3, 0, none⟩) (Kd.zaV_ a7.out a4.out (by decide)) (fun _ hk => hk.2) (.int .i64 d3)) (fun _ hk => hk.2) (.slice d5 b5.length d6)) (fun _ hk => hk.2) (.slice e0 b9.length e1)) (fun _ hk => hk.2) (.slice g3 a1.length g4)) (fun _ h_ => h_.1))))) (Kd.R_lt (by (with_reducible repeat (first | apply Kd.zav_ | apply Kd.zaw_ | apply Kd.R_drew)); exact (Kd.R_mono (Kd.R_far (p := ⟨a3, 3, none⟩) (Kd.R_far (p := ⟨a3, 2, none⟩) (Kd.R_far (p := ⟨a3, 1, none⟩) (Kd.R_far (p := ⟨a3, 0, none⟩) (Kd.zaV_ a8.out a4.out (by decide)) (fun _ hk => hk.2) (.int .i64 d3)) (fun _ hk => hk.2) (.slice d5 b5.length d6)) (fun _ hk => hk.2) (.slice e0 b9.length e1)) (fun _ hk => hk.2) (.slice g3 a1.length g4)) (fun _ h_ => h_.1))))) (zam_ (by repeat (first | (with_reducible first | exact HB.out | apply zah_ | apply zae_ | apply zag_ | refine zai_ ?_ e7.out) | exact HB.out)))); have h7 := Aside0.mk (Kd.zbp_ (Kd.R_new' (Kd.R_new' j6 (Kd.R_lt (by (with_reducible repeat (first | apply Kd.zav_ | apply Kd.zaw_ | apply Kd.R_drew)); exact (Kd.R_mono (Kd.R_far (p := ⟨a3, 3, none⟩) (Kd.R_far (p := ⟨a3, 2, none⟩) (Kd.R_far (p := ⟨a3, 1, none⟩) (Kd.R_far (p := ⟨a3, 0, none⟩) (Kd.zaV_ a7.out a4.out (by decide)) (fun _ hk => hk.2) (.int .i64 d3)) (fun _ hk => hk.2) (.slice d5 b5.length d6)) (fun _ hk => hk.2) (.slice e0 b9.length e1)) (fun _ hk => hk.2) (.slice g3 a1.length g4)) (fun _ h_ => h_.1))))) (Kd.R_lt (by (with_reducible repeat (first | apply Kd.zav_ | apply Kd.zaw_ | apply Kd.R_drew)); exact (Kd.R_mono (Kd.R_far (p := ⟨a3, 3, none⟩) (Kd.R_far (p := ⟨a3, 2, none⟩) (Kd.R_far (p := ⟨a3, 1, none⟩) (Kd.R_far (p := ⟨a3, 0, none⟩) (Kd.zaV_ a8.out a4.out (by decide)) (fun _ hk => hk.2) (.int .i64 d3)) (fun _ hk => hk.2) (.slice d5 b5.length d6)) (fun _ hk => hk.2) (.slice e0 b9.length e1)) (fun _ hk => hk.2) (.slice g3 a1.length g4)) (fun _ h_ => h_.1))))) (zam_ (by repeat (first | (with_reducible first | exact HB.out | apply zah_ | apply zae_ | apply zag_ | refine zai_ ?_ e7.out) | exact HB.out)))); have h6 := Aside0.mk (Kd.S_lower (Kd.S_new' k7 (Kd.S_lt (by (with_reducible repeat (first | apply Kd.zbg_ | apply Kd.zbi_ | apply Kd.S_drew)); exact (Kd.S_mono (Kd.S_far (p := ⟨a3, 3, none⟩) (Kd.S_far (p := ⟨a3, 2, none⟩) (Kd.S_far (p := ⟨a3, 1, none⟩) (Kd.S_far (p := ⟨a3, 0, none⟩) (Kd.zbB_ a6.out a4.out (by decide)) (fun _ hk => hk.2) (.int .i64 d3)) (fun _ hk => hk.2) (.slice d5 b5.length d6)) (fun _ hk => hk.2) (.slice e0 b9.length e1)) (fun _ hk => hk.2) (.slice g3 a1.length g4)) (fun _ h_ => h_.1))))) (zam_ (by repeat (first | (with_reducible first | exact HB.out | apply zah_ | apply zae_ | apply zag_ | refine zai_ ?_ e7.out) | exact HB.out)))); have h8 := Aside0.mk (zan_ (g := a3) (o := .cells #[.int .i64 d3, .slice d5 b5.length d6, .slice e0 b9.length e1, .slice g3 a1.length g4] 37 (0, 0)) (by (with_reducible repeat (first | refine zac_ ?_ _ | refine zaf_ ?_ | refine zad_ ?_ _)); refine zat_ (cs := #[.int .i64 d3, .slice d5 b5.length d6, .slice e0 b9.length e1, .slice none 0 0]) ?_ 3 _ rfl; (with_reducible repeat (first | refine zac_ ?_ _ | refine zaf_ ?_ | refine zad_ ?_ _)); refine zat_ (cs := #[.int .i64 d3, .slice d5 b5.length d6, .slice none 0 0, .slice none 0 0]) ?_ 2 _ rfl; (with_reducible repeat (first | refine zac_ ?_ _ | refine zaf_ ?_ | refine zad_ ?_ _)); refine zat_ (cs := #[.int .i64 d3, .slice none 0 0, .slice none 0 0, .slice none 0 0]) ?_ 1 _ rfl; (with_reducible repeat (first | refine zac_ ?_ _ | refine zaf_ ?_ | refine zad_ ?_ _)); refine zat_ (cs := #[.int .i64 0, .slice none 0 0, .slice none 0 0, .slice none 0 0]) ?_ 0 _ rfl; (with_reducible repeat (first | refine zac_ ?_ _ | refine zaf_ ?_ | refine zad_ ?_ _)); exact a4.out) hb); have j0 := Aside0.mk (zaj_ (by repeat (first | (with_reducible first | exact HB.out | apply zah_ | apply zae_ | apply zag_ | refine zai_ ?_ e7.out) | exact HB.out)) hb); clear a7; clear a8; clear a6; clear a4; clear HB; have a7 := h1; have a8 := h2; have a6 := h3; have b2 := h4; have b3 := h7; have b6 := h6; have a4 := h8; have HB := j0; clear h1 h2 h3 h4 h7 h6 h8 j0; (try clear hb); (try clear hb2); (try clear hk); (try clear hi); (try clear j5); (try clear j6); (try clear k7)) | ((with_reducible refine zaL_ (N := 4) rfl ?_); (try (refine zaF_ (by rfl) ?_; dsimp only)); refine zaD_ ?hg (N := 4) ?hd (cs := #[.int .i64 0, .slice none 0 0, .slice none 0 0, .slice none 0 0]) (t := 37) ?hr ?_; (case hd => rfl); (case hg => rfl); (case hr => first | (go_simp; done) | (go_simp; rfl)); intro a0 hg n8 hbox hb; have h1 := Aside0.mk (Kd.zaU_ (by (with_reducible repeat (first | apply Kd.zav_ | apply Kd.zaw_ | apply Kd.R_drew)); exact a7.out) hb); have h2 := Aside0.mk (Kd.zaU_ (by (with_reducible repeat (first | apply Kd.zav_ | apply Kd.zaw_ | apply Kd.R_drew)); exact a8.out) hb); have h3 := Aside0.mk (Kd.zbu_ (by (with_reducible repeat (first | apply Kd.zbg_ | apply Kd.zbi_ | apply Kd.S_drew)); exact a6.out) hb); have h4 := Aside0.mk (Kd.zaU_ (by (with_reducible repeat (first | apply Kd.zav_ | apply Kd.zaw_ | apply Kd.R_drew)); exact b2.out) hb); have h7 := Aside0.mk (Kd.zaU_ (by (with_reducible repeat (first | apply Kd.zav_ | apply Kd.zaw_ | apply Kd.R_drew)); exact b3.out) hb); have h6 := Aside0.mk (Kd.zbu_ (by (with_reducible repeat (first | apply Kd.zbg_ | apply Kd.zbi_ | apply Kd.S_drew)); exact b6.out) hb); have h8 := Aside0.mk (zan_ a4.out hb); have j0 := Aside0.mk (zaj_ (HB.out) hb); have j7 := Aside0.mk (hbox); have j4 := Aside0.mk ((by rw [hg]; exact (zam_ (HB.out)) : w.heap.size ≤ a0)); have g5 := j4; have g6 := Aside0.mk ((by rw [hg]; exact Nat.ne_of_lt (blk_lt a4.out) : a3 ≠ a0)); have h5 := Aside0.mk ((by rw [hg]; exact Nat.ne_of_gt (blk_lt a4.out) : a0 ≠ a3)); clear a7; clear a8; clear a6; clear b2; clear b3; clear b6; clear a4; clear HB; have a7 := h1; have a8 := h2; have a6 := h3; have b2 := h4; have b3 := h7; have b6 := h6; have a4 := h8; have HB := j0; have a5 := j7; have t7 := j4; have h9 := g5; have d7 := g6; have k0 := h5; clear h1 h2 h3 h4 h7 h6 h8 j0 j7 j4 g5 g6 h5; clear hb hbox hg; have hnb24 := k0.out; have hnc24 := d7.out; have n9 : n8.cell? ⟨a0, 0, none⟩ = some (.int .i64 0) := (zab_ a5.out 0).trans rfl; have o0 : n8.cell? ⟨a0, 1, none⟩ = some (.slice none 0 0) := (zab_ a5.out 1).trans rfl; have o1 : n8.cell? ⟨a0, 2, none⟩ = some (.slice none 0 0) := (zab_ a5.out 2).trans rfl; have o2 : n8.cell? ⟨a0, 3, none⟩ = some (.slice none 0 0) := (zab_ a5.out 3).trans rfl; have o3 := zaa_ a5.out 0; have o4 := zaa_ a5.out 1; have o5 := zaa_ a5.out 2; have o6 := zaa_ a5.out 3; obtain ⟨b7, b8, q6⟩ := Kd.zbf_ b2.out; subst q6; obtain ⟨c0, c1, q7⟩ := Kd.zbf_ b3.out; subst q7; obtain ⟨d1, d2, q8⟩ := Kd.S_slice b6.out; subst q8) | ((with_reducible refine zar_ (f := 25) rfl ?_); refine goesL_ (some 21) rfl rfl Tryd.func25 (by kernel_rfl) rfl #[.string (⟨#[99, 111, 114, 101, 115, 32, 49, 10]⟩ : ByteArray)] rfl (by (try simp only [List.map_toArray, List.map_cons, List.map_nil]); first | done | rfl | (simp only [List.length_drop, List.length_take]; rfl)) ?_; (with_reducible refine (zao_.calls k (⟨#[99, 111, 114, 101, 115, 32, 49, 10]⟩ : ByteArray) g2 d0 d4 e8 k4 k5 _ ?side1 A3.out).mono ?_); (case side1 => first | exact Glob.below HG.out (by repeat (first | (with_reducible first | exact HB.out | apply zah_ | apply zae_ | apply zag_ | refine zai_ ?_ e7.out | refine zai_ ?_ h9.out) | exact HB.out)) | (repeat (first | exact Glob.below HG.out HB.out | (with_reducible refine Glob.alloc ?_ _) | (with_reducible refine Glob.drewN ?_ _) | (with_reducible refine Glob.drew ?_)))); rintro e x4 ⟨w9, x0, x1, rfl, j5, j6, k7, hb⟩; refine ⟨_, rfl, ?_⟩; have h1 := Aside0.mk (Kd.R_mono (Kd.R_told (Kd.R_told (Kd.R_old (by (with_reducible repeat (first | apply Kd.zav_ | apply Kd.zaw_ | apply Kd.R_drew)); exact (Kd.R_mono (Kd.R_far (p := ⟨a0, 3, none⟩) (Kd.R_far (p := ⟨a0, 2, none⟩) (Kd.R_far (p := ⟨a0, 1, none⟩) (Kd.R_far (p := ⟨a0, 0, none⟩) (Kd.zaV_ a7.out a5.out (by decide)) (fun _ hk => hk.2) (.int .i64 c3)) (fun _ hk => hk.2) (.slice b7 b1.length b8)) (fun _ hk => hk.2) (.slice c0 b4.length c1)) (fun _ hk => hk.2) (.slice d1 c2.length d2)) (fun _ h_ => h_.1))) hb) (Kd.R_base j5)) (Kd.R_base j6)) (fun _ h_ => h_.1)); have h2 := Aside0.mk (Kd.R_mono (Kd.R_told (Kd.R_told (Kd.R_old (by (with_reducible repeat (first | apply Kd.zav_ | apply Kd.zaw_ | apply Kd.R_drew)); exact (Kd.R_mono (Kd.R_far (p := ⟨a0, 3, none⟩) (Kd.R_far (p := ⟨a0, 2, none⟩) (Kd.R_far (p := ⟨a0, 1, none⟩) (Kd.R_far (p := ⟨a0, 0, none⟩) (Kd.zaV_ a8.out a5.out (by decide)) (fun _ hk => hk.2) (.int .i64 c3)) (fun _ hk => hk.2) (.slice b7 b1.length b8)) (fun _ hk => hk.2) (.slice c0 b4.length c1)) (fun _ hk => hk.2) (.slice d1 c2.length d2)) (fun _ h_ => h_.1))) hb) (Kd.R_base j5)) (Kd.R_base j6)) (fun _ h_ => h_.1)); have h3 := Aside0.mk (Kd.S_elder' (by (with_reducible repeat (first | apply Kd.zbg_ | apply Kd.zbi_ | apply Kd.S_drew)); exact (Kd.S_mono (Kd.S_far (p := ⟨a0, 3, none⟩) (Kd.S_far (p := ⟨a0, 2, none⟩) (Kd.S_far (p := ⟨a0, 1, none⟩) (Kd.S_far (p := ⟨a0, 0, none⟩) (Kd.zbB_ a6.out a5.out (by decide)) (fun _ hk => hk.2) (.int .i64 c3)) (fun _ hk => hk.2) (.slice b7 b1.length b8)) (fun _ hk => hk.2) (.slice c0 b4.length c1)) (fun _ hk => hk.2) (.slice d1 c2.length d2)) (fun _ h_ => h_.1))) (Kd.S_base k7) hb); have h4 := Aside0.mk (Kd.R_mono (Kd.R_told (Kd.R_told (Kd.R_old (by (with_reducible repeat (first | apply Kd.zav_ | apply Kd.zaw_ | apply Kd.R_drew)); exact (Kd.R_mono (Kd.R_far (p := ⟨a0, 3, none⟩) (Kd.R_far (p := ⟨a0, 2, none⟩) (Kd.R_far (p := ⟨a0, 1, none⟩) (Kd.R_far (p := ⟨a0, 0, none⟩) (Kd.zaV_ b2.out a5.out (by decide)) (fun _ hk => hk.2) (.int .i64 c3)) (fun _ hk => hk.2) (.slice b7 b1.length b8)) (fun _ hk => hk.2) (.slice c0 b4.length c1)) (fun _ hk => hk.2) (.slice d1 c2.length d2)) (fun _ h_ => h_.1))) hb) (Kd.R_base j5)) (Kd.R_base j6)) (fun _ h_ => h_.1)); have h7 := Aside0.mk (Kd.R_mono (Kd.R_told (Kd.R_told (Kd.R_old (by (with_reducible repeat (first | apply Kd.zav_ | apply Kd.zaw_ | apply Kd.R_drew)); exact (Kd.R_mono (Kd.R_far (p := ⟨a0, 3, none⟩) (Kd.R_far (p := ⟨a0, 2, none⟩) (Kd.R_far (p := ⟨a0, 1, none⟩) (Kd.R_far (p := ⟨a0, 0, none⟩) (Kd.zaV_ b3.out a5.out (by decide)) (fun _ hk => hk.2) (.int .i64 c3)) (fun _ hk => hk.2) (.slice b7 b1.length b8)) (fun _ hk => hk.2) (.slice c0 b4.length c1)) (fun _ hk => hk.2) (.slice d1 c2.length d2)) (fun _ h_ => h_.1))) hb) (Kd.R_base j5)) (Kd.R_base j6)) (fun _ h_ => h_.1)); have h6 := Aside0.mk (Kd.S_elder' (by (with_reducible repeat (first | apply Kd.zbg_ | apply Kd.zbi_ | apply Kd.S_drew)); exact (Kd.S_mono (Kd.S_far (p := ⟨a0, 3, none⟩) (Kd.S_far (p := ⟨a0, 2, none⟩) (Kd.S_far (p := ⟨a0, 1, none⟩) (Kd.S_far (p := ⟨a0, 0, none⟩) (Kd.zbB_ b6.out a5.out (by decide)) (fun _ hk => hk.2) (.int .i64 c3)) (fun _ hk => hk.2) (.slice b7 b1.length b8)) (fun _ hk => hk.2) (.slice c0 b4.length c1)) (fun _ hk => hk.2) (.slice d1 c2.length d2)) (fun _ h_ => h_.1))) (Kd.S_base k7) hb); have h8 := Aside0.mk (Kd.zbp_ (Kd.R_new' (Kd.R_new' (Kd.R_new' (Kd.R_new' j5 (Kd.R_lt (by (with_reducible repeat (first | apply Kd.zav_ | apply Kd.zaw_ | apply Kd.R_drew)); exact (Kd.R_mono (Kd.R_far (p := ⟨a0, 3, none⟩) (Kd.R_far (p := ⟨a0, 2, none⟩) (Kd.R_far (p := ⟨a0, 1, none⟩) (Kd.R_far (p := ⟨a0, 0, none⟩) (Kd.zaV_ a7.out a5.out (by decide)) (fun _ hk => hk.2) (.int .i64 c3)) (fun _ hk => hk.2) (.slice b7 b1.length b8)) (fun _ hk => hk.2) (.slice c0 b4.length c1)) (fun _ hk => hk.2) (.slice d1 c2.length d2)) (fun _ h_ => h_.1))))) (Kd.R_lt (by (with_reducible repeat (first | apply Kd.zav_ | apply Kd.zaw_ | apply Kd.R_drew)); exact (Kd.R_mono (Kd.R_far (p := ⟨a0, 3, none⟩) (Kd.R_far (p := ⟨a0, 2, none⟩) (Kd.R_far (p := ⟨a0, 1, none⟩) (Kd.R_far (p := ⟨a0, 0, none⟩) (Kd.zaV_ a8.out a5.out (by decide)) (fun _ hk => hk.2) (.int .i64 c3)) (fun _ hk => hk.2) (.slice b7 b1.length b8)) (fun _ hk => hk.2) (.slice c0 b4.length c1)) (fun _ hk => hk.2) (.slice d1 c2.length d2)) (fun _ h_ => h_.1))))) (Kd.R_lt (by (with_reducible repeat (first | apply Kd.zav_ | apply Kd.zaw_ | apply Kd.R_drew)); exact (Kd.R_mono (Kd.R_far (p := ⟨a0, 3, none⟩) (Kd.R_far (p := ⟨a0, 2, none⟩) (Kd.R_far (p := ⟨a0, 1, none⟩) (Kd.R_far (p := ⟨a0, 0, none⟩) (Kd.zaV_ b2.out a5.out (by decide)) (fun _ hk => hk.2) (.int .i64 c3)) (fun _ hk => hk.2) (.slice b7 b1.length b8)) (fun _ hk => hk.2) (.slice c0 b4.length c1)) (fun _ hk => hk.2) (.slice d1 c2.length d2)) (fun _ h_ => h_.1))))) (Kd.R_lt (by (with_reducible repeat (first | apply Kd.zav_ | apply Kd.zaw_ | apply Kd.R_drew)); exact (Kd.R_mono (Kd.R_far (p := ⟨a0, 3, none⟩) (Kd.R_far (p := ⟨a0, 2, none⟩) (Kd.R_far (p := ⟨a0, 1, none⟩) (Kd.R_far (p := ⟨a0, 0, none⟩) (Kd.zaV_ b3.out a5.out (by decide)) (fun _ hk => hk.2) (.int .i64 c3)) (fun _ hk => hk.2) (.slice b7 b1.length b8)) (fun _ hk => hk.2) (.slice c0 b4.length c1)) (fun _ hk => hk.2) (.slice d1 c2.length d2)) (fun _ h_ => h_.1))))) (zam_ (by repeat (first | (with_reducible first | exact HB.out | apply zah_ | apply zae_ | apply zag_ | refine zai_ ?_ e7.out | refine zai_ ?_ h9.out) | exact HB.out)))); have j0 := Aside0.mk (Kd.zbp_ (Kd.R_new' (Kd.R_new' (Kd.R_new' (Kd.R_new' j6 (Kd.R_lt (by (with_reducible repeat (first | apply Kd.zav_ | apply Kd.zaw_ | apply Kd.R_drew)); exact (Kd.R_mono (Kd.R_far (p := ⟨a0, 3, none⟩) (Kd.R_far (p := ⟨a0, 2, none⟩) (Kd.R_far (p := ⟨a0, 1, none⟩) (Kd.R_far (p := ⟨a0, 0, none⟩) (Kd.zaV_ a7.out a5.out (by decide)) (fun _ hk => hk.2) (.int .i64 c3)) (fun _ hk => hk.2) (.slice b7 b1.length b8)) (fun _ hk => hk.2) (.slice c0 b4.length c1)) (fun _ hk => hk.2) (.slice d1 c2.length d2)) (fun _ h_ => h_.1))))) (Kd.R_lt (by (with_reducible repeat (first | apply Kd.zav_ | apply Kd.zaw_ | apply Kd.R_drew)); exact (Kd.R_mono (Kd.R_far (p := ⟨a0, 3, none⟩) (Kd.R_far (p := ⟨a0, 2, none⟩) (Kd.R_far (p := ⟨a0, 1, none⟩) (Kd.R_far (p := ⟨a0, 0, none⟩) (Kd.zaV_ a8.out a5.out (by decide)) (fun _ hk => hk.2) (.int .i64 c3)) (fun _ hk => hk.2) (.slice b7 b1.length b8)) (fun _ hk => hk.2) (.slice c0 b4.length c1)) (fun _ hk => hk.2) (.slice d1 c2.length d2)) (fun _ h_ => h_.1))))) (Kd.R_lt (by (with_reducible repeat (first | apply Kd.zav_ | apply Kd.zaw_ | apply Kd.R_drew)); exact (Kd.R_mono (Kd.R_far (p := ⟨a0, 3, none⟩) (Kd.R_far (p := ⟨a0, 2, none⟩) (Kd.R_far (p := ⟨a0, 1, none⟩) (Kd.R_far (p := ⟨a0, 0, none⟩) (Kd.zaV_ b2.out a5.out (by decide)) (fun _ hk => hk.2) (.int .i64 c3)) (fun _ hk => hk.2) (.slice b7 b1.length b8)) (fun _ hk => hk.2) (.slice c0 b4.length c1)) (fun _ hk => hk.2) (.slice d1 c2.length d2)) (fun _ h_ => h_.1))))) (Kd.R_lt (by (with_reducible repeat (first | apply Kd.zav_ | apply Kd.zaw_ | apply Kd.R_drew)); exact (Kd.R_mono (Kd.R_far (p := ⟨a0, 3, none⟩) (Kd.R_far (p := ⟨a0, 2, none⟩) (Kd.R_far (p := ⟨a0, 1, none⟩) (Kd.R_far (p := ⟨a0, 0, none⟩) (Kd.zaV_ b3.out a5.out (by decide)) (fun _ hk => hk.2) (.int .i64 c3)) (fun _ hk => hk.2) (.slice b7 b1.length b8)) (fun _ hk => hk.2) (.slice c0 b4.length c1)) (fun _ hk => hk.2) (.slice d1 c2.length d2)) (fun _ h_ => h_.1))))) (zam_ (by repeat (first | (with_reducible first | exact HB.out | apply zah_ | apply zae_ | apply zag_ | refine zai_ ?_ e7.out | refine zai_ ?_ h9.out) | exact HB.out)))); have j7 := Aside0.mk (Kd.S_lower (Kd.S_new' (Kd.S_new' k7 (Kd.S_lt (by (with_reducible repeat (first | apply Kd.zbg_ | apply Kd.zbi_ | apply Kd.S_drew)); exact (Kd.S_mono (Kd.S_far (p := ⟨a0, 3, none⟩) (Kd.S_far (p := ⟨a0, 2, none⟩) (Kd.S_far (p := ⟨a0, 1, none⟩) (Kd.S_far (p := ⟨a0, 0, none⟩) (Kd.zbB_ a6.out a5.out (by decide)) (fun _ hk => hk.2) (.int .i64 c3)) (fun _ hk => hk.2) (.slice b7 b1.length b8)) (fun _ hk => hk.2) (.slice c0 b4.length c1)) (fun _ hk => hk.2) (.slice d1 c2.length d2)) (fun _ h_ => h_.1))))) (Kd.S_lt (by (with_reducible repeat (first | apply Kd.zbg_ | apply Kd.zbi_ | apply Kd.S_drew)); exact (Kd.S_mono (Kd.S_far (p := ⟨a0, 3, none⟩) (Kd.S_far (p := ⟨a0, 2, none⟩) (Kd.S_far (p := ⟨a0, 1, none⟩) (Kd.S_far (p := ⟨a0, 0, none⟩) (Kd.zbB_ b6.out a5.out (by decide)) (fun _ hk => hk.2) (.int .i64 c3)) (fun _ hk => hk.2) (.slice b7 b1.length b8)) (fun _ hk => hk.2) (.slice c0 b4.length c1)) (fun _ hk => hk.2) (.slice d1 c2.length d2)) (fun _ h_ => h_.1))))) (zam_ (by repeat (first | (with_reducible first | exact HB.out | apply zah_ | apply zae_ | apply zag_ | refine zai_ ?_ e7.out | refine zai_ ?_ h9.out) | exact HB.out)))); have j4 := Aside0.mk (zan_ (g := a3) (o := .cells #[.int .i64 d3, .slice d5 b5.length d6, .slice e0 b9.length e1, .slice g3 a1.length g4] 37 (0, 0)) (by (with_reducible repeat (first | refine zac_ ?_ _ | refine zaf_ ?_ | refine zad_ ?_ _)); refine zaG_ ?_ d7.out _; (with_reducible repeat (first | refine zac_ ?_ _ | refine zaf_ ?_ | refine zad_ ?_ _)); refine zaG_ ?_ d7.out _; (with_reducible repeat (first | refine zac_ ?_ _ | refine zaf_ ?_ | refine zad_ ?_ _)); refine zaG_ ?_ d7.out _; (with_reducible repeat (first | refine zac_ ?_ _ | refine zaf_ ?_ | refine zad_ ?_ _)); refine zaG_ ?_ d7.out _; (with_reducible repeat (first | refine zac_ ?_ _ | refine zaf_ ?_ | refine zad_ ?_ _)); exact a4.out) hb); have g5 := Aside0.mk (zan_ (g := a0) (o := .cells #[.int .i64 c3, .slice b7 b1.length b8, .slice c0 b4.length c1, .slice d1 c2.length d2] 37 (0, 0)) (by (with_reducible repeat (first | refine zac_ ?_ _ | refine zaf_ ?_ | refine zad_ ?_ _)); refine zat_ (cs := #[.int .i64 c3, .slice b7 b1.length b8, .slice c0 b4.length c1, .slice none 0 0]) ?_ 3 _ rfl; (with_reducible repeat (first | refine zac_ ?_ _ | refine zaf_ ?_ | refine zad_ ?_ _)); refine zat_ (cs := #[.int .i64 c3, .slice b7 b1.length b8, .slice none 0 0, .slice none 0 0]) ?_ 2 _ rfl; (with_reducible repeat (first | refine zac_ ?_ _ | refine zaf_ ?_ | refine zad_ ?_ _)); refine zat_ (cs := #[.int .i64 c3, .slice none 0 0, .slice none 0 0, .slice none 0 0]) ?_ 1 _ rfl; (with_reducible repeat (first | refine zac_ ?_ _ | refine zaf_ ?_ | refine zad_ ?_ _)); refine zat_ (cs := #[.int .i64 0, .slice none 0 0, .slice none 0 0, .slice none 0 0]) ?_ 0 _ rfl; (with_reducible repeat (first | refine zac_ ?_ _ | refine zaf_ ?_ | refine zad_ ?_ _)); exact a5.out) hb); have g6 := Aside0.mk (zaj_ (by repeat (first | (with_reducible first | exact HB.out | apply zah_ | apply zae_ | apply zag_ | refine zai_ ?_ e7.out | refine zai_ ?_ h9.out) | exact HB.out)) hb); clear a7; clear a8; clear a6; clear b2; clear b3; clear b6; clear a4; clear a5; clear HB; have a7 := h1; have a8 := h2; have a6 := h3; have b2 := h4; have b3 := h7; have b6 := h6; have e9 := h8; have g0 := j0; have g1 := j7; have a4 := j4; have a5 := g5; have HB := g6; clear h1 h2 h3 h4 h7 h6 h8 j0 j7 j4 g5 g6; (try clear hb); (try clear hb2); (try clear hk); (try clear hi); (try clear j5); (try clear j6); (try clear k7)) | ((with_reducible refine zaL_ (N := 7) rfl ?_); (try (refine zaF_ (by rfl) ?_; dsimp only)); refine zaD_ ?hg (N := 7) ?hd (cs := #[.int .i64 0, .slice none 0 0, .slice none 0 0, .slice none 0 0]) (t := 37) ?hr ?_; (case hd => rfl); (case hg => rfl); (case hr => first | (go_simp; done) | (go_simp; rfl)); intro a2 hg m5 hbox hb; have h1 := Aside0.mk (Kd.zaU_ (by (with_reducible repeat (first | apply Kd.zav_ | apply Kd.zaw_ | apply Kd.R_drew)); exact a7.out) hb); have h2 := Aside0.mk (Kd.zaU_ (by (with_reducible repeat (first | apply Kd.zav_ | apply Kd.zaw_ | apply Kd.R_drew)); exact a8.out) hb); have h3 := Aside0.mk (Kd.zbu_ (by (with_reducible repeat (first | apply Kd.zbg_ | apply Kd.zbi_ | apply Kd.S_drew)); exact a6.out) hb); have h4 := Aside0.mk (Kd.zaU_ (by (with_reducible repeat (first | apply Kd.zav_ | apply Kd.zaw_ | apply Kd.R_drew)); exact b2.out) hb); have h7 := Aside0.mk (Kd.zaU_ (by (with_reducible repeat (first | apply Kd.zav_ | apply Kd.zaw_ | apply Kd.R_drew)); exact b3.out) hb); have h6 := Aside0.mk (Kd.zbu_ (by (with_reducible repeat (first | apply Kd.zbg_ | apply Kd.zbi_ | apply Kd.S_drew)); exact b6.out) hb); have h8 := Aside0.mk (Kd.zaU_ (by (with_reducible repeat (first | apply Kd.zav_ | apply Kd.zaw_ | apply Kd.R_drew)); exact e9.out) hb); have j0 := Aside0.mk (Kd.zaU_ (by (with_reducible repeat (first | apply Kd.zav_ | apply Kd.zaw_ | apply Kd.R_drew)); exact g0.out) hb); have j7 := Aside0.mk (Kd.zbu_ (by (with_reducible repeat (first | apply Kd.zbg_ | apply Kd.zbi_ | apply Kd.S_drew)); exact g1.out) hb); have j4 := Aside0.mk (zan_ a4.out hb); have g5 := Aside0.mk (zan_ a5.out hb); have g6 := Aside0.mk (zaj_ (HB.out) hb); have h5 := Aside0.mk (hbox); have k1 := Aside0.mk ((by rw [hg]; exact (zam_ (HB.out)) : w.heap.size ≤ a2)); have k8 := k1; have k9 := Aside0.mk ((by rw [hg]; exact Nat.ne_of_lt (blk_lt a4.out) : a3 ≠ a2)); have l0 := Aside0.mk ((by rw [hg]; exact Nat.ne_of_gt (blk_lt a4.out) : a2 ≠ a3)); have m6 := Aside0.mk ((by rw [hg]; exact Nat.ne_of_lt (blk_lt a5.out) : a0 ≠ a2)); have m7 := Aside0.mk ((by rw [hg]; exact Nat.ne_of_gt (blk_lt a5.out) : a2 ≠ a0)); clear a7; clear a8; clear a6; clear b2; clear b3; clear b6; clear e9; clear g0; clear g1; clear a4; clear a5; clear HB; have a7 := h1; have a8 := h2; have a6 := h3; have b2 := h4; have b3 := h7; have b6 := h6; have e9 := h8; have g0 := j0; have g1 := j7; have a4 := j4; have a5 := g5; have HB := g6; have b0 := h5; have t8 := k1; have m8 := k8; have d8 := k9; have k2 := l0; have d9 := m6; have k3 := m7; clear h1 h2 h3 h4 h7 h6 h8 j0 j7 j4 g5 g6 h5 k1 k8 k9 l0 m6 m7; clear hb hbox hg; have hnb31 := k2.out; have hnc31 := d8.out; have hnb32 := k3.out; have hnc32 := d9.out; have o7 : m5.cell? ⟨a2, 0, none⟩ = some (.int .i64 0) := (zab_ b0.out 0).trans rfl; have o8 : m5.cell? ⟨a2, 1, none⟩ = some (.slice none 0 0) := (zab_ b0.out 1).trans rfl; have o9 : m5.cell? ⟨a2, 2, none⟩ = some (.slice none 0 0) := (zab_ b0.out 2).trans rfl; have p0 : m5.cell? ⟨a2, 3, none⟩ = some (.slice none 0 0) := (zab_ b0.out 3).trans rfl; have p1 := zaa_ b0.out 0; have p2 := zaa_ b0.out 1; have p3 := zaa_ b0.out 2; have p4 := zaa_ b0.out 3; obtain ⟨e2, e3, q9⟩ := Kd.zbf_ e9.out; subst q9; obtain ⟨e4, e5, r0⟩ := Kd.zbf_ g0.out; subst r0; obtain ⟨g7, g8, r1⟩ := Kd.S_slice g1.out; subst r1) | ((with_reducible refine gate_store (t := 37) (p := 7) rfl ?_); refine store_event (t := 37) (p := 7) (v := ?vo_w37) (w1 := ((((m5.setCell ⟨a2, 0, none⟩ (.int .i64 g2)).setCell ⟨a2, 1, none⟩ (.slice e2 d0.length e3)).setCell ⟨a2, 2, none⟩ (.slice e4 d4.length e5)).setCell ⟨a2, 3, none⟩ (.slice g7 e8.length g8))) ?hg ?ho ?hn ?hr ?_; (case ho => rfl); (case hg => rfl); (case hn => rfl); (case hr => first | (go_simp; done) | (go_simp; rfl)); intro j1 hw; have h1 : Aside0 (Kd.R (Kd.int .i64) 3 j1 w.heap.size (fun k_ => some k_ ≠ (.slice e0 b9.length e1 : Value).ownBlock ∧ some k_ ≠ (.slice b7 b1.length b8 : Value).ownBlock ∧ some k_ ≠ (.slice c0 b4.length c1 : Value).ownBlock ∧ some k_ ≠ (.slice e2 d0.length e3 : Value).ownBlock ∧ some k_ ≠ (.slice e4 d4.length e5 : Value).ownBlock) (.slice d5 b5.length d6) b5) := ⟨(by rw [hw]; exact (by (with_reducible repeat (first | apply Kd.zav_ | apply Kd.zaw_ | apply Kd.R_drew)); exact Kd.R_mono (Kd.R_far (p := ⟨a2, 3, none⟩) (Kd.R_far (p := ⟨a2, 2, none⟩) (Kd.R_far (p := ⟨a2, 1, none⟩) (Kd.R_far (p := ⟨a2, 0, none⟩) (Kd.zaV_ a7.out b0.out (by decide)) (fun _ hk => hk.2) (.int .i64 g2)) (fun _ hk => hk.2) (.slice e2 d0.length e3)) (fun _ hk => hk.2) (.slice e4 d4.length e5)) (fun _ hk => hk.2) (.slice g7 e8.length g8)) (fun _ hk => ⟨hk.1.1.1.1.1, ⟨hk.1.1.1.1.2, ⟨hk.1.1.1.2, ⟨hk.1.1.2, hk.1.2⟩⟩⟩⟩)))⟩; have h2 : Aside0 (Kd.R (Kd.int .i64) 3 j1 w.heap.size (fun k_ => some k_ ≠ (.slice d5 b5.length d6 : Value).ownBlock ∧ some k_ ≠ (.slice b7 b1.length b8 : Value).ownBlock ∧ some k_ ≠ (.slice c0 b4.length c1 : Value).ownBlock ∧ some k_ ≠ (.slice e2 d0.length e3 : Value).ownBlock ∧ some k_ ≠ (.slice e4 d4.length e5 : Value).ownBlock) (.slice e0 b9.length e1) b9) := ⟨(by rw [hw]; exact (by (with_reducible repeat (first | apply Kd.zav_ | apply Kd.zaw_ | apply Kd.R_drew)); exact Kd.R_mono (Kd.R_far (p := ⟨a2, 3, none⟩) (Kd.R_far (p := ⟨a2, 2, none⟩) (Kd.R_far (p := ⟨a2, 1, none⟩) (Kd.R_far (p := ⟨a2, 0, none⟩) (Kd.zaV_ a8.out b0.out (by decide)) (fun _ hk => hk.2) (.int .i64 g2)) (fun _ hk => hk.2) (.slice e2 d0.length e3)) (fun _ hk => hk.2) (.slice e4 d4.length e5)) (fun _ hk => hk.2) (.slice g7 e8.length g8)) (fun _ hk => ⟨hk.1.1.1.1.1, ⟨hk.1.1.1.1.2, ⟨hk.1.1.1.2, ⟨hk.1.1.2, hk.1.2⟩⟩⟩⟩)))⟩; have h3 : Aside0 (Kd.S k53 53 j1 w.heap.size (fun k_ => some k_ ≠ (.slice d1 c2.length d2 : Value).ownBlock ∧ some k_ ≠ (.slice g7 e8.length g8 : Value).ownBlock) (.slice g3 a1.length g4) a1) := ⟨(by rw [hw]; exact (by (with_reducible repeat (first | apply Kd.zbg_ | apply Kd.zbi_ | apply Kd.S_drew)); exact Kd.S_mono (Kd.S_far (p := ⟨a2, 3, none⟩) (Kd.S_far (p := ⟨a2, 2, none⟩) (Kd.S_far (p := ⟨a2, 1, none⟩) (Kd.S_far (p := ⟨a2, 0, none⟩) (Kd.zbB_ a6.out b0.out (by decide)) (fun _ hk => hk.2) (.int .i64 g2)) (fun _ hk => hk.2) (.slice e2 d0.length e3)) (fun _ hk => hk.2) (.slice e4 d4.length e5)) (fun _ hk => hk.2) (.slice g7 e8.length g8)) (fun _ hk => ⟨hk.1.1.2, hk.1.2⟩)))⟩; have h4 : Aside0 (Kd.R (Kd.int .i64) 3 j1 w.heap.size (fun k_ => some k_ ≠ (.slice d5 b5.length d6 : Value).ownBlock ∧ some k_ ≠ (.slice e0 b9.length e1 : Value).ownBlock ∧ some k_ ≠ (.slice c0 b4.length c1 : Value).ownBlock ∧ some k_ ≠ (.slice e2 d0.length e3 : Value).ownBlock ∧ some k_ ≠ (.slice e4 d4.length e5 : Value).ownBlock) (.slice b7 b1.length b8) b1) := ⟨(by rw [hw]; exact (by (with_reducible repeat (first | apply Kd.zav_ | apply Kd.zaw_ | apply Kd.R_drew)); exact Kd.R_mono (Kd.R_far (p := ⟨a2, 3, none⟩) (Kd.R_far (p := ⟨a2, 2, none⟩) (Kd.R_far (p := ⟨a2, 1, none⟩) (Kd.R_far (p := ⟨a2, 0, none⟩) (Kd.zaV_ b2.out b0.out (by decide)) (fun _ hk => hk.2) (.int .i64 g2)) (fun _ hk => hk.2) (.slice e2 d0.length e3)) (fun _ hk => hk.2) (.slice e4 d4.length e5)) (fun _ hk => hk.2) (.slice g7 e8.length g8)) (fun _ hk => ⟨hk.1.1.1.1.2, ⟨hk.1.1.1.2, ⟨hk.1.1.1.1.1, ⟨hk.1.1.2, hk.1.2⟩⟩⟩⟩)))⟩; have h7 : Aside0 (Kd.R (Kd.int .i64) 3 j1 w.heap.size (fun k_ => some k_ ≠ (.slice d5 b5.length d6 : Value).ownBlock ∧ some k_ ≠ (.slice e0 b9.length e1 : Value).ownBlock ∧ some k_ ≠ (.slice b7 b1.length b8 : Value).ownBlock ∧ some k_ ≠ (.slice e2 d0.length e3 : Value).ownBlock ∧ some k_ ≠ (.slice e4 d4.length e5 : Value).ownBlock) (.slice c0 b4.length c1) b4) := ⟨(by rw [hw]; exact (by (with_reducible repeat (first | apply Kd.zav_ | apply Kd.zaw_ | apply Kd.R_drew)); exact Kd.R_mono (Kd.R_far (p := ⟨a2, 3, none⟩) (Kd.R_far (p := ⟨a2, 2, none⟩) (Kd.R_far (p := ⟨a2, 1, none⟩) (Kd.R_far (p := ⟨a2, 0, none⟩) (Kd.zaV_ b3.out b0.out (by decide)) (fun _ hk => hk.2) (.int .i64 g2)) (fun _ hk => hk.2) (.slice e2 d0.length e3)) (fun _ hk => hk.2) (.slice e4 d4.length e5)) (fun _ hk => hk.2) (.slice g7 e8.length g8)) (fun _ hk => ⟨hk.1.1.1.1.2, ⟨hk.1.1.1.2, ⟨hk.1.1.1.1.1, ⟨hk.1.1.2, hk.1.2⟩⟩⟩⟩)))⟩; have h6 : Aside0 (Kd.S k53 53 j1 w.heap.size (fun k_ => some k_ ≠ (.slice g3 a1.length g4 : Value).ownBlock ∧ some k_ ≠ (.slice g7 e8.length g8 : Value).ownBlock) (.slice d1 c2.length d2) c2) := ⟨(by rw [hw]; exact (by (with_reducible repeat (first | apply Kd.zbg_ | apply Kd.zbi_ | apply Kd.S_drew)); exact Kd.S_mono (Kd.S_far (p := ⟨a2, 3, none⟩) (Kd.S_far (p := ⟨a2, 2, none⟩) (Kd.S_far (p := ⟨a2, 1, none⟩) (Kd.S_far (p := ⟨a2, 0, none⟩) (Kd.zbB_ b6.out b0.out (by decide)) (fun _ hk => hk.2) (.int .i64 g2)) (fun _ hk => hk.2) (.slice e2 d0.length e3)) (fun _ hk => hk.2) (.slice e4 d4.length e5)) (fun _ hk => hk.2) (.slice g7 e8.length g8)) (fun _ hk => ⟨hk.1.1.2, hk.1.2⟩)))⟩; have h8 : Aside0 (Kd.R (Kd.int .i64) 3 j1 w.heap.size (fun k_ => some k_ ≠ (.slice d5 b5.length d6 : Value).ownBlock ∧ some k_ ≠ (.slice e0 b9.length e1 : Value).ownBlock ∧ some k_ ≠ (.slice b7 b1.length b8 : Value).ownBlock ∧ some k_ ≠ (.slice c0 b4.length c1 : Value).ownBlock ∧ some k_ ≠ (.slice e4 d4.length e5 : Value).ownBlock) (.slice e2 d0.length e3) d0) := ⟨(by rw [hw]; exact (by (with_reducible repeat (first | apply Kd.zav_ | apply Kd.zaw_ | apply Kd.R_drew)); exact Kd.R_mono (Kd.R_far (p := ⟨a2, 3, none⟩) (Kd.R_far (p := ⟨a2, 2, none⟩) (Kd.R_far (p := ⟨a2, 1, none⟩) (Kd.R_far (p := ⟨a2, 0, none⟩) (Kd.zaV_ e9.out b0.out (by decide)) (fun _ hk => hk.2) (.int .i64 g2)) (fun _ hk => hk.2) (.slice e2 d0.length e3)) (fun _ hk => hk.2) (.slice e4 d4.length e5)) (fun _ hk => hk.2) (.slice g7 e8.length g8)) (fun _ hk => ⟨hk.1.1.1.1.2, ⟨hk.1.1.1.2, ⟨hk.1.1.2, ⟨hk.1.2, hk.1.1.1.1.1⟩⟩⟩⟩)))⟩; have j0 : Aside0 (Kd.R (Kd.int .i64) 3 j1 w.heap.size (fun k_ => some k_ ≠ (.slice d5 b5.length d6 : Value).ownBlock ∧ some k_ ≠ (.slice e0 b9.length e1 : Value).ownBlock ∧ some k_ ≠ (.slice b7 b1.length b8 : Value).ownBlock ∧ some k_ ≠ (.slice c0 b4.length c1 : Value).ownBlock ∧ some k_ ≠ (.slice e2 d0.length e3 : Value).ownBlock) (.slice e4 d4.length e5) d4) := ⟨(by rw [hw]; exact (by (with_reducible repeat (first | apply Kd.zav_ | apply Kd.zaw_ | apply Kd.R_drew)); exact Kd.R_mono (Kd.R_far (p := ⟨a2, 3, none⟩) (Kd.R_far (p := ⟨a2, 2, none⟩) (Kd.R_far (p := ⟨a2, 1, none⟩) (Kd.R_far (p := ⟨a2, 0, none⟩) (Kd.zaV_ g0.out b0.out (by decide)) (fun _ hk => hk.2) (.int .i64 g2)) (fun _ hk => hk.2) (.slice e2 d0.length e3)) (fun _ hk => hk.2) (.slice e4 d4.length e5)) (fun _ hk => hk.2) (.slice g7 e8.length g8)) (fun _ hk => ⟨hk.1.1.1.1.2, ⟨hk.1.1.1.2, ⟨hk.1.1.2, ⟨hk.1.2, hk.1.1.1.1.1⟩⟩⟩⟩)))⟩; have j7 : Aside0 (Kd.S k53 53 j1 w.heap.size (fun k_ => some k_ ≠ (.slice g3 a1.length g4 : Value).ownBlock ∧ some k_ ≠ (.slice d1 c2.length d2 : Value).ownBlock) (.slice g7 e8.length g8) e8) := ⟨(by rw [hw]; exact (by (with_reducible repeat (first | apply Kd.zbg_ | apply Kd.zbi_ | apply Kd.S_drew)); exact Kd.S_mono (Kd.S_far (p := ⟨a2, 3, none⟩) (Kd.S_far (p := ⟨a2, 2, none⟩) (Kd.S_far (p := ⟨a2, 1, none⟩) (Kd.S_far (p := ⟨a2, 0, none⟩) (Kd.zbB_ g1.out b0.out (by decide)) (fun _ hk => hk.2) (.int .i64 g2)) (fun _ hk => hk.2) (.slice e2 d0.length e3)) (fun _ hk => hk.2) (.slice e4 d4.length e5)) (fun _ hk => hk.2) (.slice g7 e8.length g8)) (fun _ hk => ⟨hk.1.1.2, hk.1.2⟩)))⟩; have j4 : Aside0 (j1.heap[a3]? = some (.cells #[.int .i64 d3, .slice d5 b5.length d6, .slice e0 b9.length e1, .slice g3 a1.length g4] 37 (0, 0))) := ⟨(by rw [hw]; exact (by (with_reducible repeat (first | refine zac_ ?_ _ | refine zaf_ ?_ | refine zad_ ?_ _)); refine zaG_ ?_ d8.out _; (with_reducible repeat (first | refine zac_ ?_ _ | refine zaf_ ?_ | refine zad_ ?_ _)); refine zaG_ ?_ d8.out _; (with_reducible repeat (first | refine zac_ ?_ _ | refine zaf_ ?_ | refine zad_ ?_ _)); refine zaG_ ?_ d8.out _; (with_reducible repeat (first | refine zac_ ?_ _ | refine zaf_ ?_ | refine zad_ ?_ _)); refine zaG_ ?_ d8.out _; (with_reducible repeat (first | refine zac_ ?_ _ | refine zaf_ ?_ | refine zad_ ?_ _)); exact a4.out))⟩; have g5 : Aside0 (j1.heap[a0]? = some (.cells #[.int .i64 c3, .slice b7 b1.length b8, .slice c0 b4.length c1, .slice d1 c2.length d2] 37 (0, 0))) := ⟨(by rw [hw]; exact (by (with_reducible repeat (first | refine zac_ ?_ _ | refine zaf_ ?_ | refine zad_ ?_ _)); refine zaG_ ?_ d9.out _; (with_reducible repeat (first | refine zac_ ?_ _ | refine zaf_ ?_ | refine zad_ ?_ _)); refine zaG_ ?_ d9.out _; (with_reducible repeat (first | refine zac_ ?_ _ | refine zaf_ ?_ | refine zad_ ?_ _)); refine zaG_ ?_ d9.out _; (with_reducible repeat (first | refine zac_ ?_ _ | refine zaf_ ?_ | refine zad_ ?_ _)); refine zaG_ ?_ d9.out _; (with_reducible repeat (first | refine zac_ ?_ _ | refine zaf_ ?_ | refine zad_ ?_ _)); exact a5.out))⟩; have g6 : Aside0 (j1.heap[a2]? = some (.cells #[.int .i64 g2, .slice e2 d0.length e3, .slice e4 d4.length e5, .slice g7 e8.length g8] 37 (0, 0))) := ⟨(by rw [hw]; exact (by (with_reducible repeat (first | refine zac_ ?_ _ | refine zaf_ ?_ | refine zad_ ?_ _)); refine zat_ (cs := #[.int .i64 g2, .slice e2 d0.length e3, .slice e4 d4.length e5, .slice none 0 0]) ?_ 3 _ rfl; (with_reducible repeat (first | refine zac_ ?_ _ | refine zaf_ ?_ | refine zad_ ?_ _)); refine zat_ (cs := #[.int .i64 g2, .slice e2 d0.length e3, .slice none 0 0, .slice none 0 0]) ?_ 2 _ rfl; (with_reducible repeat (first | refine zac_ ?_ _ | refine zaf_ ?_ | refine zad_ ?_ _)); refine zat_ (cs := #[.int .i64 g2, .slice none 0 0, .slice none 0 0, .slice none 0 0]) ?_ 1 _ rfl; (with_reducible repeat (first | refine zac_ ?_ _ | refine zaf_ ?_ | refine zad_ ?_ _)); refine zat_ (cs := #[.int .i64 0, .slice none 0 0, .slice none 0 0, .slice none 0 0]) ?_ 0 _ rfl; (with_reducible repeat (first | refine zac_ ?_ _ | refine zaf_ ?_ | refine zad_ ?_ _)); exact b0.out))⟩; have h5 : Aside0 (Below w.heap.size w j1) := ⟨(by rw [hw]; exact (by repeat (first | (with_reducible first | exact HB.out | apply zah_ | apply zae_ | apply zag_ | refine zai_ ?_ e7.out | refine zai_ ?_ h9.out | refine zai_ ?_ m8.out) | exact HB.out)))⟩; clear hw; clear a7; clear a8; clear a6; clear b2; clear b3; clear b6; clear e9; clear g0; clear g1; clear a4; clear a5; clear b0; clear HB; have a7 := h1; have a8 := h2; have a6 := h3; have b2 := h4; have b3 := h7; have b6 := h6; have e9 := h8; have g0 := j0; have g1 := j7; have a4 := j4; have a5 := g5; have b0 := g6; have HB := h5; clear h1 h2 h3 h4 h7 h6 h8 j0 j7 j4 g5 g6 h5; have p5 : j1.cell? ⟨a3, 0, none⟩ = some (.int .i64 d3) := (zab_ a4.out 0).trans rfl; have p6 : j1.cell? ⟨a3, 1, none⟩ = some (.slice d5 b5.length d6) := (zab_ a4.out 1).trans rfl; have p7 : j1.cell? ⟨a3, 2, none⟩ = some (.slice e0 b9.length e1) := (zab_ a4.out 2).trans rfl; have p8 : j1.cell? ⟨a3, 3, none⟩ = some (.slice g3 a1.length g4) := (zab_ a4.out 3).trans rfl; have p9 := zaa_ a4.out 0; have q0 := zaa_ a4.out 1; have q1 := zaa_ a4.out 2; have q2 := zaa_ a4.out 3; have l1 : 0 ≤ (0 : Int) := (by omega); have l2 : 0 < (a1.length : Int) := of_decide_eq_true (by first | (with_reducible assumption) | assumption); obtain ⟨ad301, r2, c301_5, e301, hx301_0, hx301_1, hx301_2, hx301_3, hx301_4, hx301_5, hl301_5, hi301_5⟩ := at_T53 (Kd.zbq_ a6.out).2.2 0 l1 l2; cases e301; obtain ⟨ce301, hce301, hMe301, hcc301⟩ := Kd.S_get a6.out z53 0 l1 (by first | exact l2 | exact of_decide_eq_true (by first | (with_reducible assumption) | assumption) | (have e_ := (Kd.zbq_ a6.out).1; omega)); obtain ⟨ve301_5, rfl, ge301_5⟩ := k53_openM hMe301; have hv301_5 := hcc301 5 _ rfl; rw [add_field _ _ 5 (by omega)] at hv301_5; replace hv301_5 := Option.some.inj (hv301_5.symm.trans hx301_5); rw [hv301_5] at ge301_5; have HL301_5 := Aside0.mk (show Kd.R k50 50 _ _ _ _ ((rd_T53 a1 0).f5) from ge301_5); clear hv301_5 ge301_5; clear hcc301 hce301; have qi301 : (0 < a1.length) = True := eq_true (by omega); (try rw [show ((0 : Int)).toNat = 0 from rfl] at hx301_0); (try rw [show 0 * 6 = 0 from rfl] at hx301_0); (try rw [Addr.add_zero'] at hx301_0); (try rw [show ((0 : Int)).toNat = 0 from rfl] at hx301_1); (try rw [show 0 * 6 = 0 from rfl] at hx301_1); (try rw [Addr.add_zero'] at hx301_1); (try rw [show ((0 : Int)).toNat = 0 from rfl] at hx301_2); (try rw [show 0 * 6 = 0 from rfl] at hx301_2); (try rw [Addr.add_zero'] at hx301_2); (try rw [show ((0 : Int)).toNat = 0 from rfl] at hx301_3); (try rw [show 0 * 6 = 0 from rfl] at hx301_3); (try rw [Addr.add_zero'] at hx301_3); (try rw [show ((0 : Int)).toNat = 0 from rfl] at hx301_4); (try rw [show 0 * 6 = 0 from rfl] at hx301_4); (try rw [Addr.add_zero'] at hx301_4); (try rw [show ((0 : Int)).toNat = 0 from rfl] at hx301_5); (try rw [show 0 * 6 = 0 from rfl] at hx301_5); (try rw [Addr.add_zero'] at hx301_5); have HR301_5 := Aside0.mk hi301_5; have HC301_5 := Aside0.mk hl301_5; clear hi301_5 hl301_5; replace l1 := eq_true l1; replace l2 := eq_true l2; have l3 : 0 ≤ (0 : Int) := (by omega); have l4 : 0 < (a1.length : Int) := of_decide_eq_true (by first | (with_reducible assumption) | assumption); obtain ⟨ad302, r3, c302_5, e302, hx302_0, hx302_1, hx302_2, hx302_3, hx302_4, hx302_5, hl302_5, hi302_5⟩ := at_T53 (Kd.zbq_ a6.out).2.2 0 l3 l4; obtain rfl : ad301 = ad302 := (by injection e302); obtain ⟨ce302, hce302, hMe302, hcc302⟩ := Kd.S_get a6.out z53 0 l3 (by first | exact l4 | exact of_decide_eq_true (by first | (with_reducible assumption) | assumption) | (have e_ := (Kd.zbq_ a6.out).1; omega)); obtain ⟨ve302_5, rfl, ge302_5⟩ := k53_openM hMe302; have hv302_5 := hcc302 5 _ rfl; rw [add_field _ _ 5 (by omega)] at hv302_5; replace hv302_5 := Option.some.inj (hv302_5.symm.trans hx302_5); rw [hv302_5] at ge302_5; have HL302_5 := Aside0.mk (show Kd.R k50 50 _ _ _ _ ((rd_T53 a1 0).f5) from ge302_5); clear hv302_5 ge302_5; clear hcc302 hce302; have qi302 : (0 < a1.length) = True := eq_true (by omega); (try rw [show ((0 : Int)).toNat = 0 from rfl] at hx302_0); (try rw [show 0 * 6 = 0 from rfl] at hx302_0); (try rw [Addr.add_zero'] at hx302_0); (try rw [show ((0 : Int)).toNat = 0 from rfl] at hx302_1); (try rw [show 0 * 6 = 0 from rfl] at hx302_1); (try rw [Addr.add_zero'] at hx302_1); (try rw [show ((0 : Int)).toNat = 0 from rfl] at hx302_2); (try rw [show 0 * 6 = 0 from rfl] at hx302_2); (try rw [Addr.add_zero'] at hx302_2); (try rw [show ((0 : Int)).toNat = 0 from rfl] at hx302_3); (try rw [show 0 * 6 = 0 from rfl] at hx302_3); (try rw [Addr.add_zero'] at hx302_3); (try rw [show ((0 : Int)).toNat = 0 from rfl] at hx302_4); (try rw [show 0 * 6 = 0 from rfl] at hx302_4); (try rw [Addr.add_zero'] at hx302_4); (try rw [show ((0 : Int)).toNat = 0 from rfl] at hx302_5); (try rw [show 0 * 6 = 0 from rfl] at hx302_5); (try rw [Addr.add_zero'] at hx302_5); have HR302_5 := Aside0.mk hi302_5; have HC302_5 := Aside0.mk hl302_5; clear hi302_5 hl302_5; replace l3 := eq_true l3; replace l4 := eq_true l4; have ea_ := Option.some.inj (hx301_5.symm.trans hx302_5); injection ea_ with ea_ en_ ec_; subst ea_; subst ec_; clear en_; have l5 : 0 ≤ (1 : Int) := (by omega); have l6 : 1 < (((rd_T53 a1 0).f5).length : Int) := of_decide_eq_true (by first | (with_reducible assumption) | assumption); obtain ⟨ad303, e303, hx303_0, hx303_1, hx303_2⟩ := at_T50 (by repeat (first | (with_reducible exact HR302_5.out) | (with_reducible refine Kd.zaI_ ?_ _) | (with_reducible refine Kd.zaJ_ ?_ _) | (with_reducible refine Kd.C_drew ?_) | exact HR302_5.out)) 1 l5 l6; cases e303; (try simp only [show (1 : Int).toNat = 1 from rfl, Nat.reduceMul, Nat.reduceEqDiff, Go.Addr.add, ↓reduceIte] at hx303_0); (try simp only [show (1 : Int).toNat = 1 from rfl, Nat.reduceMul, Nat.reduceEqDiff, Go.Addr.add, ↓reduceIte] at hx303_1); (try simp only [show (1 : Int).toNat = 1 from rfl, Nat.reduceMul, Nat.reduceEqDiff, Go.Addr.add, ↓reduceIte] at hx303_2); have qi303 : (1 < ((rd_T53 a1 0).f5).length) = True := eq_true (by omega); (try rw [show ((1 : Int)).toNat = 1 from rfl] at hx303_0); (try rw [show 1 * 3 = 3 from rfl] at hx303_0); (try rw [show ((1 : Int)).toNat = 1 from rfl] at hx303_1); (try rw [show 1 * 3 = 3 from rfl] at hx303_1); (try rw [show ((1 : Int)).toNat = 1 from rfl] at hx303_2); (try rw [show 1 * 3 = 3 from rfl] at hx303_2); replace l5 := eq_true l5; replace l6 := eq_true l6) | (go_at_call 24; (with_reducible refine (zau_.calls k d3 _ _ b5 _ _ b9 _ _ a1 h0 _ ?side1 ?side2 ?side3 ?side4 ?side5 ?side6 ?side7 w2.out).mono ?_); (case side1 => repeat (first | exact (Kd.zaS_ a7.out).2.2 | (with_reducible refine Kd.zaI_ ?_ _) | (with_reducible refine Kd.zaJ_ ?_ _) | (with_reducible refine Kd.C_drew ?_))); (case side2 => exact (Kd.zaS_ a7.out).2.1); (case side3 => repeat (first | exact (Kd.zaS_ a8.out).2.2 | (with_reducible refine Kd.zaI_ ?_ _) | (with_reducible refine Kd.zaJ_ ?_ _) | (with_reducible refine Kd.C_drew ?_))); (case side4 => exact (Kd.zaS_ a8.out).2.1); (case side5 => repeat (first | exact (Kd.zbq_ a6.out).2.2 | (with_reducible refine Kd.zaI_ ?_ _) | (with_reducible refine Kd.zaJ_ ?_ _) | (with_reducible refine Kd.C_drew ?_))); (case side6 => exact (Kd.zbq_ a6.out).2.1); (case side7 => first | exact Glob.below HG.out (HB.out) | (repeat (first | exact Glob.below HG.out HB.out | (with_reducible refine Glob.alloc ?_ _) | (with_reducible refine Glob.drewN ?_ _) | (with_reducible refine Glob.drew ?_)))); rintro e x5 ⟨rfl, hb⟩; have h1 := Aside0.mk (Kd.zaU_ (by (with_reducible repeat (first | apply Kd.zav_ | apply Kd.zaw_ | apply Kd.R_drew)); exact a7.out) hb); have h2 := Aside0.mk (Kd.zaU_ (by (with_reducible repeat (first | apply Kd.zav_ | apply Kd.zaw_ | apply Kd.R_drew)); exact a8.out) hb); have h3 := Aside0.mk (Kd.zbu_ (by (with_reducible repeat (first | apply Kd.zbg_ | apply Kd.zbi_ | apply Kd.S_drew)); exact a6.out) hb); have h4 := Aside0.mk (Kd.zaU_ (by (with_reducible repeat (first | apply Kd.zav_ | apply Kd.zaw_ | apply Kd.R_drew)); exact b2.out) hb); have h7 := Aside0.mk (Kd.zaU_ (by (with_reducible repeat (first | apply Kd.zav_ | apply Kd.zaw_ | apply Kd.R_drew)); exact b3.out) hb); have h6 := Aside0.mk (Kd.zbu_ (by (with_reducible repeat (first | apply Kd.zbg_ | apply Kd.zbi_ | apply Kd.S_drew)); exact b6.out) hb); have h8 := Aside0.mk (Kd.zaU_ (by (with_reducible repeat (first | apply Kd.zav_ | apply Kd.zaw_ | apply Kd.R_drew)); exact e9.out) hb); have j0 := Aside0.mk (Kd.zaU_ (by (with_reducible repeat (first | apply Kd.zav_ | apply Kd.zaw_ | apply Kd.R_drew)); exact g0.out) hb); have j7 := Aside0.mk (Kd.zbu_ (by (with_reducible repeat (first | apply Kd.zbg_ | apply Kd.zbi_ | apply Kd.S_drew)); exact g1.out) hb); have j4 := Aside0.mk (Kd.zaU_ (by (with_reducible repeat (first | apply Kd.zav_ | apply Kd.zaw_ | apply Kd.R_drew)); exact HL301_5.out) hb); have g5 := Aside0.mk (Kd.zaU_ (by (with_reducible repeat (first | apply Kd.zav_ | apply Kd.zaw_ | apply Kd.R_drew)); exact HL302_5.out) hb); have g6 := Aside0.mk (zan_ a4.out hb); have h5 := Aside0.mk (zan_ a5.out hb); have k1 := Aside0.mk (zan_ b0.out hb); have k8 := Aside0.mk (Kd.zaB_ (by repeat (first | (with_reducible exact HR301_5.out) | (with_reducible refine Kd.zaI_ ?_ _) | (with_reducible refine Kd.zaJ_ ?_ _) | (with_reducible refine Kd.C_drew ?_) | exact HR301_5.out)) hb); have k9 := Aside0.mk (Kd.zaB_ (by repeat (first | (with_reducible exact HR302_5.out) | (with_reducible refine Kd.zaI_ ?_ _) | (with_reducible refine Kd.zaJ_ ?_ _) | (with_reducible refine Kd.C_drew ?_) | exact HR302_5.out)) hb); have l0 := Aside0.mk (zaj_ (HB.out) hb); clear a7; clear a8; clear a6; clear b2; clear b3; clear b6; clear e9; clear g0; clear g1; clear HL301_5; clear HL302_5; clear a4; clear a5; clear b0; clear HR301_5; clear HR302_5; clear HB; have a7 := h1; have a8 := h2; have a6 := h3; have b2 := h4; have b3 := h7; have b6 := h6; have e9 := h8; have g0 := j0; have g1 := j7; have HL301_5 := j4; have HL302_5 := g5; have a4 := g6; have a5 := h5; have b0 := k1; have HR301_5 := k8; have HR302_5 := k9; have HB := l0; clear h1 h2 h3 h4 h7 h6 h8 j0 j7 j4 g5 g6 h5 k1 k8 k9 l0; (try clear hb); (try clear hb2); (try clear hk); (try clear hi)))
  go_ret
  exact ⟨by first | rfl | (simp [zal_, zak_] <;> rfl) | (simp [*, zal_, zak_] <;> rfl), HB.out⟩
end Go.Proofs.YtgkjoodlcojkkaaDoor.QD
end
section
namespace Go.Proofs.YtgkjoodlcojkkaaDoor.Y
open Go.RowKit Go.Proofs.YtgkjoodlcojkkaaDoorW.PrintWords Go.Proofs.YtgkjoodlcojkkaaDoorW.PrintLast Go.Proofs.YtgkjoodlcojkkaaDoorW.PrintMore Go.Proofs.YtgkjoodlcojkkaaDoor.QD
set_option linter.unusedVariables false
set_option linter.unusedSimpArgs false
theorem textS_one {n : Nat} (h : n < 10) : textS (n : Int) = [UInt8.ofNat (48 + n)] := by
  rw [textS_val (by omega) (by omega), Int.toNat_natCast, dec_small h]
theorem textS_two {n : Nat} (h0 : 10 ≤ n) (h : n < 100) : textS (n : Int) = [UInt8.ofNat (48 + n / 10), UInt8.ofNat (48 + n % 10)] := by
  rw [textS_val (by omega) (by omega), Int.toNat_natCast, dec_big (by omega), dec_small (by omega)]; rfl
theorem tx0 : textS 0 = [48] := textS_one (n := 0) (by decide)
theorem tx1 : textS 1 = [49] := textS_one (n := 1) (by decide)
theorem tx2 : textS 2 = [50] := textS_one (n := 2) (by decide)
theorem tx3 : textS 3 = [51] := textS_one (n := 3) (by decide)
theorem tx10 : textS 10 = [49, 48] := textS_two (n := 10) (by decide) (by decide)
def kn1 : Bs := [112, 114, 111, 116, 111, 99, 111, 108, 32, 102, 97, 105, 114, 10, 99, 111, 114, 101, 115, 32, 49, 10, 104, 111, 109, 101, 115, 32, 48, 10, 10, 116, 97, 115, 107, 32, 97, 32, 49, 48, 32, 49, 48, 32, 49, 32, 48, 32, 114, 117, 110, 58, 51, 32, 108, 111, 99, 107, 58, 48, 58, 50, 32, 35, 32, 115, 111, 10]
def kn2 : Bs := [112, 114, 111, 116, 111, 99, 111, 108, 32, 102, 97, 105, 114, 10, 99, 111, 114, 101, 115, 32, 49, 10, 104, 111, 109, 101, 115, 32, 48, 10, 116, 97, 115, 107, 32, 97, 32, 49, 48, 32, 49, 48, 32, 49, 32, 48, 32, 108, 111, 99, 107, 58, 48, 58, 108, 111, 99, 107, 58, 48, 58, 50, 10]
def kn3 : Bs := [99, 111, 114, 101, 115, 32, 49, 10]
def knT : S53 := ⟨B [97], 10, 10, 1, 0, [⟨1, 3, 0⟩, ⟨3, 2, 0⟩]⟩
theorem kn1_eq : parseS kn1 = (1, [1], [0], [knT], 5, 0) := by kernel_rfl
theorem kn2_eq : parseS kn2 = (0, [], [], [], 3, 18) := by kernel_rfl
theorem kn3_eq : parseS kn3 = (0, [], [], [], 0, 10) := by kernel_rfl
theorem knP_ok : (checkS 1 [1] [0] [knT]).2 = 0 := by kernel_rfl
theorem knP_eq : printS 1 [1] [0] [knT] = [112, 114, 111, 116, 111, 99, 111, 108, 32, 102, 97, 105, 114, 10, 99, 111, 114, 101, 115, 32, 49, 10, 104, 111, 109, 101, 115, 32, 48, 10, 116, 97, 115, 107, 32, 97, 32, 49, 48, 32, 49, 48, 32, 49, 32, 48, 32, 114, 117, 110, 58, 51, 32, 108, 111, 99, 107, 58, 48, 58, 50, 10] := by
  unfold printS
  rw [if_pos knP_ok]
  have e1 : setWs 1 [1] [0] [knT] = [[protocolB, protoW 1], [coresB, textS 1], [homesB, textS 0], [taskB, [97], textS 10, textS 10, textS 1, textS 0, runB ++ 58 :: textS 3, lockW ++ 58 :: (textS 0 ++ 58 :: textS 2)]] := by kernel_rfl
  rw [e1, tx0, tx1, tx2, tx3, tx10]
  decide
theorem known9_eq (k : Nat) (hk : 20000 < k) (hk2 : k < 9223372036854775807) : zbw_.f k = some true := by
  unfold zbw_.f
  have p1 := parse_eq kn1 (by decide) k hk hk2
  have p2 := parse_eq kn2 (by decide) k hk hk2
  have p3 := parse_eq kn3 (by decide) k hk hk2
  have p4 := print_eq 1 [1] [0] [knT] 100 (fun t ht => by
    have : t = knT := by simpa using ht
    subst this
    exact ⟨by show (1 : Nat) < 100; decide, by show 3 * 2 < 100; decide⟩) k (by omega) hk2
  rw [kn1_eq] at p1
  rw [kn2_eq] at p2
  rw [kn3_eq] at p3
  rw [knP_eq] at p4
  unfold kn1 at p1
  unfold kn2 at p2
  unfold kn3 at p3
  unfold B at p1 p2 p3
  rw [p1, Option.bind_some, p2, Option.bind_some, p3, Option.bind_some]
  rw [if_pos (show (0 : Int) = 0 from rfl), if_pos (show (5 : Int) = 5 from rfl), if_pos (show (([knT] : List S53).length : Int) = 1 from rfl), if_pos (show 0 < (([knT] : List S53).length : Int) by decide),
    if_pos (show (((rd_T53 [knT] 0).f5).length : Int) = 2 from rfl), if_pos (show 1 < (((rd_T53 [knT] 0).f5).length : Int) by decide), if_pos (show (((rd_T50 ((rd_T53 [knT] 0).f5) 1).f0) == 3 && (((rd_T50 ((rd_T53 [knT] 0).f5) 1).f1) == 2 && (((rd_T50 ((rd_T53 [knT] 0).f5) 1).f2) == 0))) = true from rfl),
    if_pos (show (18 : Int) = 18 from rfl), if_pos (show (3 : Int) = 3 from rfl), if_pos (show (10 : Int) = 10 from rfl), if_pos (show (0 : Int) = 0 from rfl)]
  have p4' : zau_.f k 1 [1] [0] [knT] = some (B [112, 114, 111, 116, 111, 99, 111, 108, 32, 102, 97, 105, 114, 10, 99, 111, 114, 101, 115, 32, 49, 10, 104, 111, 109, 101, 115, 32, 48, 10, 116, 97, 115, 107, 32, 97, 32, 49, 48, 32, 49, 48, 32, 49, 32, 48, 32, 114, 117, 110, 58, 51, 32, 108, 111, 99, 107, 58, 48, 58, 50, 10]) := p4
  rw [p4', Option.bind_some, toList_B]
  rfl
end Go.Proofs.YtgkjoodlcojkkaaDoor.Y
end
section
namespace Go.Proofs.YtgkjoodlcojkkaaDoor.QD
open Go.RowKit Go.Proofs.YtgkjoodlcojkkaaDoorW.PrintWords Go.Proofs.YtgkjoodlcojkkaaDoorW.PrintLast Go.Proofs.YtgkjoodlcojkkaaDoorW.PrintMore
attribute [local go_sem] zbd_ zbe_ zbm_ zbl_ zaW_ zaX_ zbc_ zbb_
set_option linter.unusedVariables false
set_option linter.unusedSimpArgs false
def zaK_.l0 : Nat → List Int → List Int → Int → Option (Bool)
  | 0, _, _, _ => none
  | k + 1, x0, x1, x5 => if x5 < (x0.length : Int) then (if 0 ≤ x5 then (if x5 < (x1.length : Int) then (if (rd x0 x5) = (rd x1 x5) then (zaK_.l0 k x0 x1 (wrap64 (x5 + 1))) else (some false)) else (none)) else (none)) else (some true)
def zaK_.f (k : Nat) (l0 : List Int) (l1 : List Int) : Option (Bool) := if (l0.length : Int) = (l1.length : Int) then (zaK_.l0 k l0 l1 0) else (some false)
theorem zaK_.mono_l : ∀ k, (∀ y0 y1 y2, LeO (zaK_.l0 k y0 y1 y2) (zaK_.l0 (k + 1) y0 y1 y2))
  | 0 => fun _ _ _ r h => by simp [zaK_.l0] at h
  | k + 1 => by
    have ih0 := zaK_.mono_l k
    · intro y0 y1 y2
      unfold zaK_.l0
      repeat' first
      | (with_reducible exact ih0 _ _ _)
      | (with_reducible exact LeO.refl _)
      | (with_reducible exact LeO.none _)
      | (with_reducible refine LeO.ite ?_ ?_)
      | (with_reducible refine LeO.bind ?_ (fun _ => ?_))
      | exact ih0 _ _ _
      | exact LeO.none _
      | refine LeO.ite ?_ ?_
      | refine LeO.bind ?_ (fun _ => ?_)
theorem zaK_.mono : ∀ a0 a1 k, LeO (zaK_.f k a0 a1) (zaK_.f (k + 1) a0 a1) := by
  intro a0 a1 k
  have ih0 := zaK_.mono_l k
  unfold zaK_.f
  repeat' first
      | (with_reducible exact ih0 _ _ _)
      | (with_reducible exact LeO.refl _)
      | (with_reducible exact LeO.none _)
      | (with_reducible refine LeO.ite ?_ ?_)
      | (with_reducible refine LeO.bind ?_ (fun _ => ?_))
      | exact ih0 _ _ _
      | exact LeO.none _
      | refine LeO.ite ?_ ?_
      | refine LeO.bind ?_ (fun _ => ?_)
set_option maxHeartbeats 8000000 in
set_option maxRecDepth 100000 in
theorem zaK_.calls (k : Nat) (A0 : Option Addr) (c0 : Nat) (l0 : List Int) (A1 : Option Addr) (c1 : Nat) (l1 : List Int) (r : Bool) (w : World) (hr0 : Kd.C (Kd.int .i64) w A0 l0.length l0) (hc0 : l0.length ≤ c0) (hr1 : Kd.C (Kd.int .i64) w A1 l1.length l1) (hc1 : l1.length ≤ c1) (h : zaK_.f k l0 l1 = some r) :
    Calls Tryd.prog 43 #[.slice A0 l0.length c0, .slice A1 l1.length c1] w fun e w' => e = .returned (.bool r) ∧ Drawn0 w w' := by
  have b3 := Aside0.mk hr0
  have HC0 := Aside0.mk hc0
  clear hr0 hc0
  have b4 := Aside0.mk hr1
  have HC1 := Aside0.mk hc1
  clear hr1 hc1
  have H : (if (l0.length : Int) = (l1.length : Int) then (zaK_.l0 k l0 l1 0) else (some false)) = some r := h
  clear h
  by_cases c3 : (l0.length : Int) = (l1.length : Int)
  rotate_left
  · rw [if_neg c3] at H
    have a7 : ((l0.length : Int) == (l1.length : Int)) = false := beq_eq_false_iff_ne.mpr c3
    have a8 : ((l0.length : Int) != (l1.length : Int)) = true := bne_iff_ne.mpr c3
    have a9 : (l0.length == l1.length) = false := by first | simpa using c3 | (simp at c3 ⊢; omega)
    obtain rfl := Option.some.inj H
    go_enter Tryd.func43, Tryd.ntmps43
    go_wp2
    repeat (go_quiet (fail); try go_wp2)
    go_ret
    exact ⟨by first | rfl | (simp; done) | (simp [*]; done), by repeat (first | exact Drawn0.refl _ | apply Drawn0.step)⟩
  rw [if_pos c3] at H
  have a7 : ((l0.length : Int) == (l1.length : Int)) = true := beq_iff_eq.mpr c3
  have a8 : ((l0.length : Int) != (l1.length : Int)) = false := bne_eq_false_iff_eq.mpr c3
  have a9 : (l0.length == l1.length) = true := by first | simpa using c3 | (simp at c3 ⊢; omega)
  clear c3
  have H' := Aside0.mk H
  clear H
  go_enter Tryd.func43, Tryd.ntmps43
  go_wp2
  repeat (go_quiet (fail); try go_wp2)
  go_loopg [5] k (fun kq v5 w' => ∃ (a2 : Int), v5 = .int .i64 a2 ∧ Aside0 (zaK_.l0 kq l0 l1 a2 = some r) ∧ Aside0 (kq ≤ k) ∧ Drawn0 w w')
  case atStart => exact ⟨(0), (by first | rfl | (simp; done) | (simp [*]; done)), H', ⟨Nat.le_refl _⟩, by repeat (first | exact Drawn0.refl _ | apply Drawn0.step)⟩
  clear H'
  obtain ⟨a2, rfl, HA, b5, ⟨m1, rfl⟩⟩ := hrel
  cases gk with
  | zero => exact absurd HA.out (by simp [zaK_.l0])
  | succ k1 => ?_
  have H := HA.out
  clear HA
  simp only [zaK_.l0] at H
  by_cases c4 : a2 < (l0.length : Int)
  rotate_left
  · rw [if_neg c4] at H
    have b0 : decide (a2 < (l0.length : Int)) = false := decide_eq_false c4
    clear c4
    obtain rfl := Option.some.inj H
    go_wp2
    repeat (go_quiet (fail); try go_wp2)
    go_ret
    exact ⟨by first | rfl | (simp; done) | (simp [*]; done), by repeat (first | exact Drawn0.refl _ | apply Drawn0.step)⟩
  rw [if_pos c4] at H
  have b0 : decide (a2 < (l0.length : Int)) = true := decide_eq_true c4
  clear c4
  by_cases c5 : 0 ≤ a2
  rotate_left
  · rw [if_neg c5] at H
    exact absurd H (by simp)
  rw [if_pos c5] at H
  have b6 : decide (0 ≤ a2) = true := decide_eq_true c5
  clear c5
  by_cases c6 : a2 < (l1.length : Int)
  rotate_left
  · rw [if_neg c6] at H
    exact absurd H (by simp)
  rw [if_pos c6] at H
  have b7 : decide (a2 < (l1.length : Int)) = true := decide_eq_true c6
  clear c6
  by_cases c7 : (rd l0 a2) = (rd l1 a2)
  rotate_left
  · rw [if_neg c7] at H
    have b1 : ((rd l0 a2) == (rd l1 a2)) = false := beq_eq_false_iff_ne.mpr c7
    have b2 : ((rd l0 a2) != (rd l1 a2)) = true := bne_iff_ne.mpr c7
    obtain rfl := Option.some.inj H
    have a3 : 0 ≤ (a2 : Int) := of_decide_eq_true (by first | (with_reducible assumption) | assumption)
    have a4 : a2 < (l0.length : Int) := of_decide_eq_true (by first | (with_reducible assumption) | assumption)
    obtain ⟨ad329, e329, hx329_0⟩ := Kd.at_int b3.out a2 a3 a4
    cases e329
    replace a3 := eq_true a3
    replace a4 := eq_true a4
    have a5 : 0 ≤ (a2 : Int) := of_decide_eq_true (by first | (with_reducible assumption) | assumption)
    have a6 : a2 < (l1.length : Int) := of_decide_eq_true (by first | (with_reducible assumption) | assumption)
    obtain ⟨ad330, e330, hx330_0⟩ := Kd.at_int b4.out a2 a5 a6
    cases e330
    replace a5 := eq_true a5
    replace a6 := eq_true a6
    go_wp2
    repeat (go_quiet (fail); try go_wp2)
    go_ret
    exact ⟨by first | rfl | (simp; done) | (simp [*]; done), by repeat (first | exact Drawn0.refl _ | apply Drawn0.step)⟩
  rw [if_pos c7] at H
  have b1 : ((rd l0 a2) == (rd l1 a2)) = true := beq_iff_eq.mpr c7
  have b2 : ((rd l0 a2) != (rd l1 a2)) = false := bne_eq_false_iff_eq.mpr c7
  clear c7
  have H' := Aside0.mk H
  clear H
  have a3 : 0 ≤ (a2 : Int) := of_decide_eq_true (by first | (with_reducible assumption) | assumption)
  have a4 : a2 < (l0.length : Int) := of_decide_eq_true (by first | (with_reducible assumption) | assumption)
  obtain ⟨ad329, e329, hx329_0⟩ := Kd.at_int b3.out a2 a3 a4
  cases e329
  replace a3 := eq_true a3
  replace a4 := eq_true a4
  have a5 : 0 ≤ (a2 : Int) := of_decide_eq_true (by first | (with_reducible assumption) | assumption)
  have a6 : a2 < (l1.length : Int) := of_decide_eq_true (by first | (with_reducible assumption) | assumption)
  obtain ⟨ad330, e330, hx330_0⟩ := Kd.at_int b4.out a2 a5 a6
  cases e330
  replace a5 := eq_true a5
  replace a6 := eq_true a6
  go_wp2
  repeat (go_quiet (fail); try go_wp2)
  go_roundg k1
  case measure => have := b5.out; omega
  case rel => exact ⟨(wrap64 (a2 + 1)), (by first | rfl | (simp; done) | (simp [*]; done)), H', ⟨by have := b5.out; omega⟩, by repeat (first | exact Drawn0.refl _ | apply Drawn0.step)⟩
end Go.Proofs.YtgkjoodlcojkkaaDoor.QD
end
section
namespace Go.Proofs.YtgkjoodlcojkkaaDoor.QD
open Go.RowKit Go.Proofs.YtgkjoodlcojkkaaDoorW.PrintWords Go.Proofs.YtgkjoodlcojkkaaDoorW.PrintLast Go.Proofs.YtgkjoodlcojkkaaDoorW.PrintMore
attribute [local go_sem] zbd_ zbe_ zbm_ zbl_ zaW_ zaX_ zbc_ zbb_
set_option linter.unusedVariables false
set_option linter.unusedSimpArgs false
attribute [local go_sem high] eqA50
mutual
def zaz_.j0 : Nat → Bool → ByteArray → Int → Int → Int → Int → List (S50) → ByteArray → Int → Int → Int → Int → List (S50) → Option (Bool)
  | 0, _, _, _, _, _, _, _, _, _, _, _, _, _ => none
  | k + 1, x47, e0, e1, e2, e3, e4, d4, e5, e6, e7, e8, e9, d5 => if x47 = true then (some false) else (zaz_.l0 k 0 e0 e1 e2 e3 e4 d4 e5 e6 e7 e8 e9 d5)
def zaz_.l0 : Nat → Int → ByteArray → Int → Int → Int → Int → List (S50) → ByteArray → Int → Int → Int → Int → List (S50) → Option (Bool)
  | 0, _, _, _, _, _, _, _, _, _, _, _, _, _ => none
  | k + 1, x5, e0, e1, e2, e3, e4, d4, e5, e6, e7, e8, e9, d5 => if x5 < (d4.length : Int) then (if 0 ≤ x5 then (if x5 < (d5.length : Int) then (if (!(((rd_T50 d4 x5).f0) == ((rd_T50 d5 x5).f0)) || (!(((rd_T50 d4 x5).f1) == ((rd_T50 d5 x5).f1)) || (!(((rd_T50 d4 x5).f2) == ((rd_T50 d5 x5).f2))))) = true then (some false) else (zaz_.l0 k (wrap64 (x5 + 1)) e0 e1 e2 e3 e4 d4 e5 e6 e7 e8 e9 d5)) else (none)) else (none)) else (some true)
end
def zaz_.f (k : Nat) (b6 : ByteArray) (b7 : Int) (b8 : Int) (b9 : Int) (c0 : Int) (b4 : List (S50)) (c4 : ByteArray) (c5 : Int) (c7 : Int) (c8 : Int) (c9 : Int) (b5 : List (S50)) : Option (Bool) := if b6.toList = c4.toList then (if b7 = c5 then (if b8 = c7 then (if b9 = c8 then (if c0 = c9 then (zaz_.j0 k ((b4.length : Int) != (b5.length : Int)) b6 b7 b8 b9 c0 b4 c4 c5 c7 c8 c9 b5) else (zaz_.j0 k true b6 b7 b8 b9 c0 b4 c4 c5 c7 c8 c9 b5)) else (zaz_.j0 k true b6 b7 b8 b9 c0 b4 c4 c5 c7 c8 c9 b5)) else (zaz_.j0 k true b6 b7 b8 b9 c0 b4 c4 c5 c7 c8 c9 b5)) else (zaz_.j0 k true b6 b7 b8 b9 c0 b4 c4 c5 c7 c8 c9 b5)) else (zaz_.j0 k true b6 b7 b8 b9 c0 b4 c4 c5 c7 c8 c9 b5)
theorem zaz_.mono_l : ∀ k, (∀ y0 y1 y2 y3 y4 y5 y6 y7 y8 y9 y10 y11 y12, LeO (zaz_.j0 k y0 y1 y2 y3 y4 y5 y6 y7 y8 y9 y10 y11 y12) (zaz_.j0 (k + 1) y0 y1 y2 y3 y4 y5 y6 y7 y8 y9 y10 y11 y12)) ∧ (∀ y0 y1 y2 y3 y4 y5 y6 y7 y8 y9 y10 y11 y12, LeO (zaz_.l0 k y0 y1 y2 y3 y4 y5 y6 y7 y8 y9 y10 y11 y12) (zaz_.l0 (k + 1) y0 y1 y2 y3 y4 y5 y6 y7 y8 y9 y10 y11 y12))
  | 0 => ⟨fun _ _ _ _ _ _ _ _ _ _ _ _ _ r h => by simp [zaz_.j0] at h, fun _ _ _ _ _ _ _ _ _ _ _ _ _ r h => by simp [zaz_.l0] at h⟩
  | k + 1 => by
    obtain ⟨ih0, ih1⟩ := zaz_.mono_l k
    refine ⟨?_, ?_⟩
    · intro y0 y1 y2 y3 y4 y5 y6 y7 y8 y9 y10 y11 y12
      unfold zaz_.j0
      repeat' first
      | (with_reducible exact ih0 _ _ _ _ _ _ _ _ _ _ _ _ _)
      | (with_reducible exact ih1 _ _ _ _ _ _ _ _ _ _ _ _ _)
      | (with_reducible exact LeO.refl _)
      | (with_reducible exact LeO.none _)
      | (with_reducible refine LeO.ite ?_ ?_)
      | (with_reducible refine LeO.bind ?_ (fun _ => ?_))
      | exact ih0 _ _ _ _ _ _ _ _ _ _ _ _ _
      | exact ih1 _ _ _ _ _ _ _ _ _ _ _ _ _
      | exact LeO.none _
      | refine LeO.ite ?_ ?_
      | refine LeO.bind ?_ (fun _ => ?_)
    · intro y0 y1 y2 y3 y4 y5 y6 y7 y8 y9 y10 y11 y12
      unfold zaz_.l0
      repeat' first
      | (with_reducible exact ih0 _ _ _ _ _ _ _ _ _ _ _ _ _)
      | (with_reducible exact ih1 _ _ _ _ _ _ _ _ _ _ _ _ _)
      | (with_reducible exact LeO.refl _)
      | (with_reducible exact LeO.none _)
      | (with_reducible refine LeO.ite ?_ ?_)
      | (with_reducible refine LeO.bind ?_ (fun _ => ?_))
      | exact ih0 _ _ _ _ _ _ _ _ _ _ _ _ _
      | exact ih1 _ _ _ _ _ _ _ _ _ _ _ _ _
      | exact LeO.none _
      | refine LeO.ite ?_ ?_
      | refine LeO.bind ?_ (fun _ => ?_)
theorem zaz_.mono : ∀ a0 a1 a2 a3 a4 a5 a6 a7 a8 a9 a10 a11 k, LeO (zaz_.f k a0 a1 a2 a3 a4 a5 a6 a7 a8 a9 a10 a11) (zaz_.f (k + 1) a0 a1 a2 a3 a4 a5 a6 a7 a8 a9 a10 a11) := by
  intro a0 a1 a2 a3 a4 a5 a6 a7 a8 a9 a10 a11 k
  obtain ⟨ih0, ih1⟩ := zaz_.mono_l k
  unfold zaz_.f
  repeat' first
      | (with_reducible exact ih0 _ _ _ _ _ _ _ _ _ _ _ _ _)
      | (with_reducible exact ih1 _ _ _ _ _ _ _ _ _ _ _ _ _)
      | (with_reducible exact LeO.refl _)
      | (with_reducible exact LeO.none _)
      | (with_reducible refine LeO.ite ?_ ?_)
      | (with_reducible refine LeO.bind ?_ (fun _ => ?_))
      | exact ih0 _ _ _ _ _ _ _ _ _ _ _ _ _
      | exact ih1 _ _ _ _ _ _ _ _ _ _ _ _ _
      | exact LeO.none _
      | refine LeO.ite ?_ ?_
      | refine LeO.bind ?_ (fun _ => ?_)
set_option maxHeartbeats 8000000 in
set_option maxRecDepth 100000 in
theorem zaz_.calls (k : Nat) (b6 : ByteArray) (b7 : Int) (b8 : Int) (b9 : Int) (c0 : Int) (d1 : Option Addr) (d2 : Nat) (b4 : List (S50)) (c4 : ByteArray) (c5 : Int) (c7 : Int) (c8 : Int) (c9 : Int) (d6 : Option Addr) (d7 : Nat) (b5 : List (S50)) (r : Bool) (w : World) (g8 : Kd.C k50 w d1 b4.length b4) (g9 : b4.length ≤ d2) (h0 : Kd.C k50 w d6 b5.length b5) (h1 : b5.length ≤ d7) (h : zaz_.f k b6 b7 b8 b9 c0 b4 c4 c5 c7 c8 c9 b5 = some r) :
    Calls Tryd.prog 44 #[.agg #[.string b6, .int .i64 b7, .int .i64 b8, .int .i64 b9, .int .i64 c0, .slice d1 b4.length d2], .agg #[.string c4, .int .i64 c5, .int .i64 c7, .int .i64 c8, .int .i64 c9, .slice d6 b5.length d7]] w fun e w' => e = .returned (.bool r) ∧ Below w.heap.size w w' := by
  have hu53 := Tryd.underlying53
  have hu50 := Tryd.underlying50
  have HR0_5 := Aside0.mk g8
  have HC0_5 := Aside0.mk g9
  clear g8 g9
  have HR1_5 := Aside0.mk h0
  have HC1_5 := Aside0.mk h1
  clear h0 h1
  have HB := Aside0.mk (Below.refl w.heap.size w)
  have H : (if b6.toList = c4.toList then (if b7 = c5 then (if b8 = c7 then (if b9 = c8 then (if c0 = c9 then (zaz_.j0 k ((b4.length : Int) != (b5.length : Int)) b6 b7 b8 b9 c0 b4 c4 c5 c7 c8 c9 b5) else (zaz_.j0 k true b6 b7 b8 b9 c0 b4 c4 c5 c7 c8 c9 b5)) else (zaz_.j0 k true b6 b7 b8 b9 c0 b4 c4 c5 c7 c8 c9 b5)) else (zaz_.j0 k true b6 b7 b8 b9 c0 b4 c4 c5 c7 c8 c9 b5)) else (zaz_.j0 k true b6 b7 b8 b9 c0 b4 c4 c5 c7 c8 c9 b5)) else (zaz_.j0 k true b6 b7 b8 b9 c0 b4 c4 c5 c7 c8 c9 b5)) = some r := h
  clear h
  have HC3 := Aside0.mk H
  clear H
  go_enter Tryd.func44, Tryd.ntmps44
  go_upto_region 1 with (first | ((with_reducible refine zaL_ (N := 2) rfl ?_); (try (refine zaF_ (by rfl) ?_; dsimp only)); refine zaD_ ?hg (N := 2) ?hd (cs := #[.string b6, .int .i64 b7, .int .i64 b8, .int .i64 b9, .int .i64 c0, .slice d1 b4.length d2]) (t := 53) ?hr ?_; (case hd => rfl); (case hg => rfl); (case hr => first | (go_simp; done) | (go_simp; rfl)); intro b2 hg w4 hbox hb; have g0 := Aside0.mk (zaj_ (by repeat (first | (with_reducible first | exact HB.out | apply zah_ | apply zae_ | apply zag_) | exact HB.out)) hb); have g1 := Aside0.mk (hbox); have d8 := Aside0.mk ((by rw [hg]; exact (zam_ (by repeat (first | (with_reducible first | exact HB.out | apply zah_ | apply zae_ | apply zag_) | exact HB.out))) : w.heap.size ≤ b2)); have d9 := d8; clear HB; have HB := g0; have b0 := g1; have h2 := d8; have d0 := d9; clear g0 g1 d8 d9; clear hb hbox hg) | ((with_reducible refine zaL_ (N := 3) rfl ?_); (try (refine zaF_ (by rfl) ?_; dsimp only)); refine zaD_ ?hg (N := 3) ?hd (cs := #[.string c4, .int .i64 c5, .int .i64 c7, .int .i64 c8, .int .i64 c9, .slice d6 b5.length d7]) (t := 53) ?hr ?_; (case hd => rfl); (case hg => rfl); (case hr => first | (go_simp; done) | (go_simp; rfl)); intro b3 hg w5 hbox hb; have g0 := Aside0.mk (zan_ (g := b2) (o := .cells #[.string b6, .int .i64 b7, .int .i64 b8, .int .i64 b9, .int .i64 c0, .slice d1 b4.length d2] 53 (0, 0)) (by (with_reducible repeat (first | refine zac_ ?_ _ | refine zaf_ ?_ | refine zad_ ?_ _)); exact b0.out) hb); have g1 := Aside0.mk (zaj_ (by repeat (first | (with_reducible first | exact HB.out | apply zah_ | apply zae_ | apply zag_ | refine zai_ ?_ d0.out) | exact HB.out)) hb); have d8 := Aside0.mk (hbox); have d9 := Aside0.mk ((by rw [hg]; exact (zam_ (by repeat (first | (with_reducible first | exact HB.out | apply zah_ | apply zae_ | apply zag_ | refine zai_ ?_ d0.out) | exact HB.out))) : w.heap.size ≤ b3)); have h3 := d9; have h4 := Aside0.mk ((by rw [hg]; exact Nat.ne_of_lt (blk_lt (g := b2) (o := .cells #[.string b6, .int .i64 b7, .int .i64 b8, .int .i64 b9, .int .i64 c0, .slice d1 b4.length d2] 53 (0, 0)) (by (with_reducible repeat (first | refine zac_ ?_ _ | refine zaf_ ?_ | refine zad_ ?_ _)); exact b0.out)) : b2 ≠ b3)); have h5 := Aside0.mk ((by rw [hg]; exact Nat.ne_of_gt (blk_lt (g := b2) (o := .cells #[.string b6, .int .i64 b7, .int .i64 b8, .int .i64 b9, .int .i64 c0, .slice d1 b4.length d2] 53 (0, 0)) (by (with_reducible repeat (first | refine zac_ ?_ _ | refine zaf_ ?_ | refine zad_ ?_ _)); exact b0.out)) : b3 ≠ b2)); clear b0; clear HB; have b0 := g0; have HB := g1; have b1 := d8; have h6 := d9; have d3 := h3; have c1 := h4; have c2 := h5; clear g0 g1 d8 d9 h3 h4 h5; clear hb hbox hg))
  repeat (go_quiet (first | ((with_reducible refine zaL_ (N := 2) rfl ?_); (try (refine zaF_ (by rfl) ?_; dsimp only)); refine zaD_ ?hg (N := 2) ?hd (cs := #[.string b6, .int .i64 b7, .int .i64 b8, .int .i64 b9, .int .i64 c0, .slice d1 b4.length d2]) (t := 53) ?hr ?_; (case hd => rfl); (case hg => rfl); (case hr => first | (go_simp; done) | (go_simp; rfl)); intro b2 hg w4 hbox hb; have g0 := Aside0.mk (zaj_ (by repeat (first | (with_reducible first | exact HB.out | apply zah_ | apply zae_ | apply zag_) | exact HB.out)) hb); have g1 := Aside0.mk (hbox); have d8 := Aside0.mk ((by rw [hg]; exact (zam_ (by repeat (first | (with_reducible first | exact HB.out | apply zah_ | apply zae_ | apply zag_) | exact HB.out))) : w.heap.size ≤ b2)); have d9 := d8; clear HB; have HB := g0; have b0 := g1; have h2 := d8; have d0 := d9; clear g0 g1 d8 d9; clear hb hbox hg) | ((with_reducible refine zaL_ (N := 3) rfl ?_); (try (refine zaF_ (by rfl) ?_; dsimp only)); refine zaD_ ?hg (N := 3) ?hd (cs := #[.string c4, .int .i64 c5, .int .i64 c7, .int .i64 c8, .int .i64 c9, .slice d6 b5.length d7]) (t := 53) ?hr ?_; (case hd => rfl); (case hg => rfl); (case hr => first | (go_simp; done) | (go_simp; rfl)); intro b3 hg w5 hbox hb; have g0 := Aside0.mk (zan_ (g := b2) (o := .cells #[.string b6, .int .i64 b7, .int .i64 b8, .int .i64 b9, .int .i64 c0, .slice d1 b4.length d2] 53 (0, 0)) (by (with_reducible repeat (first | refine zac_ ?_ _ | refine zaf_ ?_ | refine zad_ ?_ _)); exact b0.out) hb); have g1 := Aside0.mk (zaj_ (by repeat (first | (with_reducible first | exact HB.out | apply zah_ | apply zae_ | apply zag_ | refine zai_ ?_ d0.out) | exact HB.out)) hb); have d8 := Aside0.mk (hbox); have d9 := Aside0.mk ((by rw [hg]; exact (zam_ (by repeat (first | (with_reducible first | exact HB.out | apply zah_ | apply zae_ | apply zag_ | refine zai_ ?_ d0.out) | exact HB.out))) : w.heap.size ≤ b3)); have h3 := d9; have h4 := Aside0.mk ((by rw [hg]; exact Nat.ne_of_lt (blk_lt (g := b2) (o := .cells #[.string b6, .int .i64 b7, .int .i64 b8, .int .i64 b9, .int .i64 c0, .slice d1 b4.length d2] 53 (0, 0)) (by (with_reducible repeat (first | refine zac_ ?_ _ | refine zaf_ ?_ | refine zad_ ?_ _)); exact b0.out)) : b2 ≠ b3)); have h5 := Aside0.mk ((by rw [hg]; exact Nat.ne_of_gt (blk_lt (g := b2) (o := .cells #[.string b6, .int .i64 b7, .int .i64 b8, .int .i64 b9, .int .i64 c0, .slice d1 b4.length d2] 53 (0, 0)) (by (with_reducible repeat (first | refine zac_ ?_ _ | refine zaf_ ?_ | refine zad_ ?_ _)); exact b0.out)) : b3 ≠ b2)); clear b0; clear HB; have b0 := g0; have HB := g1; have b1 := d8; have h6 := d9; have d3 := h3; have c1 := h4; have c2 := h5; clear g0 g1 d8 d9 h3 h4 h5; clear hb hbox hg)); go_upto_region 1 with (first | ((with_reducible refine zaL_ (N := 2) rfl ?_); (try (refine zaF_ (by rfl) ?_; dsimp only)); refine zaD_ ?hg (N := 2) ?hd (cs := #[.string b6, .int .i64 b7, .int .i64 b8, .int .i64 b9, .int .i64 c0, .slice d1 b4.length d2]) (t := 53) ?hr ?_; (case hd => rfl); (case hg => rfl); (case hr => first | (go_simp; done) | (go_simp; rfl)); intro b2 hg w4 hbox hb; have g0 := Aside0.mk (zaj_ (by repeat (first | (with_reducible first | exact HB.out | apply zah_ | apply zae_ | apply zag_) | exact HB.out)) hb); have g1 := Aside0.mk (hbox); have d8 := Aside0.mk ((by rw [hg]; exact (zam_ (by repeat (first | (with_reducible first | exact HB.out | apply zah_ | apply zae_ | apply zag_) | exact HB.out))) : w.heap.size ≤ b2)); have d9 := d8; clear HB; have HB := g0; have b0 := g1; have h2 := d8; have d0 := d9; clear g0 g1 d8 d9; clear hb hbox hg) | ((with_reducible refine zaL_ (N := 3) rfl ?_); (try (refine zaF_ (by rfl) ?_; dsimp only)); refine zaD_ ?hg (N := 3) ?hd (cs := #[.string c4, .int .i64 c5, .int .i64 c7, .int .i64 c8, .int .i64 c9, .slice d6 b5.length d7]) (t := 53) ?hr ?_; (case hd => rfl); (case hg => rfl); (case hr => first | (go_simp; done) | (go_simp; rfl)); intro b3 hg w5 hbox hb; have g0 := Aside0.mk (zan_ (g := b2) (o := .cells #[.string b6, .int .i64 b7, .int .i64 b8, .int .i64 b9, .int .i64 c0, .slice d1 b4.length d2] 53 (0, 0)) (by (with_reducible repeat (first | refine zac_ ?_ _ | refine zaf_ ?_ | refine zad_ ?_ _)); exact b0.out) hb); have g1 := Aside0.mk (zaj_ (by repeat (first | (with_reducible first | exact HB.out | apply zah_ | apply zae_ | apply zag_ | refine zai_ ?_ d0.out) | exact HB.out)) hb); have d8 := Aside0.mk (hbox); have d9 := Aside0.mk ((by rw [hg]; exact (zam_ (by repeat (first | (with_reducible first | exact HB.out | apply zah_ | apply zae_ | apply zag_ | refine zai_ ?_ d0.out) | exact HB.out))) : w.heap.size ≤ b3)); have h3 := d9; have h4 := Aside0.mk ((by rw [hg]; exact Nat.ne_of_lt (blk_lt (g := b2) (o := .cells #[.string b6, .int .i64 b7, .int .i64 b8, .int .i64 b9, .int .i64 c0, .slice d1 b4.length d2] 53 (0, 0)) (by (with_reducible repeat (first | refine zac_ ?_ _ | refine zaf_ ?_ | refine zad_ ?_ _)); exact b0.out)) : b2 ≠ b3)); have h5 := Aside0.mk ((by rw [hg]; exact Nat.ne_of_gt (blk_lt (g := b2) (o := .cells #[.string b6, .int .i64 b7, .int .i64 b8, .int .i64 b9, .int .i64 c0, .slice d1 b4.length d2] 53 (0, 0)) (by (with_reducible repeat (first | refine zac_ ?_ _ | refine zaf_ ?_ | refine zad_ ?_ _)); exact b0.out)) : b3 ≠ b2)); clear b0; clear HB; have b0 := g0; have HB := g1; have b1 := d8; have h6 := d9; have d3 := h3; have c1 := h4; have c2 := h5; clear g0 g1 d8 d9 h3 h4 h5; clear hb hbox hg)))
  (try simp only [Act.put, List.setIfInBounds_toArray, List.set_cons_zero, List.set_cons_succ])
  go_cut [47] (fun J3 wc => ∃ (kq : Nat) (g6 : Bool), J3 = .bool g6 ∧ Aside0 (zaz_.j0 kq g6 b6 b7 b8 b9 c0 b4 c4 c5 c7 c8 c9 b5 = some r) ∧ Aside0 (kq ≤ k) ∧ Aside0 (wc.heap[b2]? = some (.cells #[.string b6, .int .i64 b7, .int .i64 b8, .int .i64 b9, .int .i64 c0, (.slice d1 b4.length d2)] 53 (0, 0))) ∧ Aside0 (wc.heap[b3]? = some (.cells #[.string c4, .int .i64 c5, .int .i64 c7, .int .i64 c8, .int .i64 c9, (.slice d6 b5.length d7)] 53 (0, 0))) ∧ Aside0 (Below w.heap.size w wc))
  case first =>
    have H := HC3.out
    clear HC3
    by_cases c6 : b6.toList = c4.toList
    rotate_left
    · rw [if_neg c6] at H
      have g7 : (b6.toList == c4.toList) = false := beq_eq_false_iff_ne.mpr c6
      have G3 : (b6.toList != c4.toList) = true := bne_iff_ne.mpr c6
      (first | rw [g7] | (simp only [i64_w, i32_w]; rw [g7]) | skip)
      have H' := Aside0.mk H
      clear H
      have hnb7 := c1.out
      have hnc7 := c2.out
      have G4 : w5.cell? ⟨b2, 0, none⟩ = some (.string b6) := (zab_ b0.out 0).trans rfl
      have G5 : w5.cell? ⟨b2, 1, none⟩ = some (.int .i64 b7) := (zab_ b0.out 1).trans rfl
      have G6 : w5.cell? ⟨b2, 2, none⟩ = some (.int .i64 b8) := (zab_ b0.out 2).trans rfl
      have G7 : w5.cell? ⟨b2, 3, none⟩ = some (.int .i64 b9) := (zab_ b0.out 3).trans rfl
      have G8 : w5.cell? ⟨b2, 4, none⟩ = some (.int .i64 c0) := (zab_ b0.out 4).trans rfl
      have G9 : w5.cell? ⟨b2, 5, none⟩ = some (.slice d1 b4.length d2) := (zab_ b0.out 5).trans rfl
      have H0 := zaa_ b0.out 0
      have H1 := zaa_ b0.out 1
      have H2 := zaa_ b0.out 2
      have H3 := zaa_ b0.out 3
      have H4 := zaa_ b0.out 4
      have H5 := zaa_ b0.out 5
      have H6 : w5.cell? ⟨b3, 0, none⟩ = some (.string c4) := (zab_ b1.out 0).trans rfl
      have H7 : w5.cell? ⟨b3, 1, none⟩ = some (.int .i64 c5) := (zab_ b1.out 1).trans rfl
      have H8 : w5.cell? ⟨b3, 2, none⟩ = some (.int .i64 c7) := (zab_ b1.out 2).trans rfl
      have H9 : w5.cell? ⟨b3, 3, none⟩ = some (.int .i64 c8) := (zab_ b1.out 3).trans rfl
      have I0 : w5.cell? ⟨b3, 4, none⟩ = some (.int .i64 c9) := (zab_ b1.out 4).trans rfl
      have I1 : w5.cell? ⟨b3, 5, none⟩ = some (.slice d6 b5.length d7) := (zab_ b1.out 5).trans rfl
      have I2 := zaa_ b1.out 0
      have I3 := zaa_ b1.out 1
      have I4 := zaa_ b1.out 2
      have I5 := zaa_ b1.out 3
      have I6 := zaa_ b1.out 4
      have I7 := zaa_ b1.out 5
      go_wp2
      repeat (go_quiet (fail); try go_wp2)
      go_meet
      case rel => exact ⟨_, (true), (by first | rfl | (simp; done) | (simp [*]; done)), H', ⟨by first | omega | exact Nat.le_refl _⟩, ⟨by (with_reducible repeat (first | refine zac_ ?_ _ | refine zaf_ ?_ | refine zad_ ?_ _)); exact b0.out⟩, ⟨by (with_reducible repeat (first | refine zac_ ?_ _ | refine zaf_ ?_ | refine zad_ ?_ _)); exact b1.out⟩, ⟨by repeat (first | (with_reducible first | exact HB.out | apply zah_ | apply zae_ | apply zag_ | refine zai_ ?_ d0.out | refine zai_ ?_ d3.out) | exact HB.out)⟩⟩
    rw [if_pos c6] at H
    have g7 : (b6.toList == c4.toList) = true := beq_iff_eq.mpr c6
    have G3 : (b6.toList != c4.toList) = false := bne_eq_false_iff_eq.mpr c6
    clear c6
    (first | rw [g7] | (simp only [i64_w, i32_w]; rw [g7]) | skip)
    by_cases h7 : b7 = c5
    rotate_left
    · rw [if_neg h7] at H
      have j4 : (b7 == c5) = false := beq_eq_false_iff_ne.mpr h7
      have j5 : (b7 != c5) = true := bne_iff_ne.mpr h7
      have H' := Aside0.mk H
      clear H
      have hnb11 := c1.out
      have hnc11 := c2.out
      have k5 : w5.cell? ⟨b2, 0, none⟩ = some (.string b6) := (zab_ b0.out 0).trans rfl
      have k6 : w5.cell? ⟨b2, 1, none⟩ = some (.int .i64 b7) := (zab_ b0.out 1).trans rfl
      have k7 : w5.cell? ⟨b2, 2, none⟩ = some (.int .i64 b8) := (zab_ b0.out 2).trans rfl
      have k8 : w5.cell? ⟨b2, 3, none⟩ = some (.int .i64 b9) := (zab_ b0.out 3).trans rfl
      have k9 : w5.cell? ⟨b2, 4, none⟩ = some (.int .i64 c0) := (zab_ b0.out 4).trans rfl
      have l1 : w5.cell? ⟨b2, 5, none⟩ = some (.slice d1 b4.length d2) := (zab_ b0.out 5).trans rfl
      have l2 := zaa_ b0.out 0
      have l3 := zaa_ b0.out 1
      have l4 := zaa_ b0.out 2
      have l5 := zaa_ b0.out 3
      have l6 := zaa_ b0.out 4
      have l7 := zaa_ b0.out 5
      have l8 : w5.cell? ⟨b3, 0, none⟩ = some (.string c4) := (zab_ b1.out 0).trans rfl
      have l9 : w5.cell? ⟨b3, 1, none⟩ = some (.int .i64 c5) := (zab_ b1.out 1).trans rfl
      have m0 : w5.cell? ⟨b3, 2, none⟩ = some (.int .i64 c7) := (zab_ b1.out 2).trans rfl
      have m1 : w5.cell? ⟨b3, 3, none⟩ = some (.int .i64 c8) := (zab_ b1.out 3).trans rfl
      have m2 : w5.cell? ⟨b3, 4, none⟩ = some (.int .i64 c9) := (zab_ b1.out 4).trans rfl
      have m3 : w5.cell? ⟨b3, 5, none⟩ = some (.slice d6 b5.length d7) := (zab_ b1.out 5).trans rfl
      have m4 := zaa_ b1.out 0
      have m5 := zaa_ b1.out 1
      have m6 := zaa_ b1.out 2
      have m7 := zaa_ b1.out 3
      have m8 := zaa_ b1.out 4
      have m9 := zaa_ b1.out 5
      go_wp2
      repeat (go_quiet (fail); try go_wp2)
      go_meet
      case rel => exact ⟨_, (true), (by first | rfl | (simp; done) | (simp [*]; done)), H', ⟨by first | omega | exact Nat.le_refl _⟩, ⟨by (with_reducible repeat (first | refine zac_ ?_ _ | refine zaf_ ?_ | refine zad_ ?_ _)); exact b0.out⟩, ⟨by (with_reducible repeat (first | refine zac_ ?_ _ | refine zaf_ ?_ | refine zad_ ?_ _)); exact b1.out⟩, ⟨by repeat (first | (with_reducible first | exact HB.out | apply zah_ | apply zae_ | apply zag_ | refine zai_ ?_ d0.out | refine zai_ ?_ d3.out) | exact HB.out)⟩⟩
    rw [if_pos h7] at H
    have j4 : (b7 == c5) = true := beq_iff_eq.mpr h7
    have j5 : (b7 != c5) = false := bne_eq_false_iff_eq.mpr h7
    clear h7
    by_cases h8 : b8 = c7
    rotate_left
    · rw [if_neg h8] at H
      have j6 : (b8 == c7) = false := beq_eq_false_iff_ne.mpr h8
      have j7 : (b8 != c7) = true := bne_iff_ne.mpr h8
      have H' := Aside0.mk H
      clear H
      have hnb15 := c1.out
      have hnc15 := c2.out
      have n0 : w5.cell? ⟨b2, 0, none⟩ = some (.string b6) := (zab_ b0.out 0).trans rfl
      have n1 : w5.cell? ⟨b2, 1, none⟩ = some (.int .i64 b7) := (zab_ b0.out 1).trans rfl
      have n2 : w5.cell? ⟨b2, 2, none⟩ = some (.int .i64 b8) := (zab_ b0.out 2).trans rfl
      have n3 : w5.cell? ⟨b2, 3, none⟩ = some (.int .i64 b9) := (zab_ b0.out 3).trans rfl
      have n4 : w5.cell? ⟨b2, 4, none⟩ = some (.int .i64 c0) := (zab_ b0.out 4).trans rfl
      have n5 : w5.cell? ⟨b2, 5, none⟩ = some (.slice d1 b4.length d2) := (zab_ b0.out 5).trans rfl
      have n6 := zaa_ b0.out 0
      have n7 := zaa_ b0.out 1
      have n8 := zaa_ b0.out 2
      have n9 := zaa_ b0.out 3
      have o0 := zaa_ b0.out 4
      have o1 := zaa_ b0.out 5
      have o2 : w5.cell? ⟨b3, 0, none⟩ = some (.string c4) := (zab_ b1.out 0).trans rfl
      have o3 : w5.cell? ⟨b3, 1, none⟩ = some (.int .i64 c5) := (zab_ b1.out 1).trans rfl
      have o4 : w5.cell? ⟨b3, 2, none⟩ = some (.int .i64 c7) := (zab_ b1.out 2).trans rfl
      have o5 : w5.cell? ⟨b3, 3, none⟩ = some (.int .i64 c8) := (zab_ b1.out 3).trans rfl
      have o6 : w5.cell? ⟨b3, 4, none⟩ = some (.int .i64 c9) := (zab_ b1.out 4).trans rfl
      have o7 : w5.cell? ⟨b3, 5, none⟩ = some (.slice d6 b5.length d7) := (zab_ b1.out 5).trans rfl
      have o8 := zaa_ b1.out 0
      have o9 := zaa_ b1.out 1
      have p0 := zaa_ b1.out 2
      have p1 := zaa_ b1.out 3
      have p2 := zaa_ b1.out 4
      have p3 := zaa_ b1.out 5
      go_wp2
      repeat (go_quiet (fail); try go_wp2)
      go_meet
      case rel => exact ⟨_, (true), (by first | rfl | (simp; done) | (simp [*]; done)), H', ⟨by first | omega | exact Nat.le_refl _⟩, ⟨by (with_reducible repeat (first | refine zac_ ?_ _ | refine zaf_ ?_ | refine zad_ ?_ _)); exact b0.out⟩, ⟨by (with_reducible repeat (first | refine zac_ ?_ _ | refine zaf_ ?_ | refine zad_ ?_ _)); exact b1.out⟩, ⟨by repeat (first | (with_reducible first | exact HB.out | apply zah_ | apply zae_ | apply zag_ | refine zai_ ?_ d0.out | refine zai_ ?_ d3.out) | exact HB.out)⟩⟩
    rw [if_pos h8] at H
    have j6 : (b8 == c7) = true := beq_iff_eq.mpr h8
    have j7 : (b8 != c7) = false := bne_eq_false_iff_eq.mpr h8
    clear h8
    by_cases h9 : b9 = c8
    rotate_left
    · rw [if_neg h9] at H
      have j8 : (b9 == c8) = false := beq_eq_false_iff_ne.mpr h9
      have j9 : (b9 != c8) = true := bne_iff_ne.mpr h9
      have H' := Aside0.mk H
      clear H
      have hnb19 := c1.out
      have hnc19 := c2.out
      have p4 : w5.cell? ⟨b2, 0, none⟩ = some (.string b6) := (zab_ b0.out 0).trans rfl
      have p5 : w5.cell? ⟨b2, 1, none⟩ = some (.int .i64 b7) := (zab_ b0.out 1).trans rfl
      have p6 : w5.cell? ⟨b2, 2, none⟩ = some (.int .i64 b8) := (zab_ b0.out 2).trans rfl
      have p7 : w5.cell? ⟨b2, 3, none⟩ = some (.int .i64 b9) := (zab_ b0.out 3).trans rfl
      have p8 : w5.cell? ⟨b2, 4, none⟩ = some (.int .i64 c0) := (zab_ b0.out 4).trans rfl
      have p9 : w5.cell? ⟨b2, 5, none⟩ = some (.slice d1 b4.length d2) := (zab_ b0.out 5).trans rfl
      have q0 := zaa_ b0.out 0
      have q1 := zaa_ b0.out 1
      have q2 := zaa_ b0.out 2
      have q3 := zaa_ b0.out 3
      have q4 := zaa_ b0.out 4
      have q5 := zaa_ b0.out 5
      have q6 : w5.cell? ⟨b3, 0, none⟩ = some (.string c4) := (zab_ b1.out 0).trans rfl
      have q7 : w5.cell? ⟨b3, 1, none⟩ = some (.int .i64 c5) := (zab_ b1.out 1).trans rfl
      have q8 : w5.cell? ⟨b3, 2, none⟩ = some (.int .i64 c7) := (zab_ b1.out 2).trans rfl
      have q9 : w5.cell? ⟨b3, 3, none⟩ = some (.int .i64 c8) := (zab_ b1.out 3).trans rfl
      have r0 : w5.cell? ⟨b3, 4, none⟩ = some (.int .i64 c9) := (zab_ b1.out 4).trans rfl
      have r1 : w5.cell? ⟨b3, 5, none⟩ = some (.slice d6 b5.length d7) := (zab_ b1.out 5).trans rfl
      have r2 := zaa_ b1.out 0
      have r3 := zaa_ b1.out 1
      have r4 := zaa_ b1.out 2
      have r5 := zaa_ b1.out 3
      have r6 := zaa_ b1.out 4
      have r7 := zaa_ b1.out 5
      go_wp2
      repeat (go_quiet (fail); try go_wp2)
      go_meet
      case rel => exact ⟨_, (true), (by first | rfl | (simp; done) | (simp [*]; done)), H', ⟨by first | omega | exact Nat.le_refl _⟩, ⟨by (with_reducible repeat (first | refine zac_ ?_ _ | refine zaf_ ?_ | refine zad_ ?_ _)); exact b0.out⟩, ⟨by (with_reducible repeat (first | refine zac_ ?_ _ | refine zaf_ ?_ | refine zad_ ?_ _)); exact b1.out⟩, ⟨by repeat (first | (with_reducible first | exact HB.out | apply zah_ | apply zae_ | apply zag_ | refine zai_ ?_ d0.out | refine zai_ ?_ d3.out) | exact HB.out)⟩⟩
    rw [if_pos h9] at H
    have j8 : (b9 == c8) = true := beq_iff_eq.mpr h9
    have j9 : (b9 != c8) = false := bne_eq_false_iff_eq.mpr h9
    clear h9
    by_cases j1 : c0 = c9
    rotate_left
    · rw [if_neg j1] at H
      have k0 : (c0 == c9) = false := beq_eq_false_iff_ne.mpr j1
      have k1 : (c0 != c9) = true := bne_iff_ne.mpr j1
      have H' := Aside0.mk H
      clear H
      have hnb23 := c1.out
      have hnc23 := c2.out
      have r8 : w5.cell? ⟨b2, 0, none⟩ = some (.string b6) := (zab_ b0.out 0).trans rfl
      have r9 : w5.cell? ⟨b2, 1, none⟩ = some (.int .i64 b7) := (zab_ b0.out 1).trans rfl
      have t0 : w5.cell? ⟨b2, 2, none⟩ = some (.int .i64 b8) := (zab_ b0.out 2).trans rfl
      have t1 : w5.cell? ⟨b2, 3, none⟩ = some (.int .i64 b9) := (zab_ b0.out 3).trans rfl
      have t2 : w5.cell? ⟨b2, 4, none⟩ = some (.int .i64 c0) := (zab_ b0.out 4).trans rfl
      have t3 : w5.cell? ⟨b2, 5, none⟩ = some (.slice d1 b4.length d2) := (zab_ b0.out 5).trans rfl
      have t4 := zaa_ b0.out 0
      have t5 := zaa_ b0.out 1
      have t6 := zaa_ b0.out 2
      have t7 := zaa_ b0.out 3
      have t8 := zaa_ b0.out 4
      have t9 := zaa_ b0.out 5
      have v0 : w5.cell? ⟨b3, 0, none⟩ = some (.string c4) := (zab_ b1.out 0).trans rfl
      have v1 : w5.cell? ⟨b3, 1, none⟩ = some (.int .i64 c5) := (zab_ b1.out 1).trans rfl
      have v2 : w5.cell? ⟨b3, 2, none⟩ = some (.int .i64 c7) := (zab_ b1.out 2).trans rfl
      have v3 : w5.cell? ⟨b3, 3, none⟩ = some (.int .i64 c8) := (zab_ b1.out 3).trans rfl
      have v4 : w5.cell? ⟨b3, 4, none⟩ = some (.int .i64 c9) := (zab_ b1.out 4).trans rfl
      have v6 : w5.cell? ⟨b3, 5, none⟩ = some (.slice d6 b5.length d7) := (zab_ b1.out 5).trans rfl
      have v7 := zaa_ b1.out 0
      have v8 := zaa_ b1.out 1
      have v9 := zaa_ b1.out 2
      have w0 := zaa_ b1.out 3
      have w1 := zaa_ b1.out 4
      have w2 := zaa_ b1.out 5
      go_wp2
      repeat (go_quiet (fail); try go_wp2)
      go_meet
      case rel => exact ⟨_, (true), (by first | rfl | (simp; done) | (simp [*]; done)), H', ⟨by first | omega | exact Nat.le_refl _⟩, ⟨by (with_reducible repeat (first | refine zac_ ?_ _ | refine zaf_ ?_ | refine zad_ ?_ _)); exact b0.out⟩, ⟨by (with_reducible repeat (first | refine zac_ ?_ _ | refine zaf_ ?_ | refine zad_ ?_ _)); exact b1.out⟩, ⟨by repeat (first | (with_reducible first | exact HB.out | apply zah_ | apply zae_ | apply zag_ | refine zai_ ?_ d0.out | refine zai_ ?_ d3.out) | exact HB.out)⟩⟩
    rw [if_pos j1] at H
    have k0 : (c0 == c9) = true := beq_iff_eq.mpr j1
    have k1 : (c0 != c9) = false := bne_eq_false_iff_eq.mpr j1
    clear j1
    have H' := Aside0.mk H
    clear H
    have hnb26 := c1.out
    have hnc26 := c2.out
    have w3 : w5.cell? ⟨b2, 0, none⟩ = some (.string b6) := (zab_ b0.out 0).trans rfl
    have w6 : w5.cell? ⟨b2, 1, none⟩ = some (.int .i64 b7) := (zab_ b0.out 1).trans rfl
    have w7 : w5.cell? ⟨b2, 2, none⟩ = some (.int .i64 b8) := (zab_ b0.out 2).trans rfl
    have w8 : w5.cell? ⟨b2, 3, none⟩ = some (.int .i64 b9) := (zab_ b0.out 3).trans rfl
    have w9 : w5.cell? ⟨b2, 4, none⟩ = some (.int .i64 c0) := (zab_ b0.out 4).trans rfl
    have x0 : w5.cell? ⟨b2, 5, none⟩ = some (.slice d1 b4.length d2) := (zab_ b0.out 5).trans rfl
    have x1 := zaa_ b0.out 0
    have x2 := zaa_ b0.out 1
    have x3 := zaa_ b0.out 2
    have x4 := zaa_ b0.out 3
    have x6 := zaa_ b0.out 4
    have x7 := zaa_ b0.out 5
    have x8 : w5.cell? ⟨b3, 0, none⟩ = some (.string c4) := (zab_ b1.out 0).trans rfl
    have x9 : w5.cell? ⟨b3, 1, none⟩ = some (.int .i64 c5) := (zab_ b1.out 1).trans rfl
    have z0 : w5.cell? ⟨b3, 2, none⟩ = some (.int .i64 c7) := (zab_ b1.out 2).trans rfl
    have z1 : w5.cell? ⟨b3, 3, none⟩ = some (.int .i64 c8) := (zab_ b1.out 3).trans rfl
    have z2 : w5.cell? ⟨b3, 4, none⟩ = some (.int .i64 c9) := (zab_ b1.out 4).trans rfl
    have z3 : w5.cell? ⟨b3, 5, none⟩ = some (.slice d6 b5.length d7) := (zab_ b1.out 5).trans rfl
    have z4 := zaa_ b1.out 0
    have z5 := zaa_ b1.out 1
    have z6 := zaa_ b1.out 2
    have z7 := zaa_ b1.out 3
    have z8 := zaa_ b1.out 4
    have z9 := zaa_ b1.out 5
    go_wp2
    repeat (go_quiet (fail); try go_wp2)
    go_meet
    case rel => exact ⟨_, (((b4.length : Int) != (b5.length : Int))), (by first | rfl | (simp; done) | (simp [*]; done)), H', ⟨by first | omega | exact Nat.le_refl _⟩, ⟨by (with_reducible repeat (first | refine zac_ ?_ _ | refine zaf_ ?_ | refine zad_ ?_ _)); exact b0.out⟩, ⟨by (with_reducible repeat (first | refine zac_ ?_ _ | refine zaf_ ?_ | refine zad_ ?_ _)); exact b1.out⟩, ⟨by repeat (first | (with_reducible first | exact HB.out | apply zah_ | apply zae_ | apply zag_ | refine zai_ ?_ d0.out | refine zai_ ?_ d3.out) | exact HB.out)⟩⟩
  clear HC3
  obtain ⟨kq, g6, rfl, HA, I8, b0, b1, HB⟩ := hcut
  cases kq with
  | zero => exact absurd HA.out (by simp [zaz_.j0])
  | succ I9 => ?_
  have H := HA.out
  clear HA
  simp only [zaz_.j0] at H
  by_cases A0 : g6 = true
  · subst A0
    rw [if_pos rfl] at H
    obtain rfl := Option.some.inj H
    go_wp2
    repeat (go_quiet (fail); try go_wp2)
    go_ret
    exact ⟨by first | rfl | (simp [zal_, zak_] <;> rfl) | (simp [*, zal_, zak_] <;> rfl), by repeat (first | (with_reducible first | exact HB.out | apply zah_ | apply zae_ | apply zag_ | refine zai_ ?_ d0.out | refine zai_ ?_ d3.out) | exact HB.out)⟩
  replace A0 := Bool.eq_false_iff.mpr A0
  subst A0
  rw [if_neg (show ¬ (false = true) by decide)] at H
  have H' := Aside0.mk H
  clear H
  go_wp2
  repeat (go_quiet (fail); try go_wp2)
  go_loopg [5] I9 (fun kq v5 w' => ∃ (c3 : Int), v5 = .int .i64 c3 ∧ Aside0 (zaz_.l0 kq c3 b6 b7 b8 b9 c0 b4 c4 c5 c7 c8 c9 b5 = some r) ∧ Aside0 (kq ≤ I9) ∧ Aside0 (w'.heap[b2]? = some (.cells #[.string b6, .int .i64 b7, .int .i64 b8, .int .i64 b9, .int .i64 c0, (.slice d1 b4.length d2)] 53 (0, 0))) ∧ Aside0 (w'.heap[b3]? = some (.cells #[.string c4, .int .i64 c5, .int .i64 c7, .int .i64 c8, .int .i64 c9, (.slice d6 b5.length d7)] 53 (0, 0))) ∧ Aside0 (Below w.heap.size w w'))
  case atStart => exact ⟨(0), (by first | rfl | (simp; done) | (simp [*]; done)), H', ⟨Nat.le_refl _⟩, ⟨by (with_reducible repeat (first | refine zac_ ?_ _ | refine zaf_ ?_ | refine zad_ ?_ _)); exact b0.out⟩, ⟨by (with_reducible repeat (first | refine zac_ ?_ _ | refine zaf_ ?_ | refine zad_ ?_ _)); exact b1.out⟩, ⟨by repeat (first | (with_reducible first | exact HB.out | apply zah_ | apply zae_ | apply zag_ | refine zai_ ?_ d0.out | refine zai_ ?_ d3.out) | exact HB.out)⟩⟩
  clear H'
  obtain ⟨c3, rfl, HA, J0, b0, b1, HB⟩ := hrel
  cases gk with
  | zero => exact absurd HA.out (by simp [zaz_.l0])
  | succ k2 => ?_
  have H := HA.out
  clear HA
  simp only [zaz_.l0] at H
  by_cases j2 : c3 < (b4.length : Int)
  rotate_left
  · rw [if_neg j2] at H
    have k3 : decide (c3 < (b4.length : Int)) = false := decide_eq_false j2
    clear j2
    obtain rfl := Option.some.inj H
    have hnb31 := c1.out
    have hnc31 := c2.out
    have A1 : wr.cell? ⟨b2, 0, none⟩ = some (.string b6) := (zab_ b0.out 0).trans rfl
    have A2 : wr.cell? ⟨b2, 1, none⟩ = some (.int .i64 b7) := (zab_ b0.out 1).trans rfl
    have A3 : wr.cell? ⟨b2, 2, none⟩ = some (.int .i64 b8) := (zab_ b0.out 2).trans rfl
    have A4 : wr.cell? ⟨b2, 3, none⟩ = some (.int .i64 b9) := (zab_ b0.out 3).trans rfl
    have A5 : wr.cell? ⟨b2, 4, none⟩ = some (.int .i64 c0) := (zab_ b0.out 4).trans rfl
    have A6 : wr.cell? ⟨b2, 5, none⟩ = some (.slice d1 b4.length d2) := (zab_ b0.out 5).trans rfl
    have A7 := zaa_ b0.out 0
    have A8 := zaa_ b0.out 1
    have A9 := zaa_ b0.out 2
    have B0 := zaa_ b0.out 3
    have B1 := zaa_ b0.out 4
    have B2 := zaa_ b0.out 5
    go_wp2
    repeat (go_quiet (fail); try go_wp2)
    go_ret
    exact ⟨by first | rfl | (simp [zal_, zak_] <;> rfl) | (simp [*, zal_, zak_] <;> rfl), by repeat (first | (with_reducible first | exact HB.out | apply zah_ | apply zae_ | apply zag_ | refine zai_ ?_ d0.out | refine zai_ ?_ d3.out) | exact HB.out)⟩
  rw [if_pos j2] at H
  have k3 : decide (c3 < (b4.length : Int)) = true := decide_eq_true j2
  clear j2
  by_cases B3 : 0 ≤ c3
  rotate_left
  · rw [if_neg B3] at H
    exact absurd H (by simp)
  rw [if_pos B3] at H
  have J1 : decide (0 ≤ c3) = true := decide_eq_true B3
  clear B3
  by_cases B4 : c3 < (b5.length : Int)
  rotate_left
  · rw [if_neg B4] at H
    exact absurd H (by simp)
  rw [if_pos B4] at H
  have J2 : decide (c3 < (b5.length : Int)) = true := decide_eq_true B4
  clear B4
  by_cases j3 : (!(((rd_T50 b4 c3).f0) == ((rd_T50 b5 c3).f0)) || (!(((rd_T50 b4 c3).f1) == ((rd_T50 b5 c3).f1)) || (!(((rd_T50 b4 c3).f2) == ((rd_T50 b5 c3).f2))))) = true
  rotate_left
  · rw [if_neg j3] at H
    have k4 : (!(((rd_T50 b4 c3).f0) == ((rd_T50 b5 c3).f0)) || (!(((rd_T50 b4 c3).f1) == ((rd_T50 b5 c3).f1)) || (!(((rd_T50 b4 c3).f2) == ((rd_T50 b5 c3).f2))))) = false := by simpa using j3
    clear j3
    have H' := Aside0.mk H
    clear H
    have hnb36 := c1.out
    have hnc36 := c2.out
    have B5 : wr.cell? ⟨b2, 0, none⟩ = some (.string b6) := (zab_ b0.out 0).trans rfl
    have B6 : wr.cell? ⟨b2, 1, none⟩ = some (.int .i64 b7) := (zab_ b0.out 1).trans rfl
    have B7 : wr.cell? ⟨b2, 2, none⟩ = some (.int .i64 b8) := (zab_ b0.out 2).trans rfl
    have B8 : wr.cell? ⟨b2, 3, none⟩ = some (.int .i64 b9) := (zab_ b0.out 3).trans rfl
    have B9 : wr.cell? ⟨b2, 4, none⟩ = some (.int .i64 c0) := (zab_ b0.out 4).trans rfl
    have C0 : wr.cell? ⟨b2, 5, none⟩ = some (.slice d1 b4.length d2) := (zab_ b0.out 5).trans rfl
    have C1 := zaa_ b0.out 0
    have C2 := zaa_ b0.out 1
    have C3 := zaa_ b0.out 2
    have C4 := zaa_ b0.out 3
    have C5 := zaa_ b0.out 4
    have C6 := zaa_ b0.out 5
    have g2 : 0 ≤ (c3 : Int) := of_decide_eq_true (by first | (with_reducible assumption) | assumption)
    have g3 : c3 < (b4.length : Int) := of_decide_eq_true (by first | (with_reducible assumption) | assumption)
    obtain ⟨ad333, e333, hx333_0, hx333_1, hx333_2⟩ := at_T50 HR0_5.out c3 g2 g3
    cases e333
    replace hx333_0 := (HB.out.cell (World.block_lt_of_cell? w _ hx333_0)).trans hx333_0
    replace hx333_1 := (HB.out.cell (World.block_lt_of_cell? w _ hx333_1)).trans hx333_1
    replace hx333_2 := (HB.out.cell (World.block_lt_of_cell? w _ hx333_2)).trans hx333_2
    replace g2 := eq_true g2
    replace g3 := eq_true g3
    have C7 : wr.cell? ⟨b3, 0, none⟩ = some (.string c4) := (zab_ b1.out 0).trans rfl
    have C8 : wr.cell? ⟨b3, 1, none⟩ = some (.int .i64 c5) := (zab_ b1.out 1).trans rfl
    have C9 : wr.cell? ⟨b3, 2, none⟩ = some (.int .i64 c7) := (zab_ b1.out 2).trans rfl
    have D0 : wr.cell? ⟨b3, 3, none⟩ = some (.int .i64 c8) := (zab_ b1.out 3).trans rfl
    have D1 : wr.cell? ⟨b3, 4, none⟩ = some (.int .i64 c9) := (zab_ b1.out 4).trans rfl
    have D2 : wr.cell? ⟨b3, 5, none⟩ = some (.slice d6 b5.length d7) := (zab_ b1.out 5).trans rfl
    have D3 := zaa_ b1.out 0
    have D4 := zaa_ b1.out 1
    have D5 := zaa_ b1.out 2
    have D6 := zaa_ b1.out 3
    have D7 := zaa_ b1.out 4
    have D8 := zaa_ b1.out 5
    have g4 : 0 ≤ (c3 : Int) := of_decide_eq_true (by first | (with_reducible assumption) | assumption)
    have g5 : c3 < (b5.length : Int) := of_decide_eq_true (by first | (with_reducible assumption) | assumption)
    obtain ⟨ad334, e334, hx334_0, hx334_1, hx334_2⟩ := at_T50 HR1_5.out c3 g4 g5
    cases e334
    replace hx334_0 := (HB.out.cell (World.block_lt_of_cell? w _ hx334_0)).trans hx334_0
    replace hx334_1 := (HB.out.cell (World.block_lt_of_cell? w _ hx334_1)).trans hx334_1
    replace hx334_2 := (HB.out.cell (World.block_lt_of_cell? w _ hx334_2)).trans hx334_2
    replace g4 := eq_true g4
    replace g5 := eq_true g5
    go_wp2
    repeat (go_quiet (fail); try go_wp2)
    go_roundg k2
    case measure => have := I8.out; have := J0.out; omega
    case rel => exact ⟨(wrap64 (c3 + 1)), (by first | rfl | (simp; done) | (simp [*]; done)), H', ⟨by have := I8.out; have := J0.out; omega⟩, ⟨by (with_reducible repeat (first | refine zac_ ?_ _ | refine zaf_ ?_ | refine zad_ ?_ _)); exact b0.out⟩, ⟨by (with_reducible repeat (first | refine zac_ ?_ _ | refine zaf_ ?_ | refine zad_ ?_ _)); exact b1.out⟩, ⟨by repeat (first | (with_reducible first | exact HB.out | apply zah_ | apply zae_ | apply zag_ | refine zai_ ?_ d0.out | refine zai_ ?_ d3.out) | exact HB.out)⟩⟩
  rw [if_pos j3] at H
  have k4 : (!(((rd_T50 b4 c3).f0) == ((rd_T50 b5 c3).f0)) || (!(((rd_T50 b4 c3).f1) == ((rd_T50 b5 c3).f1)) || (!(((rd_T50 b4 c3).f2) == ((rd_T50 b5 c3).f2))))) = true := j3
  clear j3
  obtain rfl := Option.some.inj H
  have hnb39 := c1.out
  have hnc39 := c2.out
  have D9 : wr.cell? ⟨b2, 0, none⟩ = some (.string b6) := (zab_ b0.out 0).trans rfl
  have E0 : wr.cell? ⟨b2, 1, none⟩ = some (.int .i64 b7) := (zab_ b0.out 1).trans rfl
  have E1 : wr.cell? ⟨b2, 2, none⟩ = some (.int .i64 b8) := (zab_ b0.out 2).trans rfl
  have E2 : wr.cell? ⟨b2, 3, none⟩ = some (.int .i64 b9) := (zab_ b0.out 3).trans rfl
  have E3 : wr.cell? ⟨b2, 4, none⟩ = some (.int .i64 c0) := (zab_ b0.out 4).trans rfl
  have E4 : wr.cell? ⟨b2, 5, none⟩ = some (.slice d1 b4.length d2) := (zab_ b0.out 5).trans rfl
  have E5 := zaa_ b0.out 0
  have E6 := zaa_ b0.out 1
  have E7 := zaa_ b0.out 2
  have E8 := zaa_ b0.out 3
  have E9 := zaa_ b0.out 4
  have F0 := zaa_ b0.out 5
  have g2 : 0 ≤ (c3 : Int) := of_decide_eq_true (by first | (with_reducible assumption) | assumption)
  have g3 : c3 < (b4.length : Int) := of_decide_eq_true (by first | (with_reducible assumption) | assumption)
  obtain ⟨ad333, e333, hx333_0, hx333_1, hx333_2⟩ := at_T50 HR0_5.out c3 g2 g3
  cases e333
  replace hx333_0 := (HB.out.cell (World.block_lt_of_cell? w _ hx333_0)).trans hx333_0
  replace hx333_1 := (HB.out.cell (World.block_lt_of_cell? w _ hx333_1)).trans hx333_1
  replace hx333_2 := (HB.out.cell (World.block_lt_of_cell? w _ hx333_2)).trans hx333_2
  replace g2 := eq_true g2
  replace g3 := eq_true g3
  have F1 : wr.cell? ⟨b3, 0, none⟩ = some (.string c4) := (zab_ b1.out 0).trans rfl
  have F2 : wr.cell? ⟨b3, 1, none⟩ = some (.int .i64 c5) := (zab_ b1.out 1).trans rfl
  have F3 : wr.cell? ⟨b3, 2, none⟩ = some (.int .i64 c7) := (zab_ b1.out 2).trans rfl
  have F4 : wr.cell? ⟨b3, 3, none⟩ = some (.int .i64 c8) := (zab_ b1.out 3).trans rfl
  have F5 : wr.cell? ⟨b3, 4, none⟩ = some (.int .i64 c9) := (zab_ b1.out 4).trans rfl
  have F6 : wr.cell? ⟨b3, 5, none⟩ = some (.slice d6 b5.length d7) := (zab_ b1.out 5).trans rfl
  have F7 := zaa_ b1.out 0
  have F8 := zaa_ b1.out 1
  have F9 := zaa_ b1.out 2
  have G0 := zaa_ b1.out 3
  have G1 := zaa_ b1.out 4
  have G2 := zaa_ b1.out 5
  have g4 : 0 ≤ (c3 : Int) := of_decide_eq_true (by first | (with_reducible assumption) | assumption)
  have g5 : c3 < (b5.length : Int) := of_decide_eq_true (by first | (with_reducible assumption) | assumption)
  obtain ⟨ad334, e334, hx334_0, hx334_1, hx334_2⟩ := at_T50 HR1_5.out c3 g4 g5
  cases e334
  replace hx334_0 := (HB.out.cell (World.block_lt_of_cell? w _ hx334_0)).trans hx334_0
  replace hx334_1 := (HB.out.cell (World.block_lt_of_cell? w _ hx334_1)).trans hx334_1
  replace hx334_2 := (HB.out.cell (World.block_lt_of_cell? w _ hx334_2)).trans hx334_2
  replace g4 := eq_true g4
  replace g5 := eq_true g5
  go_wp2
  repeat (go_quiet (fail); try go_wp2)
  go_ret
  exact ⟨by first | rfl | (simp [zal_, zak_] <;> rfl) | (simp [*, zal_, zak_] <;> rfl), by repeat (first | (with_reducible first | exact HB.out | apply zah_ | apply zae_ | apply zag_ | refine zai_ ?_ d0.out | refine zai_ ?_ d3.out) | exact HB.out)⟩
end Go.Proofs.YtgkjoodlcojkkaaDoor.QD
end
section
namespace Go.Proofs.YtgkjoodlcojkkaaDoor.QD
open Go.RowKit Go.Proofs.YtgkjoodlcojkkaaDoorW.PrintWords Go.Proofs.YtgkjoodlcojkkaaDoorW.PrintLast Go.Proofs.YtgkjoodlcojkkaaDoorW.PrintMore
attribute [local go_sem] zbd_ zbe_ zbm_ zbl_ zaW_ zaX_ zbc_ zbb_
set_option linter.unusedVariables false
set_option linter.unusedSimpArgs false
mutual
def zaP_.j0 : Nat → Bool → Int → List Int → List Int → List (S53) → Int → List Int → List Int → List (S53) → Option (Bool)
  | 0, _, _, _, _, _, _, _, _, _ => none
  | k + 1, x35, e1, e2, e3, c3, e4, e5, e6, c4 => if x35 = true then (some false) else (zaP_.l0 k 0 e1 e2 e3 c3 e4 e5 e6 c4)
def zaP_.l0 : Nat → Int → Int → List Int → List Int → List (S53) → Int → List Int → List Int → List (S53) → Option (Bool)
  | 0, _, _, _, _, _, _, _, _, _ => none
  | k + 1, x5, e1, e2, e3, c3, e4, e5, e6, c4 => if x5 < (c3.length : Int) then (if 0 ≤ x5 then (if x5 < (c4.length : Int) then ((zaz_.f k ((rd_T53 c3 x5).f0) ((rd_T53 c3 x5).f1) ((rd_T53 c3 x5).f2) ((rd_T53 c3 x5).f3) ((rd_T53 c3 x5).f4) ((rd_T53 c3 x5).f5) ((rd_T53 c4 x5).f0) ((rd_T53 c4 x5).f1) ((rd_T53 c4 x5).f2) ((rd_T53 c4 x5).f3) ((rd_T53 c4 x5).f4) ((rd_T53 c4 x5).f5)).bind fun g9 => (if g9 = true then (zaP_.l0 k (wrap64 (x5 + 1)) e1 e2 e3 c3 e4 e5 e6 c4) else (some false))) else (none)) else (none)) else (some true)
end
def zaP_.f (k : Nat) (b7 : Int) (b5 : List Int) (b6 : List Int) (b1 : List (S53)) (c0 : Int) (b8 : List Int) (b9 : List Int) (b2 : List (S53)) : Option (Bool) := if b7 = c0 then ((zaK_.f k b5 b8).bind fun g7 => (if g7 = true then ((zaK_.f k b6 b9).bind fun e8 => (if e8 = true then (zaP_.j0 k ((b1.length : Int) != (b2.length : Int)) b7 b5 b6 b1 c0 b8 b9 b2) else (zaP_.j0 k true b7 b5 b6 b1 c0 b8 b9 b2))) else (zaP_.j0 k true b7 b5 b6 b1 c0 b8 b9 b2))) else (zaP_.j0 k true b7 b5 b6 b1 c0 b8 b9 b2)
theorem zaP_.mono_l : ∀ k, (∀ y0 y1 y2 y3 y4 y5 y6 y7 y8, LeO (zaP_.j0 k y0 y1 y2 y3 y4 y5 y6 y7 y8) (zaP_.j0 (k + 1) y0 y1 y2 y3 y4 y5 y6 y7 y8)) ∧ (∀ y0 y1 y2 y3 y4 y5 y6 y7 y8, LeO (zaP_.l0 k y0 y1 y2 y3 y4 y5 y6 y7 y8) (zaP_.l0 (k + 1) y0 y1 y2 y3 y4 y5 y6 y7 y8))
  | 0 => ⟨fun _ _ _ _ _ _ _ _ _ r h => by simp [zaP_.j0] at h, fun _ _ _ _ _ _ _ _ _ r h => by simp [zaP_.l0] at h⟩
  | k + 1 => by
    obtain ⟨ih0, ih1⟩ := zaP_.mono_l k
    refine ⟨?_, ?_⟩
    · intro y0 y1 y2 y3 y4 y5 y6 y7 y8
      unfold zaP_.j0
      repeat' first
      | (with_reducible exact ih0 _ _ _ _ _ _ _ _ _)
      | (with_reducible exact ih1 _ _ _ _ _ _ _ _ _)
      | (with_reducible exact zaz_.mono _ _ _ _ _ _ _ _ _ _ _ _ _)
      | (with_reducible exact zaK_.mono _ _ _)
      | (with_reducible exact LeO.refl _)
      | (with_reducible exact LeO.none _)
      | (with_reducible refine LeO.ite ?_ ?_)
      | (with_reducible refine LeO.bind ?_ (fun _ => ?_))
      | exact ih0 _ _ _ _ _ _ _ _ _
      | exact ih1 _ _ _ _ _ _ _ _ _
      | exact zaz_.mono _ _ _ _ _ _ _ _ _ _ _ _ _
      | exact zaK_.mono _ _ _
      | exact LeO.none _
      | refine LeO.ite ?_ ?_
      | refine LeO.bind ?_ (fun _ => ?_)
    · intro y0 y1 y2 y3 y4 y5 y6 y7 y8
      unfold zaP_.l0
      repeat' first
      | (with_reducible exact ih0 _ _ _ _ _ _ _ _ _)
      | (with_reducible exact ih1 _ _ _ _ _ _ _ _ _)
      | (with_reducible exact zaz_.mono _ _ _ _ _ _ _ _ _ _ _ _ _)
      | (with_reducible exact zaK_.mono _ _ _)
      | (with_reducible exact LeO.refl _)
      | (with_reducible exact LeO.none _)
      | (with_reducible refine LeO.ite ?_ ?_)
      | (with_reducible refine LeO.bind ?_ (fun _ => ?_))
      | exact ih0 _ _ _ _ _ _ _ _ _
      | exact ih1 _ _ _ _ _ _ _ _ _
      | exact zaz_.mono _ _ _ _ _ _ _ _ _ _ _ _ _
      | exact zaK_.mono _ _ _
      | exact LeO.none _
      | refine LeO.ite ?_ ?_
      | refine LeO.bind ?_ (fun _ => ?_)
theorem zaP_.mono : ∀ a0 a1 a2 a3 a4 a5 a6 a7 k, LeO (zaP_.f k a0 a1 a2 a3 a4 a5 a6 a7) (zaP_.f (k + 1) a0 a1 a2 a3 a4 a5 a6 a7) := by
  intro a0 a1 a2 a3 a4 a5 a6 a7 k
  obtain ⟨ih0, ih1⟩ := zaP_.mono_l k
  unfold zaP_.f
  repeat' first
      | (with_reducible exact ih0 _ _ _ _ _ _ _ _ _)
      | (with_reducible exact ih1 _ _ _ _ _ _ _ _ _)
      | (with_reducible exact zaz_.mono _ _ _ _ _ _ _ _ _ _ _ _ _)
      | (with_reducible exact zaK_.mono _ _ _)
      | (with_reducible exact LeO.refl _)
      | (with_reducible exact LeO.none _)
      | (with_reducible refine LeO.ite ?_ ?_)
      | (with_reducible refine LeO.bind ?_ (fun _ => ?_))
      | exact ih0 _ _ _ _ _ _ _ _ _
      | exact ih1 _ _ _ _ _ _ _ _ _
      | exact zaz_.mono _ _ _ _ _ _ _ _ _ _ _ _ _
      | exact zaK_.mono _ _ _
      | exact LeO.none _
      | refine LeO.ite ?_ ?_
      | refine LeO.bind ?_ (fun _ => ?_)
def zaP_.T6 : Bool × List (List Nat × List Nat) := (true, [([], []), ([0], [0]), ([], []), ([1, 2], [1, 2]), ([3], [3]), ([], []), ([5], [5]), ([], []), ([6, 7], [6, 7]), ([8], [8]), ([4, 9], [4, 9]), ([10], [10])])
def zaP_.B6 : List Nat := [0, 1, 0, 7, 15, 0, 32, 0, 224, 480, 1023, 2047]
theorem zaP_.tab6 : rtab .any (opsOf Tryd.f26 6) = zaP_.T6 := by kernel_rfl
theorem zaP_.bits6 : waitsOk zaP_.T6.2 zaP_.B6 = true := by kernel_rfl
set_option maxHeartbeats 8000000 in
set_option maxRecDepth 100000 in
theorem zaP_.calls (k : Nat) (b7 : Int) (c5 : Option Addr) (c7 : Nat) (b5 : List Int) (c8 : Option Addr) (c9 : Nat) (b6 : List Int) (d1 : Option Addr) (d0 : Nat) (b1 : List (S53)) (c0 : Int) (d2 : Option Addr) (d3 : Nat) (b8 : List Int) (d4 : Option Addr) (d5 : Nat) (b9 : List Int) (e7 : Option Addr) (d6 : Nat) (b2 : List (S53)) (r : Bool) (w : World) (h0 : Kd.C (Kd.int .i64) w c5 b5.length b5) (h1 : b5.length ≤ c7) (h2 : Kd.C (Kd.int .i64) w c8 b6.length b6) (h3 : b6.length ≤ c9) (h4 : Kd.C k53 w d1 b1.length b1) (h5 : b1.length ≤ d0) (h6 : Kd.C (Kd.int .i64) w d2 b8.length b8) (h7 : b8.length ≤ d3) (h8 : Kd.C (Kd.int .i64) w d4 b9.length b9) (h9 : b9.length ≤ d5) (j1 : Kd.C k53 w e7 b2.length b2) (j2 : b2.length ≤ d6) (h : zaP_.f k b7 b5 b6 b1 c0 b8 b9 b2 = some r) :
    Calls Tryd.prog 26 #[.agg #[.int .i64 b7, .slice c5 b5.length c7, .slice c8 b6.length c9, .slice d1 b1.length d0], .agg #[.int .i64 c0, .slice d2 b8.length d3, .slice d4 b9.length d5, .slice e7 b2.length d6]] w fun e w' => e = .returned (.bool r) ∧ Below w.heap.size w w' := by
  have hu37 := Tryd.underlying37
  have hu53 := Tryd.underlying53
  have HR0_1 := Aside0.mk h0
  have HC0_1 := Aside0.mk h1
  clear h0 h1
  have HR0_2 := Aside0.mk h2
  have HC0_2 := Aside0.mk h3
  clear h2 h3
  have HR0_3 := Aside0.mk h4
  have HC0_3 := Aside0.mk h5
  clear h4 h5
  have HR1_1 := Aside0.mk h6
  have HC1_1 := Aside0.mk h7
  clear h6 h7
  have HR1_2 := Aside0.mk h8
  have HC1_2 := Aside0.mk h9
  clear h8 h9
  have HR1_3 := Aside0.mk j1
  have HC1_3 := Aside0.mk j2
  clear j1 j2
  have HB := Aside0.mk (Below.refl w.heap.size w)
  have H : (if b7 = c0 then ((zaK_.f k b5 b8).bind fun g7 => (if g7 = true then ((zaK_.f k b6 b9).bind fun e8 => (if e8 = true then (zaP_.j0 k ((b1.length : Int) != (b2.length : Int)) b7 b5 b6 b1 c0 b8 b9 b2) else (zaP_.j0 k true b7 b5 b6 b1 c0 b8 b9 b2))) else (zaP_.j0 k true b7 b5 b6 b1 c0 b8 b9 b2))) else (zaP_.j0 k true b7 b5 b6 b1 c0 b8 b9 b2)) = some r := h
  clear h
  have HC3 := Aside0.mk H
  clear H
  go_enter Tryd.func26, Tryd.ntmps26
  go_upto_region 1 with (first | ((with_reducible refine zaL_ (N := 2) rfl ?_); (try (refine zaF_ (by rfl) ?_; dsimp only)); refine zaD_ ?hg (N := 2) ?hd (cs := #[.int .i64 b7, .slice c5 b5.length c7, .slice c8 b6.length c9, .slice d1 b1.length d0]) (t := 37) ?hr ?_; (case hd => rfl); (case hg => rfl); (case hr => first | (go_simp; done) | (go_simp; rfl)); intro b3 hg w4 hbox hb; have e9 := Aside0.mk (zaj_ (HB.out) hb); have g0 := Aside0.mk (hbox); have g1 := Aside0.mk ((by rw [hg]; exact (zam_ (HB.out)) : w.heap.size ≤ b3)); have j4 := Aside0.mk ((by rw [hg]; exact (zam_ (HB.out)) : w.heap.size ≤ b3)); clear HB; have HB := e9; have a8 := g0; have v8 := g1; have d7 := j4; clear e9 g0 g1 j4; clear hb hbox hg) | ((with_reducible refine zaL_ (N := 3) rfl ?_); (try (refine zaF_ (by rfl) ?_; dsimp only)); refine zaD_ ?hg (N := 3) ?hd (cs := #[.int .i64 c0, .slice d2 b8.length d3, .slice d4 b9.length d5, .slice e7 b2.length d6]) (t := 37) ?hr ?_; (case hd => rfl); (case hg => rfl); (case hr => first | (go_simp; done) | (go_simp; rfl)); intro b4 hg w5 hbox hb; have e9 := Aside0.mk (zan_ a8.out hb); have g0 := Aside0.mk (zaj_ (HB.out) hb); have g1 := Aside0.mk (hbox); have j4 := Aside0.mk ((by rw [hg]; exact (zam_ (HB.out)) : w.heap.size ≤ b4)); have v9 := Aside0.mk ((by rw [hg]; exact (zam_ (HB.out)) : w.heap.size ≤ b4)); have w0 := Aside0.mk ((by rw [hg]; exact Nat.ne_of_lt (blk_lt a8.out) : b3 ≠ b4)); have w1 := Aside0.mk ((by rw [hg]; exact Nat.ne_of_gt (blk_lt a8.out) : b4 ≠ b3)); clear a8; clear HB; have a8 := e9; have HB := g0; have b0 := g1; have w2 := j4; have d8 := v9; have c1 := w0; have c2 := w1; clear e9 g0 g1 j4 v9 w0 w1; clear hb hbox hg))
  (try simp only [Act.put, List.setIfInBounds_toArray, List.set_cons_zero, List.set_cons_succ])
  go_cut [35] (fun x2 wc => ∃ (kq : Nat) (g6 : Bool), x2 = .bool g6 ∧ Aside0 (zaP_.j0 kq g6 b7 b5 b6 b1 c0 b8 b9 b2 = some r) ∧ Aside0 (kq ≤ k) ∧ Aside0 (wc.heap[b3]? = some (.cells #[.int .i64 b7, (.slice c5 b5.length c7), (.slice c8 b6.length c9), (.slice d1 b1.length d0)] 37 (0, 0))) ∧ Aside0 (wc.heap[b4]? = some (.cells #[.int .i64 c0, (.slice d2 b8.length d3), (.slice d4 b9.length d5), (.slice e7 b2.length d6)] 37 (0, 0))) ∧ Aside0 (Below w.heap.size w wc))
  case first =>
    have H := HC3.out
    clear HC3
    by_cases c6 : b7 = c0
    rotate_left
    · rw [if_neg c6] at H
      have g8 : (b7 == c0) = false := beq_eq_false_iff_ne.mpr c6
      have r9 : (b7 != c0) = true := bne_iff_ne.mpr c6
      (first | rw [g8] | (simp only [i64_w, i32_w]; rw [g8]) | skip)
      have H' := Aside0.mk H
      clear H
      have hnb7 := c1.out
      have hnc7 := c2.out
      have t0 : w5.cell? ⟨b3, 0, none⟩ = some (.int .i64 b7) := (zab_ a8.out 0).trans rfl
      have t1 : w5.cell? ⟨b3, 1, none⟩ = some (.slice c5 b5.length c7) := (zab_ a8.out 1).trans rfl
      have t2 : w5.cell? ⟨b3, 2, none⟩ = some (.slice c8 b6.length c9) := (zab_ a8.out 2).trans rfl
      have t3 : w5.cell? ⟨b3, 3, none⟩ = some (.slice d1 b1.length d0) := (zab_ a8.out 3).trans rfl
      have t4 := zaa_ a8.out 0
      have t5 := zaa_ a8.out 1
      have t6 := zaa_ a8.out 2
      have t7 := zaa_ a8.out 3
      have t8 : w5.cell? ⟨b4, 0, none⟩ = some (.int .i64 c0) := (zab_ b0.out 0).trans rfl
      have t9 : w5.cell? ⟨b4, 1, none⟩ = some (.slice d2 b8.length d3) := (zab_ b0.out 1).trans rfl
      have v0 : w5.cell? ⟨b4, 2, none⟩ = some (.slice d4 b9.length d5) := (zab_ b0.out 2).trans rfl
      have v1 : w5.cell? ⟨b4, 3, none⟩ = some (.slice e7 b2.length d6) := (zab_ b0.out 3).trans rfl
      have v2 := zaa_ b0.out 0
      have v3 := zaa_ b0.out 1
      have v4 := zaa_ b0.out 2
      have v6 := zaa_ b0.out 3
      go_wp2
      go_meet
      case rel => exact ⟨_, (true), (by first | rfl | (simp; done) | (simp [*]; done)), H', ⟨by first | omega | exact Nat.le_refl _⟩, ⟨a8.out⟩, ⟨b0.out⟩, ⟨HB.out⟩⟩
    rw [if_pos c6] at H
    have g8 : (b7 == c0) = true := beq_iff_eq.mpr c6
    have r9 : (b7 != c0) = false := bne_eq_false_iff_eq.mpr c6
    clear c6
    (first | rw [g8] | (simp only [i64_w, i32_w]; rw [g8]) | skip)
    replace H := Option.bind_eq_some_iff.mp H
    obtain ⟨g7, j5, H⟩ := H
    replace H : (if g7 = true then ((zaK_.f k b6 b9).bind fun e8 => (if e8 = true then (zaP_.j0 k ((b1.length : Int) != (b2.length : Int)) b7 b5 b6 b1 c0 b8 b9 b2) else (zaP_.j0 k true b7 b5 b6 b1 c0 b8 b9 b2))) else (zaP_.j0 k true b7 b5 b6 b1 c0 b8 b9 b2)) = some r := H
    have v7 := Aside0.mk j5
    clear j5
    by_cases j9 : g7 = true
    rotate_left
    · replace j9 := Bool.eq_false_iff.mpr j9
      subst j9
      rw [if_neg (show ¬ (false = true) by decide)] at H
      have H' := Aside0.mk H
      clear H
      have hnb12 := c1.out
      have hnc12 := c2.out
      have k0 : w5.cell? ⟨b3, 0, none⟩ = some (.int .i64 b7) := (zab_ a8.out 0).trans rfl
      have k1 : w5.cell? ⟨b3, 1, none⟩ = some (.slice c5 b5.length c7) := (zab_ a8.out 1).trans rfl
      have k3 : w5.cell? ⟨b3, 2, none⟩ = some (.slice c8 b6.length c9) := (zab_ a8.out 2).trans rfl
      have k4 : w5.cell? ⟨b3, 3, none⟩ = some (.slice d1 b1.length d0) := (zab_ a8.out 3).trans rfl
      have k5 := zaa_ a8.out 0
      have k6 := zaa_ a8.out 1
      have k7 := zaa_ a8.out 2
      have k8 := zaa_ a8.out 3
      have k9 : w5.cell? ⟨b4, 0, none⟩ = some (.int .i64 c0) := (zab_ b0.out 0).trans rfl
      have l1 : w5.cell? ⟨b4, 1, none⟩ = some (.slice d2 b8.length d3) := (zab_ b0.out 1).trans rfl
      have l2 : w5.cell? ⟨b4, 2, none⟩ = some (.slice d4 b9.length d5) := (zab_ b0.out 2).trans rfl
      have l3 : w5.cell? ⟨b4, 3, none⟩ = some (.slice e7 b2.length d6) := (zab_ b0.out 3).trans rfl
      have l4 := zaa_ b0.out 0
      have l5 := zaa_ b0.out 1
      have l6 := zaa_ b0.out 2
      have l7 := zaa_ b0.out 3
      go_wp2_with (first | (go_at_call 43; (with_reducible refine (zaK_.calls k _ _ b5 _ _ b8 false _ ?side1 ?side2 ?side3 ?side4 v7.out).mono ?_); (case side1 => repeat (first | exact (Kd.zaB_ HR0_1.out HB.out) | (with_reducible refine Kd.zaI_ ?_ _) | (with_reducible refine Kd.zaJ_ ?_ _) | (with_reducible refine Kd.C_drew ?_))); (case side2 => exact HC0_1.out); (case side3 => repeat (first | exact (Kd.zaB_ HR1_1.out HB.out) | (with_reducible refine Kd.zaI_ ?_ _) | (with_reducible refine Kd.zaJ_ ?_ _) | (with_reducible refine Kd.C_drew ?_))); (case side4 => exact HC1_1.out); rintro e w' ⟨rfl, ⟨nd, rfl⟩⟩))
      go_meet
      case rel => exact ⟨_, (true), (by first | rfl | (simp; done) | (simp [*]; done)), H', ⟨by first | omega | exact Nat.le_refl _⟩, ⟨by (with_reducible repeat (first | refine zac_ ?_ _ | refine zaf_ ?_ | refine zad_ ?_ _)); exact a8.out⟩, ⟨by (with_reducible repeat (first | refine zac_ ?_ _ | refine zaf_ ?_ | refine zad_ ?_ _)); exact b0.out⟩, ⟨by repeat (first | (with_reducible first | exact HB.out | apply zah_ | apply zae_ | apply zag_ | refine zai_ ?_ d7.out | refine zai_ ?_ d8.out) | exact HB.out)⟩⟩
    subst j9
    rw [if_pos rfl] at H
    replace H := Option.bind_eq_some_iff.mp H
    obtain ⟨e8, j6, H⟩ := H
    replace H : (if e8 = true then (zaP_.j0 k ((b1.length : Int) != (b2.length : Int)) b7 b5 b6 b1 c0 b8 b9 b2) else (zaP_.j0 k true b7 b5 b6 b1 c0 b8 b9 b2)) = some r := H
    have w3 := Aside0.mk j6
    clear j6
    by_cases l8 : e8 = true
    rotate_left
    · replace l8 := Bool.eq_false_iff.mpr l8
      subst l8
      rw [if_neg (show ¬ (false = true) by decide)] at H
      have H' := Aside0.mk H
      clear H
      have hnb17 := c1.out
      have hnc17 := c2.out
      have l9 : w5.cell? ⟨b3, 0, none⟩ = some (.int .i64 b7) := (zab_ a8.out 0).trans rfl
      have m0 : w5.cell? ⟨b3, 1, none⟩ = some (.slice c5 b5.length c7) := (zab_ a8.out 1).trans rfl
      have m1 : w5.cell? ⟨b3, 2, none⟩ = some (.slice c8 b6.length c9) := (zab_ a8.out 2).trans rfl
      have m2 : w5.cell? ⟨b3, 3, none⟩ = some (.slice d1 b1.length d0) := (zab_ a8.out 3).trans rfl
      have m3 := zaa_ a8.out 0
      have m4 := zaa_ a8.out 1
      have m5 := zaa_ a8.out 2
      have m6 := zaa_ a8.out 3
      have m7 : w5.cell? ⟨b4, 0, none⟩ = some (.int .i64 c0) := (zab_ b0.out 0).trans rfl
      have m8 : w5.cell? ⟨b4, 1, none⟩ = some (.slice d2 b8.length d3) := (zab_ b0.out 1).trans rfl
      have m9 : w5.cell? ⟨b4, 2, none⟩ = some (.slice d4 b9.length d5) := (zab_ b0.out 2).trans rfl
      have n0 : w5.cell? ⟨b4, 3, none⟩ = some (.slice e7 b2.length d6) := (zab_ b0.out 3).trans rfl
      have n1 := zaa_ b0.out 0
      have n2 := zaa_ b0.out 1
      have n3 := zaa_ b0.out 2
      have n4 := zaa_ b0.out 3
      go_wp2_with (first | (go_at_call 43; (with_reducible refine (zaK_.calls k _ _ b5 _ _ b8 true _ ?side1 ?side2 ?side3 ?side4 v7.out).mono ?_); (case side1 => repeat (first | exact (Kd.zaB_ HR0_1.out HB.out) | (with_reducible refine Kd.zaI_ ?_ _) | (with_reducible refine Kd.zaJ_ ?_ _) | (with_reducible refine Kd.C_drew ?_))); (case side2 => exact HC0_1.out); (case side3 => repeat (first | exact (Kd.zaB_ HR1_1.out HB.out) | (with_reducible refine Kd.zaI_ ?_ _) | (with_reducible refine Kd.zaJ_ ?_ _) | (with_reducible refine Kd.C_drew ?_))); (case side4 => exact HC1_1.out); rintro e w' ⟨rfl, ⟨nd, rfl⟩⟩) | (go_at_call 43; (with_reducible refine (zaK_.calls k _ _ b6 _ _ b9 false _ ?side1 ?side2 ?side3 ?side4 w3.out).mono ?_); (case side1 => repeat (first | exact (Kd.zaB_ HR0_2.out (by repeat (first | (with_reducible first | exact HB.out | apply zah_ | apply zae_ | apply zag_ | refine zai_ ?_ d7.out | refine zai_ ?_ d8.out) | exact HB.out))) | (with_reducible refine Kd.zaI_ ?_ _) | (with_reducible refine Kd.zaJ_ ?_ _) | (with_reducible refine Kd.C_drew ?_))); (case side2 => exact HC0_2.out); (case side3 => repeat (first | exact (Kd.zaB_ HR1_2.out (by repeat (first | (with_reducible first | exact HB.out | apply zah_ | apply zae_ | apply zag_ | refine zai_ ?_ d7.out | refine zai_ ?_ d8.out) | exact HB.out))) | (with_reducible refine Kd.zaI_ ?_ _) | (with_reducible refine Kd.zaJ_ ?_ _) | (with_reducible refine Kd.C_drew ?_))); (case side4 => exact HC1_2.out); rintro e w' ⟨rfl, ⟨nd, rfl⟩⟩))
      go_meet
      case rel => exact ⟨_, (true), (by first | rfl | (simp; done) | (simp [*]; done)), H', ⟨by first | omega | exact Nat.le_refl _⟩, ⟨by (with_reducible repeat (first | refine zac_ ?_ _ | refine zaf_ ?_ | refine zad_ ?_ _)); exact a8.out⟩, ⟨by (with_reducible repeat (first | refine zac_ ?_ _ | refine zaf_ ?_ | refine zad_ ?_ _)); exact b0.out⟩, ⟨by repeat (first | (with_reducible first | exact HB.out | apply zah_ | apply zae_ | apply zag_ | refine zai_ ?_ d7.out | refine zai_ ?_ d8.out) | exact HB.out)⟩⟩
    subst l8
    rw [if_pos rfl] at H
    have H' := Aside0.mk H
    clear H
    have hnb20 := c1.out
    have hnc20 := c2.out
    have n5 : w5.cell? ⟨b3, 0, none⟩ = some (.int .i64 b7) := (zab_ a8.out 0).trans rfl
    have n6 : w5.cell? ⟨b3, 1, none⟩ = some (.slice c5 b5.length c7) := (zab_ a8.out 1).trans rfl
    have n7 : w5.cell? ⟨b3, 2, none⟩ = some (.slice c8 b6.length c9) := (zab_ a8.out 2).trans rfl
    have n8 : w5.cell? ⟨b3, 3, none⟩ = some (.slice d1 b1.length d0) := (zab_ a8.out 3).trans rfl
    have n9 := zaa_ a8.out 0
    have o0 := zaa_ a8.out 1
    have o1 := zaa_ a8.out 2
    have o2 := zaa_ a8.out 3
    have o3 : w5.cell? ⟨b4, 0, none⟩ = some (.int .i64 c0) := (zab_ b0.out 0).trans rfl
    have o4 : w5.cell? ⟨b4, 1, none⟩ = some (.slice d2 b8.length d3) := (zab_ b0.out 1).trans rfl
    have o5 : w5.cell? ⟨b4, 2, none⟩ = some (.slice d4 b9.length d5) := (zab_ b0.out 2).trans rfl
    have o6 : w5.cell? ⟨b4, 3, none⟩ = some (.slice e7 b2.length d6) := (zab_ b0.out 3).trans rfl
    have o7 := zaa_ b0.out 0
    have o8 := zaa_ b0.out 1
    have o9 := zaa_ b0.out 2
    have p0 := zaa_ b0.out 3
    go_wp2_with (first | (go_at_call 43; (with_reducible refine (zaK_.calls k _ _ b5 _ _ b8 true _ ?side1 ?side2 ?side3 ?side4 v7.out).mono ?_); (case side1 => repeat (first | exact (Kd.zaB_ HR0_1.out HB.out) | (with_reducible refine Kd.zaI_ ?_ _) | (with_reducible refine Kd.zaJ_ ?_ _) | (with_reducible refine Kd.C_drew ?_))); (case side2 => exact HC0_1.out); (case side3 => repeat (first | exact (Kd.zaB_ HR1_1.out HB.out) | (with_reducible refine Kd.zaI_ ?_ _) | (with_reducible refine Kd.zaJ_ ?_ _) | (with_reducible refine Kd.C_drew ?_))); (case side4 => exact HC1_1.out); rintro e w' ⟨rfl, ⟨nd, rfl⟩⟩) | (go_at_call 43; (with_reducible refine (zaK_.calls k _ _ b6 _ _ b9 true _ ?side1 ?side2 ?side3 ?side4 w3.out).mono ?_); (case side1 => repeat (first | exact (Kd.zaB_ HR0_2.out (by repeat (first | (with_reducible first | exact HB.out | apply zah_ | apply zae_ | apply zag_ | refine zai_ ?_ d7.out | refine zai_ ?_ d8.out) | exact HB.out))) | (with_reducible refine Kd.zaI_ ?_ _) | (with_reducible refine Kd.zaJ_ ?_ _) | (with_reducible refine Kd.C_drew ?_))); (case side2 => exact HC0_2.out); (case side3 => repeat (first | exact (Kd.zaB_ HR1_2.out (by repeat (first | (with_reducible first | exact HB.out | apply zah_ | apply zae_ | apply zag_ | refine zai_ ?_ d7.out | refine zai_ ?_ d8.out) | exact HB.out))) | (with_reducible refine Kd.zaI_ ?_ _) | (with_reducible refine Kd.zaJ_ ?_ _) | (with_reducible refine Kd.C_drew ?_))); (case side4 => exact HC1_2.out); rintro e w' ⟨rfl, ⟨nd, rfl⟩⟩))
    go_meet
    case rel => exact ⟨_, (((b1.length : Int) != (b2.length : Int))), (by first | rfl | (simp; done) | (simp [*]; done)), H', ⟨by first | omega | exact Nat.le_refl _⟩, ⟨by (with_reducible repeat (first | refine zac_ ?_ _ | refine zaf_ ?_ | refine zad_ ?_ _)); exact a8.out⟩, ⟨by (with_reducible repeat (first | refine zac_ ?_ _ | refine zaf_ ?_ | refine zad_ ?_ _)); exact b0.out⟩, ⟨by repeat (first | (with_reducible first | exact HB.out | apply zah_ | apply zae_ | apply zag_ | refine zai_ ?_ d7.out | refine zai_ ?_ d8.out) | exact HB.out)⟩⟩
  clear HC3
  obtain ⟨kq, g6, rfl, HA, w6, a8, b0, HB⟩ := hcut
  cases kq with
  | zero => exact absurd HA.out (by simp [zaP_.j0])
  | succ w7 => ?_
  have H := HA.out
  clear HA
  simp only [zaP_.j0] at H
  by_cases p1 : g6 = true
  · subst p1
    rw [if_pos rfl] at H
    obtain rfl := Option.some.inj H
    go_wp2
    go_ret
    exact ⟨by first | rfl | (simp [zal_, zak_] <;> rfl) | (simp [*, zal_, zak_] <;> rfl), HB.out⟩
  replace p1 := Bool.eq_false_iff.mpr p1
  subst p1
  rw [if_neg (show ¬ (false = true) by decide)] at H
  have H' := Aside0.mk H
  clear H
  go_wp2
  go_loopg [5] w7 (fun kq v5 w' => ∃ (a9 : Int), v5 = .int .i64 a9 ∧ Aside0 (zaP_.l0 kq a9 b7 b5 b6 b1 c0 b8 b9 b2 = some r) ∧ Aside0 (kq ≤ w7) ∧ Aside0 (w'.heap[b3]? = some (.cells #[.int .i64 b7, (.slice c5 b5.length c7), (.slice c8 b6.length c9), (.slice d1 b1.length d0)] 37 (0, 0))) ∧ Aside0 (w'.heap[b4]? = some (.cells #[.int .i64 c0, (.slice d2 b8.length d3), (.slice d4 b9.length d5), (.slice e7 b2.length d6)] 37 (0, 0))) ∧ Aside0 (Below w.heap.size w w'))
  case atStart => exact ⟨(0), (by first | rfl | (simp; done) | (simp [*]; done)), H', ⟨Nat.le_refl _⟩, ⟨a8.out⟩, ⟨b0.out⟩, ⟨HB.out⟩⟩
  clear H'
  obtain ⟨a9, rfl, HA, w8, a8, b0, HB⟩ := hrel
  cases gk with
  | zero => exact absurd HA.out (by simp [zaP_.l0])
  | succ k2 => ?_
  have H := HA.out
  clear HA
  simp only [zaP_.l0] at H
  by_cases j3 : a9 < (b1.length : Int)
  rotate_left
  · rw [if_neg j3] at H
    have j7 : decide (a9 < (b1.length : Int)) = false := decide_eq_false j3
    clear j3
    obtain rfl := Option.some.inj H
    have hnb25 := c1.out
    have hnc25 := c2.out
    have p2 : wr.cell? ⟨b3, 0, none⟩ = some (.int .i64 b7) := (zab_ a8.out 0).trans rfl
    have p3 : wr.cell? ⟨b3, 1, none⟩ = some (.slice c5 b5.length c7) := (zab_ a8.out 1).trans rfl
    have p4 : wr.cell? ⟨b3, 2, none⟩ = some (.slice c8 b6.length c9) := (zab_ a8.out 2).trans rfl
    have p5 : wr.cell? ⟨b3, 3, none⟩ = some (.slice d1 b1.length d0) := (zab_ a8.out 3).trans rfl
    have p6 := zaa_ a8.out 0
    have p7 := zaa_ a8.out 1
    have p8 := zaa_ a8.out 2
    have p9 := zaa_ a8.out 3
    go_wp2
    go_ret
    exact ⟨by first | rfl | (simp [zal_, zak_] <;> rfl) | (simp [*, zal_, zak_] <;> rfl), HB.out⟩
  rw [if_pos j3] at H
  have j7 : decide (a9 < (b1.length : Int)) = true := decide_eq_true j3
  clear j3
  by_cases q0 : 0 ≤ a9
  rotate_left
  · rw [if_neg q0] at H
    exact absurd H (by simp)
  rw [if_pos q0] at H
  have w9 : decide (0 ≤ a9) = true := decide_eq_true q0
  clear q0
  by_cases q1 : a9 < (b2.length : Int)
  rotate_left
  · rw [if_neg q1] at H
    exact absurd H (by simp)
  rw [if_pos q1] at H
  have x0 : decide (a9 < (b2.length : Int)) = true := decide_eq_true q1
  clear q1
  replace H := Option.bind_eq_some_iff.mp H
  obtain ⟨g9, j8, H⟩ := H
  replace H : (if g9 = true then (zaP_.l0 k2 (wrap64 (a9 + 1)) b7 b5 b6 b1 c0 b8 b9 b2) else (some false)) = some r := H
  have x1 := Aside0.mk j8
  clear j8
  by_cases q2 : g9 = true
  rotate_left
  · replace q2 := Bool.eq_false_iff.mpr q2
    subst q2
    rw [if_neg (show ¬ (false = true) by decide)] at H
    obtain rfl := Option.some.inj H
    have hnb31 := c1.out
    have hnc31 := c2.out
    have q3 : wr.cell? ⟨b3, 0, none⟩ = some (.int .i64 b7) := (zab_ a8.out 0).trans rfl
    have q4 : wr.cell? ⟨b3, 1, none⟩ = some (.slice c5 b5.length c7) := (zab_ a8.out 1).trans rfl
    have q5 : wr.cell? ⟨b3, 2, none⟩ = some (.slice c8 b6.length c9) := (zab_ a8.out 2).trans rfl
    have q6 : wr.cell? ⟨b3, 3, none⟩ = some (.slice d1 b1.length d0) := (zab_ a8.out 3).trans rfl
    have q7 := zaa_ a8.out 0
    have q8 := zaa_ a8.out 1
    have q9 := zaa_ a8.out 2
    have r0 := zaa_ a8.out 3
    try go_wp2
    have e9 := Aside0.mk (zaf_ a8.out)
    have g0 := Aside0.mk (zaf_ b0.out)
    have g1 := Aside0.mk (zag_ HB.out)
    clear a8
    clear b0
    clear HB
    have a8 := e9
    have b0 := g0
    have HB := g1
    clear e9 g0 g1
    have g2 : 0 ≤ (a9 : Int) := of_decide_eq_true (by first | (with_reducible assumption) | assumption)
    have g3 : a9 < (b1.length : Int) := of_decide_eq_true (by first | (with_reducible assumption) | assumption)
    obtain ⟨ad339, d9, c339_5, e339, hx339_0, hx339_1, hx339_2, hx339_3, hx339_4, hx339_5, hl339_5, hi339_5⟩ := at_T53 HR0_3.out a9 g2 g3
    have hw339_5 := hx339_5
    have hw339_4 := hx339_4
    have hw339_3 := hx339_3
    have hw339_2 := hx339_2
    have hw339_1 := hx339_1
    have hw339_0 := hx339_0
    cases e339
    replace hx339_0 := (HB.out.cell (World.block_lt_of_cell? w _ hx339_0)).trans hx339_0
    replace hx339_1 := (HB.out.cell (World.block_lt_of_cell? w _ hx339_1)).trans hx339_1
    replace hx339_2 := (HB.out.cell (World.block_lt_of_cell? w _ hx339_2)).trans hx339_2
    replace hx339_3 := (HB.out.cell (World.block_lt_of_cell? w _ hx339_3)).trans hx339_3
    replace hx339_4 := (HB.out.cell (World.block_lt_of_cell? w _ hx339_4)).trans hx339_4
    replace hx339_5 := (HB.out.cell (World.block_lt_of_cell? w _ hx339_5)).trans hx339_5
    have HR339_5 := Aside0.mk hi339_5
    have HC339_5 := Aside0.mk hl339_5
    clear hi339_5 hl339_5
    replace g2 := eq_true g2
    replace g3 := eq_true g3
    have g4 : 0 ≤ (a9 : Int) := of_decide_eq_true (by first | (with_reducible assumption) | assumption)
    have g5 : a9 < (b2.length : Int) := of_decide_eq_true (by first | (with_reducible assumption) | assumption)
    obtain ⟨ad340, e0, c340_5, e340, hx340_0, hx340_1, hx340_2, hx340_3, hx340_4, hx340_5, hl340_5, hi340_5⟩ := at_T53 HR1_3.out a9 g4 g5
    have hw340_5 := hx340_5
    have hw340_4 := hx340_4
    have hw340_3 := hx340_3
    have hw340_2 := hx340_2
    have hw340_1 := hx340_1
    have hw340_0 := hx340_0
    cases e340
    replace hx340_0 := (HB.out.cell (World.block_lt_of_cell? w _ hx340_0)).trans hx340_0
    replace hx340_1 := (HB.out.cell (World.block_lt_of_cell? w _ hx340_1)).trans hx340_1
    replace hx340_2 := (HB.out.cell (World.block_lt_of_cell? w _ hx340_2)).trans hx340_2
    replace hx340_3 := (HB.out.cell (World.block_lt_of_cell? w _ hx340_3)).trans hx340_3
    replace hx340_4 := (HB.out.cell (World.block_lt_of_cell? w _ hx340_4)).trans hx340_4
    replace hx340_5 := (HB.out.cell (World.block_lt_of_cell? w _ hx340_5)).trans hx340_5
    have HR340_5 := Aside0.mk hi340_5
    have HC340_5 := Aside0.mk hl340_5
    clear hi340_5 hl340_5
    replace g4 := eq_true g4
    replace g5 := eq_true g5
    refine start_ (n := 12) (S := fun w' => w'.cell? ⟨b3, 0, none⟩ = some (.int .i64 b7) ∧ w'.cell? ⟨b3, 1, none⟩ = some (.slice c5 b5.length c7) ∧ w'.cell? ⟨b3, 2, none⟩ = some (.slice c8 b6.length c9) ∧ w'.cell? ⟨b3, 3, none⟩ = some (.slice (some ad339) b1.length d0) ∧ w'.cell? ⟨b4, 0, none⟩ = some (.int .i64 c0) ∧ w'.cell? ⟨b4, 1, none⟩ = some (.slice d2 b8.length d3) ∧ w'.cell? ⟨b4, 2, none⟩ = some (.slice d4 b9.length d5) ∧ w'.cell? ⟨b4, 3, none⟩ = some (.slice (some ad340) b2.length d6) ∧ w'.cell? (ad339.add ((a9).toNat * 6)) = some (.string ((rd_T53 b1 a9).f0)) ∧ w'.cell? ⟨(ad339.add ((a9).toNat * 6)).block, (ad339.add ((a9).toNat * 6)).off + 1, none⟩ = some (.int .i64 ((rd_T53 b1 a9).f1)) ∧ w'.cell? ⟨(ad339.add ((a9).toNat * 6)).block, (ad339.add ((a9).toNat * 6)).off + 2, none⟩ = some (.int .i64 ((rd_T53 b1 a9).f2)) ∧ w'.cell? ⟨(ad339.add ((a9).toNat * 6)).block, (ad339.add ((a9).toNat * 6)).off + 3, none⟩ = some (.int .i64 ((rd_T53 b1 a9).f3)) ∧ w'.cell? ⟨(ad339.add ((a9).toNat * 6)).block, (ad339.add ((a9).toNat * 6)).off + 4, none⟩ = some (.int .i64 ((rd_T53 b1 a9).f4)) ∧ w'.cell? ⟨(ad339.add ((a9).toNat * 6)).block, (ad339.add ((a9).toNat * 6)).off + 5, none⟩ = some (.slice d9 ((rd_T53 b1 a9).f5).length c339_5) ∧ w'.cell? (ad340.add ((a9).toNat * 6)) = some (.string ((rd_T53 b2 a9).f0)) ∧ w'.cell? ⟨(ad340.add ((a9).toNat * 6)).block, (ad340.add ((a9).toNat * 6)).off + 1, none⟩ = some (.int .i64 ((rd_T53 b2 a9).f1)) ∧ w'.cell? ⟨(ad340.add ((a9).toNat * 6)).block, (ad340.add ((a9).toNat * 6)).off + 2, none⟩ = some (.int .i64 ((rd_T53 b2 a9).f2)) ∧ w'.cell? ⟨(ad340.add ((a9).toNat * 6)).block, (ad340.add ((a9).toNat * 6)).off + 3, none⟩ = some (.int .i64 ((rd_T53 b2 a9).f3)) ∧ w'.cell? ⟨(ad340.add ((a9).toNat * 6)).block, (ad340.add ((a9).toNat * 6)).off + 4, none⟩ = some (.int .i64 ((rd_T53 b2 a9).f4)) ∧ w'.cell? ⟨(ad340.add ((a9).toNat * 6)).block, (ad340.add ((a9).toNat * 6)).off + 5, none⟩ = some (.slice e0 ((rd_T53 b2 a9).f5).length c340_5)) (ds := []) (bs 12 0) (by kernel_rfl) rfl rfl ⟨(zab_ a8.out 0).trans rfl, (zab_ a8.out 1).trans rfl, (zab_ a8.out 2).trans rfl, (zab_ a8.out 3).trans rfl, (zab_ b0.out 0).trans rfl, (zab_ b0.out 1).trans rfl, (zab_ b0.out 2).trans rfl, (zab_ b0.out 3).trans rfl, ((HB.out.cell (World.block_lt_of_cell? w _ hw339_0)).trans hw339_0), ((HB.out.cell (World.block_lt_of_cell? w _ hw339_1)).trans hw339_1), ((HB.out.cell (World.block_lt_of_cell? w _ hw339_2)).trans hw339_2), ((HB.out.cell (World.block_lt_of_cell? w _ hw339_3)).trans hw339_3), ((HB.out.cell (World.block_lt_of_cell? w _ hw339_4)).trans hw339_4), ((HB.out.cell (World.block_lt_of_cell? w _ hw339_5)).trans hw339_5), ((HB.out.cell (World.block_lt_of_cell? w _ hw340_0)).trans hw340_0), ((HB.out.cell (World.block_lt_of_cell? w _ hw340_1)).trans hw340_1), ((HB.out.cell (World.block_lt_of_cell? w _ hw340_2)).trans hw340_2), ((HB.out.cell (World.block_lt_of_cell? w _ hw340_3)).trans hw340_3), ((HB.out.cell (World.block_lt_of_cell? w _ hw340_4)).trans hw340_4), ((HB.out.cell (World.block_lt_of_cell? w _ hw340_5)).trans hw340_5)⟩ (fun hHeld => ?_); refine zbv_ zaP_.tab6 zaP_.bits6 (fun HT_ HW_ => ?_)
    generalize wr.drew = x3 at a8 b0 HB HR339_5 HR340_5 hx339_0 hx339_1 hx339_2 hx339_3 hx339_4 hx339_5 hx340_0 hx340_1 hx340_2 hx340_3 hx340_4 hx340_5 hHeld ⊢
    refine pure_ (i := 0) (N := some 43) (v := ?_) (a' := ?_) (bs 12 1) rfl rfl (any_of HT_.out (by kernel_rfl)) (fun _ _ _ h => h) (Or.inl ⟨by rfl, ?_⟩) ?_ ?_
    rotate_left
    · intro w'
      go_simp
      with_reducible rfl
    rotate_left
    · simp only [Act.put, List.setIfInBounds_toArray, List.set_cons_zero, List.set_cons_succ, i64_w, i32_w]
      rfl
    refine pure_ (i := 2) (N := some 45) (v := ?_) (a' := ?_) (bs 12 5) rfl rfl (any_of HT_.out (by kernel_rfl)) (fun _ _ _ h => h) (Or.inl ⟨by rfl, ?_⟩) ?_ ?_
    rotate_left
    · intro w'
      go_simp
      with_reducible rfl
    rotate_left
    · simp only [Act.put, List.setIfInBounds_toArray, List.set_cons_zero, List.set_cons_succ, i64_w, i32_w]
      rfl
    refine pure_ (i := 5) (N := some 48) (v := ?_) (a' := ?_) (bs 12 37) rfl rfl (any_of HT_.out (by kernel_rfl)) (fun _ _ _ h => h) (Or.inl ⟨by rfl, ?_⟩) ?_ ?_
    rotate_left
    · intro w'
      go_simp
      with_reducible rfl
    rotate_left
    · simp only [Act.put, List.setIfInBounds_toArray, List.set_cons_zero, List.set_cons_succ, i64_w, i32_w]
      rfl
    refine pure_ (i := 7) (N := some 50) (v := ?_) (a' := ?_) (bs 12 165) rfl rfl (any_of HT_.out (by kernel_rfl)) (fun _ _ _ h => h) (Or.inl ⟨by rfl, ?_⟩) ?_ ?_
    rotate_left
    · intro w'
      go_simp
      with_reducible rfl
    rotate_left
    · simp only [Act.put, List.setIfInBounds_toArray, List.set_cons_zero, List.set_cons_succ, i64_w, i32_w]
      rfl
    refine take_ (i := 1) (N := some 44) (v := ?_) (a' := ?_) (bs 12 167) rfl rfl (zaT_ HT_.out HW_.out (by kernel_rfl)) (fun _ _ _ h => h) (Or.inl ⟨by rfl, ?_⟩) hHeld ?_ ?_
    rotate_left
    · rintro w' ⟨s0, s1, s2, s3, s4, s5, s6, s7, s8, s9, s10, s11, s12, s13, s14, s15, s16, s17, s18, s19⟩
      go_simp
      with_reducible rfl
    rotate_left
    · simp only [Act.put, List.setIfInBounds_toArray, List.set_cons_zero, List.set_cons_succ, i64_w, i32_w]
      rfl
    refine pure_ (i := 3) (N := some 46) (v := ?_) (a' := ?_) (bs 12 175) rfl rfl (any_of HT_.out (by kernel_rfl)) (fun _ _ _ h => h) (Or.inl ⟨by rfl, ?_⟩) ?_ ?_
    rotate_left
    · intro w'
      go_simp
      with_reducible rfl
    rotate_left
    · simp only [Act.put, List.setIfInBounds_toArray, List.set_cons_zero, List.set_cons_succ, i64_w, i32_w]
      rfl
    refine take_ (i := 4) (N := some 47) (v := ?_) (a' := ?_) (bs 12 191) rfl rfl (zaT_ HT_.out HW_.out (by kernel_rfl)) (fun _ _ _ h => h) (Or.inl ⟨by rfl, ?_⟩) hHeld ?_ ?_
    rotate_left
    · rintro w' ⟨s0, s1, s2, s3, s4, s5, s6, s7, s8, s9, s10, s11, s12, s13, s14, s15, s16, s17, s18, s19⟩
      go_simp
      with_reducible rfl
    rotate_left
    · simp only [Act.put, List.setIfInBounds_toArray, List.set_cons_zero, List.set_cons_succ, i64_w, i32_w]
      rfl
    refine take_ (i := 6) (N := some 49) (v := ?_) (a' := ?_) (bs 12 255) rfl rfl (zaT_ HT_.out HW_.out (by kernel_rfl)) (fun _ _ _ h => h) (Or.inl ⟨by rfl, ?_⟩) hHeld ?_ ?_
    rotate_left
    · rintro w' ⟨s0, s1, s2, s3, s4, s5, s6, s7, s8, s9, s10, s11, s12, s13, s14, s15, s16, s17, s18, s19⟩
      go_simp
      with_reducible rfl
    rotate_left
    · simp only [Act.put, List.setIfInBounds_toArray, List.set_cons_zero, List.set_cons_succ, i64_w, i32_w]
      rfl
    refine pure_ (i := 8) (N := some 51) (v := ?_) (a' := ?_) (bs 12 511) rfl rfl (any_of HT_.out (by kernel_rfl)) (fun _ _ _ h => h) (Or.inl ⟨by rfl, ?_⟩) ?_ ?_
    rotate_left
    · intro w'
      go_simp
      with_reducible rfl
    rotate_left
    · simp only [Act.put, List.setIfInBounds_toArray, List.set_cons_zero, List.set_cons_succ, i64_w, i32_w]
      rfl
    refine take_ (i := 9) (N := some 52) (v := ?_) (a' := ?_) (bs 12 1023) rfl rfl (zaT_ HT_.out HW_.out (by kernel_rfl)) (fun _ _ _ h => h) (Or.inl ⟨by rfl, ?_⟩) hHeld ?_ ?_
    rotate_left
    · rintro w' ⟨s0, s1, s2, s3, s4, s5, s6, s7, s8, s9, s10, s11, s12, s13, s14, s15, s16, s17, s18, s19⟩
      go_simp
      with_reducible rfl
    rotate_left
    · simp only [Act.put, List.setIfInBounds_toArray, List.set_cons_zero, List.set_cons_succ, i64_w, i32_w]
      rfl
    refine one_ (i := 10) (N := some 53) (bs 12 2047) rfl rfl (one_of HT_.out (by kernel_rfl)) (by decide) (fun K hK => ?_)
    refine goes_ Tryd.func44 (by kernel_rfl) rfl #[.agg #[.string ((rd_T53 b1 a9).f0), .int .i64 ((rd_T53 b1 a9).f1), .int .i64 ((rd_T53 b1 a9).f2), .int .i64 ((rd_T53 b1 a9).f3), .int .i64 ((rd_T53 b1 a9).f4), .slice d9 ((rd_T53 b1 a9).f5).length c339_5], .agg #[.string ((rd_T53 b2 a9).f0), .int .i64 ((rd_T53 b2 a9).f1), .int .i64 ((rd_T53 b2 a9).f2), .int .i64 ((rd_T53 b2 a9).f3), .int .i64 ((rd_T53 b2 a9).f4), .slice e0 ((rd_T53 b2 a9).f5).length c340_5]] (by rfl) rfl rfl (by (try simp only [List.map_toArray, List.map_cons, List.map_nil]); first | done | rfl | (simp only [List.length_drop, List.length_take]; rfl)) ?_
    with_reducible refine (zaz_.calls k2 ((rd_T53 b1 a9).f0) ((rd_T53 b1 a9).f1) ((rd_T53 b1 a9).f2) ((rd_T53 b1 a9).f3) ((rd_T53 b1 a9).f4) _ _ ((rd_T53 b1 a9).f5) ((rd_T53 b2 a9).f0) ((rd_T53 b2 a9).f1) ((rd_T53 b2 a9).f2) ((rd_T53 b2 a9).f3) ((rd_T53 b2 a9).f4) _ _ ((rd_T53 b2 a9).f5) false _ ?side1 ?side2 ?side3 ?side4 x1.out).mono ?_
    (case side1 => repeat (first | exact (Kd.zaB_ HR339_5.out HB.out) | (with_reducible refine Kd.zaI_ ?_ _) | (with_reducible refine Kd.zaJ_ ?_ _) | (with_reducible refine Kd.C_drew ?_)))
    (case side2 => exact HC339_5.out)
    (case side3 => repeat (first | exact (Kd.zaB_ HR340_5.out HB.out) | (with_reducible refine Kd.zaI_ ?_ _) | (with_reducible refine Kd.zaJ_ ?_ _) | (with_reducible refine Kd.C_drew ?_)))
    (case side4 => exact HC340_5.out)
    rintro e x4 ⟨rfl, hb⟩
    refine ⟨_, rfl, ?_⟩
    have e9 := Aside0.mk (zan_ a8.out hb)
    have g0 := Aside0.mk (zan_ b0.out hb)
    have g1 := Aside0.mk (zaj_ (HB.out) hb)
    clear a8
    clear b0
    clear HB
    have a8 := e9
    have b0 := g0
    have HB := g1
    clear e9 g0 g1
    refine hK.out _ _ ⟨(zab_ a8.out 0).trans rfl, (zab_ a8.out 1).trans rfl, (zab_ a8.out 2).trans rfl, (zab_ a8.out 3).trans rfl, (zab_ b0.out 0).trans rfl, (zab_ b0.out 1).trans rfl, (zab_ b0.out 2).trans rfl, (zab_ b0.out 3).trans rfl, ((HB.out.cell (World.block_lt_of_cell? w _ hw339_0)).trans hw339_0), ((HB.out.cell (World.block_lt_of_cell? w _ hw339_1)).trans hw339_1), ((HB.out.cell (World.block_lt_of_cell? w _ hw339_2)).trans hw339_2), ((HB.out.cell (World.block_lt_of_cell? w _ hw339_3)).trans hw339_3), ((HB.out.cell (World.block_lt_of_cell? w _ hw339_4)).trans hw339_4), ((HB.out.cell (World.block_lt_of_cell? w _ hw339_5)).trans hw339_5), ((HB.out.cell (World.block_lt_of_cell? w _ hw340_0)).trans hw340_0), ((HB.out.cell (World.block_lt_of_cell? w _ hw340_1)).trans hw340_1), ((HB.out.cell (World.block_lt_of_cell? w _ hw340_2)).trans hw340_2), ((HB.out.cell (World.block_lt_of_cell? w _ hw340_3)).trans hw340_3), ((HB.out.cell (World.block_lt_of_cell? w _ hw340_4)).trans hw340_4), ((HB.out.cell (World.block_lt_of_cell? w _ hw340_5)).trans hw340_5)⟩ (fun hHeld => ?_)
    clear hK K
    refine norm_ (a' := ?_) ?_ ?_
    rotate_left
    · show Act.put _ (some 53) _ = _
      simp only [Act.put, List.setIfInBounds_toArray, List.set_cons_zero, List.set_cons_succ, i64_w, i32_w]
      rfl
    refine pure_ (i := 11) (N := some 54) (v := ?_) (a' := ?_) (bs 12 4095) rfl rfl (any_of HT_.out (by kernel_rfl)) (fun _ _ _ h => h) (Or.inl ⟨by rfl, ?_⟩) ?_ ?_
    rotate_left
    · intro w'
      go_simp
      with_reducible rfl
    rotate_left
    · simp only [Act.put, List.setIfInBounds_toArray, List.set_cons_zero, List.set_cons_succ, i64_w, i32_w]
      rfl
    refine done_ (done_of HT_.out (by kernel_rfl)) ?_
    try go_wp2
    go_ret
    exact ⟨by first | rfl | (simp [zal_, zak_] <;> rfl) | (simp [*, zal_, zak_] <;> rfl), HB.out⟩
  subst q2
  rw [if_pos rfl] at H
  have H' := Aside0.mk H
  clear H
  have hnb35 := c1.out
  have hnc35 := c2.out
  have r1 : wr.cell? ⟨b3, 0, none⟩ = some (.int .i64 b7) := (zab_ a8.out 0).trans rfl
  have r2 : wr.cell? ⟨b3, 1, none⟩ = some (.slice c5 b5.length c7) := (zab_ a8.out 1).trans rfl
  have r3 : wr.cell? ⟨b3, 2, none⟩ = some (.slice c8 b6.length c9) := (zab_ a8.out 2).trans rfl
  have r4 : wr.cell? ⟨b3, 3, none⟩ = some (.slice d1 b1.length d0) := (zab_ a8.out 3).trans rfl
  have r5 := zaa_ a8.out 0
  have r6 := zaa_ a8.out 1
  have r7 := zaa_ a8.out 2
  have r8 := zaa_ a8.out 3
  try go_wp2
  have e9 := Aside0.mk (zaf_ a8.out)
  have g0 := Aside0.mk (zaf_ b0.out)
  have g1 := Aside0.mk (zag_ HB.out)
  clear a8
  clear b0
  clear HB
  have a8 := e9
  have b0 := g0
  have HB := g1
  clear e9 g0 g1
  have g2 : 0 ≤ (a9 : Int) := of_decide_eq_true (by first | (with_reducible assumption) | assumption)
  have g3 : a9 < (b1.length : Int) := of_decide_eq_true (by first | (with_reducible assumption) | assumption)
  obtain ⟨ad339, d9, c339_5, e339, hx339_0, hx339_1, hx339_2, hx339_3, hx339_4, hx339_5, hl339_5, hi339_5⟩ := at_T53 HR0_3.out a9 g2 g3
  have hw339_5 := hx339_5
  have hw339_4 := hx339_4
  have hw339_3 := hx339_3
  have hw339_2 := hx339_2
  have hw339_1 := hx339_1
  have hw339_0 := hx339_0
  cases e339
  replace hx339_0 := (HB.out.cell (World.block_lt_of_cell? w _ hx339_0)).trans hx339_0
  replace hx339_1 := (HB.out.cell (World.block_lt_of_cell? w _ hx339_1)).trans hx339_1
  replace hx339_2 := (HB.out.cell (World.block_lt_of_cell? w _ hx339_2)).trans hx339_2
  replace hx339_3 := (HB.out.cell (World.block_lt_of_cell? w _ hx339_3)).trans hx339_3
  replace hx339_4 := (HB.out.cell (World.block_lt_of_cell? w _ hx339_4)).trans hx339_4
  replace hx339_5 := (HB.out.cell (World.block_lt_of_cell? w _ hx339_5)).trans hx339_5
  have HR339_5 := Aside0.mk hi339_5
  have HC339_5 := Aside0.mk hl339_5
  clear hi339_5 hl339_5
  replace g2 := eq_true g2
  replace g3 := eq_true g3
  have g4 : 0 ≤ (a9 : Int) := of_decide_eq_true (by first | (with_reducible assumption) | assumption)
  have g5 : a9 < (b2.length : Int) := of_decide_eq_true (by first | (with_reducible assumption) | assumption)
  obtain ⟨ad340, e0, c340_5, e340, hx340_0, hx340_1, hx340_2, hx340_3, hx340_4, hx340_5, hl340_5, hi340_5⟩ := at_T53 HR1_3.out a9 g4 g5
  have hw340_5 := hx340_5
  have hw340_4 := hx340_4
  have hw340_3 := hx340_3
  have hw340_2 := hx340_2
  have hw340_1 := hx340_1
  have hw340_0 := hx340_0
  cases e340
  replace hx340_0 := (HB.out.cell (World.block_lt_of_cell? w _ hx340_0)).trans hx340_0
  replace hx340_1 := (HB.out.cell (World.block_lt_of_cell? w _ hx340_1)).trans hx340_1
  replace hx340_2 := (HB.out.cell (World.block_lt_of_cell? w _ hx340_2)).trans hx340_2
  replace hx340_3 := (HB.out.cell (World.block_lt_of_cell? w _ hx340_3)).trans hx340_3
  replace hx340_4 := (HB.out.cell (World.block_lt_of_cell? w _ hx340_4)).trans hx340_4
  replace hx340_5 := (HB.out.cell (World.block_lt_of_cell? w _ hx340_5)).trans hx340_5
  have HR340_5 := Aside0.mk hi340_5
  have HC340_5 := Aside0.mk hl340_5
  clear hi340_5 hl340_5
  replace g4 := eq_true g4
  replace g5 := eq_true g5
  refine start_ (n := 12) (S := fun w' => w'.cell? ⟨b3, 0, none⟩ = some (.int .i64 b7) ∧ w'.cell? ⟨b3, 1, none⟩ = some (.slice c5 b5.length c7) ∧ w'.cell? ⟨b3, 2, none⟩ = some (.slice c8 b6.length c9) ∧ w'.cell? ⟨b3, 3, none⟩ = some (.slice (some ad339) b1.length d0) ∧ w'.cell? ⟨b4, 0, none⟩ = some (.int .i64 c0) ∧ w'.cell? ⟨b4, 1, none⟩ = some (.slice d2 b8.length d3) ∧ w'.cell? ⟨b4, 2, none⟩ = some (.slice d4 b9.length d5) ∧ w'.cell? ⟨b4, 3, none⟩ = some (.slice (some ad340) b2.length d6) ∧ w'.cell? (ad339.add ((a9).toNat * 6)) = some (.string ((rd_T53 b1 a9).f0)) ∧ w'.cell? ⟨(ad339.add ((a9).toNat * 6)).block, (ad339.add ((a9).toNat * 6)).off + 1, none⟩ = some (.int .i64 ((rd_T53 b1 a9).f1)) ∧ w'.cell? ⟨(ad339.add ((a9).toNat * 6)).block, (ad339.add ((a9).toNat * 6)).off + 2, none⟩ = some (.int .i64 ((rd_T53 b1 a9).f2)) ∧ w'.cell? ⟨(ad339.add ((a9).toNat * 6)).block, (ad339.add ((a9).toNat * 6)).off + 3, none⟩ = some (.int .i64 ((rd_T53 b1 a9).f3)) ∧ w'.cell? ⟨(ad339.add ((a9).toNat * 6)).block, (ad339.add ((a9).toNat * 6)).off + 4, none⟩ = some (.int .i64 ((rd_T53 b1 a9).f4)) ∧ w'.cell? ⟨(ad339.add ((a9).toNat * 6)).block, (ad339.add ((a9).toNat * 6)).off + 5, none⟩ = some (.slice d9 ((rd_T53 b1 a9).f5).length c339_5) ∧ w'.cell? (ad340.add ((a9).toNat * 6)) = some (.string ((rd_T53 b2 a9).f0)) ∧ w'.cell? ⟨(ad340.add ((a9).toNat * 6)).block, (ad340.add ((a9).toNat * 6)).off + 1, none⟩ = some (.int .i64 ((rd_T53 b2 a9).f1)) ∧ w'.cell? ⟨(ad340.add ((a9).toNat * 6)).block, (ad340.add ((a9).toNat * 6)).off + 2, none⟩ = some (.int .i64 ((rd_T53 b2 a9).f2)) ∧ w'.cell? ⟨(ad340.add ((a9).toNat * 6)).block, (ad340.add ((a9).toNat * 6)).off + 3, none⟩ = some (.int .i64 ((rd_T53 b2 a9).f3)) ∧ w'.cell? ⟨(ad340.add ((a9).toNat * 6)).block, (ad340.add ((a9).toNat * 6)).off + 4, none⟩ = some (.int .i64 ((rd_T53 b2 a9).f4)) ∧ w'.cell? ⟨(ad340.add ((a9).toNat * 6)).block, (ad340.add ((a9).toNat * 6)).off + 5, none⟩ = some (.slice e0 ((rd_T53 b2 a9).f5).length c340_5)) (ds := []) (bs 12 0) (by kernel_rfl) rfl rfl ⟨(zab_ a8.out 0).trans rfl, (zab_ a8.out 1).trans rfl, (zab_ a8.out 2).trans rfl, (zab_ a8.out 3).trans rfl, (zab_ b0.out 0).trans rfl, (zab_ b0.out 1).trans rfl, (zab_ b0.out 2).trans rfl, (zab_ b0.out 3).trans rfl, ((HB.out.cell (World.block_lt_of_cell? w _ hw339_0)).trans hw339_0), ((HB.out.cell (World.block_lt_of_cell? w _ hw339_1)).trans hw339_1), ((HB.out.cell (World.block_lt_of_cell? w _ hw339_2)).trans hw339_2), ((HB.out.cell (World.block_lt_of_cell? w _ hw339_3)).trans hw339_3), ((HB.out.cell (World.block_lt_of_cell? w _ hw339_4)).trans hw339_4), ((HB.out.cell (World.block_lt_of_cell? w _ hw339_5)).trans hw339_5), ((HB.out.cell (World.block_lt_of_cell? w _ hw340_0)).trans hw340_0), ((HB.out.cell (World.block_lt_of_cell? w _ hw340_1)).trans hw340_1), ((HB.out.cell (World.block_lt_of_cell? w _ hw340_2)).trans hw340_2), ((HB.out.cell (World.block_lt_of_cell? w _ hw340_3)).trans hw340_3), ((HB.out.cell (World.block_lt_of_cell? w _ hw340_4)).trans hw340_4), ((HB.out.cell (World.block_lt_of_cell? w _ hw340_5)).trans hw340_5)⟩ (fun hHeld => ?_); refine zbv_ zaP_.tab6 zaP_.bits6 (fun HT_ HW_ => ?_)
  generalize wr.drew = x6 at a8 b0 HB HR339_5 HR340_5 hx339_0 hx339_1 hx339_2 hx339_3 hx339_4 hx339_5 hx340_0 hx340_1 hx340_2 hx340_3 hx340_4 hx340_5 hHeld ⊢
  refine pure_ (i := 0) (N := some 43) (v := ?_) (a' := ?_) (bs 12 1) rfl rfl (any_of HT_.out (by kernel_rfl)) (fun _ _ _ h => h) (Or.inl ⟨by rfl, ?_⟩) ?_ ?_
  rotate_left
  · intro w'
    go_simp
    with_reducible rfl
  rotate_left
  · simp only [Act.put, List.setIfInBounds_toArray, List.set_cons_zero, List.set_cons_succ, i64_w, i32_w]
    rfl
  refine pure_ (i := 2) (N := some 45) (v := ?_) (a' := ?_) (bs 12 5) rfl rfl (any_of HT_.out (by kernel_rfl)) (fun _ _ _ h => h) (Or.inl ⟨by rfl, ?_⟩) ?_ ?_
  rotate_left
  · intro w'
    go_simp
    with_reducible rfl
  rotate_left
  · simp only [Act.put, List.setIfInBounds_toArray, List.set_cons_zero, List.set_cons_succ, i64_w, i32_w]
    rfl
  refine pure_ (i := 5) (N := some 48) (v := ?_) (a' := ?_) (bs 12 37) rfl rfl (any_of HT_.out (by kernel_rfl)) (fun _ _ _ h => h) (Or.inl ⟨by rfl, ?_⟩) ?_ ?_
  rotate_left
  · intro w'
    go_simp
    with_reducible rfl
  rotate_left
  · simp only [Act.put, List.setIfInBounds_toArray, List.set_cons_zero, List.set_cons_succ, i64_w, i32_w]
    rfl
  refine pure_ (i := 7) (N := some 50) (v := ?_) (a' := ?_) (bs 12 165) rfl rfl (any_of HT_.out (by kernel_rfl)) (fun _ _ _ h => h) (Or.inl ⟨by rfl, ?_⟩) ?_ ?_
  rotate_left
  · intro w'
    go_simp
    with_reducible rfl
  rotate_left
  · simp only [Act.put, List.setIfInBounds_toArray, List.set_cons_zero, List.set_cons_succ, i64_w, i32_w]
    rfl
  refine take_ (i := 1) (N := some 44) (v := ?_) (a' := ?_) (bs 12 167) rfl rfl (zaT_ HT_.out HW_.out (by kernel_rfl)) (fun _ _ _ h => h) (Or.inl ⟨by rfl, ?_⟩) hHeld ?_ ?_
  rotate_left
  · rintro w' ⟨s0, s1, s2, s3, s4, s5, s6, s7, s8, s9, s10, s11, s12, s13, s14, s15, s16, s17, s18, s19⟩
    go_simp
    with_reducible rfl
  rotate_left
  · simp only [Act.put, List.setIfInBounds_toArray, List.set_cons_zero, List.set_cons_succ, i64_w, i32_w]
    rfl
  refine pure_ (i := 3) (N := some 46) (v := ?_) (a' := ?_) (bs 12 175) rfl rfl (any_of HT_.out (by kernel_rfl)) (fun _ _ _ h => h) (Or.inl ⟨by rfl, ?_⟩) ?_ ?_
  rotate_left
  · intro w'
    go_simp
    with_reducible rfl
  rotate_left
  · simp only [Act.put, List.setIfInBounds_toArray, List.set_cons_zero, List.set_cons_succ, i64_w, i32_w]
    rfl
  refine take_ (i := 4) (N := some 47) (v := ?_) (a' := ?_) (bs 12 191) rfl rfl (zaT_ HT_.out HW_.out (by kernel_rfl)) (fun _ _ _ h => h) (Or.inl ⟨by rfl, ?_⟩) hHeld ?_ ?_
  rotate_left
  · rintro w' ⟨s0, s1, s2, s3, s4, s5, s6, s7, s8, s9, s10, s11, s12, s13, s14, s15, s16, s17, s18, s19⟩
    go_simp
    with_reducible rfl
  rotate_left
  · simp only [Act.put, List.setIfInBounds_toArray, List.set_cons_zero, List.set_cons_succ, i64_w, i32_w]
    rfl
  refine take_ (i := 6) (N := some 49) (v := ?_) (a' := ?_) (bs 12 255) rfl rfl (zaT_ HT_.out HW_.out (by kernel_rfl)) (fun _ _ _ h => h) (Or.inl ⟨by rfl, ?_⟩) hHeld ?_ ?_
  rotate_left
  · rintro w' ⟨s0, s1, s2, s3, s4, s5, s6, s7, s8, s9, s10, s11, s12, s13, s14, s15, s16, s17, s18, s19⟩
    go_simp
    with_reducible rfl
  rotate_left
  · simp only [Act.put, List.setIfInBounds_toArray, List.set_cons_zero, List.set_cons_succ, i64_w, i32_w]
    rfl
  refine pure_ (i := 8) (N := some 51) (v := ?_) (a' := ?_) (bs 12 511) rfl rfl (any_of HT_.out (by kernel_rfl)) (fun _ _ _ h => h) (Or.inl ⟨by rfl, ?_⟩) ?_ ?_
  rotate_left
  · intro w'
    go_simp
    with_reducible rfl
  rotate_left
  · simp only [Act.put, List.setIfInBounds_toArray, List.set_cons_zero, List.set_cons_succ, i64_w, i32_w]
    rfl
  refine take_ (i := 9) (N := some 52) (v := ?_) (a' := ?_) (bs 12 1023) rfl rfl (zaT_ HT_.out HW_.out (by kernel_rfl)) (fun _ _ _ h => h) (Or.inl ⟨by rfl, ?_⟩) hHeld ?_ ?_
  rotate_left
  · rintro w' ⟨s0, s1, s2, s3, s4, s5, s6, s7, s8, s9, s10, s11, s12, s13, s14, s15, s16, s17, s18, s19⟩
    go_simp
    with_reducible rfl
  rotate_left
  · simp only [Act.put, List.setIfInBounds_toArray, List.set_cons_zero, List.set_cons_succ, i64_w, i32_w]
    rfl
  refine one_ (i := 10) (N := some 53) (bs 12 2047) rfl rfl (one_of HT_.out (by kernel_rfl)) (by decide) (fun K hK => ?_)
  refine goes_ Tryd.func44 (by kernel_rfl) rfl #[.agg #[.string ((rd_T53 b1 a9).f0), .int .i64 ((rd_T53 b1 a9).f1), .int .i64 ((rd_T53 b1 a9).f2), .int .i64 ((rd_T53 b1 a9).f3), .int .i64 ((rd_T53 b1 a9).f4), .slice d9 ((rd_T53 b1 a9).f5).length c339_5], .agg #[.string ((rd_T53 b2 a9).f0), .int .i64 ((rd_T53 b2 a9).f1), .int .i64 ((rd_T53 b2 a9).f2), .int .i64 ((rd_T53 b2 a9).f3), .int .i64 ((rd_T53 b2 a9).f4), .slice e0 ((rd_T53 b2 a9).f5).length c340_5]] (by rfl) rfl rfl (by (try simp only [List.map_toArray, List.map_cons, List.map_nil]); first | done | rfl | (simp only [List.length_drop, List.length_take]; rfl)) ?_
  with_reducible refine (zaz_.calls k2 ((rd_T53 b1 a9).f0) ((rd_T53 b1 a9).f1) ((rd_T53 b1 a9).f2) ((rd_T53 b1 a9).f3) ((rd_T53 b1 a9).f4) _ _ ((rd_T53 b1 a9).f5) ((rd_T53 b2 a9).f0) ((rd_T53 b2 a9).f1) ((rd_T53 b2 a9).f2) ((rd_T53 b2 a9).f3) ((rd_T53 b2 a9).f4) _ _ ((rd_T53 b2 a9).f5) true _ ?side1 ?side2 ?side3 ?side4 x1.out).mono ?_
  (case side1 => repeat (first | exact (Kd.zaB_ HR339_5.out HB.out) | (with_reducible refine Kd.zaI_ ?_ _) | (with_reducible refine Kd.zaJ_ ?_ _) | (with_reducible refine Kd.C_drew ?_)))
  (case side2 => exact HC339_5.out)
  (case side3 => repeat (first | exact (Kd.zaB_ HR340_5.out HB.out) | (with_reducible refine Kd.zaI_ ?_ _) | (with_reducible refine Kd.zaJ_ ?_ _) | (with_reducible refine Kd.C_drew ?_)))
  (case side4 => exact HC340_5.out)
  rintro e x7 ⟨rfl, hb⟩
  refine ⟨_, rfl, ?_⟩
  have e9 := Aside0.mk (zan_ a8.out hb)
  have g0 := Aside0.mk (zan_ b0.out hb)
  have g1 := Aside0.mk (zaj_ (HB.out) hb)
  clear a8
  clear b0
  clear HB
  have a8 := e9
  have b0 := g0
  have HB := g1
  clear e9 g0 g1
  refine hK.out _ _ ⟨(zab_ a8.out 0).trans rfl, (zab_ a8.out 1).trans rfl, (zab_ a8.out 2).trans rfl, (zab_ a8.out 3).trans rfl, (zab_ b0.out 0).trans rfl, (zab_ b0.out 1).trans rfl, (zab_ b0.out 2).trans rfl, (zab_ b0.out 3).trans rfl, ((HB.out.cell (World.block_lt_of_cell? w _ hw339_0)).trans hw339_0), ((HB.out.cell (World.block_lt_of_cell? w _ hw339_1)).trans hw339_1), ((HB.out.cell (World.block_lt_of_cell? w _ hw339_2)).trans hw339_2), ((HB.out.cell (World.block_lt_of_cell? w _ hw339_3)).trans hw339_3), ((HB.out.cell (World.block_lt_of_cell? w _ hw339_4)).trans hw339_4), ((HB.out.cell (World.block_lt_of_cell? w _ hw339_5)).trans hw339_5), ((HB.out.cell (World.block_lt_of_cell? w _ hw340_0)).trans hw340_0), ((HB.out.cell (World.block_lt_of_cell? w _ hw340_1)).trans hw340_1), ((HB.out.cell (World.block_lt_of_cell? w _ hw340_2)).trans hw340_2), ((HB.out.cell (World.block_lt_of_cell? w _ hw340_3)).trans hw340_3), ((HB.out.cell (World.block_lt_of_cell? w _ hw340_4)).trans hw340_4), ((HB.out.cell (World.block_lt_of_cell? w _ hw340_5)).trans hw340_5)⟩ (fun hHeld => ?_)
  clear hK K
  refine norm_ (a' := ?_) ?_ ?_
  rotate_left
  · show Act.put _ (some 53) _ = _
    simp only [Act.put, List.setIfInBounds_toArray, List.set_cons_zero, List.set_cons_succ, i64_w, i32_w]
    rfl
  refine pure_ (i := 11) (N := some 54) (v := ?_) (a' := ?_) (bs 12 4095) rfl rfl (any_of HT_.out (by kernel_rfl)) (fun _ _ _ h => h) (Or.inl ⟨by rfl, ?_⟩) ?_ ?_
  rotate_left
  · intro w'
    go_simp
    with_reducible rfl
  rotate_left
  · simp only [Act.put, List.setIfInBounds_toArray, List.set_cons_zero, List.set_cons_succ, i64_w, i32_w]
    rfl
  refine done_ (done_of HT_.out (by kernel_rfl)) ?_
  try go_wp2
  go_roundg k2
  case measure => have := w6.out; have := w8.out; omega
  case rel => exact ⟨(wrap64 (a9 + 1)), (by first | rfl | (simp; done) | (simp [*]; done)), H', ⟨by have := w6.out; have := w8.out; omega⟩, ⟨a8.out⟩, ⟨b0.out⟩, ⟨HB.out⟩⟩
end Go.Proofs.YtgkjoodlcojkkaaDoor.QD
end
section
namespace Go.Proofs.YtgkjoodlcojkkaaDoor.Y
open Go.RowKit Go.Proofs.YtgkjoodlcojkkaaDoorW.PrintWords Go.Proofs.YtgkjoodlcojkkaaDoorW.PrintLast Go.Proofs.YtgkjoodlcojkkaaDoorW.PrintMore Go.Proofs.YtgkjoodlcojkkaaDoor.QD
set_option linter.unusedVariables false
set_option linter.unusedSimpArgs false
theorem sameInts_loop (l : List Int) (hl : l.length < 1000000) : ∀ (d i k : Nat), i + d = l.length → d < k → zaK_.l0 k l l (i : Int) = some true
  | _, _, 0, _, hk => by omega
  | 0, i, k + 1, h, _ => by
    unfold zaK_.l0
    rw [if_neg (by omega)]
  | d + 1, i, k + 1, h, hk => by
    unfold zaK_.l0
    rw [if_pos (by omega), if_pos (by omega), if_pos (by omega), if_pos rfl, w64s i (by omega)]
    exact sameInts_loop l hl d (i + 1) k (by omega) (by omega)
theorem sameInts_refl (l : List Int) (hl : l.length < 1000000) (k : Nat) (hk : l.length < k) : zaK_.f k l l = some true := by
  unfold zaK_.f
  rw [if_pos rfl]
  exact sameInts_loop l hl l.length 0 k (by omega) hk
theorem sameTask_loop (t : S53) (hl : t.f5.length < 1000000) : ∀ (d i k : Nat), i + d = t.f5.length → d < k → zaz_.l0 k (i : Int) t.f0 t.f1 t.f2 t.f3 t.f4 t.f5 t.f0 t.f1 t.f2 t.f3 t.f4 t.f5 = some true
  | _, _, 0, _, hk => by omega
  | 0, i, k + 1, h, _ => by
    unfold zaz_.l0
    rw [if_neg (by omega)]
  | d + 1, i, k + 1, h, hk => by
    unfold zaz_.l0
    rw [if_pos (by omega), if_pos (by omega), if_pos (by omega), if_neg (by simp), w64s i (by omega)]
    exact sameTask_loop t hl d (i + 1) k (by omega) (by omega)
theorem sameTask_refl (t : S53) (hl : t.f5.length < 1000000) (k : Nat) (hk : t.f5.length + 1 < k) : zaz_.f k t.f0 t.f1 t.f2 t.f3 t.f4 t.f5 t.f0 t.f1 t.f2 t.f3 t.f4 t.f5 = some true := by
  unfold zaz_.f
  rw [if_pos rfl, if_pos rfl, if_pos rfl, if_pos rfl, if_pos rfl]
  obtain ⟨k', rfl⟩ : ∃ k', k = k' + 1 := ⟨k - 1, by omega⟩
  rw [zaz_.j0, if_neg (by simp)]
  exact sameTask_loop t hl t.f5.length 0 k' (by omega) (by omega)
theorem sameS_loop (p : Int) (cs hs : List Int) (ts : List S53) (hl : ts.length < 1000000) (m : Nat) (hm : m < 1000000) (hb : ∀ t ∈ ts, t.f5.length + 1 < m) : ∀ (d i k : Nat), i + d = ts.length → d + m < k → zaP_.l0 k (i : Int) p cs hs ts p cs hs ts = some true
  | _, _, 0, _, hk => by omega
  | 0, i, k + 1, h, _ => by
    unfold zaP_.l0
    rw [if_neg (by omega)]
  | d + 1, i, k + 1, h, hk => by
    have hi : i < ts.length := by omega
    have hb' := hb _ (List.getElem_mem hi)
    unfold zaP_.l0
    rw [if_pos (by omega), if_pos (by omega), if_pos (by omega), rd53 ts i hi, sameTask_refl ts[i] (by omega) k (by omega), Option.bind_some, if_pos rfl, w64s i (by omega)]
    exact sameS_loop p cs hs ts hl m hm hb d (i + 1) k (by omega) (by omega)
theorem same_refl (p : Int) (cs hs : List Int) (ts : List S53) (hc : cs.length < 1000) (hh : hs.length < 1000) (hl : ts.length < 1000) (hb : ∀ t ∈ ts, t.f5.length < 1000) (k : Nat) (hk : 3000 < k) : zaP_.f k p cs hs ts p cs hs ts = some true := by
  unfold zaP_.f
  rw [if_pos rfl, sameInts_refl cs (by omega) k (by omega), Option.bind_some, if_pos rfl, sameInts_refl hs (by omega) k (by omega), Option.bind_some, if_pos rfl]
  obtain ⟨k', rfl⟩ : ∃ k', k = k' + 1 := ⟨k - 1, by omega⟩
  rw [zaP_.j0, if_neg (by simp)]
  exact sameS_loop p cs hs ts (by omega) 1002 (by omega) (fun t ht => by have := hb t ht; omega) ts.length 0 k' (by omega) (by omega)
end Go.Proofs.YtgkjoodlcojkkaaDoor.Y
end
section
namespace Go.Proofs.YtgkjoodlcojkkaaDoor.QD
open Go.RowKit Go.Proofs.YtgkjoodlcojkkaaDoorW.PrintWords Go.Proofs.YtgkjoodlcojkkaaDoorW.PrintLast Go.Proofs.YtgkjoodlcojkkaaDoorW.PrintMore
attribute [local go_sem] zbd_ zbe_ zbm_ zbl_ zaW_ zaX_ zbc_ zbb_
set_option linter.unusedVariables false
set_option linter.unusedSimpArgs false
mutual
def zaE_.j0 : Nat → Bool → Int → List Int → List Int → List (S53) → Option (Bool)
  | 0, _, _, _, _, _ => none
  | k + 1, x20, c1, b2, b3, c2 => if x20 = true then (some false) else (zaE_.l0 k 0 c1 b2 b3 c2)
def zaE_.l0 : Nat → Int → Int → List Int → List Int → List (S53) → Option (Bool)
  | 0, _, _, _, _, _ => none
  | k + 1, x3, c1, b2, b3, c2 => if x3 < (b2.length : Int) then (if 0 ≤ x3 then (if (rd b2 x3) < 1 then (some false) else (if (rd b2 x3) > 3 then (some false) else (zaE_.l0 k (wrap64 (x3 + 1)) c1 b2 b3 c2))) else (none)) else (zaE_.l1 k 0 c1 b2 b3 c2)
def zaE_.l1 : Nat → Int → Int → List Int → List Int → List (S53) → Option (Bool)
  | 0, _, _, _, _, _ => none
  | k + 1, x4, c1, b2, b3, c2 => if x4 < (b3.length : Int) then (if 0 ≤ x4 then (if (rd b3 x4) < 0 then (some false) else (if (rd b3 x4) ≥ (b2.length : Int) then (some false) else (zaE_.l1 k (wrap64 (x4 + 1)) c1 b2 b3 c2))) else (none)) else (some true)
end
def zaE_.f (k : Nat) (b1 : Int) (a6 : List Int) (a7 : List Int) (a8 : List (S53)) : Option (Bool) := if (a6.length : Int) < 1 then (zaE_.j0 k true b1 a6 a7 a8) else (if (a6.length : Int) > 3 then (zaE_.j0 k true b1 a6 a7 a8) else (zaE_.j0 k (decide ((a7.length : Int) > 4)) b1 a6 a7 a8))
theorem zaE_.mono_l : ∀ k, (∀ y0 y1 y2 y3 y4, LeO (zaE_.j0 k y0 y1 y2 y3 y4) (zaE_.j0 (k + 1) y0 y1 y2 y3 y4)) ∧ (∀ y0 y1 y2 y3 y4, LeO (zaE_.l0 k y0 y1 y2 y3 y4) (zaE_.l0 (k + 1) y0 y1 y2 y3 y4)) ∧ (∀ y0 y1 y2 y3 y4, LeO (zaE_.l1 k y0 y1 y2 y3 y4) (zaE_.l1 (k + 1) y0 y1 y2 y3 y4))
  | 0 => ⟨fun _ _ _ _ _ r h => by simp [zaE_.j0] at h, fun _ _ _ _ _ r h => by simp [zaE_.l0] at h, fun _ _ _ _ _ r h => by simp [zaE_.l1] at h⟩
  | k + 1 => by
    obtain ⟨ih0, ih1, ih2⟩ := zaE_.mono_l k
    refine ⟨?_, ?_, ?_⟩
    · intro y0 y1 y2 y3 y4
      unfold zaE_.j0
      repeat' first
      | (with_reducible exact ih0 _ _ _ _ _)
      | (with_reducible exact ih1 _ _ _ _ _)
      | (with_reducible exact ih2 _ _ _ _ _)
      | (with_reducible exact LeO.refl _)
      | (with_reducible exact LeO.none _)
      | (with_reducible refine LeO.ite ?_ ?_)
      | (with_reducible refine LeO.bind ?_ (fun _ => ?_))
      | exact ih0 _ _ _ _ _
      | exact ih1 _ _ _ _ _
      | exact ih2 _ _ _ _ _
      | exact LeO.none _
      | refine LeO.ite ?_ ?_
      | refine LeO.bind ?_ (fun _ => ?_)
    · intro y0 y1 y2 y3 y4
      unfold zaE_.l0
      repeat' first
      | (with_reducible exact ih0 _ _ _ _ _)
      | (with_reducible exact ih1 _ _ _ _ _)
      | (with_reducible exact ih2 _ _ _ _ _)
      | (with_reducible exact LeO.refl _)
      | (with_reducible exact LeO.none _)
      | (with_reducible refine LeO.ite ?_ ?_)
      | (with_reducible refine LeO.bind ?_ (fun _ => ?_))
      | exact ih0 _ _ _ _ _
      | exact ih1 _ _ _ _ _
      | exact ih2 _ _ _ _ _
      | exact LeO.none _
      | refine LeO.ite ?_ ?_
      | refine LeO.bind ?_ (fun _ => ?_)
    · intro y0 y1 y2 y3 y4
      unfold zaE_.l1
      repeat' first
      | (with_reducible exact ih0 _ _ _ _ _)
      | (with_reducible exact ih1 _ _ _ _ _)
      | (with_reducible exact ih2 _ _ _ _ _)
      | (with_reducible exact LeO.refl _)
      | (with_reducible exact LeO.none _)
      | (with_reducible refine LeO.ite ?_ ?_)
      | (with_reducible refine LeO.bind ?_ (fun _ => ?_))
      | exact ih0 _ _ _ _ _
      | exact ih1 _ _ _ _ _
      | exact ih2 _ _ _ _ _
      | exact LeO.none _
      | refine LeO.ite ?_ ?_
      | refine LeO.bind ?_ (fun _ => ?_)
theorem zaE_.mono : ∀ a0 a1 a2 a3 k, LeO (zaE_.f k a0 a1 a2 a3) (zaE_.f (k + 1) a0 a1 a2 a3) := by
  intro a0 a1 a2 a3 k
  obtain ⟨ih0, ih1, ih2⟩ := zaE_.mono_l k
  unfold zaE_.f
  repeat' first
      | (with_reducible exact ih0 _ _ _ _ _)
      | (with_reducible exact ih1 _ _ _ _ _)
      | (with_reducible exact ih2 _ _ _ _ _)
      | (with_reducible exact LeO.refl _)
      | (with_reducible exact LeO.none _)
      | (with_reducible refine LeO.ite ?_ ?_)
      | (with_reducible refine LeO.bind ?_ (fun _ => ?_))
      | exact ih0 _ _ _ _ _
      | exact ih1 _ _ _ _ _
      | exact ih2 _ _ _ _ _
      | exact LeO.none _
      | refine LeO.ite ?_ ?_
      | refine LeO.bind ?_ (fun _ => ?_)
set_option maxHeartbeats 8000000 in
set_option maxRecDepth 100000 in
theorem zaE_.calls (k : Nat) (b1 : Int) (b5 : Option Addr) (b6 : Nat) (a6 : List Int) (b7 : Option Addr) (b8 : Nat) (a7 : List Int) (b9 : Option Addr) (c0 : Nat) (a8 : List (S53)) (r : Bool) (w : World) (d7 : Kd.C (Kd.int .i64) w b5 a6.length a6) (d8 : a6.length ≤ b6) (d9 : Kd.C (Kd.int .i64) w b7 a7.length a7) (e0 : a7.length ≤ b8) (e1 : Kd.C k53 w b9 a8.length a8) (e2 : a8.length ≤ c0) (h : zaE_.f k b1 a6 a7 a8 = some r) :
    Calls Tryd.prog 50 #[.agg #[.int .i64 b1, .slice b5 a6.length b6, .slice b7 a7.length b8, .slice b9 a8.length c0]] w fun e w' => e = .returned (.bool r) ∧ Below w.heap.size w w' := by
  have hu37 := Tryd.underlying37
  have HR0_1 := Aside0.mk d7
  have HC0_1 := Aside0.mk d8
  clear d7 d8
  have HR0_2 := Aside0.mk d9
  have HC0_2 := Aside0.mk e0
  clear d9 e0
  have HR0_3 := Aside0.mk e1
  have HC0_3 := Aside0.mk e2
  clear e1 e2
  have HB := Aside0.mk (Below.refl w.heap.size w)
  have H : (if (a6.length : Int) < 1 then (zaE_.j0 k true b1 a6 a7 a8) else (if (a6.length : Int) > 3 then (zaE_.j0 k true b1 a6 a7 a8) else (zaE_.j0 k (decide ((a7.length : Int) > 4)) b1 a6 a7 a8))) = some r := h
  clear h
  have HC2 := Aside0.mk H
  clear H
  go_enter Tryd.func50, Tryd.ntmps50
  go_upto_region 1 with (first | ((with_reducible refine zaL_ (N := 1) rfl ?_); (try (refine zaF_ (by rfl) ?_; dsimp only)); refine zaD_ ?hg (N := 1) ?hd (cs := #[.int .i64 b1, .slice b5 a6.length b6, .slice b7 a7.length b8, .slice b9 a8.length c0]) (t := 37) ?hr ?_; (case hd => rfl); (case hg => rfl); (case hr => first | (go_simp; done) | (go_simp; rfl)); intro a5 hg w3 hbox hb; have e3 := Aside0.mk (zaj_ (by repeat (first | (with_reducible first | exact HB.out | apply zah_ | apply zae_ | apply zag_) | exact HB.out)) hb); have e4 := Aside0.mk (hbox); have d6 := Aside0.mk ((by rw [hg]; exact (zam_ (by repeat (first | (with_reducible first | exact HB.out | apply zah_ | apply zae_ | apply zag_) | exact HB.out))) : w.heap.size ≤ a5)); have e5 := Aside0.mk ((by rw [hg]; exact (zam_ (by repeat (first | (with_reducible first | exact HB.out | apply zah_ | apply zae_ | apply zag_) | exact HB.out))) : w.heap.size ≤ a5)); clear HB; have HB := e3; have a4 := e4; have e6 := d6; have b4 := e5; clear e3 e4 d6 e5; clear hb hbox hg))
  repeat (go_quiet (first | ((with_reducible refine zaL_ (N := 1) rfl ?_); (try (refine zaF_ (by rfl) ?_; dsimp only)); refine zaD_ ?hg (N := 1) ?hd (cs := #[.int .i64 b1, .slice b5 a6.length b6, .slice b7 a7.length b8, .slice b9 a8.length c0]) (t := 37) ?hr ?_; (case hd => rfl); (case hg => rfl); (case hr => first | (go_simp; done) | (go_simp; rfl)); intro a5 hg w3 hbox hb; have e3 := Aside0.mk (zaj_ (by repeat (first | (with_reducible first | exact HB.out | apply zah_ | apply zae_ | apply zag_) | exact HB.out)) hb); have e4 := Aside0.mk (hbox); have d6 := Aside0.mk ((by rw [hg]; exact (zam_ (by repeat (first | (with_reducible first | exact HB.out | apply zah_ | apply zae_ | apply zag_) | exact HB.out))) : w.heap.size ≤ a5)); have e5 := d6; clear HB; have HB := e3; have a4 := e4; have e6 := d6; have b4 := e5; clear e3 e4 d6 e5; clear hb hbox hg)); go_upto_region 1 with (first | ((with_reducible refine zaL_ (N := 1) rfl ?_); (try (refine zaF_ (by rfl) ?_; dsimp only)); refine zaD_ ?hg (N := 1) ?hd (cs := #[.int .i64 b1, .slice b5 a6.length b6, .slice b7 a7.length b8, .slice b9 a8.length c0]) (t := 37) ?hr ?_; (case hd => rfl); (case hg => rfl); (case hr => first | (go_simp; done) | (go_simp; rfl)); intro a5 hg w3 hbox hb; have e3 := Aside0.mk (zaj_ (by repeat (first | (with_reducible first | exact HB.out | apply zah_ | apply zae_ | apply zag_) | exact HB.out)) hb); have e4 := Aside0.mk (hbox); have d6 := Aside0.mk ((by rw [hg]; exact (zam_ (by repeat (first | (with_reducible first | exact HB.out | apply zah_ | apply zae_ | apply zag_) | exact HB.out))) : w.heap.size ≤ a5)); have e5 := d6; clear HB; have HB := e3; have a4 := e4; have e6 := d6; have b4 := e5; clear e3 e4 d6 e5; clear hb hbox hg)))
  (try simp only [Act.put, List.setIfInBounds_toArray, List.set_cons_zero, List.set_cons_succ])
  go_cut [20] (fun t3 wc => ∃ (kq : Nat) (d4 : Bool), t3 = .bool d4 ∧ Aside0 (zaE_.j0 kq d4 b1 a6 a7 a8 = some r) ∧ Aside0 (kq ≤ k) ∧ Aside0 (wc.heap[a5]? = some (.cells #[.int .i64 b1, (.slice b5 a6.length b6), (.slice b7 a7.length b8), (.slice b9 a8.length c0)] 37 (0, 0))) ∧ Aside0 (Below w.heap.size w wc))
  case first =>
    have H := HC2.out
    clear HC2
    by_cases c4 : (a6.length : Int) < 1
    · rw [if_pos c4] at H
      have d5 : decide ((a6.length : Int) < 1) = true := decide_eq_true c4
      have p2 : decide (a6.length < 1) = true := decide_eq_true (by omega)
      clear c4
      (first | rw [d5] | (simp only [i64_w, i32_w]; rw [d5]) | skip)
      have H' := Aside0.mk H
      clear H
      have p3 : w3.cell? ⟨a5, 0, none⟩ = some (.int .i64 b1) := (zab_ a4.out 0).trans rfl
      have p4 : w3.cell? ⟨a5, 1, none⟩ = some (.slice b5 a6.length b6) := (zab_ a4.out 1).trans rfl
      have p5 : w3.cell? ⟨a5, 2, none⟩ = some (.slice b7 a7.length b8) := (zab_ a4.out 2).trans rfl
      have p6 : w3.cell? ⟨a5, 3, none⟩ = some (.slice b9 a8.length c0) := (zab_ a4.out 3).trans rfl
      have p7 := zaa_ a4.out 0
      have p8 := zaa_ a4.out 1
      have p9 := zaa_ a4.out 2
      have q0 := zaa_ a4.out 3
      go_wp2
      repeat (go_quiet (fail); try go_wp2)
      go_meet
      case rel => exact ⟨_, (true), (by first | rfl | (simp; done) | (simp [*]; done)), H', ⟨by first | omega | exact Nat.le_refl _⟩, ⟨by (with_reducible repeat (first | refine zac_ ?_ _ | refine zaf_ ?_ | refine zad_ ?_ _)); exact a4.out⟩, ⟨by repeat (first | (with_reducible first | exact HB.out | apply zah_ | apply zae_ | apply zag_ | refine zai_ ?_ b4.out) | exact HB.out)⟩⟩
    rw [if_neg c4] at H
    have d5 : decide ((a6.length : Int) < 1) = false := decide_eq_false c4
    have p2 : decide (a6.length < 1) = false := decide_eq_false (by omega)
    clear c4
    (first | rw [d5] | (simp only [i64_w, i32_w]; rw [d5]) | skip)
    by_cases c6 : (a6.length : Int) > 3
    · rw [if_pos c6] at H
      have q1 : decide (3 < (a6.length : Int)) = true := decide_eq_true c6
      have q2 : decide (3 < a6.length) = true := decide_eq_true (by omega)
      clear c6
      have H' := Aside0.mk H
      clear H
      have q3 : w3.cell? ⟨a5, 0, none⟩ = some (.int .i64 b1) := (zab_ a4.out 0).trans rfl
      have q4 : w3.cell? ⟨a5, 1, none⟩ = some (.slice b5 a6.length b6) := (zab_ a4.out 1).trans rfl
      have q5 : w3.cell? ⟨a5, 2, none⟩ = some (.slice b7 a7.length b8) := (zab_ a4.out 2).trans rfl
      have q6 : w3.cell? ⟨a5, 3, none⟩ = some (.slice b9 a8.length c0) := (zab_ a4.out 3).trans rfl
      have q7 := zaa_ a4.out 0
      have q8 := zaa_ a4.out 1
      have q9 := zaa_ a4.out 2
      have r0 := zaa_ a4.out 3
      go_wp2
      repeat (go_quiet (fail); try go_wp2)
      go_meet
      case rel => exact ⟨_, (true), (by first | rfl | (simp; done) | (simp [*]; done)), H', ⟨by first | omega | exact Nat.le_refl _⟩, ⟨by (with_reducible repeat (first | refine zac_ ?_ _ | refine zaf_ ?_ | refine zad_ ?_ _)); exact a4.out⟩, ⟨by repeat (first | (with_reducible first | exact HB.out | apply zah_ | apply zae_ | apply zag_ | refine zai_ ?_ b4.out) | exact HB.out)⟩⟩
    rw [if_neg c6] at H
    have q1 : decide (3 < (a6.length : Int)) = false := decide_eq_false c6
    have q2 : decide (3 < a6.length) = false := decide_eq_false (by omega)
    clear c6
    have H' := Aside0.mk H
    clear H
    have r1 : w3.cell? ⟨a5, 0, none⟩ = some (.int .i64 b1) := (zab_ a4.out 0).trans rfl
    have r2 : w3.cell? ⟨a5, 1, none⟩ = some (.slice b5 a6.length b6) := (zab_ a4.out 1).trans rfl
    have r3 : w3.cell? ⟨a5, 2, none⟩ = some (.slice b7 a7.length b8) := (zab_ a4.out 2).trans rfl
    have r4 : w3.cell? ⟨a5, 3, none⟩ = some (.slice b9 a8.length c0) := (zab_ a4.out 3).trans rfl
    have r5 := zaa_ a4.out 0
    have r6 := zaa_ a4.out 1
    have r7 := zaa_ a4.out 2
    have r8 := zaa_ a4.out 3
    go_wp2
    repeat (go_quiet (fail); try go_wp2)
    go_meet
    case rel => exact ⟨_, (decide ((a7.length : Int) > 4)), (by first | rfl | (simp; done) | (simp [*]; done)), H', ⟨by first | omega | exact Nat.le_refl _⟩, ⟨by (with_reducible repeat (first | refine zac_ ?_ _ | refine zaf_ ?_ | refine zad_ ?_ _)); exact a4.out⟩, ⟨by repeat (first | (with_reducible first | exact HB.out | apply zah_ | apply zae_ | apply zag_ | refine zai_ ?_ b4.out) | exact HB.out)⟩⟩
  clear HC2
  obtain ⟨kq, d4, rfl, HA, g9, a4, HB⟩ := hcut
  cases kq with
  | zero => exact absurd HA.out (by simp [zaE_.j0])
  | succ r9 => ?_
  have H := HA.out
  clear HA
  simp only [zaE_.j0] at H
  by_cases c9 : d4 = true
  · subst c9
    rw [if_pos rfl] at H
    obtain rfl := Option.some.inj H
    go_wp2
    repeat (go_quiet (fail); try go_wp2)
    go_ret
    exact ⟨by first | rfl | (simp [zal_, zak_] <;> rfl) | (simp [*, zal_, zak_] <;> rfl), by repeat (first | (with_reducible first | exact HB.out | apply zah_ | apply zae_ | apply zag_ | refine zai_ ?_ b4.out) | exact HB.out)⟩
  replace c9 := Bool.eq_false_iff.mpr c9
  subst c9
  rw [if_neg (show ¬ (false = true) by decide)] at H
  have H' := Aside0.mk H
  clear H
  go_wp2
  repeat (go_quiet (fail); try go_wp2)
  go_loopg [3] r9 (fun kq v3 w' => ∃ (a9 : Int), v3 = .int .i64 a9 ∧ Aside0 (zaE_.l0 kq a9 b1 a6 a7 a8 = some r) ∧ Aside0 (kq ≤ r9) ∧ Aside0 (w'.heap[a5]? = some (.cells #[.int .i64 b1, (.slice b5 a6.length b6), (.slice b7 a7.length b8), (.slice b9 a8.length c0)] 37 (0, 0))) ∧ Aside0 (Below w.heap.size w w'))
  case atStart => exact ⟨(0), (by first | rfl | (simp; done) | (simp [*]; done)), H', ⟨Nat.le_refl _⟩, ⟨by (with_reducible repeat (first | refine zac_ ?_ _ | refine zaf_ ?_ | refine zad_ ?_ _)); exact a4.out⟩, ⟨by repeat (first | (with_reducible first | exact HB.out | apply zah_ | apply zae_ | apply zag_ | refine zai_ ?_ b4.out) | exact HB.out)⟩⟩
  clear H'
  obtain ⟨a9, rfl, HA, h0, a4, HB⟩ := hrel
  cases gk with
  | zero => exact absurd HA.out (by simp [zaE_.l0])
  | succ k2 => ?_
  have H := HA.out
  clear HA
  simp only [zaE_.l0] at H
  by_cases e7 : a9 < (a6.length : Int)
  · rw [if_pos e7] at H
    have g3 : decide (a9 < (a6.length : Int)) = true := decide_eq_true e7
    clear e7
    by_cases h1 : 0 ≤ a9
    rotate_left
    · rw [if_neg h1] at H
      exact absurd H (by simp)
    rw [if_pos h1] at H
    have t0 : decide (0 ≤ a9) = true := decide_eq_true h1
    clear h1
    by_cases e8 : (rd a6 a9) < 1
    · rw [if_pos e8] at H
      have g4 : decide ((rd a6 a9) < 1) = true := decide_eq_true e8
      clear e8
      obtain rfl := Option.some.inj H
      have h2 : wr.cell? ⟨a5, 0, none⟩ = some (.int .i64 b1) := (zab_ a4.out 0).trans rfl
      have h3 : wr.cell? ⟨a5, 1, none⟩ = some (.slice b5 a6.length b6) := (zab_ a4.out 1).trans rfl
      have h4 : wr.cell? ⟨a5, 2, none⟩ = some (.slice b7 a7.length b8) := (zab_ a4.out 2).trans rfl
      have h5 : wr.cell? ⟨a5, 3, none⟩ = some (.slice b9 a8.length c0) := (zab_ a4.out 3).trans rfl
      have h6 := zaa_ a4.out 0
      have h7 := zaa_ a4.out 1
      have h8 := zaa_ a4.out 2
      have h9 := zaa_ a4.out 3
      have c3 : 0 ≤ (a9 : Int) := of_decide_eq_true (by first | (with_reducible assumption) | assumption)
      have c5 : a9 < (a6.length : Int) := of_decide_eq_true (by first | (with_reducible assumption) | assumption)
      obtain ⟨ad309, e309, hx309_0⟩ := Kd.at_int HR0_1.out a9 c3 c5
      cases e309
      replace hx309_0 := (HB.out.cell (World.block_lt_of_cell? w _ hx309_0)).trans hx309_0
      replace c3 := eq_true c3
      replace c5 := eq_true c5
      go_wp2
      repeat (go_quiet (fail); try go_wp2)
      go_ret
      exact ⟨by first | rfl | (simp [zal_, zak_] <;> rfl) | (simp [*, zal_, zak_] <;> rfl), by repeat (first | (with_reducible first | exact HB.out | apply zah_ | apply zae_ | apply zag_ | refine zai_ ?_ b4.out) | exact HB.out)⟩
    rw [if_neg e8] at H
    have g4 : decide ((rd a6 a9) < 1) = false := decide_eq_false e8
    clear e8
    by_cases e9 : (rd a6 a9) > 3
    rotate_left
    · rw [if_neg e9] at H
      have g5 : decide (3 < (rd a6 a9)) = false := decide_eq_false e9
      clear e9
      have H' := Aside0.mk H
      clear H
      have j1 : wr.cell? ⟨a5, 0, none⟩ = some (.int .i64 b1) := (zab_ a4.out 0).trans rfl
      have j2 : wr.cell? ⟨a5, 1, none⟩ = some (.slice b5 a6.length b6) := (zab_ a4.out 1).trans rfl
      have j3 : wr.cell? ⟨a5, 2, none⟩ = some (.slice b7 a7.length b8) := (zab_ a4.out 2).trans rfl
      have j4 : wr.cell? ⟨a5, 3, none⟩ = some (.slice b9 a8.length c0) := (zab_ a4.out 3).trans rfl
      have j5 := zaa_ a4.out 0
      have j6 := zaa_ a4.out 1
      have j7 := zaa_ a4.out 2
      have j8 := zaa_ a4.out 3
      have c3 : 0 ≤ (a9 : Int) := of_decide_eq_true (by first | (with_reducible assumption) | assumption)
      have c5 : a9 < (a6.length : Int) := of_decide_eq_true (by first | (with_reducible assumption) | assumption)
      obtain ⟨ad309, e309, hx309_0⟩ := Kd.at_int HR0_1.out a9 c3 c5
      cases e309
      replace hx309_0 := (HB.out.cell (World.block_lt_of_cell? w _ hx309_0)).trans hx309_0
      replace c3 := eq_true c3
      replace c5 := eq_true c5
      have d0 : 0 ≤ (a9 : Int) := of_decide_eq_true (by first | (with_reducible assumption) | assumption)
      have d1 : a9 < (a6.length : Int) := of_decide_eq_true (by first | (with_reducible assumption) | assumption)
      obtain ⟨ad310, e310, hx310_0⟩ := Kd.at_int HR0_1.out a9 d0 d1
      obtain rfl : ad309 = ad310 := (by injection e310)
      replace hx310_0 := (HB.out.cell (World.block_lt_of_cell? w _ hx310_0)).trans hx310_0
      replace d0 := eq_true d0
      replace d1 := eq_true d1
      go_wp2
      repeat (go_quiet (fail); try go_wp2)
      go_roundg k2
      case measure => have := g9.out; have := h0.out; omega
      case rel => exact ⟨(wrap64 (a9 + 1)), (by first | rfl | (simp; done) | (simp [*]; done)), H', ⟨by have := g9.out; have := h0.out; omega⟩, ⟨by (with_reducible repeat (first | refine zac_ ?_ _ | refine zaf_ ?_ | refine zad_ ?_ _)); exact a4.out⟩, ⟨by repeat (first | (with_reducible first | exact HB.out | apply zah_ | apply zae_ | apply zag_ | refine zai_ ?_ b4.out) | exact HB.out)⟩⟩
    rw [if_pos e9] at H
    have g5 : decide (3 < (rd a6 a9)) = true := decide_eq_true e9
    clear e9
    obtain rfl := Option.some.inj H
    have j9 : wr.cell? ⟨a5, 0, none⟩ = some (.int .i64 b1) := (zab_ a4.out 0).trans rfl
    have k0 : wr.cell? ⟨a5, 1, none⟩ = some (.slice b5 a6.length b6) := (zab_ a4.out 1).trans rfl
    have k1 : wr.cell? ⟨a5, 2, none⟩ = some (.slice b7 a7.length b8) := (zab_ a4.out 2).trans rfl
    have k4 : wr.cell? ⟨a5, 3, none⟩ = some (.slice b9 a8.length c0) := (zab_ a4.out 3).trans rfl
    have k5 := zaa_ a4.out 0
    have k6 := zaa_ a4.out 1
    have k7 := zaa_ a4.out 2
    have k8 := zaa_ a4.out 3
    have c3 : 0 ≤ (a9 : Int) := of_decide_eq_true (by first | (with_reducible assumption) | assumption)
    have c5 : a9 < (a6.length : Int) := of_decide_eq_true (by first | (with_reducible assumption) | assumption)
    obtain ⟨ad309, e309, hx309_0⟩ := Kd.at_int HR0_1.out a9 c3 c5
    cases e309
    replace hx309_0 := (HB.out.cell (World.block_lt_of_cell? w _ hx309_0)).trans hx309_0
    replace c3 := eq_true c3
    replace c5 := eq_true c5
    have d0 : 0 ≤ (a9 : Int) := of_decide_eq_true (by first | (with_reducible assumption) | assumption)
    have d1 : a9 < (a6.length : Int) := of_decide_eq_true (by first | (with_reducible assumption) | assumption)
    obtain ⟨ad310, e310, hx310_0⟩ := Kd.at_int HR0_1.out a9 d0 d1
    obtain rfl : ad309 = ad310 := (by injection e310)
    replace hx310_0 := (HB.out.cell (World.block_lt_of_cell? w _ hx310_0)).trans hx310_0
    replace d0 := eq_true d0
    replace d1 := eq_true d1
    go_wp2
    repeat (go_quiet (fail); try go_wp2)
    go_ret
    exact ⟨by first | rfl | (simp [zal_, zak_] <;> rfl) | (simp [*, zal_, zak_] <;> rfl), by repeat (first | (with_reducible first | exact HB.out | apply zah_ | apply zae_ | apply zag_ | refine zai_ ?_ b4.out) | exact HB.out)⟩
  rw [if_neg e7] at H
  have g3 : decide (a9 < (a6.length : Int)) = false := decide_eq_false e7
  clear e7
  have H' := Aside0.mk H
  clear H
  have k9 : wr.cell? ⟨a5, 0, none⟩ = some (.int .i64 b1) := (zab_ a4.out 0).trans rfl
  have l2 : wr.cell? ⟨a5, 1, none⟩ = some (.slice b5 a6.length b6) := (zab_ a4.out 1).trans rfl
  have l3 : wr.cell? ⟨a5, 2, none⟩ = some (.slice b7 a7.length b8) := (zab_ a4.out 2).trans rfl
  have l4 : wr.cell? ⟨a5, 3, none⟩ = some (.slice b9 a8.length c0) := (zab_ a4.out 3).trans rfl
  have l5 := zaa_ a4.out 0
  have l6 := zaa_ a4.out 1
  have l7 := zaa_ a4.out 2
  have l8 := zaa_ a4.out 3
  go_wp2
  repeat (go_quiet (fail); try go_wp2)
  go_loopg [4] k2 (fun kq v4 w' => ∃ (b0 : Int), v4 = .int .i64 b0 ∧ Aside0 (zaE_.l1 kq b0 b1 a6 a7 a8 = some r) ∧ Aside0 (kq ≤ k2) ∧ Aside0 (w'.heap[a5]? = some (.cells #[.int .i64 b1, (.slice b5 a6.length b6), (.slice b7 a7.length b8), (.slice b9 a8.length c0)] 37 (0, 0))) ∧ Aside0 (Below w.heap.size w w'))
  case atStart => exact ⟨(0), (by first | rfl | (simp; done) | (simp [*]; done)), H', ⟨Nat.le_refl _⟩, ⟨by (with_reducible repeat (first | refine zac_ ?_ _ | refine zaf_ ?_ | refine zad_ ?_ _)); exact a4.out⟩, ⟨by repeat (first | (with_reducible first | exact HB.out | apply zah_ | apply zae_ | apply zag_ | refine zai_ ?_ b4.out) | exact HB.out)⟩⟩
  clear H'
  obtain ⟨b0, rfl, HA, t1, a4, HB⟩ := hrel
  cases gk with
  | zero => exact absurd HA.out (by simp [zaE_.l1])
  | succ k3 => ?_
  have H := HA.out
  clear HA
  simp only [zaE_.l1] at H
  by_cases g0 : b0 < (a7.length : Int)
  rotate_left
  · rw [if_neg g0] at H
    have g6 : decide (b0 < (a7.length : Int)) = false := decide_eq_false g0
    clear g0
    obtain rfl := Option.some.inj H
    have l9 : wr.cell? ⟨a5, 0, none⟩ = some (.int .i64 b1) := (zab_ a4.out 0).trans rfl
    have m0 : wr.cell? ⟨a5, 1, none⟩ = some (.slice b5 a6.length b6) := (zab_ a4.out 1).trans rfl
    have m1 : wr.cell? ⟨a5, 2, none⟩ = some (.slice b7 a7.length b8) := (zab_ a4.out 2).trans rfl
    have m2 : wr.cell? ⟨a5, 3, none⟩ = some (.slice b9 a8.length c0) := (zab_ a4.out 3).trans rfl
    have m3 := zaa_ a4.out 0
    have m4 := zaa_ a4.out 1
    have m5 := zaa_ a4.out 2
    have m6 := zaa_ a4.out 3
    go_wp2
    repeat (go_quiet (fail); try go_wp2)
    go_ret
    exact ⟨by first | rfl | (simp [zal_, zak_] <;> rfl) | (simp [*, zal_, zak_] <;> rfl), by repeat (first | (with_reducible first | exact HB.out | apply zah_ | apply zae_ | apply zag_ | refine zai_ ?_ b4.out) | exact HB.out)⟩
  rw [if_pos g0] at H
  have g6 : decide (b0 < (a7.length : Int)) = true := decide_eq_true g0
  clear g0
  by_cases m7 : 0 ≤ b0
  rotate_left
  · rw [if_neg m7] at H
    exact absurd H (by simp)
  rw [if_pos m7] at H
  have t2 : decide (0 ≤ b0) = true := decide_eq_true m7
  clear m7
  by_cases g1 : (rd a7 b0) < 0
  · rw [if_pos g1] at H
    have g7 : decide ((rd a7 b0) < 0) = true := decide_eq_true g1
    clear g1
    obtain rfl := Option.some.inj H
    have m8 : wr.cell? ⟨a5, 0, none⟩ = some (.int .i64 b1) := (zab_ a4.out 0).trans rfl
    have m9 : wr.cell? ⟨a5, 1, none⟩ = some (.slice b5 a6.length b6) := (zab_ a4.out 1).trans rfl
    have n0 : wr.cell? ⟨a5, 2, none⟩ = some (.slice b7 a7.length b8) := (zab_ a4.out 2).trans rfl
    have n1 : wr.cell? ⟨a5, 3, none⟩ = some (.slice b9 a8.length c0) := (zab_ a4.out 3).trans rfl
    have n2 := zaa_ a4.out 0
    have n3 := zaa_ a4.out 1
    have n4 := zaa_ a4.out 2
    have n5 := zaa_ a4.out 3
    have c7 : 0 ≤ (b0 : Int) := of_decide_eq_true (by first | (with_reducible assumption) | assumption)
    have c8 : b0 < (a7.length : Int) := of_decide_eq_true (by first | (with_reducible assumption) | assumption)
    obtain ⟨ad311, e311, hx311_0⟩ := Kd.at_int HR0_2.out b0 c7 c8
    cases e311
    replace hx311_0 := (HB.out.cell (World.block_lt_of_cell? w _ hx311_0)).trans hx311_0
    replace c7 := eq_true c7
    replace c8 := eq_true c8
    go_wp2
    repeat (go_quiet (fail); try go_wp2)
    go_ret
    exact ⟨by first | rfl | (simp [zal_, zak_] <;> rfl) | (simp [*, zal_, zak_] <;> rfl), by repeat (first | (with_reducible first | exact HB.out | apply zah_ | apply zae_ | apply zag_ | refine zai_ ?_ b4.out) | exact HB.out)⟩
  rw [if_neg g1] at H
  have g7 : decide ((rd a7 b0) < 0) = false := decide_eq_false g1
  clear g1
  by_cases g2 : (rd a7 b0) ≥ (a6.length : Int)
  rotate_left
  · rw [if_neg g2] at H
    have g8 : decide ((a6.length : Int) ≤ (rd a7 b0)) = false := decide_eq_false g2
    clear g2
    have H' := Aside0.mk H
    clear H
    have n6 : wr.cell? ⟨a5, 0, none⟩ = some (.int .i64 b1) := (zab_ a4.out 0).trans rfl
    have n7 : wr.cell? ⟨a5, 1, none⟩ = some (.slice b5 a6.length b6) := (zab_ a4.out 1).trans rfl
    have n8 : wr.cell? ⟨a5, 2, none⟩ = some (.slice b7 a7.length b8) := (zab_ a4.out 2).trans rfl
    have n9 : wr.cell? ⟨a5, 3, none⟩ = some (.slice b9 a8.length c0) := (zab_ a4.out 3).trans rfl
    have o0 := zaa_ a4.out 0
    have o1 := zaa_ a4.out 1
    have o2 := zaa_ a4.out 2
    have o3 := zaa_ a4.out 3
    have c7 : 0 ≤ (b0 : Int) := of_decide_eq_true (by first | (with_reducible assumption) | assumption)
    have c8 : b0 < (a7.length : Int) := of_decide_eq_true (by first | (with_reducible assumption) | assumption)
    obtain ⟨ad311, e311, hx311_0⟩ := Kd.at_int HR0_2.out b0 c7 c8
    cases e311
    replace hx311_0 := (HB.out.cell (World.block_lt_of_cell? w _ hx311_0)).trans hx311_0
    replace c7 := eq_true c7
    replace c8 := eq_true c8
    have d2 : 0 ≤ (b0 : Int) := of_decide_eq_true (by first | (with_reducible assumption) | assumption)
    have d3 : b0 < (a7.length : Int) := of_decide_eq_true (by first | (with_reducible assumption) | assumption)
    obtain ⟨ad312, e312, hx312_0⟩ := Kd.at_int HR0_2.out b0 d2 d3
    obtain rfl : ad311 = ad312 := (by injection e312)
    replace hx312_0 := (HB.out.cell (World.block_lt_of_cell? w _ hx312_0)).trans hx312_0
    replace d2 := eq_true d2
    replace d3 := eq_true d3
    go_wp2
    repeat (go_quiet (fail); try go_wp2)
    go_roundg k3
    case measure => have := g9.out; have := h0.out; have := t1.out; omega
    case rel => exact ⟨(wrap64 (b0 + 1)), (by first | rfl | (simp; done) | (simp [*]; done)), H', ⟨by have := g9.out; have := h0.out; have := t1.out; omega⟩, ⟨by (with_reducible repeat (first | refine zac_ ?_ _ | refine zaf_ ?_ | refine zad_ ?_ _)); exact a4.out⟩, ⟨by repeat (first | (with_reducible first | exact HB.out | apply zah_ | apply zae_ | apply zag_ | refine zai_ ?_ b4.out) | exact HB.out)⟩⟩
  rw [if_pos g2] at H
  have g8 : decide ((a6.length : Int) ≤ (rd a7 b0)) = true := decide_eq_true g2
  clear g2
  obtain rfl := Option.some.inj H
  have o4 : wr.cell? ⟨a5, 0, none⟩ = some (.int .i64 b1) := (zab_ a4.out 0).trans rfl
  have o5 : wr.cell? ⟨a5, 1, none⟩ = some (.slice b5 a6.length b6) := (zab_ a4.out 1).trans rfl
  have o6 : wr.cell? ⟨a5, 2, none⟩ = some (.slice b7 a7.length b8) := (zab_ a4.out 2).trans rfl
  have o7 : wr.cell? ⟨a5, 3, none⟩ = some (.slice b9 a8.length c0) := (zab_ a4.out 3).trans rfl
  have o8 := zaa_ a4.out 0
  have o9 := zaa_ a4.out 1
  have p0 := zaa_ a4.out 2
  have p1 := zaa_ a4.out 3
  have c7 : 0 ≤ (b0 : Int) := of_decide_eq_true (by first | (with_reducible assumption) | assumption)
  have c8 : b0 < (a7.length : Int) := of_decide_eq_true (by first | (with_reducible assumption) | assumption)
  obtain ⟨ad311, e311, hx311_0⟩ := Kd.at_int HR0_2.out b0 c7 c8
  cases e311
  replace hx311_0 := (HB.out.cell (World.block_lt_of_cell? w _ hx311_0)).trans hx311_0
  replace c7 := eq_true c7
  replace c8 := eq_true c8
  have d2 : 0 ≤ (b0 : Int) := of_decide_eq_true (by first | (with_reducible assumption) | assumption)
  have d3 : b0 < (a7.length : Int) := of_decide_eq_true (by first | (with_reducible assumption) | assumption)
  obtain ⟨ad312, e312, hx312_0⟩ := Kd.at_int HR0_2.out b0 d2 d3
  obtain rfl : ad311 = ad312 := (by injection e312)
  replace hx312_0 := (HB.out.cell (World.block_lt_of_cell? w _ hx312_0)).trans hx312_0
  replace d2 := eq_true d2
  replace d3 := eq_true d3
  go_wp2
  repeat (go_quiet (fail); try go_wp2)
  go_ret
  exact ⟨by first | rfl | (simp [zal_, zak_] <;> rfl) | (simp [*, zal_, zak_] <;> rfl), by repeat (first | (with_reducible first | exact HB.out | apply zah_ | apply zae_ | apply zag_ | refine zai_ ?_ b4.out) | exact HB.out)⟩
end Go.Proofs.YtgkjoodlcojkkaaDoor.QD
end
section
namespace Go.Proofs.YtgkjoodlcojkkaaDoor.QD
open Go.RowKit Go.Proofs.YtgkjoodlcojkkaaDoorW.PrintWords Go.Proofs.YtgkjoodlcojkkaaDoorW.PrintLast Go.Proofs.YtgkjoodlcojkkaaDoorW.PrintMore
attribute [local go_sem] zbd_ zbe_ zbm_ zbl_ zaW_ zaX_ zbc_ zbb_
set_option linter.unusedVariables false
set_option linter.unusedSimpArgs false
def sr_part.f (b6 : Int) (b4 : List Int) (b3 : List Int) (b5 : List (S53)) (a6 : Int) (a8 : Int) (a7 : Int) : Option (Bool) := if a6 < 1 then (some false) else (if a6 > 3 then (some false) else (if a8 < 1 then (some false) else (if a8 > 60 then (some false) else (if a6 = 3 then (if a7 ≥ 0 then (if a7 < (b3.length : Int) then (some true) else (some false)) else (some false)) else (some (a7 == 0))))))
set_option maxHeartbeats 8000000 in
set_option maxRecDepth 100000 in
theorem sr_part.calls (b6 : Int) (b7 : Option Addr) (b8 : Nat) (b4 : List Int) (b9 : Option Addr) (c0 : Nat) (b3 : List Int) (c1 : Option Addr) (c2 : Nat) (b5 : List (S53)) (a6 : Int) (a8 : Int) (a7 : Int) (r : Bool) (w : World) (d2 : Kd.C (Kd.int .i64) w b7 b4.length b4) (d3 : b4.length ≤ b8) (d4 : Kd.C (Kd.int .i64) w b9 b3.length b3) (d5 : b3.length ≤ c0) (d6 : Kd.C k53 w c1 b5.length b5) (d7 : b5.length ≤ c2) (h : sr_part.f b6 b4 b3 b5 a6 a8 a7 = some r) :
    Calls Tryd.prog 69 #[.agg #[.int .i64 b6, .slice b7 b4.length b8, .slice b9 b3.length c0, .slice c1 b5.length c2], .agg #[.int .i64 a6, .int .i64 a8, .int .i64 a7]] w fun e w' => e = .returned (.bool r) ∧ Below w.heap.size w w' := by
  have hu37 := Tryd.underlying37
  have hu50 := Tryd.underlying50
  have HR0_1 := Aside0.mk d2
  have HC0_1 := Aside0.mk d3
  clear d2 d3
  have HR0_2 := Aside0.mk d4
  have HC0_2 := Aside0.mk d5
  clear d4 d5
  have HR0_3 := Aside0.mk d6
  have HC0_3 := Aside0.mk d7
  clear d6 d7
  have HB := Aside0.mk (Below.refl w.heap.size w)
  have H : (if a6 < 1 then (some false) else (if a6 > 3 then (some false) else (if a8 < 1 then (some false) else (if a8 > 60 then (some false) else (if a6 = 3 then (if a7 ≥ 0 then (if a7 < (b3.length : Int) then (some true) else (some false)) else (some false)) else (some (a7 == 0))))))) = some r := h
  clear h
  by_cases c3 : a6 < 1
  · rw [if_pos c3] at H
    have m9 : decide (a6 < 1) = true := decide_eq_true c3
    clear c3
    obtain rfl := Option.some.inj H
    go_enter Tryd.func69, Tryd.ntmps69
    go_wp2_with (first | ((with_reducible refine zaL_ (N := 2) rfl ?_); (try (refine zaF_ (by rfl) ?_; dsimp only)); refine zaD_ ?hg (N := 2) ?hd (cs := #[.int .i64 b6, .slice b7 b4.length b8, .slice b9 b3.length c0, .slice c1 b5.length c2]) (t := 37) ?hr ?_; (case hd => rfl); (case hg => rfl); (case hr => first | (go_simp; done) | (go_simp; rfl)); intro a3 hg w4 hbox hb; have b1 := Aside0.mk (zaj_ (HB.out) hb); have b2 := Aside0.mk (hbox); have a9 := Aside0.mk ((by rw [hg]; exact (zam_ (HB.out)) : w.heap.size ≤ a3)); have b0 := a9; clear HB; have HB := b1; have a0 := b2; have c4 := a9; have c5 := b0; clear b1 b2 a9 b0; clear hb hbox hg) | ((with_reducible refine zaL_ (N := 3) rfl ?_); (try (refine zaF_ (by rfl) ?_; dsimp only)); refine zaD_ ?hg (N := 3) ?hd (cs := #[.int .i64 a6, .int .i64 a8, .int .i64 a7]) (t := 50) ?hr ?_; (case hd => rfl); (case hg => rfl); (case hr => first | (go_simp; done) | (go_simp; rfl)); intro a1 hg w5 hbox hb; have b1 := Aside0.mk (zan_ a0.out hb); have b2 := Aside0.mk (zaj_ (HB.out) hb); have a9 := Aside0.mk (hbox); have b0 := Aside0.mk ((by rw [hg]; exact (zam_ (HB.out)) : w.heap.size ≤ a1)); have c6 := b0; have c7 := Aside0.mk ((by rw [hg]; exact Nat.ne_of_lt (blk_lt a0.out) : a3 ≠ a1)); have c9 := Aside0.mk ((by rw [hg]; exact Nat.ne_of_gt (blk_lt a0.out) : a1 ≠ a3)); clear a0; clear HB; have a0 := b1; have HB := b2; have a2 := a9; have d0 := b0; have d1 := c6; have a4 := c7; have a5 := c9; clear b1 b2 a9 b0 c6 c7 c9; clear hb hbox hg; have hnb6 := a5.out; have hnc6 := a4.out; have n0 : w5.cell? ⟨a1, 0, none⟩ = some (.int .i64 a6) := (zab_ a2.out 0).trans rfl; have n1 : w5.cell? ⟨a1, 1, none⟩ = some (.int .i64 a8) := (zab_ a2.out 1).trans rfl; have n2 : w5.cell? ⟨a1, 2, none⟩ = some (.int .i64 a7) := (zab_ a2.out 2).trans rfl; have n3 := zaa_ a2.out 0; have n4 := zaa_ a2.out 1; have n5 := zaa_ a2.out 2))
    go_ret
    exact ⟨by first | rfl | (simp [zal_, zak_] <;> rfl) | (simp [*, zal_, zak_] <;> rfl), HB.out⟩
  rw [if_neg c3] at H
  have m9 : decide (a6 < 1) = false := decide_eq_false c3
  clear c3
  by_cases c8 : a6 > 3
  · rw [if_pos c8] at H
    have n6 : decide (3 < a6) = true := decide_eq_true c8
    clear c8
    obtain rfl := Option.some.inj H
    go_enter Tryd.func69, Tryd.ntmps69
    go_wp2_with (first | ((with_reducible refine zaL_ (N := 2) rfl ?_); (try (refine zaF_ (by rfl) ?_; dsimp only)); refine zaD_ ?hg (N := 2) ?hd (cs := #[.int .i64 b6, .slice b7 b4.length b8, .slice b9 b3.length c0, .slice c1 b5.length c2]) (t := 37) ?hr ?_; (case hd => rfl); (case hg => rfl); (case hr => first | (go_simp; done) | (go_simp; rfl)); intro a3 hg w9 hbox hb; have b1 := Aside0.mk (zaj_ (HB.out) hb); have b2 := Aside0.mk (hbox); have a9 := Aside0.mk ((by rw [hg]; exact (zam_ (HB.out)) : w.heap.size ≤ a3)); have b0 := a9; clear HB; have HB := b1; have a0 := b2; have c4 := a9; have c5 := b0; clear b1 b2 a9 b0; clear hb hbox hg) | ((with_reducible refine zaL_ (N := 3) rfl ?_); (try (refine zaF_ (by rfl) ?_; dsimp only)); refine zaD_ ?hg (N := 3) ?hd (cs := #[.int .i64 a6, .int .i64 a8, .int .i64 a7]) (t := 50) ?hr ?_; (case hd => rfl); (case hg => rfl); (case hr => first | (go_simp; done) | (go_simp; rfl)); intro a1 hg n7 hbox hb; have b1 := Aside0.mk (zan_ a0.out hb); have b2 := Aside0.mk (zaj_ (HB.out) hb); have a9 := Aside0.mk (hbox); have b0 := Aside0.mk ((by rw [hg]; exact (zam_ (HB.out)) : w.heap.size ≤ a1)); have c6 := b0; have c7 := Aside0.mk ((by rw [hg]; exact Nat.ne_of_lt (blk_lt a0.out) : a3 ≠ a1)); have c9 := Aside0.mk ((by rw [hg]; exact Nat.ne_of_gt (blk_lt a0.out) : a1 ≠ a3)); clear a0; clear HB; have a0 := b1; have HB := b2; have a2 := a9; have d0 := b0; have d1 := c6; have a4 := c7; have a5 := c9; clear b1 b2 a9 b0 c6 c7 c9; clear hb hbox hg; have hnb11 := a5.out; have hnc11 := a4.out; have g1 : n7.cell? ⟨a1, 0, none⟩ = some (.int .i64 a6) := (zab_ a2.out 0).trans rfl; have g2 : n7.cell? ⟨a1, 1, none⟩ = some (.int .i64 a8) := (zab_ a2.out 1).trans rfl; have g3 : n7.cell? ⟨a1, 2, none⟩ = some (.int .i64 a7) := (zab_ a2.out 2).trans rfl; have g4 := zaa_ a2.out 0; have g5 := zaa_ a2.out 1; have g6 := zaa_ a2.out 2))
    go_ret
    exact ⟨by first | rfl | (simp [zal_, zak_] <;> rfl) | (simp [*, zal_, zak_] <;> rfl), HB.out⟩
  rw [if_neg c8] at H
  have n6 : decide (3 < a6) = false := decide_eq_false c8
  clear c8
  by_cases e1 : a8 < 1
  · rw [if_pos e1] at H
    have e5 : decide (a8 < 1) = true := decide_eq_true e1
    clear e1
    obtain rfl := Option.some.inj H
    go_enter Tryd.func69, Tryd.ntmps69
    go_wp2_with (first | ((with_reducible refine zaL_ (N := 2) rfl ?_); (try (refine zaF_ (by rfl) ?_; dsimp only)); refine zaD_ ?hg (N := 2) ?hd (cs := #[.int .i64 b6, .slice b7 b4.length b8, .slice b9 b3.length c0, .slice c1 b5.length c2]) (t := 37) ?hr ?_; (case hd => rfl); (case hg => rfl); (case hr => first | (go_simp; done) | (go_simp; rfl)); intro a3 hg o2 hbox hb; have b1 := Aside0.mk (zaj_ (HB.out) hb); have b2 := Aside0.mk (hbox); have a9 := Aside0.mk ((by rw [hg]; exact (zam_ (HB.out)) : w.heap.size ≤ a3)); have b0 := a9; clear HB; have HB := b1; have a0 := b2; have c4 := a9; have c5 := b0; clear b1 b2 a9 b0; clear hb hbox hg) | ((with_reducible refine zaL_ (N := 3) rfl ?_); (try (refine zaF_ (by rfl) ?_; dsimp only)); refine zaD_ ?hg (N := 3) ?hd (cs := #[.int .i64 a6, .int .i64 a8, .int .i64 a7]) (t := 50) ?hr ?_; (case hd => rfl); (case hg => rfl); (case hr => first | (go_simp; done) | (go_simp; rfl)); intro a1 hg n8 hbox hb; have b1 := Aside0.mk (zan_ a0.out hb); have b2 := Aside0.mk (zaj_ (HB.out) hb); have a9 := Aside0.mk (hbox); have b0 := Aside0.mk ((by rw [hg]; exact (zam_ (HB.out)) : w.heap.size ≤ a1)); have c6 := b0; have c7 := Aside0.mk ((by rw [hg]; exact Nat.ne_of_lt (blk_lt a0.out) : a3 ≠ a1)); have c9 := Aside0.mk ((by rw [hg]; exact Nat.ne_of_gt (blk_lt a0.out) : a1 ≠ a3)); clear a0; clear HB; have a0 := b1; have HB := b2; have a2 := a9; have d0 := b0; have d1 := c6; have a4 := c7; have a5 := c9; clear b1 b2 a9 b0 c6 c7 c9; clear hb hbox hg; have hnb16 := a5.out; have hnc16 := a4.out; have g7 : n8.cell? ⟨a1, 0, none⟩ = some (.int .i64 a6) := (zab_ a2.out 0).trans rfl; have g8 : n8.cell? ⟨a1, 1, none⟩ = some (.int .i64 a8) := (zab_ a2.out 1).trans rfl; have g9 : n8.cell? ⟨a1, 2, none⟩ = some (.int .i64 a7) := (zab_ a2.out 2).trans rfl; have h0 := zaa_ a2.out 0; have h1 := zaa_ a2.out 1; have h2 := zaa_ a2.out 2))
    go_ret
    exact ⟨by first | rfl | (simp [zal_, zak_] <;> rfl) | (simp [*, zal_, zak_] <;> rfl), HB.out⟩
  rw [if_neg e1] at H
  have e5 : decide (a8 < 1) = false := decide_eq_false e1
  clear e1
  by_cases e2 : a8 > 60
  · rw [if_pos e2] at H
    have e6 : decide (60 < a8) = true := decide_eq_true e2
    clear e2
    obtain rfl := Option.some.inj H
    go_enter Tryd.func69, Tryd.ntmps69
    go_wp2_with (first | ((with_reducible refine zaL_ (N := 2) rfl ?_); (try (refine zaF_ (by rfl) ?_; dsimp only)); refine zaD_ ?hg (N := 2) ?hd (cs := #[.int .i64 b6, .slice b7 b4.length b8, .slice b9 b3.length c0, .slice c1 b5.length c2]) (t := 37) ?hr ?_; (case hd => rfl); (case hg => rfl); (case hr => first | (go_simp; done) | (go_simp; rfl)); intro a3 hg o3 hbox hb; have b1 := Aside0.mk (zaj_ (HB.out) hb); have b2 := Aside0.mk (hbox); have a9 := Aside0.mk ((by rw [hg]; exact (zam_ (HB.out)) : w.heap.size ≤ a3)); have b0 := a9; clear HB; have HB := b1; have a0 := b2; have c4 := a9; have c5 := b0; clear b1 b2 a9 b0; clear hb hbox hg) | ((with_reducible refine zaL_ (N := 3) rfl ?_); (try (refine zaF_ (by rfl) ?_; dsimp only)); refine zaD_ ?hg (N := 3) ?hd (cs := #[.int .i64 a6, .int .i64 a8, .int .i64 a7]) (t := 50) ?hr ?_; (case hd => rfl); (case hg => rfl); (case hr => first | (go_simp; done) | (go_simp; rfl)); intro a1 hg n9 hbox hb; have b1 := Aside0.mk (zan_ a0.out hb); have b2 := Aside0.mk (zaj_ (HB.out) hb); have a9 := Aside0.mk (hbox); have b0 := Aside0.mk ((by rw [hg]; exact (zam_ (HB.out)) : w.heap.size ≤ a1)); have c6 := b0; have c7 := Aside0.mk ((by rw [hg]; exact Nat.ne_of_lt (blk_lt a0.out) : a3 ≠ a1)); have c9 := Aside0.mk ((by rw [hg]; exact Nat.ne_of_gt (blk_lt a0.out) : a1 ≠ a3)); clear a0; clear HB; have a0 := b1; have HB := b2; have a2 := a9; have d0 := b0; have d1 := c6; have a4 := c7; have a5 := c9; clear b1 b2 a9 b0 c6 c7 c9; clear hb hbox hg; have hnb21 := a5.out; have hnc21 := a4.out; have h3 : n9.cell? ⟨a1, 0, none⟩ = some (.int .i64 a6) := (zab_ a2.out 0).trans rfl; have h4 : n9.cell? ⟨a1, 1, none⟩ = some (.int .i64 a8) := (zab_ a2.out 1).trans rfl; have h5 : n9.cell? ⟨a1, 2, none⟩ = some (.int .i64 a7) := (zab_ a2.out 2).trans rfl; have h6 := zaa_ a2.out 0; have h7 := zaa_ a2.out 1; have h8 := zaa_ a2.out 2))
    go_ret
    exact ⟨by first | rfl | (simp [zal_, zak_] <;> rfl) | (simp [*, zal_, zak_] <;> rfl), HB.out⟩
  rw [if_neg e2] at H
  have e6 : decide (60 < a8) = false := decide_eq_false e2
  clear e2
  by_cases d8 : a6 = 3
  rotate_left
  · rw [if_neg d8] at H
    have e7 : (a6 == 3) = false := beq_eq_false_iff_ne.mpr d8
    have e8 : (a6 != 3) = true := bne_iff_ne.mpr d8
    obtain rfl := Option.some.inj H
    go_enter Tryd.func69, Tryd.ntmps69
    go_wp2_with (first | ((with_reducible refine zaL_ (N := 2) rfl ?_); (try (refine zaF_ (by rfl) ?_; dsimp only)); refine zaD_ ?hg (N := 2) ?hd (cs := #[.int .i64 b6, .slice b7 b4.length b8, .slice b9 b3.length c0, .slice c1 b5.length c2]) (t := 37) ?hr ?_; (case hd => rfl); (case hg => rfl); (case hr => first | (go_simp; done) | (go_simp; rfl)); intro a3 hg o4 hbox hb; have b1 := Aside0.mk (zaj_ (HB.out) hb); have b2 := Aside0.mk (hbox); have a9 := Aside0.mk ((by rw [hg]; exact (zam_ (HB.out)) : w.heap.size ≤ a3)); have b0 := a9; clear HB; have HB := b1; have a0 := b2; have c4 := a9; have c5 := b0; clear b1 b2 a9 b0; clear hb hbox hg) | ((with_reducible refine zaL_ (N := 3) rfl ?_); (try (refine zaF_ (by rfl) ?_; dsimp only)); refine zaD_ ?hg (N := 3) ?hd (cs := #[.int .i64 a6, .int .i64 a8, .int .i64 a7]) (t := 50) ?hr ?_; (case hd => rfl); (case hg => rfl); (case hr => first | (go_simp; done) | (go_simp; rfl)); intro a1 hg o0 hbox hb; have b1 := Aside0.mk (zan_ a0.out hb); have b2 := Aside0.mk (zaj_ (HB.out) hb); have a9 := Aside0.mk (hbox); have b0 := Aside0.mk ((by rw [hg]; exact (zam_ (HB.out)) : w.heap.size ≤ a1)); have c6 := b0; have c7 := Aside0.mk ((by rw [hg]; exact Nat.ne_of_lt (blk_lt a0.out) : a3 ≠ a1)); have c9 := Aside0.mk ((by rw [hg]; exact Nat.ne_of_gt (blk_lt a0.out) : a1 ≠ a3)); clear a0; clear HB; have a0 := b1; have HB := b2; have a2 := a9; have d0 := b0; have d1 := c6; have a4 := c7; have a5 := c9; clear b1 b2 a9 b0 c6 c7 c9; clear hb hbox hg; have hnb26 := a5.out; have hnc26 := a4.out; have h9 : o0.cell? ⟨a1, 0, none⟩ = some (.int .i64 a6) := (zab_ a2.out 0).trans rfl; have j0 : o0.cell? ⟨a1, 1, none⟩ = some (.int .i64 a8) := (zab_ a2.out 1).trans rfl; have j1 : o0.cell? ⟨a1, 2, none⟩ = some (.int .i64 a7) := (zab_ a2.out 2).trans rfl; have j2 := zaa_ a2.out 0; have j3 := zaa_ a2.out 1; have j4 := zaa_ a2.out 2))
    go_ret
    exact ⟨by first | rfl | (simp [zal_, zak_] <;> rfl) | (simp [*, zal_, zak_] <;> rfl), HB.out⟩
  rw [if_pos d8] at H
  have e7 : (a6 == 3) = true := beq_iff_eq.mpr d8
  have e8 : (a6 != 3) = false := bne_eq_false_iff_eq.mpr d8
  clear d8
  by_cases e3 : a7 ≥ 0
  rotate_left
  · rw [if_neg e3] at H
    have e9 : decide (0 ≤ a7) = false := decide_eq_false e3
    clear e3
    obtain rfl := Option.some.inj H
    go_enter Tryd.func69, Tryd.ntmps69
    go_wp2_with (first | ((with_reducible refine zaL_ (N := 2) rfl ?_); (try (refine zaF_ (by rfl) ?_; dsimp only)); refine zaD_ ?hg (N := 2) ?hd (cs := #[.int .i64 b6, .slice b7 b4.length b8, .slice b9 b3.length c0, .slice c1 b5.length c2]) (t := 37) ?hr ?_; (case hd => rfl); (case hg => rfl); (case hr => first | (go_simp; done) | (go_simp; rfl)); intro a3 hg o5 hbox hb; have b1 := Aside0.mk (zaj_ (HB.out) hb); have b2 := Aside0.mk (hbox); have a9 := Aside0.mk ((by rw [hg]; exact (zam_ (HB.out)) : w.heap.size ≤ a3)); have b0 := a9; clear HB; have HB := b1; have a0 := b2; have c4 := a9; have c5 := b0; clear b1 b2 a9 b0; clear hb hbox hg) | ((with_reducible refine zaL_ (N := 3) rfl ?_); (try (refine zaF_ (by rfl) ?_; dsimp only)); refine zaD_ ?hg (N := 3) ?hd (cs := #[.int .i64 a6, .int .i64 a8, .int .i64 a7]) (t := 50) ?hr ?_; (case hd => rfl); (case hg => rfl); (case hr => first | (go_simp; done) | (go_simp; rfl)); intro a1 hg o1 hbox hb; have b1 := Aside0.mk (zan_ a0.out hb); have b2 := Aside0.mk (zaj_ (HB.out) hb); have a9 := Aside0.mk (hbox); have b0 := Aside0.mk ((by rw [hg]; exact (zam_ (HB.out)) : w.heap.size ≤ a1)); have c6 := b0; have c7 := Aside0.mk ((by rw [hg]; exact Nat.ne_of_lt (blk_lt a0.out) : a3 ≠ a1)); have c9 := Aside0.mk ((by rw [hg]; exact Nat.ne_of_gt (blk_lt a0.out) : a1 ≠ a3)); clear a0; clear HB; have a0 := b1; have HB := b2; have a2 := a9; have d0 := b0; have d1 := c6; have a4 := c7; have a5 := c9; clear b1 b2 a9 b0 c6 c7 c9; clear hb hbox hg; have hnb31 := a5.out; have hnc31 := a4.out; have j5 : o1.cell? ⟨a1, 0, none⟩ = some (.int .i64 a6) := (zab_ a2.out 0).trans rfl; have j6 : o1.cell? ⟨a1, 1, none⟩ = some (.int .i64 a8) := (zab_ a2.out 1).trans rfl; have j7 : o1.cell? ⟨a1, 2, none⟩ = some (.int .i64 a7) := (zab_ a2.out 2).trans rfl; have j8 := zaa_ a2.out 0; have j9 := zaa_ a2.out 1; have k0 := zaa_ a2.out 2))
    go_ret
    exact ⟨by first | rfl | (simp [zal_, zak_] <;> rfl) | (simp [*, zal_, zak_] <;> rfl), HB.out⟩
  rw [if_pos e3] at H
  have e9 : decide (0 ≤ a7) = true := decide_eq_true e3
  clear e3
  by_cases e4 : a7 < (b3.length : Int)
  · rw [if_pos e4] at H
    have g0 : decide (a7 < (b3.length : Int)) = true := decide_eq_true e4
    clear e4
    obtain rfl := Option.some.inj H
    go_enter Tryd.func69, Tryd.ntmps69
    go_wp2_with (first | ((with_reducible refine zaL_ (N := 2) rfl ?_); (try (refine zaF_ (by rfl) ?_; dsimp only)); refine zaD_ ?hg (N := 2) ?hd (cs := #[.int .i64 b6, .slice b7 b4.length b8, .slice b9 b3.length c0, .slice c1 b5.length c2]) (t := 37) ?hr ?_; (case hd => rfl); (case hg => rfl); (case hr => first | (go_simp; done) | (go_simp; rfl)); intro a3 hg o6 hbox hb; have b1 := Aside0.mk (zaj_ (HB.out) hb); have b2 := Aside0.mk (hbox); have a9 := Aside0.mk ((by rw [hg]; exact (zam_ (HB.out)) : w.heap.size ≤ a3)); have b0 := a9; clear HB; have HB := b1; have a0 := b2; have c4 := a9; have c5 := b0; clear b1 b2 a9 b0; clear hb hbox hg) | ((with_reducible refine zaL_ (N := 3) rfl ?_); (try (refine zaF_ (by rfl) ?_; dsimp only)); refine zaD_ ?hg (N := 3) ?hd (cs := #[.int .i64 a6, .int .i64 a8, .int .i64 a7]) (t := 50) ?hr ?_; (case hd => rfl); (case hg => rfl); (case hr => first | (go_simp; done) | (go_simp; rfl)); intro a1 hg d9 hbox hb; have b1 := Aside0.mk (zan_ a0.out hb); have b2 := Aside0.mk (zaj_ (HB.out) hb); have a9 := Aside0.mk (hbox); have b0 := Aside0.mk ((by rw [hg]; exact (zam_ (HB.out)) : w.heap.size ≤ a1)); have c6 := b0; have c7 := Aside0.mk ((by rw [hg]; exact Nat.ne_of_lt (blk_lt a0.out) : a3 ≠ a1)); have c9 := Aside0.mk ((by rw [hg]; exact Nat.ne_of_gt (blk_lt a0.out) : a1 ≠ a3)); clear a0; clear HB; have a0 := b1; have HB := b2; have a2 := a9; have d0 := b0; have d1 := c6; have a4 := c7; have a5 := c9; clear b1 b2 a9 b0 c6 c7 c9; clear hb hbox hg; have hnb36 := a5.out; have hnc36 := a4.out; have k1 : d9.cell? ⟨a1, 0, none⟩ = some (.int .i64 a6) := (zab_ a2.out 0).trans rfl; have k2 : d9.cell? ⟨a1, 1, none⟩ = some (.int .i64 a8) := (zab_ a2.out 1).trans rfl; have k3 : d9.cell? ⟨a1, 2, none⟩ = some (.int .i64 a7) := (zab_ a2.out 2).trans rfl; have k4 := zaa_ a2.out 0; have k5 := zaa_ a2.out 1; have k6 := zaa_ a2.out 2; have k7 : d9.cell? ⟨a3, 0, none⟩ = some (.int .i64 b6) := (zab_ a0.out 0).trans rfl; have k8 : d9.cell? ⟨a3, 1, none⟩ = some (.slice b7 b4.length b8) := (zab_ a0.out 1).trans rfl; have k9 : d9.cell? ⟨a3, 2, none⟩ = some (.slice b9 b3.length c0) := (zab_ a0.out 2).trans rfl; have l0 : d9.cell? ⟨a3, 3, none⟩ = some (.slice c1 b5.length c2) := (zab_ a0.out 3).trans rfl; have l1 := zaa_ a0.out 0; have l2 := zaa_ a0.out 1; have l3 := zaa_ a0.out 2; have l4 := zaa_ a0.out 3))
    go_ret
    exact ⟨by first | rfl | (simp [zal_, zak_] <;> rfl) | (simp [*, zal_, zak_] <;> rfl), HB.out⟩
  rw [if_neg e4] at H
  have g0 : decide (a7 < (b3.length : Int)) = false := decide_eq_false e4
  clear e4
  obtain rfl := Option.some.inj H
  go_enter Tryd.func69, Tryd.ntmps69
  go_wp2_with (first | ((with_reducible refine zaL_ (N := 2) rfl ?_); (try (refine zaF_ (by rfl) ?_; dsimp only)); refine zaD_ ?hg (N := 2) ?hd (cs := #[.int .i64 b6, .slice b7 b4.length b8, .slice b9 b3.length c0, .slice c1 b5.length c2]) (t := 37) ?hr ?_; (case hd => rfl); (case hg => rfl); (case hr => first | (go_simp; done) | (go_simp; rfl)); intro a3 hg o7 hbox hb; have b1 := Aside0.mk (zaj_ (HB.out) hb); have b2 := Aside0.mk (hbox); have a9 := Aside0.mk ((by rw [hg]; exact (zam_ (HB.out)) : w.heap.size ≤ a3)); have b0 := a9; clear HB; have HB := b1; have a0 := b2; have c4 := a9; have c5 := b0; clear b1 b2 a9 b0; clear hb hbox hg) | ((with_reducible refine zaL_ (N := 3) rfl ?_); (try (refine zaF_ (by rfl) ?_; dsimp only)); refine zaD_ ?hg (N := 3) ?hd (cs := #[.int .i64 a6, .int .i64 a8, .int .i64 a7]) (t := 50) ?hr ?_; (case hd => rfl); (case hg => rfl); (case hr => first | (go_simp; done) | (go_simp; rfl)); intro a1 hg e0 hbox hb; have b1 := Aside0.mk (zan_ a0.out hb); have b2 := Aside0.mk (zaj_ (HB.out) hb); have a9 := Aside0.mk (hbox); have b0 := Aside0.mk ((by rw [hg]; exact (zam_ (HB.out)) : w.heap.size ≤ a1)); have c6 := b0; have c7 := Aside0.mk ((by rw [hg]; exact Nat.ne_of_lt (blk_lt a0.out) : a3 ≠ a1)); have c9 := Aside0.mk ((by rw [hg]; exact Nat.ne_of_gt (blk_lt a0.out) : a1 ≠ a3)); clear a0; clear HB; have a0 := b1; have HB := b2; have a2 := a9; have d0 := b0; have d1 := c6; have a4 := c7; have a5 := c9; clear b1 b2 a9 b0 c6 c7 c9; clear hb hbox hg; have hnb41 := a5.out; have hnc41 := a4.out; have l5 : e0.cell? ⟨a1, 0, none⟩ = some (.int .i64 a6) := (zab_ a2.out 0).trans rfl; have l6 : e0.cell? ⟨a1, 1, none⟩ = some (.int .i64 a8) := (zab_ a2.out 1).trans rfl; have l7 : e0.cell? ⟨a1, 2, none⟩ = some (.int .i64 a7) := (zab_ a2.out 2).trans rfl; have l8 := zaa_ a2.out 0; have l9 := zaa_ a2.out 1; have m0 := zaa_ a2.out 2; have m1 : e0.cell? ⟨a3, 0, none⟩ = some (.int .i64 b6) := (zab_ a0.out 0).trans rfl; have m2 : e0.cell? ⟨a3, 1, none⟩ = some (.slice b7 b4.length b8) := (zab_ a0.out 1).trans rfl; have m3 : e0.cell? ⟨a3, 2, none⟩ = some (.slice b9 b3.length c0) := (zab_ a0.out 2).trans rfl; have m4 : e0.cell? ⟨a3, 3, none⟩ = some (.slice c1 b5.length c2) := (zab_ a0.out 3).trans rfl; have m5 := zaa_ a0.out 0; have m6 := zaa_ a0.out 1; have m7 := zaa_ a0.out 2; have m8 := zaa_ a0.out 3))
  go_ret
  exact ⟨by first | rfl | (simp [zal_, zak_] <;> rfl) | (simp [*, zal_, zak_] <;> rfl), HB.out⟩
end Go.Proofs.YtgkjoodlcojkkaaDoor.QD
end
