import Derived.Test.YtgkjoodlcojkkaaDoorMN2
import Derived.Test.YtgkjoodlcojkkaaDoorMN5
section
-- written by a program of this session (wip/tools): the functions that the laws reach, as plain Lean, and their walks
namespace Go.Proofs.YtgkjoodlcojkkaaDoor.QD
open Go.RowKit Go.Proofs.YtgkjoodlcojkkaaDoorW.PrintWords Go.Proofs.YtgkjoodlcojkkaaDoorW.PrintLast Go.Proofs.YtgkjoodlcojkkaaDoorW.PrintMore
attribute [local go_sem] max2_int min2_int max_two min_two max_three min_three max_four min_four   -- for this text's walks alone
set_option linter.unusedVariables false
set_option linter.unusedSimpArgs false

attribute [local go_sem high] eqA50
/-! ### swingbridgelaw9_known: function 21 -/
def swingbridgelaw9_known.f (k : Nat)  : Option (Bool) := (text_Parse.f k (⟨#[112, 114, 111, 116, 111, 99, 111, 108, 32, 102, 97, 105, 114, 10, 99, 111, 114, 101, 115, 32, 49, 10, 104, 111, 109, 101, 115, 32, 48, 10, 10, 116, 97, 115, 107, 32, 97, 32, 49, 48, 32, 49, 48, 32, 49, 32, 48, 32, 114, 117, 110, 58, 51, 32, 108, 111, 99, 107, 58, 48, 58, 50, 32, 35, 32, 115, 111, 10]⟩ : ByteArray)).bind fun bt262 => ((text_Parse.f k (⟨#[112, 114, 111, 116, 111, 99, 111, 108, 32, 102, 97, 105, 114, 10, 99, 111, 114, 101, 115, 32, 49, 10, 104, 111, 109, 101, 115, 32, 48, 10, 116, 97, 115, 107, 32, 97, 32, 49, 48, 32, 49, 48, 32, 49, 32, 48, 32, 108, 111, 99, 107, 58, 48, 58, 108, 111, 99, 107, 58, 48, 58, 50, 10]⟩ : ByteArray)).bind fun bt275 => ((text_Parse.f k (⟨#[99, 111, 114, 101, 115, 32, 49, 10]⟩ : ByteArray)).bind fun bt288 => (if bt262.2.2.2.2.2 = 0 then (if bt262.2.2.2.2.1 = 5 then (if (bt262.2.2.2.1.length : Int) = 1 then (if 0 < (bt262.2.2.2.1.length : Int) then (if (((rd_T53 bt262.2.2.2.1 0).f5).length : Int) = 2 then (if 1 < (((rd_T53 bt262.2.2.2.1 0).f5).length : Int) then (if (((rd_T50 ((rd_T53 bt262.2.2.2.1 0).f5) 1).f0) == 3 && (((rd_T50 ((rd_T53 bt262.2.2.2.1 0).f5) 1).f1) == 2 && (((rd_T50 ((rd_T53 bt262.2.2.2.1 0).f5) 1).f2) == 0))) = true then (if bt275.2.2.2.2.2 = 18 then (if bt275.2.2.2.2.1 = 3 then (if bt288.2.2.2.2.2 = 10 then (if bt288.2.2.2.2.1 = 0 then ((text_Print.f k bt262.1 bt262.2.1 bt262.2.2.1 bt262.2.2.2.1).bind fun t304 => (some (t304.toList == ([112, 114, 111, 116, 111, 99, 111, 108, 32, 102, 97, 105, 114, 10, 99, 111, 114, 101, 115, 32, 49, 10, 104, 111, 109, 101, 115, 32, 48, 10, 116, 97, 115, 107, 32, 97, 32, 49, 48, 32, 49, 48, 32, 49, 32, 48, 32, 114, 117, 110, 58, 51, 32, 108, 111, 99, 107, 58, 48, 58, 50, 10] : List UInt8)))) else (some false)) else (some false)) else (some false)) else (some false)) else (some false)) else (none)) else (some false)) else (none)) else (some false)) else (some false)) else (some false))))
theorem swingbridgelaw9_known.mono : ∀ k, LeO (swingbridgelaw9_known.f k ) (swingbridgelaw9_known.f (k + 1) ) := by
  intro  k
  unfold swingbridgelaw9_known.f
  repeat' first
      | (with_reducible exact text_Parse.mono _ _)
      | (with_reducible exact text_Print.mono _ _ _ _ _)
      | (with_reducible exact LeO.refl _)
      | (with_reducible exact LeO.none _)
      | (with_reducible refine LeO.ite ?_ ?_)
      | (with_reducible refine LeO.bind ?_ (fun _ => ?_))
      | exact text_Parse.mono _ _
      | exact text_Print.mono _ _ _ _ _
      | exact LeO.none _
      | refine LeO.ite ?_ ?_
      | refine LeO.bind ?_ (fun _ => ?_)
set_option maxHeartbeats 8000000 in
set_option maxRecDepth 100000 in
theorem swingbridgelaw9_known.calls (k : Nat)  (r : Bool) [hT_ : IsTrue r] (w : World) (hG : Glob w) (h : swingbridgelaw9_known.f k  = some r) :
    Calls Tryd.prog 21 #[] w fun e w' => e = .returned (.bool r) ∧ Below w.heap.size w w' := by
  have hu37 := Tryd.underlying37
  have hu50 := Tryd.underlying50
  have HG := Aside0.mk hG
  clear hG
  have HB := Aside0.mk (Below.refl w.heap.size w)
  have H : ((text_Parse.f k (⟨#[112, 114, 111, 116, 111, 99, 111, 108, 32, 102, 97, 105, 114, 10, 99, 111, 114, 101, 115, 32, 49, 10, 104, 111, 109, 101, 115, 32, 48, 10, 10, 116, 97, 115, 107, 32, 97, 32, 49, 48, 32, 49, 48, 32, 49, 32, 48, 32, 114, 117, 110, 58, 51, 32, 108, 111, 99, 107, 58, 48, 58, 50, 32, 35, 32, 115, 111, 10]⟩ : ByteArray)).bind fun bt262 => ((text_Parse.f k (⟨#[112, 114, 111, 116, 111, 99, 111, 108, 32, 102, 97, 105, 114, 10, 99, 111, 114, 101, 115, 32, 49, 10, 104, 111, 109, 101, 115, 32, 48, 10, 116, 97, 115, 107, 32, 97, 32, 49, 48, 32, 49, 48, 32, 49, 32, 48, 32, 108, 111, 99, 107, 58, 48, 58, 108, 111, 99, 107, 58, 48, 58, 50, 10]⟩ : ByteArray)).bind fun bt275 => ((text_Parse.f k (⟨#[99, 111, 114, 101, 115, 32, 49, 10]⟩ : ByteArray)).bind fun bt288 => (if bt262.2.2.2.2.2 = 0 then (if bt262.2.2.2.2.1 = 5 then (if (bt262.2.2.2.1.length : Int) = 1 then (if 0 < (bt262.2.2.2.1.length : Int) then (if (((rd_T53 bt262.2.2.2.1 0).f5).length : Int) = 2 then (if 1 < (((rd_T53 bt262.2.2.2.1 0).f5).length : Int) then (if (((rd_T50 ((rd_T53 bt262.2.2.2.1 0).f5) 1).f0) == 3 && (((rd_T50 ((rd_T53 bt262.2.2.2.1 0).f5) 1).f1) == 2 && (((rd_T50 ((rd_T53 bt262.2.2.2.1 0).f5) 1).f2) == 0))) = true then (if bt275.2.2.2.2.2 = 18 then (if bt275.2.2.2.2.1 = 3 then (if bt288.2.2.2.2.2 = 10 then (if bt288.2.2.2.2.1 = 0 then ((text_Print.f k bt262.1 bt262.2.1 bt262.2.2.1 bt262.2.2.2.1).bind fun t304 => (some (t304.toList == ([112, 114, 111, 116, 111, 99, 111, 108, 32, 102, 97, 105, 114, 10, 99, 111, 114, 101, 115, 32, 49, 10, 104, 111, 109, 101, 115, 32, 48, 10, 116, 97, 115, 107, 32, 97, 32, 49, 48, 32, 49, 48, 32, 49, 32, 48, 32, 114, 117, 110, 58, 51, 32, 108, 111, 99, 107, 58, 48, 58, 50, 10] : List UInt8)))) else (some false)) else (some false)) else (some false)) else (some false)) else (some false)) else (none)) else (some false)) else (none)) else (some false)) else (some false)) else (some false))))) = some r := h
  clear h
  replace H := Option.bind_eq_some_iff.mp H
  obtain ⟨⟨t262, t263, t266, t269, t272, t273⟩, A10, H⟩ := H
  replace H : ((text_Parse.f k (⟨#[112, 114, 111, 116, 111, 99, 111, 108, 32, 102, 97, 105, 114, 10, 99, 111, 114, 101, 115, 32, 49, 10, 104, 111, 109, 101, 115, 32, 48, 10, 116, 97, 115, 107, 32, 97, 32, 49, 48, 32, 49, 48, 32, 49, 32, 48, 32, 108, 111, 99, 107, 58, 48, 58, 108, 111, 99, 107, 58, 48, 58, 50, 10]⟩ : ByteArray)).bind fun bt275 => ((text_Parse.f k (⟨#[99, 111, 114, 101, 115, 32, 49, 10]⟩ : ByteArray)).bind fun bt288 => (if t273 = 0 then (if t272 = 5 then (if (t269.length : Int) = 1 then (if 0 < (t269.length : Int) then (if (((rd_T53 t269 0).f5).length : Int) = 2 then (if 1 < (((rd_T53 t269 0).f5).length : Int) then (if (((rd_T50 ((rd_T53 t269 0).f5) 1).f0) == 3 && (((rd_T50 ((rd_T53 t269 0).f5) 1).f1) == 2 && (((rd_T50 ((rd_T53 t269 0).f5) 1).f2) == 0))) = true then (if bt275.2.2.2.2.2 = 18 then (if bt275.2.2.2.2.1 = 3 then (if bt288.2.2.2.2.2 = 10 then (if bt288.2.2.2.2.1 = 0 then ((text_Print.f k t262 t263 t266 t269).bind fun t304 => (some (t304.toList == ([112, 114, 111, 116, 111, 99, 111, 108, 32, 102, 97, 105, 114, 10, 99, 111, 114, 101, 115, 32, 49, 10, 104, 111, 109, 101, 115, 32, 48, 10, 116, 97, 115, 107, 32, 97, 32, 49, 48, 32, 49, 48, 32, 49, 32, 48, 32, 114, 117, 110, 58, 51, 32, 108, 111, 99, 107, 58, 48, 58, 50, 10] : List UInt8)))) else (some false)) else (some false)) else (some false)) else (some false)) else (some false)) else (none)) else (some false)) else (none)) else (some false)) else (some false)) else (some false)))) = some r := H
  have A1 := Aside0.mk A10
  clear A10
  replace H := Option.bind_eq_some_iff.mp H
  obtain ⟨⟨t275, t276, t279, t282, t285, t286⟩, A20, H⟩ := H
  replace H : ((text_Parse.f k (⟨#[99, 111, 114, 101, 115, 32, 49, 10]⟩ : ByteArray)).bind fun bt288 => (if t273 = 0 then (if t272 = 5 then (if (t269.length : Int) = 1 then (if 0 < (t269.length : Int) then (if (((rd_T53 t269 0).f5).length : Int) = 2 then (if 1 < (((rd_T53 t269 0).f5).length : Int) then (if (((rd_T50 ((rd_T53 t269 0).f5) 1).f0) == 3 && (((rd_T50 ((rd_T53 t269 0).f5) 1).f1) == 2 && (((rd_T50 ((rd_T53 t269 0).f5) 1).f2) == 0))) = true then (if t286 = 18 then (if t285 = 3 then (if bt288.2.2.2.2.2 = 10 then (if bt288.2.2.2.2.1 = 0 then ((text_Print.f k t262 t263 t266 t269).bind fun t304 => (some (t304.toList == ([112, 114, 111, 116, 111, 99, 111, 108, 32, 102, 97, 105, 114, 10, 99, 111, 114, 101, 115, 32, 49, 10, 104, 111, 109, 101, 115, 32, 48, 10, 116, 97, 115, 107, 32, 97, 32, 49, 48, 32, 49, 48, 32, 49, 32, 48, 32, 114, 117, 110, 58, 51, 32, 108, 111, 99, 107, 58, 48, 58, 50, 10] : List UInt8)))) else (some false)) else (some false)) else (some false)) else (some false)) else (some false)) else (none)) else (some false)) else (none)) else (some false)) else (some false)) else (some false))) = some r := H
  have A2 := Aside0.mk A20
  clear A20
  replace H := Option.bind_eq_some_iff.mp H
  obtain ⟨⟨t288, t289, t292, t295, t298, t299⟩, A30, H⟩ := H
  replace H : (if t273 = 0 then (if t272 = 5 then (if (t269.length : Int) = 1 then (if 0 < (t269.length : Int) then (if (((rd_T53 t269 0).f5).length : Int) = 2 then (if 1 < (((rd_T53 t269 0).f5).length : Int) then (if (((rd_T50 ((rd_T53 t269 0).f5) 1).f0) == 3 && (((rd_T50 ((rd_T53 t269 0).f5) 1).f1) == 2 && (((rd_T50 ((rd_T53 t269 0).f5) 1).f2) == 0))) = true then (if t286 = 18 then (if t285 = 3 then (if t299 = 10 then (if t298 = 0 then ((text_Print.f k t262 t263 t266 t269).bind fun t304 => (some (t304.toList == ([112, 114, 111, 116, 111, 99, 111, 108, 32, 102, 97, 105, 114, 10, 99, 111, 114, 101, 115, 32, 49, 10, 104, 111, 109, 101, 115, 32, 48, 10, 116, 97, 115, 107, 32, 97, 32, 49, 48, 32, 49, 48, 32, 49, 32, 48, 32, 114, 117, 110, 58, 51, 32, 108, 111, 99, 107, 58, 48, 58, 50, 10] : List UInt8)))) else (some false)) else (some false)) else (some false)) else (some false)) else (some false)) else (none)) else (some false)) else (none)) else (some false)) else (some false)) else (some false)) = some r := H
  have A3 := Aside0.mk A30
  clear A30
  by_cases c4 : t273 = 0
  rotate_left
  · rw [if_neg c4] at H
    have c4b0 : (t273 == 0) = false := beq_eq_false_iff_ne.mpr c4
    have c4b1 : (t273 != 0) = true := bne_iff_ne.mpr c4
    exact absurd ((Option.some.inj H).trans hT_.out) (by simp)
  rw [if_pos c4] at H
  have c4b0 : (t273 == 0) = true := beq_iff_eq.mpr c4
  have c4b1 : (t273 != 0) = false := bne_eq_false_iff_eq.mpr c4
  clear c4
  by_cases c5 : t272 = 5
  rotate_left
  · rw [if_neg c5] at H
    have c5b0 : (t272 == 5) = false := beq_eq_false_iff_ne.mpr c5
    have c5b1 : (t272 != 5) = true := bne_iff_ne.mpr c5
    exact absurd ((Option.some.inj H).trans hT_.out) (by simp)
  rw [if_pos c5] at H
  have c5b0 : (t272 == 5) = true := beq_iff_eq.mpr c5
  have c5b1 : (t272 != 5) = false := bne_eq_false_iff_eq.mpr c5
  clear c5
  by_cases c6 : (t269.length : Int) = 1
  rotate_left
  · rw [if_neg c6] at H
    have c6b0 : ((t269.length : Int) == 1) = false := beq_eq_false_iff_ne.mpr c6
    have c6b1 : ((t269.length : Int) != 1) = true := bne_iff_ne.mpr c6
    exact absurd ((Option.some.inj H).trans hT_.out) (by simp)
  rw [if_pos c6] at H
  have c6b0 : ((t269.length : Int) == 1) = true := beq_iff_eq.mpr c6
  have c6b1 : ((t269.length : Int) != 1) = false := bne_eq_false_iff_eq.mpr c6
  clear c6
  by_cases c7 : 0 < (t269.length : Int)
  rotate_left
  · rw [if_neg c7] at H
    exact absurd H (by simp)
  rw [if_pos c7] at H
  have c7b0 : decide (0 < (t269.length : Int)) = true := decide_eq_true c7
  have c7b1 : decide (0 < t269.length) = true := decide_eq_true (by omega)
  clear c7
  by_cases c8 : (((rd_T53 t269 0).f5).length : Int) = 2
  rotate_left
  · rw [if_neg c8] at H
    have c8b0 : ((((rd_T53 t269 0).f5).length : Int) == 2) = false := beq_eq_false_iff_ne.mpr c8
    have c8b1 : ((((rd_T53 t269 0).f5).length : Int) != 2) = true := bne_iff_ne.mpr c8
    exact absurd ((Option.some.inj H).trans hT_.out) (by simp)
  rw [if_pos c8] at H
  have c8b0 : ((((rd_T53 t269 0).f5).length : Int) == 2) = true := beq_iff_eq.mpr c8
  have c8b1 : ((((rd_T53 t269 0).f5).length : Int) != 2) = false := bne_eq_false_iff_eq.mpr c8
  clear c8
  by_cases c9 : 1 < (((rd_T53 t269 0).f5).length : Int)
  rotate_left
  · rw [if_neg c9] at H
    exact absurd H (by simp)
  rw [if_pos c9] at H
  have c9b0 : decide (1 < (((rd_T53 t269 0).f5).length : Int)) = true := decide_eq_true c9
  have c9b1 : decide (1 < ((rd_T53 t269 0).f5).length) = true := decide_eq_true (by omega)
  clear c9
  by_cases c10 : (((rd_T50 ((rd_T53 t269 0).f5) 1).f0) == 3 && (((rd_T50 ((rd_T53 t269 0).f5) 1).f1) == 2 && (((rd_T50 ((rd_T53 t269 0).f5) 1).f2) == 0))) = true
  rotate_left
  · rw [if_neg c10] at H
    have c10b0 : (((rd_T50 ((rd_T53 t269 0).f5) 1).f0) == 3 && (((rd_T50 ((rd_T53 t269 0).f5) 1).f1) == 2 && (((rd_T50 ((rd_T53 t269 0).f5) 1).f2) == 0))) = false := by simpa using c10
    (try (have c10b1 : decide (((rd_T50 ((rd_T53 t269 0).f5) 1).f0) = 3 && (((rd_T50 ((rd_T53 t269 0).f5) 1).f1) == 2 && (((rd_T50 ((rd_T53 t269 0).f5) 1).f2) == 0))) = false := by simpa using c10))
    (try (have c10b2 : (((rd_T50 ((rd_T53 t269 0).f5) 1).f0) == 3 && (((rd_T50 ((rd_T53 t269 0).f5) 1).f1) == 2 && (((rd_T50 ((rd_T53 t269 0).f5) 1).f2) == 0))) = false := by simpa using c10))
    (try (have c10b3 : ¬ (((rd_T50 ((rd_T53 t269 0).f5) 1).f0) = 3 && (((rd_T50 ((rd_T53 t269 0).f5) 1).f1) == 2 && (((rd_T50 ((rd_T53 t269 0).f5) 1).f2) == 0))) := by simpa using c10))
    clear c10
    exact absurd ((Option.some.inj H).trans hT_.out) (by simp)
  rw [if_pos c10] at H
  have c10b0 : (((rd_T50 ((rd_T53 t269 0).f5) 1).f0) == 3 && (((rd_T50 ((rd_T53 t269 0).f5) 1).f1) == 2 && (((rd_T50 ((rd_T53 t269 0).f5) 1).f2) == 0))) = true := c10
  (try (have c10b1 : decide (((rd_T50 ((rd_T53 t269 0).f5) 1).f0) = 3 && (((rd_T50 ((rd_T53 t269 0).f5) 1).f1) == 2 && (((rd_T50 ((rd_T53 t269 0).f5) 1).f2) == 0))) = true := by simpa using c10))
  (try (have c10b2 : (((rd_T50 ((rd_T53 t269 0).f5) 1).f0) == 3 && (((rd_T50 ((rd_T53 t269 0).f5) 1).f1) == 2 && (((rd_T50 ((rd_T53 t269 0).f5) 1).f2) == 0))) = true := by simpa using c10))
  clear c10
  by_cases c11 : t286 = 18
  rotate_left
  · rw [if_neg c11] at H
    have c11b0 : (t286 == 18) = false := beq_eq_false_iff_ne.mpr c11
    have c11b1 : (t286 != 18) = true := bne_iff_ne.mpr c11
    exact absurd ((Option.some.inj H).trans hT_.out) (by simp)
  rw [if_pos c11] at H
  have c11b0 : (t286 == 18) = true := beq_iff_eq.mpr c11
  have c11b1 : (t286 != 18) = false := bne_eq_false_iff_eq.mpr c11
  clear c11
  by_cases c12 : t285 = 3
  rotate_left
  · rw [if_neg c12] at H
    have c12b0 : (t285 == 3) = false := beq_eq_false_iff_ne.mpr c12
    have c12b1 : (t285 != 3) = true := bne_iff_ne.mpr c12
    exact absurd ((Option.some.inj H).trans hT_.out) (by simp)
  rw [if_pos c12] at H
  have c12b0 : (t285 == 3) = true := beq_iff_eq.mpr c12
  have c12b1 : (t285 != 3) = false := bne_eq_false_iff_eq.mpr c12
  clear c12
  by_cases c13 : t299 = 10
  rotate_left
  · rw [if_neg c13] at H
    have c13b0 : (t299 == 10) = false := beq_eq_false_iff_ne.mpr c13
    have c13b1 : (t299 != 10) = true := bne_iff_ne.mpr c13
    exact absurd ((Option.some.inj H).trans hT_.out) (by simp)
  rw [if_pos c13] at H
  have c13b0 : (t299 == 10) = true := beq_iff_eq.mpr c13
  have c13b1 : (t299 != 10) = false := bne_eq_false_iff_eq.mpr c13
  clear c13
  by_cases c14 : t298 = 0
  rotate_left
  · rw [if_neg c14] at H
    have c14b0 : (t298 == 0) = false := beq_eq_false_iff_ne.mpr c14
    have c14b1 : (t298 != 0) = true := bne_iff_ne.mpr c14
    exact absurd ((Option.some.inj H).trans hT_.out) (by simp)
  rw [if_pos c14] at H
  have c14b0 : (t298 == 0) = true := beq_iff_eq.mpr c14
  have c14b1 : (t298 != 0) = false := bne_eq_false_iff_eq.mpr c14
  clear c14
  replace H := Option.bind_eq_some_iff.mp H
  obtain ⟨t304, A150, H⟩ := H
  replace H : (some (t304.toList == ([112, 114, 111, 116, 111, 99, 111, 108, 32, 102, 97, 105, 114, 10, 99, 111, 114, 101, 115, 32, 49, 10, 104, 111, 109, 101, 115, 32, 48, 10, 116, 97, 115, 107, 32, 97, 32, 49, 48, 32, 49, 48, 32, 49, 32, 48, 32, 114, 117, 110, 58, 51, 32, 108, 111, 99, 107, 58, 48, 58, 50, 10] : List UInt8))) = some r := H
  have A15 := Aside0.mk A150
  clear A150
  obtain rfl := Option.some.inj H
  go_enter Tryd.func21, Tryd.ntmps21
  go_wp2_with (first | ((with_reducible refine gate_callee (f := 25) rfl ?_); refine goesL_ (some 11) rfl rfl Tryd.func25 (by kernel_rfl) rfl #[.string (⟨#[112, 114, 111, 116, 111, 99, 111, 108, 32, 102, 97, 105, 114, 10, 99, 111, 114, 101, 115, 32, 49, 10, 104, 111, 109, 101, 115, 32, 48, 10, 10, 116, 97, 115, 107, 32, 97, 32, 49, 48, 32, 49, 48, 32, 49, 32, 48, 32, 114, 117, 110, 58, 51, 32, 108, 111, 99, 107, 58, 48, 58, 50, 32, 35, 32, 115, 111, 10]⟩ : ByteArray)] rfl (by (try simp only [List.map_toArray, List.map_cons, List.map_nil]); first | done | rfl | (simp only [List.length_drop, List.length_take]; rfl)) ?_; (with_reducible refine (text_Parse.calls k (⟨#[112, 114, 111, 116, 111, 99, 111, 108, 32, 102, 97, 105, 114, 10, 99, 111, 114, 101, 115, 32, 49, 10, 104, 111, 109, 101, 115, 32, 48, 10, 10, 116, 97, 115, 107, 32, 97, 32, 49, 48, 32, 49, 48, 32, 49, 32, 48, 32, 114, 117, 110, 58, 51, 32, 108, 111, 99, 107, 58, 48, 58, 50, 32, 35, 32, 115, 111, 10]⟩ : ByteArray) t262 t263 t266 t269 t272 t273 _ ?side1 A1.out).mono ?_); (case side1 => first | exact Glob.below HG.out (HB.out) | (repeat (first | exact Glob.below HG.out HB.out | (with_reducible refine Glob.alloc ?_ _) | (with_reducible refine Glob.drewN ?_ _) | (with_reducible refine Glob.drew ?_)))); rintro e w16 ⟨v264, v267, v270, rfl, ho0, ho1, ho2, hb⟩; refine ⟨_, rfl, ?_⟩; have n0_ := Aside0.mk (Kd.R_lower ho0 (below_size (HB.out))); have n1_ := Aside0.mk (Kd.R_lower ho1 (below_size (HB.out))); have n2_ := Aside0.mk (Kd.S_lower ho2 (below_size (HB.out))); have n3_ := Aside0.mk (below_step (HB.out) hb); clear HB; have HO265 := n0_; have HO268 := n1_; have HO271 := n2_; have HB := n3_; clear n0_ n1_ n2_ n3_; (try clear hb); (try clear hb2); (try clear hk); (try clear hi); (try clear ho0); (try clear ho1); (try clear ho2)) | ((with_reducible refine gate_dst (N := 1) rfl ?_); (try (refine gate_guard (by rfl) ?_; dsimp only)); refine box_event ?hg (N := 1) ?hd (cs := #[.int .i64 0, .slice none 0 0, .slice none 0 0, .slice none 0 0]) (t := 37) ?hr ?_; (case hd => rfl); (case hg => rfl); (case hr => first | (go_simp; done) | (go_simp; rfl)); intro gb274 hg w17 hbox hb; have n0_ := Aside0.mk (Kd.R_below (by (with_reducible repeat (first | apply Kd.R_alloc | apply Kd.R_drewN | apply Kd.R_drew)); exact HO265.out) hb); have n1_ := Aside0.mk (Kd.R_below (by (with_reducible repeat (first | apply Kd.R_alloc | apply Kd.R_drewN | apply Kd.R_drew)); exact HO268.out) hb); have n2_ := Aside0.mk (Kd.S_below (by (with_reducible repeat (first | apply Kd.S_alloc | apply Kd.S_drewN | apply Kd.S_drew)); exact HO271.out) hb); have n3_ := Aside0.mk (below_step (HB.out) hb); have n4_ := Aside0.mk (hbox); have n5_ := Aside0.mk ((by rw [hg]; exact (below_size (HB.out)) : w.heap.size ≤ gb274)); have n6_ := n5_; clear HO265; clear HO268; clear HO271; clear HB; have HO265 := n0_; have HO268 := n1_; have HO271 := n2_; have HB := n3_; have BK274 := n4_; have GW274 := n5_; have GE274 := n6_; clear n0_ n1_ n2_ n3_ n4_ n5_ n6_; clear hb hbox hg; have hcz18_0 : w17.cell? ⟨gb274, 0, none⟩ = some (.int .i64 0) := (blk_cell BK274.out 0).trans rfl; have hcz18_1 : w17.cell? ⟨gb274, 1, none⟩ = some (.slice none 0 0) := (blk_cell BK274.out 1).trans rfl; have hcz18_2 : w17.cell? ⟨gb274, 2, none⟩ = some (.slice none 0 0) := (blk_cell BK274.out 2).trans rfl; have hcz18_3 : w17.cell? ⟨gb274, 3, none⟩ = some (.slice none 0 0) := (blk_cell BK274.out 3).trans rfl; have hfz18_0 := blk_frozen BK274.out 0; have hfz18_1 := blk_frozen BK274.out 1; have hfz18_2 := blk_frozen BK274.out 2; have hfz18_3 := blk_frozen BK274.out 3; obtain ⟨Ao19, co19, eo19⟩ := Kd.R_slice HO265.out; subst eo19; obtain ⟨Ao20, co20, eo20⟩ := Kd.R_slice HO268.out; subst eo20; obtain ⟨Ao21, co21, eo21⟩ := Kd.S_slice HO271.out; subst eo21) | ((with_reducible refine gate_callee (f := 25) rfl ?_); refine goesL_ (some 16) rfl rfl Tryd.func25 (by kernel_rfl) rfl #[.string (⟨#[112, 114, 111, 116, 111, 99, 111, 108, 32, 102, 97, 105, 114, 10, 99, 111, 114, 101, 115, 32, 49, 10, 104, 111, 109, 101, 115, 32, 48, 10, 116, 97, 115, 107, 32, 97, 32, 49, 48, 32, 49, 48, 32, 49, 32, 48, 32, 108, 111, 99, 107, 58, 48, 58, 108, 111, 99, 107, 58, 48, 58, 50, 10]⟩ : ByteArray)] rfl (by (try simp only [List.map_toArray, List.map_cons, List.map_nil]); first | done | rfl | (simp only [List.length_drop, List.length_take]; rfl)) ?_; (with_reducible refine (text_Parse.calls k (⟨#[112, 114, 111, 116, 111, 99, 111, 108, 32, 102, 97, 105, 114, 10, 99, 111, 114, 101, 115, 32, 49, 10, 104, 111, 109, 101, 115, 32, 48, 10, 116, 97, 115, 107, 32, 97, 32, 49, 48, 32, 49, 48, 32, 49, 32, 48, 32, 108, 111, 99, 107, 58, 48, 58, 108, 111, 99, 107, 58, 48, 58, 50, 10]⟩ : ByteArray) t275 t276 t279 t282 t285 t286 _ ?side1 A2.out).mono ?_); (case side1 => first | exact Glob.below HG.out (by repeat (first | (with_reducible first | exact HB.out | apply below_alloc | apply pw_below_drewN | apply below_drew1 | refine below_set ?_ GE274.out) | exact HB.out)) | (repeat (first | exact Glob.below HG.out HB.out | (with_reducible refine Glob.alloc ?_ _) | (with_reducible refine Glob.drewN ?_ _) | (with_reducible refine Glob.drew ?_)))); rintro e w22 ⟨v277, v280, v283, rfl, ho0, ho1, ho2, hb⟩; refine ⟨_, rfl, ?_⟩; have n0_ := Aside0.mk (Kd.R_mono (Kd.R_told (Kd.R_told (Kd.R_old (by (with_reducible repeat (first | apply Kd.R_alloc | apply Kd.R_drewN | apply Kd.R_drew)); exact (Kd.R_mono (Kd.R_far (p := ⟨gb274, 3, none⟩) (Kd.R_far (p := ⟨gb274, 2, none⟩) (Kd.R_far (p := ⟨gb274, 1, none⟩) (Kd.R_far (p := ⟨gb274, 0, none⟩) (Kd.R_types HO265.out BK274.out (by decide)) (fun _ hk => hk.2) (.int .i64 t262)) (fun _ hk => hk.2) (.slice Ao19 t263.length co19)) (fun _ hk => hk.2) (.slice Ao20 t266.length co20)) (fun _ hk => hk.2) (.slice Ao21 t269.length co21)) (fun _ h_ => h_.1))) hb) (Kd.R_base ho0)) (Kd.R_base ho1)) (fun _ h_ => h_.1)); have n1_ := Aside0.mk (Kd.R_mono (Kd.R_told (Kd.R_told (Kd.R_old (by (with_reducible repeat (first | apply Kd.R_alloc | apply Kd.R_drewN | apply Kd.R_drew)); exact (Kd.R_mono (Kd.R_far (p := ⟨gb274, 3, none⟩) (Kd.R_far (p := ⟨gb274, 2, none⟩) (Kd.R_far (p := ⟨gb274, 1, none⟩) (Kd.R_far (p := ⟨gb274, 0, none⟩) (Kd.R_types HO268.out BK274.out (by decide)) (fun _ hk => hk.2) (.int .i64 t262)) (fun _ hk => hk.2) (.slice Ao19 t263.length co19)) (fun _ hk => hk.2) (.slice Ao20 t266.length co20)) (fun _ hk => hk.2) (.slice Ao21 t269.length co21)) (fun _ h_ => h_.1))) hb) (Kd.R_base ho0)) (Kd.R_base ho1)) (fun _ h_ => h_.1)); have n2_ := Aside0.mk (Kd.S_elder' (by (with_reducible repeat (first | apply Kd.S_alloc | apply Kd.S_drewN | apply Kd.S_drew)); exact (Kd.S_mono (Kd.S_far (p := ⟨gb274, 3, none⟩) (Kd.S_far (p := ⟨gb274, 2, none⟩) (Kd.S_far (p := ⟨gb274, 1, none⟩) (Kd.S_far (p := ⟨gb274, 0, none⟩) (Kd.S_types HO271.out BK274.out (by decide)) (fun _ hk => hk.2) (.int .i64 t262)) (fun _ hk => hk.2) (.slice Ao19 t263.length co19)) (fun _ hk => hk.2) (.slice Ao20 t266.length co20)) (fun _ hk => hk.2) (.slice Ao21 t269.length co21)) (fun _ h_ => h_.1))) (Kd.S_base ho2) hb); have n3_ := Aside0.mk (Kd.R_lower (Kd.R_new' (Kd.R_new' ho0 (Kd.R_lt (by (with_reducible repeat (first | apply Kd.R_alloc | apply Kd.R_drewN | apply Kd.R_drew)); exact (Kd.R_mono (Kd.R_far (p := ⟨gb274, 3, none⟩) (Kd.R_far (p := ⟨gb274, 2, none⟩) (Kd.R_far (p := ⟨gb274, 1, none⟩) (Kd.R_far (p := ⟨gb274, 0, none⟩) (Kd.R_types HO265.out BK274.out (by decide)) (fun _ hk => hk.2) (.int .i64 t262)) (fun _ hk => hk.2) (.slice Ao19 t263.length co19)) (fun _ hk => hk.2) (.slice Ao20 t266.length co20)) (fun _ hk => hk.2) (.slice Ao21 t269.length co21)) (fun _ h_ => h_.1))))) (Kd.R_lt (by (with_reducible repeat (first | apply Kd.R_alloc | apply Kd.R_drewN | apply Kd.R_drew)); exact (Kd.R_mono (Kd.R_far (p := ⟨gb274, 3, none⟩) (Kd.R_far (p := ⟨gb274, 2, none⟩) (Kd.R_far (p := ⟨gb274, 1, none⟩) (Kd.R_far (p := ⟨gb274, 0, none⟩) (Kd.R_types HO268.out BK274.out (by decide)) (fun _ hk => hk.2) (.int .i64 t262)) (fun _ hk => hk.2) (.slice Ao19 t263.length co19)) (fun _ hk => hk.2) (.slice Ao20 t266.length co20)) (fun _ hk => hk.2) (.slice Ao21 t269.length co21)) (fun _ h_ => h_.1))))) (below_size (by repeat (first | (with_reducible first | exact HB.out | apply below_alloc | apply pw_below_drewN | apply below_drew1 | refine below_set ?_ GE274.out) | exact HB.out)))); have n4_ := Aside0.mk (Kd.R_lower (Kd.R_new' (Kd.R_new' ho1 (Kd.R_lt (by (with_reducible repeat (first | apply Kd.R_alloc | apply Kd.R_drewN | apply Kd.R_drew)); exact (Kd.R_mono (Kd.R_far (p := ⟨gb274, 3, none⟩) (Kd.R_far (p := ⟨gb274, 2, none⟩) (Kd.R_far (p := ⟨gb274, 1, none⟩) (Kd.R_far (p := ⟨gb274, 0, none⟩) (Kd.R_types HO265.out BK274.out (by decide)) (fun _ hk => hk.2) (.int .i64 t262)) (fun _ hk => hk.2) (.slice Ao19 t263.length co19)) (fun _ hk => hk.2) (.slice Ao20 t266.length co20)) (fun _ hk => hk.2) (.slice Ao21 t269.length co21)) (fun _ h_ => h_.1))))) (Kd.R_lt (by (with_reducible repeat (first | apply Kd.R_alloc | apply Kd.R_drewN | apply Kd.R_drew)); exact (Kd.R_mono (Kd.R_far (p := ⟨gb274, 3, none⟩) (Kd.R_far (p := ⟨gb274, 2, none⟩) (Kd.R_far (p := ⟨gb274, 1, none⟩) (Kd.R_far (p := ⟨gb274, 0, none⟩) (Kd.R_types HO268.out BK274.out (by decide)) (fun _ hk => hk.2) (.int .i64 t262)) (fun _ hk => hk.2) (.slice Ao19 t263.length co19)) (fun _ hk => hk.2) (.slice Ao20 t266.length co20)) (fun _ hk => hk.2) (.slice Ao21 t269.length co21)) (fun _ h_ => h_.1))))) (below_size (by repeat (first | (with_reducible first | exact HB.out | apply below_alloc | apply pw_below_drewN | apply below_drew1 | refine below_set ?_ GE274.out) | exact HB.out)))); have n5_ := Aside0.mk (Kd.S_lower (Kd.S_new' ho2 (Kd.S_lt (by (with_reducible repeat (first | apply Kd.S_alloc | apply Kd.S_drewN | apply Kd.S_drew)); exact (Kd.S_mono (Kd.S_far (p := ⟨gb274, 3, none⟩) (Kd.S_far (p := ⟨gb274, 2, none⟩) (Kd.S_far (p := ⟨gb274, 1, none⟩) (Kd.S_far (p := ⟨gb274, 0, none⟩) (Kd.S_types HO271.out BK274.out (by decide)) (fun _ hk => hk.2) (.int .i64 t262)) (fun _ hk => hk.2) (.slice Ao19 t263.length co19)) (fun _ hk => hk.2) (.slice Ao20 t266.length co20)) (fun _ hk => hk.2) (.slice Ao21 t269.length co21)) (fun _ h_ => h_.1))))) (below_size (by repeat (first | (with_reducible first | exact HB.out | apply below_alloc | apply pw_below_drewN | apply below_drew1 | refine below_set ?_ GE274.out) | exact HB.out)))); have n6_ := Aside0.mk (blk_below (g := gb274) (o := .cells #[.int .i64 t262, .slice Ao19 t263.length co19, .slice Ao20 t266.length co20, .slice Ao21 t269.length co21] 37 (0, 0)) (by (with_reducible repeat (first | refine blk_drewN ?_ _ | refine blk_drew ?_ | refine blk_alloc ?_ _)); refine blk_put (cs := #[.int .i64 t262, .slice Ao19 t263.length co19, .slice Ao20 t266.length co20, .slice none 0 0]) ?_ 3 _ rfl; (with_reducible repeat (first | refine blk_drewN ?_ _ | refine blk_drew ?_ | refine blk_alloc ?_ _)); refine blk_put (cs := #[.int .i64 t262, .slice Ao19 t263.length co19, .slice none 0 0, .slice none 0 0]) ?_ 2 _ rfl; (with_reducible repeat (first | refine blk_drewN ?_ _ | refine blk_drew ?_ | refine blk_alloc ?_ _)); refine blk_put (cs := #[.int .i64 t262, .slice none 0 0, .slice none 0 0, .slice none 0 0]) ?_ 1 _ rfl; (with_reducible repeat (first | refine blk_drewN ?_ _ | refine blk_drew ?_ | refine blk_alloc ?_ _)); refine blk_put (cs := #[.int .i64 0, .slice none 0 0, .slice none 0 0, .slice none 0 0]) ?_ 0 _ rfl; (with_reducible repeat (first | refine blk_drewN ?_ _ | refine blk_drew ?_ | refine blk_alloc ?_ _)); exact BK274.out) hb); have n7_ := Aside0.mk (below_step (by repeat (first | (with_reducible first | exact HB.out | apply below_alloc | apply pw_below_drewN | apply below_drew1 | refine below_set ?_ GE274.out) | exact HB.out)) hb); clear HO265; clear HO268; clear HO271; clear BK274; clear HB; have HO265 := n0_; have HO268 := n1_; have HO271 := n2_; have HO278 := n3_; have HO281 := n4_; have HO284 := n5_; have BK274 := n6_; have HB := n7_; clear n0_ n1_ n2_ n3_ n4_ n5_ n6_ n7_; (try clear hb); (try clear hb2); (try clear hk); (try clear hi); (try clear ho0); (try clear ho1); (try clear ho2)) | ((with_reducible refine gate_dst (N := 4) rfl ?_); (try (refine gate_guard (by rfl) ?_; dsimp only)); refine box_event ?hg (N := 4) ?hd (cs := #[.int .i64 0, .slice none 0 0, .slice none 0 0, .slice none 0 0]) (t := 37) ?hr ?_; (case hd => rfl); (case hg => rfl); (case hr => first | (go_simp; done) | (go_simp; rfl)); intro gb287 hg w23 hbox hb; have n0_ := Aside0.mk (Kd.R_below (by (with_reducible repeat (first | apply Kd.R_alloc | apply Kd.R_drewN | apply Kd.R_drew)); exact HO265.out) hb); have n1_ := Aside0.mk (Kd.R_below (by (with_reducible repeat (first | apply Kd.R_alloc | apply Kd.R_drewN | apply Kd.R_drew)); exact HO268.out) hb); have n2_ := Aside0.mk (Kd.S_below (by (with_reducible repeat (first | apply Kd.S_alloc | apply Kd.S_drewN | apply Kd.S_drew)); exact HO271.out) hb); have n3_ := Aside0.mk (Kd.R_below (by (with_reducible repeat (first | apply Kd.R_alloc | apply Kd.R_drewN | apply Kd.R_drew)); exact HO278.out) hb); have n4_ := Aside0.mk (Kd.R_below (by (with_reducible repeat (first | apply Kd.R_alloc | apply Kd.R_drewN | apply Kd.R_drew)); exact HO281.out) hb); have n5_ := Aside0.mk (Kd.S_below (by (with_reducible repeat (first | apply Kd.S_alloc | apply Kd.S_drewN | apply Kd.S_drew)); exact HO284.out) hb); have n6_ := Aside0.mk (blk_below BK274.out hb); have n7_ := Aside0.mk (below_step (HB.out) hb); have n8_ := Aside0.mk (hbox); have n9_ := Aside0.mk ((by rw [hg]; exact (below_size (HB.out)) : w.heap.size ≤ gb287)); have n10_ := n9_; have n11_ := Aside0.mk ((by rw [hg]; exact Nat.ne_of_lt (blk_lt BK274.out) : gb274 ≠ gb287)); have n12_ := Aside0.mk ((by rw [hg]; exact Nat.ne_of_gt (blk_lt BK274.out) : gb287 ≠ gb274)); clear HO265; clear HO268; clear HO271; clear HO278; clear HO281; clear HO284; clear BK274; clear HB; have HO265 := n0_; have HO268 := n1_; have HO271 := n2_; have HO278 := n3_; have HO281 := n4_; have HO284 := n5_; have BK274 := n6_; have HB := n7_; have BK287 := n8_; have GW287 := n9_; have GE287 := n10_; have NB274_287 := n11_; have NB287_274 := n12_; clear n0_ n1_ n2_ n3_ n4_ n5_ n6_ n7_ n8_ n9_ n10_ n11_ n12_; clear hb hbox hg; have hnb24 := NB287_274.out; have hnc24 := NB274_287.out; have hcz25_0 : w23.cell? ⟨gb287, 0, none⟩ = some (.int .i64 0) := (blk_cell BK287.out 0).trans rfl; have hcz25_1 : w23.cell? ⟨gb287, 1, none⟩ = some (.slice none 0 0) := (blk_cell BK287.out 1).trans rfl; have hcz25_2 : w23.cell? ⟨gb287, 2, none⟩ = some (.slice none 0 0) := (blk_cell BK287.out 2).trans rfl; have hcz25_3 : w23.cell? ⟨gb287, 3, none⟩ = some (.slice none 0 0) := (blk_cell BK287.out 3).trans rfl; have hfz25_0 := blk_frozen BK287.out 0; have hfz25_1 := blk_frozen BK287.out 1; have hfz25_2 := blk_frozen BK287.out 2; have hfz25_3 := blk_frozen BK287.out 3; obtain ⟨Ao26, co26, eo26⟩ := Kd.R_slice HO278.out; subst eo26; obtain ⟨Ao27, co27, eo27⟩ := Kd.R_slice HO281.out; subst eo27; obtain ⟨Ao28, co28, eo28⟩ := Kd.S_slice HO284.out; subst eo28) | ((with_reducible refine gate_callee (f := 25) rfl ?_); refine goesL_ (some 21) rfl rfl Tryd.func25 (by kernel_rfl) rfl #[.string (⟨#[99, 111, 114, 101, 115, 32, 49, 10]⟩ : ByteArray)] rfl (by (try simp only [List.map_toArray, List.map_cons, List.map_nil]); first | done | rfl | (simp only [List.length_drop, List.length_take]; rfl)) ?_; (with_reducible refine (text_Parse.calls k (⟨#[99, 111, 114, 101, 115, 32, 49, 10]⟩ : ByteArray) t288 t289 t292 t295 t298 t299 _ ?side1 A3.out).mono ?_); (case side1 => first | exact Glob.below HG.out (by repeat (first | (with_reducible first | exact HB.out | apply below_alloc | apply pw_below_drewN | apply below_drew1 | refine below_set ?_ GE274.out | refine below_set ?_ GE287.out) | exact HB.out)) | (repeat (first | exact Glob.below HG.out HB.out | (with_reducible refine Glob.alloc ?_ _) | (with_reducible refine Glob.drewN ?_ _) | (with_reducible refine Glob.drew ?_)))); rintro e w29 ⟨v290, v293, v296, rfl, ho0, ho1, ho2, hb⟩; refine ⟨_, rfl, ?_⟩; have n0_ := Aside0.mk (Kd.R_mono (Kd.R_told (Kd.R_told (Kd.R_old (by (with_reducible repeat (first | apply Kd.R_alloc | apply Kd.R_drewN | apply Kd.R_drew)); exact (Kd.R_mono (Kd.R_far (p := ⟨gb287, 3, none⟩) (Kd.R_far (p := ⟨gb287, 2, none⟩) (Kd.R_far (p := ⟨gb287, 1, none⟩) (Kd.R_far (p := ⟨gb287, 0, none⟩) (Kd.R_types HO265.out BK287.out (by decide)) (fun _ hk => hk.2) (.int .i64 t275)) (fun _ hk => hk.2) (.slice Ao26 t276.length co26)) (fun _ hk => hk.2) (.slice Ao27 t279.length co27)) (fun _ hk => hk.2) (.slice Ao28 t282.length co28)) (fun _ h_ => h_.1))) hb) (Kd.R_base ho0)) (Kd.R_base ho1)) (fun _ h_ => h_.1)); have n1_ := Aside0.mk (Kd.R_mono (Kd.R_told (Kd.R_told (Kd.R_old (by (with_reducible repeat (first | apply Kd.R_alloc | apply Kd.R_drewN | apply Kd.R_drew)); exact (Kd.R_mono (Kd.R_far (p := ⟨gb287, 3, none⟩) (Kd.R_far (p := ⟨gb287, 2, none⟩) (Kd.R_far (p := ⟨gb287, 1, none⟩) (Kd.R_far (p := ⟨gb287, 0, none⟩) (Kd.R_types HO268.out BK287.out (by decide)) (fun _ hk => hk.2) (.int .i64 t275)) (fun _ hk => hk.2) (.slice Ao26 t276.length co26)) (fun _ hk => hk.2) (.slice Ao27 t279.length co27)) (fun _ hk => hk.2) (.slice Ao28 t282.length co28)) (fun _ h_ => h_.1))) hb) (Kd.R_base ho0)) (Kd.R_base ho1)) (fun _ h_ => h_.1)); have n2_ := Aside0.mk (Kd.S_elder' (by (with_reducible repeat (first | apply Kd.S_alloc | apply Kd.S_drewN | apply Kd.S_drew)); exact (Kd.S_mono (Kd.S_far (p := ⟨gb287, 3, none⟩) (Kd.S_far (p := ⟨gb287, 2, none⟩) (Kd.S_far (p := ⟨gb287, 1, none⟩) (Kd.S_far (p := ⟨gb287, 0, none⟩) (Kd.S_types HO271.out BK287.out (by decide)) (fun _ hk => hk.2) (.int .i64 t275)) (fun _ hk => hk.2) (.slice Ao26 t276.length co26)) (fun _ hk => hk.2) (.slice Ao27 t279.length co27)) (fun _ hk => hk.2) (.slice Ao28 t282.length co28)) (fun _ h_ => h_.1))) (Kd.S_base ho2) hb); have n3_ := Aside0.mk (Kd.R_mono (Kd.R_told (Kd.R_told (Kd.R_old (by (with_reducible repeat (first | apply Kd.R_alloc | apply Kd.R_drewN | apply Kd.R_drew)); exact (Kd.R_mono (Kd.R_far (p := ⟨gb287, 3, none⟩) (Kd.R_far (p := ⟨gb287, 2, none⟩) (Kd.R_far (p := ⟨gb287, 1, none⟩) (Kd.R_far (p := ⟨gb287, 0, none⟩) (Kd.R_types HO278.out BK287.out (by decide)) (fun _ hk => hk.2) (.int .i64 t275)) (fun _ hk => hk.2) (.slice Ao26 t276.length co26)) (fun _ hk => hk.2) (.slice Ao27 t279.length co27)) (fun _ hk => hk.2) (.slice Ao28 t282.length co28)) (fun _ h_ => h_.1))) hb) (Kd.R_base ho0)) (Kd.R_base ho1)) (fun _ h_ => h_.1)); have n4_ := Aside0.mk (Kd.R_mono (Kd.R_told (Kd.R_told (Kd.R_old (by (with_reducible repeat (first | apply Kd.R_alloc | apply Kd.R_drewN | apply Kd.R_drew)); exact (Kd.R_mono (Kd.R_far (p := ⟨gb287, 3, none⟩) (Kd.R_far (p := ⟨gb287, 2, none⟩) (Kd.R_far (p := ⟨gb287, 1, none⟩) (Kd.R_far (p := ⟨gb287, 0, none⟩) (Kd.R_types HO281.out BK287.out (by decide)) (fun _ hk => hk.2) (.int .i64 t275)) (fun _ hk => hk.2) (.slice Ao26 t276.length co26)) (fun _ hk => hk.2) (.slice Ao27 t279.length co27)) (fun _ hk => hk.2) (.slice Ao28 t282.length co28)) (fun _ h_ => h_.1))) hb) (Kd.R_base ho0)) (Kd.R_base ho1)) (fun _ h_ => h_.1)); have n5_ := Aside0.mk (Kd.S_elder' (by (with_reducible repeat (first | apply Kd.S_alloc | apply Kd.S_drewN | apply Kd.S_drew)); exact (Kd.S_mono (Kd.S_far (p := ⟨gb287, 3, none⟩) (Kd.S_far (p := ⟨gb287, 2, none⟩) (Kd.S_far (p := ⟨gb287, 1, none⟩) (Kd.S_far (p := ⟨gb287, 0, none⟩) (Kd.S_types HO284.out BK287.out (by decide)) (fun _ hk => hk.2) (.int .i64 t275)) (fun _ hk => hk.2) (.slice Ao26 t276.length co26)) (fun _ hk => hk.2) (.slice Ao27 t279.length co27)) (fun _ hk => hk.2) (.slice Ao28 t282.length co28)) (fun _ h_ => h_.1))) (Kd.S_base ho2) hb); have n6_ := Aside0.mk (Kd.R_lower (Kd.R_new' (Kd.R_new' (Kd.R_new' (Kd.R_new' ho0 (Kd.R_lt (by (with_reducible repeat (first | apply Kd.R_alloc | apply Kd.R_drewN | apply Kd.R_drew)); exact (Kd.R_mono (Kd.R_far (p := ⟨gb287, 3, none⟩) (Kd.R_far (p := ⟨gb287, 2, none⟩) (Kd.R_far (p := ⟨gb287, 1, none⟩) (Kd.R_far (p := ⟨gb287, 0, none⟩) (Kd.R_types HO265.out BK287.out (by decide)) (fun _ hk => hk.2) (.int .i64 t275)) (fun _ hk => hk.2) (.slice Ao26 t276.length co26)) (fun _ hk => hk.2) (.slice Ao27 t279.length co27)) (fun _ hk => hk.2) (.slice Ao28 t282.length co28)) (fun _ h_ => h_.1))))) (Kd.R_lt (by (with_reducible repeat (first | apply Kd.R_alloc | apply Kd.R_drewN | apply Kd.R_drew)); exact (Kd.R_mono (Kd.R_far (p := ⟨gb287, 3, none⟩) (Kd.R_far (p := ⟨gb287, 2, none⟩) (Kd.R_far (p := ⟨gb287, 1, none⟩) (Kd.R_far (p := ⟨gb287, 0, none⟩) (Kd.R_types HO268.out BK287.out (by decide)) (fun _ hk => hk.2) (.int .i64 t275)) (fun _ hk => hk.2) (.slice Ao26 t276.length co26)) (fun _ hk => hk.2) (.slice Ao27 t279.length co27)) (fun _ hk => hk.2) (.slice Ao28 t282.length co28)) (fun _ h_ => h_.1))))) (Kd.R_lt (by (with_reducible repeat (first | apply Kd.R_alloc | apply Kd.R_drewN | apply Kd.R_drew)); exact (Kd.R_mono (Kd.R_far (p := ⟨gb287, 3, none⟩) (Kd.R_far (p := ⟨gb287, 2, none⟩) (Kd.R_far (p := ⟨gb287, 1, none⟩) (Kd.R_far (p := ⟨gb287, 0, none⟩) (Kd.R_types HO278.out BK287.out (by decide)) (fun _ hk => hk.2) (.int .i64 t275)) (fun _ hk => hk.2) (.slice Ao26 t276.length co26)) (fun _ hk => hk.2) (.slice Ao27 t279.length co27)) (fun _ hk => hk.2) (.slice Ao28 t282.length co28)) (fun _ h_ => h_.1))))) (Kd.R_lt (by (with_reducible repeat (first | apply Kd.R_alloc | apply Kd.R_drewN | apply Kd.R_drew)); exact (Kd.R_mono (Kd.R_far (p := ⟨gb287, 3, none⟩) (Kd.R_far (p := ⟨gb287, 2, none⟩) (Kd.R_far (p := ⟨gb287, 1, none⟩) (Kd.R_far (p := ⟨gb287, 0, none⟩) (Kd.R_types HO281.out BK287.out (by decide)) (fun _ hk => hk.2) (.int .i64 t275)) (fun _ hk => hk.2) (.slice Ao26 t276.length co26)) (fun _ hk => hk.2) (.slice Ao27 t279.length co27)) (fun _ hk => hk.2) (.slice Ao28 t282.length co28)) (fun _ h_ => h_.1))))) (below_size (by repeat (first | (with_reducible first | exact HB.out | apply below_alloc | apply pw_below_drewN | apply below_drew1 | refine below_set ?_ GE274.out | refine below_set ?_ GE287.out) | exact HB.out)))); have n7_ := Aside0.mk (Kd.R_lower (Kd.R_new' (Kd.R_new' (Kd.R_new' (Kd.R_new' ho1 (Kd.R_lt (by (with_reducible repeat (first | apply Kd.R_alloc | apply Kd.R_drewN | apply Kd.R_drew)); exact (Kd.R_mono (Kd.R_far (p := ⟨gb287, 3, none⟩) (Kd.R_far (p := ⟨gb287, 2, none⟩) (Kd.R_far (p := ⟨gb287, 1, none⟩) (Kd.R_far (p := ⟨gb287, 0, none⟩) (Kd.R_types HO265.out BK287.out (by decide)) (fun _ hk => hk.2) (.int .i64 t275)) (fun _ hk => hk.2) (.slice Ao26 t276.length co26)) (fun _ hk => hk.2) (.slice Ao27 t279.length co27)) (fun _ hk => hk.2) (.slice Ao28 t282.length co28)) (fun _ h_ => h_.1))))) (Kd.R_lt (by (with_reducible repeat (first | apply Kd.R_alloc | apply Kd.R_drewN | apply Kd.R_drew)); exact (Kd.R_mono (Kd.R_far (p := ⟨gb287, 3, none⟩) (Kd.R_far (p := ⟨gb287, 2, none⟩) (Kd.R_far (p := ⟨gb287, 1, none⟩) (Kd.R_far (p := ⟨gb287, 0, none⟩) (Kd.R_types HO268.out BK287.out (by decide)) (fun _ hk => hk.2) (.int .i64 t275)) (fun _ hk => hk.2) (.slice Ao26 t276.length co26)) (fun _ hk => hk.2) (.slice Ao27 t279.length co27)) (fun _ hk => hk.2) (.slice Ao28 t282.length co28)) (fun _ h_ => h_.1))))) (Kd.R_lt (by (with_reducible repeat (first | apply Kd.R_alloc | apply Kd.R_drewN | apply Kd.R_drew)); exact (Kd.R_mono (Kd.R_far (p := ⟨gb287, 3, none⟩) (Kd.R_far (p := ⟨gb287, 2, none⟩) (Kd.R_far (p := ⟨gb287, 1, none⟩) (Kd.R_far (p := ⟨gb287, 0, none⟩) (Kd.R_types HO278.out BK287.out (by decide)) (fun _ hk => hk.2) (.int .i64 t275)) (fun _ hk => hk.2) (.slice Ao26 t276.length co26)) (fun _ hk => hk.2) (.slice Ao27 t279.length co27)) (fun _ hk => hk.2) (.slice Ao28 t282.length co28)) (fun _ h_ => h_.1))))) (Kd.R_lt (by (with_reducible repeat (first | apply Kd.R_alloc | apply Kd.R_drewN | apply Kd.R_drew)); exact (Kd.R_mono (Kd.R_far (p := ⟨gb287, 3, none⟩) (Kd.R_far (p := ⟨gb287, 2, none⟩) (Kd.R_far (p := ⟨gb287, 1, none⟩) (Kd.R_far (p := ⟨gb287, 0, none⟩) (Kd.R_types HO281.out BK287.out (by decide)) (fun _ hk => hk.2) (.int .i64 t275)) (fun _ hk => hk.2) (.slice Ao26 t276.length co26)) (fun _ hk => hk.2) (.slice Ao27 t279.length co27)) (fun _ hk => hk.2) (.slice Ao28 t282.length co28)) (fun _ h_ => h_.1))))) (below_size (by repeat (first | (with_reducible first | exact HB.out | apply below_alloc | apply pw_below_drewN | apply below_drew1 | refine below_set ?_ GE274.out | refine below_set ?_ GE287.out) | exact HB.out)))); have n8_ := Aside0.mk (Kd.S_lower (Kd.S_new' (Kd.S_new' ho2 (Kd.S_lt (by (with_reducible repeat (first | apply Kd.S_alloc | apply Kd.S_drewN | apply Kd.S_drew)); exact (Kd.S_mono (Kd.S_far (p := ⟨gb287, 3, none⟩) (Kd.S_far (p := ⟨gb287, 2, none⟩) (Kd.S_far (p := ⟨gb287, 1, none⟩) (Kd.S_far (p := ⟨gb287, 0, none⟩) (Kd.S_types HO271.out BK287.out (by decide)) (fun _ hk => hk.2) (.int .i64 t275)) (fun _ hk => hk.2) (.slice Ao26 t276.length co26)) (fun _ hk => hk.2) (.slice Ao27 t279.length co27)) (fun _ hk => hk.2) (.slice Ao28 t282.length co28)) (fun _ h_ => h_.1))))) (Kd.S_lt (by (with_reducible repeat (first | apply Kd.S_alloc | apply Kd.S_drewN | apply Kd.S_drew)); exact (Kd.S_mono (Kd.S_far (p := ⟨gb287, 3, none⟩) (Kd.S_far (p := ⟨gb287, 2, none⟩) (Kd.S_far (p := ⟨gb287, 1, none⟩) (Kd.S_far (p := ⟨gb287, 0, none⟩) (Kd.S_types HO284.out BK287.out (by decide)) (fun _ hk => hk.2) (.int .i64 t275)) (fun _ hk => hk.2) (.slice Ao26 t276.length co26)) (fun _ hk => hk.2) (.slice Ao27 t279.length co27)) (fun _ hk => hk.2) (.slice Ao28 t282.length co28)) (fun _ h_ => h_.1))))) (below_size (by repeat (first | (with_reducible first | exact HB.out | apply below_alloc | apply pw_below_drewN | apply below_drew1 | refine below_set ?_ GE274.out | refine below_set ?_ GE287.out) | exact HB.out)))); have n9_ := Aside0.mk (blk_below (g := gb274) (o := .cells #[.int .i64 t262, .slice Ao19 t263.length co19, .slice Ao20 t266.length co20, .slice Ao21 t269.length co21] 37 (0, 0)) (by (with_reducible repeat (first | refine blk_drewN ?_ _ | refine blk_drew ?_ | refine blk_alloc ?_ _)); refine blk_far ?_ NB274_287.out _; (with_reducible repeat (first | refine blk_drewN ?_ _ | refine blk_drew ?_ | refine blk_alloc ?_ _)); refine blk_far ?_ NB274_287.out _; (with_reducible repeat (first | refine blk_drewN ?_ _ | refine blk_drew ?_ | refine blk_alloc ?_ _)); refine blk_far ?_ NB274_287.out _; (with_reducible repeat (first | refine blk_drewN ?_ _ | refine blk_drew ?_ | refine blk_alloc ?_ _)); refine blk_far ?_ NB274_287.out _; (with_reducible repeat (first | refine blk_drewN ?_ _ | refine blk_drew ?_ | refine blk_alloc ?_ _)); exact BK274.out) hb); have n10_ := Aside0.mk (blk_below (g := gb287) (o := .cells #[.int .i64 t275, .slice Ao26 t276.length co26, .slice Ao27 t279.length co27, .slice Ao28 t282.length co28] 37 (0, 0)) (by (with_reducible repeat (first | refine blk_drewN ?_ _ | refine blk_drew ?_ | refine blk_alloc ?_ _)); refine blk_put (cs := #[.int .i64 t275, .slice Ao26 t276.length co26, .slice Ao27 t279.length co27, .slice none 0 0]) ?_ 3 _ rfl; (with_reducible repeat (first | refine blk_drewN ?_ _ | refine blk_drew ?_ | refine blk_alloc ?_ _)); refine blk_put (cs := #[.int .i64 t275, .slice Ao26 t276.length co26, .slice none 0 0, .slice none 0 0]) ?_ 2 _ rfl; (with_reducible repeat (first | refine blk_drewN ?_ _ | refine blk_drew ?_ | refine blk_alloc ?_ _)); refine blk_put (cs := #[.int .i64 t275, .slice none 0 0, .slice none 0 0, .slice none 0 0]) ?_ 1 _ rfl; (with_reducible repeat (first | refine blk_drewN ?_ _ | refine blk_drew ?_ | refine blk_alloc ?_ _)); refine blk_put (cs := #[.int .i64 0, .slice none 0 0, .slice none 0 0, .slice none 0 0]) ?_ 0 _ rfl; (with_reducible repeat (first | refine blk_drewN ?_ _ | refine blk_drew ?_ | refine blk_alloc ?_ _)); exact BK287.out) hb); have n11_ := Aside0.mk (below_step (by repeat (first | (with_reducible first | exact HB.out | apply below_alloc | apply pw_below_drewN | apply below_drew1 | refine below_set ?_ GE274.out | refine below_set ?_ GE287.out) | exact HB.out)) hb); clear HO265; clear HO268; clear HO271; clear HO278; clear HO281; clear HO284; clear BK274; clear BK287; clear HB; have HO265 := n0_; have HO268 := n1_; have HO271 := n2_; have HO278 := n3_; have HO281 := n4_; have HO284 := n5_; have HO291 := n6_; have HO294 := n7_; have HO297 := n8_; have BK274 := n9_; have BK287 := n10_; have HB := n11_; clear n0_ n1_ n2_ n3_ n4_ n5_ n6_ n7_ n8_ n9_ n10_ n11_; (try clear hb); (try clear hb2); (try clear hk); (try clear hi); (try clear ho0); (try clear ho1); (try clear ho2)) | ((with_reducible refine gate_dst (N := 7) rfl ?_); (try (refine gate_guard (by rfl) ?_; dsimp only)); refine box_event ?hg (N := 7) ?hd (cs := #[.int .i64 0, .slice none 0 0, .slice none 0 0, .slice none 0 0]) (t := 37) ?hr ?_; (case hd => rfl); (case hg => rfl); (case hr => first | (go_simp; done) | (go_simp; rfl)); intro gb300 hg w30 hbox hb; have n0_ := Aside0.mk (Kd.R_below (by (with_reducible repeat (first | apply Kd.R_alloc | apply Kd.R_drewN | apply Kd.R_drew)); exact HO265.out) hb); have n1_ := Aside0.mk (Kd.R_below (by (with_reducible repeat (first | apply Kd.R_alloc | apply Kd.R_drewN | apply Kd.R_drew)); exact HO268.out) hb); have n2_ := Aside0.mk (Kd.S_below (by (with_reducible repeat (first | apply Kd.S_alloc | apply Kd.S_drewN | apply Kd.S_drew)); exact HO271.out) hb); have n3_ := Aside0.mk (Kd.R_below (by (with_reducible repeat (first | apply Kd.R_alloc | apply Kd.R_drewN | apply Kd.R_drew)); exact HO278.out) hb); have n4_ := Aside0.mk (Kd.R_below (by (with_reducible repeat (first | apply Kd.R_alloc | apply Kd.R_drewN | apply Kd.R_drew)); exact HO281.out) hb); have n5_ := Aside0.mk (Kd.S_below (by (with_reducible repeat (first | apply Kd.S_alloc | apply Kd.S_drewN | apply Kd.S_drew)); exact HO284.out) hb); have n6_ := Aside0.mk (Kd.R_below (by (with_reducible repeat (first | apply Kd.R_alloc | apply Kd.R_drewN | apply Kd.R_drew)); exact HO291.out) hb); have n7_ := Aside0.mk (Kd.R_below (by (with_reducible repeat (first | apply Kd.R_alloc | apply Kd.R_drewN | apply Kd.R_drew)); exact HO294.out) hb); have n8_ := Aside0.mk (Kd.S_below (by (with_reducible repeat (first | apply Kd.S_alloc | apply Kd.S_drewN | apply Kd.S_drew)); exact HO297.out) hb); have n9_ := Aside0.mk (blk_below BK274.out hb); have n10_ := Aside0.mk (blk_below BK287.out hb); have n11_ := Aside0.mk (below_step (HB.out) hb); have n12_ := Aside0.mk (hbox); have n13_ := Aside0.mk ((by rw [hg]; exact (below_size (HB.out)) : w.heap.size ≤ gb300)); have n14_ := n13_; have n15_ := Aside0.mk ((by rw [hg]; exact Nat.ne_of_lt (blk_lt BK274.out) : gb274 ≠ gb300)); have n16_ := Aside0.mk ((by rw [hg]; exact Nat.ne_of_gt (blk_lt BK274.out) : gb300 ≠ gb274)); have n17_ := Aside0.mk ((by rw [hg]; exact Nat.ne_of_lt (blk_lt BK287.out) : gb287 ≠ gb300)); have n18_ := Aside0.mk ((by rw [hg]; exact Nat.ne_of_gt (blk_lt BK287.out) : gb300 ≠ gb287)); clear HO265; clear HO268; clear HO271; clear HO278; clear HO281; clear HO284; clear HO291; clear HO294; clear HO297; clear BK274; clear BK287; clear HB; have HO265 := n0_; have HO268 := n1_; have HO271 := n2_; have HO278 := n3_; have HO281 := n4_; have HO284 := n5_; have HO291 := n6_; have HO294 := n7_; have HO297 := n8_; have BK274 := n9_; have BK287 := n10_; have HB := n11_; have BK300 := n12_; have GW300 := n13_; have GE300 := n14_; have NB274_300 := n15_; have NB300_274 := n16_; have NB287_300 := n17_; have NB300_287 := n18_; clear n0_ n1_ n2_ n3_ n4_ n5_ n6_ n7_ n8_ n9_ n10_ n11_ n12_ n13_ n14_ n15_ n16_ n17_ n18_; clear hb hbox hg; have hnb31 := NB300_274.out; have hnc31 := NB274_300.out; have hnb32 := NB300_287.out; have hnc32 := NB287_300.out; have hcz33_0 : w30.cell? ⟨gb300, 0, none⟩ = some (.int .i64 0) := (blk_cell BK300.out 0).trans rfl; have hcz33_1 : w30.cell? ⟨gb300, 1, none⟩ = some (.slice none 0 0) := (blk_cell BK300.out 1).trans rfl; have hcz33_2 : w30.cell? ⟨gb300, 2, none⟩ = some (.slice none 0 0) := (blk_cell BK300.out 2).trans rfl; have hcz33_3 : w30.cell? ⟨gb300, 3, none⟩ = some (.slice none 0 0) := (blk_cell BK300.out 3).trans rfl; have hfz33_0 := blk_frozen BK300.out 0; have hfz33_1 := blk_frozen BK300.out 1; have hfz33_2 := blk_frozen BK300.out 2; have hfz33_3 := blk_frozen BK300.out 3; obtain ⟨Ao34, co34, eo34⟩ := Kd.R_slice HO291.out; subst eo34; obtain ⟨Ao35, co35, eo35⟩ := Kd.R_slice HO294.out; subst eo35; obtain ⟨Ao36, co36, eo36⟩ := Kd.S_slice HO297.out; subst eo36) | ((with_reducible refine gate_store (t := 37) (p := 7) rfl ?_); refine store_event (t := 37) (p := 7) (v := ?vo_w37) (w1 := ((((w30.setCell ⟨gb300, 0, none⟩ (.int .i64 t288)).setCell ⟨gb300, 1, none⟩ (.slice Ao34 t289.length co34)).setCell ⟨gb300, 2, none⟩ (.slice Ao35 t292.length co35)).setCell ⟨gb300, 3, none⟩ (.slice Ao36 t295.length co36))) ?hg ?ho ?hn ?hr ?_; (case ho => rfl); (case hg => rfl); (case hn => rfl); (case hr => first | (go_simp; done) | (go_simp; rfl)); intro w37 hw; have n0_ : Aside0 (Kd.R (Kd.int .i64) 3 w37 w.heap.size (fun k_ => some k_ ≠ (.slice Ao20 t266.length co20 : Value).ownBlock ∧ some k_ ≠ (.slice Ao26 t276.length co26 : Value).ownBlock ∧ some k_ ≠ (.slice Ao27 t279.length co27 : Value).ownBlock ∧ some k_ ≠ (.slice Ao34 t289.length co34 : Value).ownBlock ∧ some k_ ≠ (.slice Ao35 t292.length co35 : Value).ownBlock) (.slice Ao19 t263.length co19) t263) := ⟨(by rw [hw]; exact (by (with_reducible repeat (first | apply Kd.R_alloc | apply Kd.R_drewN | apply Kd.R_drew)); exact Kd.R_mono (Kd.R_far (p := ⟨gb300, 3, none⟩) (Kd.R_far (p := ⟨gb300, 2, none⟩) (Kd.R_far (p := ⟨gb300, 1, none⟩) (Kd.R_far (p := ⟨gb300, 0, none⟩) (Kd.R_types HO265.out BK300.out (by decide)) (fun _ hk => hk.2) (.int .i64 t288)) (fun _ hk => hk.2) (.slice Ao34 t289.length co34)) (fun _ hk => hk.2) (.slice Ao35 t292.length co35)) (fun _ hk => hk.2) (.slice Ao36 t295.length co36)) (fun _ hk => ⟨hk.1.1.1.1.1, ⟨hk.1.1.1.1.2, ⟨hk.1.1.1.2, ⟨hk.1.1.2, hk.1.2⟩⟩⟩⟩)))⟩; have n1_ : Aside0 (Kd.R (Kd.int .i64) 3 w37 w.heap.size (fun k_ => some k_ ≠ (.slice Ao19 t263.length co19 : Value).ownBlock ∧ some k_ ≠ (.slice Ao26 t276.length co26 : Value).ownBlock ∧ some k_ ≠ (.slice Ao27 t279.length co27 : Value).ownBlock ∧ some k_ ≠ (.slice Ao34 t289.length co34 : Value).ownBlock ∧ some k_ ≠ (.slice Ao35 t292.length co35 : Value).ownBlock) (.slice Ao20 t266.length co20) t266) := ⟨(by rw [hw]; exact (by (with_reducible repeat (first | apply Kd.R_alloc | apply Kd.R_drewN | apply Kd.R_drew)); exact Kd.R_mono (Kd.R_far (p := ⟨gb300, 3, none⟩) (Kd.R_far (p := ⟨gb300, 2, none⟩) (Kd.R_far (p := ⟨gb300, 1, none⟩) (Kd.R_far (p := ⟨gb300, 0, none⟩) (Kd.R_types HO268.out BK300.out (by decide)) (fun _ hk => hk.2) (.int .i64 t288)) (fun _ hk => hk.2) (.slice Ao34 t289.length co34)) (fun _ hk => hk.2) (.slice Ao35 t292.length co35)) (fun _ hk => hk.2) (.slice Ao36 t295.length co36)) (fun _ hk => ⟨hk.1.1.1.1.1, ⟨hk.1.1.1.1.2, ⟨hk.1.1.1.2, ⟨hk.1.1.2, hk.1.2⟩⟩⟩⟩)))⟩; have n2_ : Aside0 (Kd.S k53 53 w37 w.heap.size (fun k_ => some k_ ≠ (.slice Ao28 t282.length co28 : Value).ownBlock ∧ some k_ ≠ (.slice Ao36 t295.length co36 : Value).ownBlock) (.slice Ao21 t269.length co21) t269) := ⟨(by rw [hw]; exact (by (with_reducible repeat (first | apply Kd.S_alloc | apply Kd.S_drewN | apply Kd.S_drew)); exact Kd.S_mono (Kd.S_far (p := ⟨gb300, 3, none⟩) (Kd.S_far (p := ⟨gb300, 2, none⟩) (Kd.S_far (p := ⟨gb300, 1, none⟩) (Kd.S_far (p := ⟨gb300, 0, none⟩) (Kd.S_types HO271.out BK300.out (by decide)) (fun _ hk => hk.2) (.int .i64 t288)) (fun _ hk => hk.2) (.slice Ao34 t289.length co34)) (fun _ hk => hk.2) (.slice Ao35 t292.length co35)) (fun _ hk => hk.2) (.slice Ao36 t295.length co36)) (fun _ hk => ⟨hk.1.1.2, hk.1.2⟩)))⟩; have n3_ : Aside0 (Kd.R (Kd.int .i64) 3 w37 w.heap.size (fun k_ => some k_ ≠ (.slice Ao19 t263.length co19 : Value).ownBlock ∧ some k_ ≠ (.slice Ao20 t266.length co20 : Value).ownBlock ∧ some k_ ≠ (.slice Ao27 t279.length co27 : Value).ownBlock ∧ some k_ ≠ (.slice Ao34 t289.length co34 : Value).ownBlock ∧ some k_ ≠ (.slice Ao35 t292.length co35 : Value).ownBlock) (.slice Ao26 t276.length co26) t276) := ⟨(by rw [hw]; exact (by (with_reducible repeat (first | apply Kd.R_alloc | apply Kd.R_drewN | apply Kd.R_drew)); exact Kd.R_mono (Kd.R_far (p := ⟨gb300, 3, none⟩) (Kd.R_far (p := ⟨gb300, 2, none⟩) (Kd.R_far (p := ⟨gb300, 1, none⟩) (Kd.R_far (p := ⟨gb300, 0, none⟩) (Kd.R_types HO278.out BK300.out (by decide)) (fun _ hk => hk.2) (.int .i64 t288)) (fun _ hk => hk.2) (.slice Ao34 t289.length co34)) (fun _ hk => hk.2) (.slice Ao35 t292.length co35)) (fun _ hk => hk.2) (.slice Ao36 t295.length co36)) (fun _ hk => ⟨hk.1.1.1.1.2, ⟨hk.1.1.1.2, ⟨hk.1.1.1.1.1, ⟨hk.1.1.2, hk.1.2⟩⟩⟩⟩)))⟩; have n4_ : Aside0 (Kd.R (Kd.int .i64) 3 w37 w.heap.size (fun k_ => some k_ ≠ (.slice Ao19 t263.length co19 : Value).ownBlock ∧ some k_ ≠ (.slice Ao20 t266.length co20 : Value).ownBlock ∧ some k_ ≠ (.slice Ao26 t276.length co26 : Value).ownBlock ∧ some k_ ≠ (.slice Ao34 t289.length co34 : Value).ownBlock ∧ some k_ ≠ (.slice Ao35 t292.length co35 : Value).ownBlock) (.slice Ao27 t279.length co27) t279) := ⟨(by rw [hw]; exact (by (with_reducible repeat (first | apply Kd.R_alloc | apply Kd.R_drewN | apply Kd.R_drew)); exact Kd.R_mono (Kd.R_far (p := ⟨gb300, 3, none⟩) (Kd.R_far (p := ⟨gb300, 2, none⟩) (Kd.R_far (p := ⟨gb300, 1, none⟩) (Kd.R_far (p := ⟨gb300, 0, none⟩) (Kd.R_types HO281.out BK300.out (by decide)) (fun _ hk => hk.2) (.int .i64 t288)) (fun _ hk => hk.2) (.slice Ao34 t289.length co34)) (fun _ hk => hk.2) (.slice Ao35 t292.length co35)) (fun _ hk => hk.2) (.slice Ao36 t295.length co36)) (fun _ hk => ⟨hk.1.1.1.1.2, ⟨hk.1.1.1.2, ⟨hk.1.1.1.1.1, ⟨hk.1.1.2, hk.1.2⟩⟩⟩⟩)))⟩; have n5_ : Aside0 (Kd.S k53 53 w37 w.heap.size (fun k_ => some k_ ≠ (.slice Ao21 t269.length co21 : Value).ownBlock ∧ some k_ ≠ (.slice Ao36 t295.length co36 : Value).ownBlock) (.slice Ao28 t282.length co28) t282) := ⟨(by rw [hw]; exact (by (with_reducible repeat (first | apply Kd.S_alloc | apply Kd.S_drewN | apply Kd.S_drew)); exact Kd.S_mono (Kd.S_far (p := ⟨gb300, 3, none⟩) (Kd.S_far (p := ⟨gb300, 2, none⟩) (Kd.S_far (p := ⟨gb300, 1, none⟩) (Kd.S_far (p := ⟨gb300, 0, none⟩) (Kd.S_types HO284.out BK300.out (by decide)) (fun _ hk => hk.2) (.int .i64 t288)) (fun _ hk => hk.2) (.slice Ao34 t289.length co34)) (fun _ hk => hk.2) (.slice Ao35 t292.length co35)) (fun _ hk => hk.2) (.slice Ao36 t295.length co36)) (fun _ hk => ⟨hk.1.1.2, hk.1.2⟩)))⟩; have n6_ : Aside0 (Kd.R (Kd.int .i64) 3 w37 w.heap.size (fun k_ => some k_ ≠ (.slice Ao19 t263.length co19 : Value).ownBlock ∧ some k_ ≠ (.slice Ao20 t266.length co20 : Value).ownBlock ∧ some k_ ≠ (.slice Ao26 t276.length co26 : Value).ownBlock ∧ some k_ ≠ (.slice Ao27 t279.length co27 : Value).ownBlock ∧ some k_ ≠ (.slice Ao35 t292.length co35 : Value).ownBlock) (.slice Ao34 t289.length co34) t289) := ⟨(by rw [hw]; exact (by (with_reducible repeat (first | apply Kd.R_alloc | apply Kd.R_drewN | apply Kd.R_drew)); exact Kd.R_mono (Kd.R_far (p := ⟨gb300, 3, none⟩) (Kd.R_far (p := ⟨gb300, 2, none⟩) (Kd.R_far (p := ⟨gb300, 1, none⟩) (Kd.R_far (p := ⟨gb300, 0, none⟩) (Kd.R_types HO291.out BK300.out (by decide)) (fun _ hk => hk.2) (.int .i64 t288)) (fun _ hk => hk.2) (.slice Ao34 t289.length co34)) (fun _ hk => hk.2) (.slice Ao35 t292.length co35)) (fun _ hk => hk.2) (.slice Ao36 t295.length co36)) (fun _ hk => ⟨hk.1.1.1.1.2, ⟨hk.1.1.1.2, ⟨hk.1.1.2, ⟨hk.1.2, hk.1.1.1.1.1⟩⟩⟩⟩)))⟩; have n7_ : Aside0 (Kd.R (Kd.int .i64) 3 w37 w.heap.size (fun k_ => some k_ ≠ (.slice Ao19 t263.length co19 : Value).ownBlock ∧ some k_ ≠ (.slice Ao20 t266.length co20 : Value).ownBlock ∧ some k_ ≠ (.slice Ao26 t276.length co26 : Value).ownBlock ∧ some k_ ≠ (.slice Ao27 t279.length co27 : Value).ownBlock ∧ some k_ ≠ (.slice Ao34 t289.length co34 : Value).ownBlock) (.slice Ao35 t292.length co35) t292) := ⟨(by rw [hw]; exact (by (with_reducible repeat (first | apply Kd.R_alloc | apply Kd.R_drewN | apply Kd.R_drew)); exact Kd.R_mono (Kd.R_far (p := ⟨gb300, 3, none⟩) (Kd.R_far (p := ⟨gb300, 2, none⟩) (Kd.R_far (p := ⟨gb300, 1, none⟩) (Kd.R_far (p := ⟨gb300, 0, none⟩) (Kd.R_types HO294.out BK300.out (by decide)) (fun _ hk => hk.2) (.int .i64 t288)) (fun _ hk => hk.2) (.slice Ao34 t289.length co34)) (fun _ hk => hk.2) (.slice Ao35 t292.length co35)) (fun _ hk => hk.2) (.slice Ao36 t295.length co36)) (fun _ hk => ⟨hk.1.1.1.1.2, ⟨hk.1.1.1.2, ⟨hk.1.1.2, ⟨hk.1.2, hk.1.1.1.1.1⟩⟩⟩⟩)))⟩; have n8_ : Aside0 (Kd.S k53 53 w37 w.heap.size (fun k_ => some k_ ≠ (.slice Ao21 t269.length co21 : Value).ownBlock ∧ some k_ ≠ (.slice Ao28 t282.length co28 : Value).ownBlock) (.slice Ao36 t295.length co36) t295) := ⟨(by rw [hw]; exact (by (with_reducible repeat (first | apply Kd.S_alloc | apply Kd.S_drewN | apply Kd.S_drew)); exact Kd.S_mono (Kd.S_far (p := ⟨gb300, 3, none⟩) (Kd.S_far (p := ⟨gb300, 2, none⟩) (Kd.S_far (p := ⟨gb300, 1, none⟩) (Kd.S_far (p := ⟨gb300, 0, none⟩) (Kd.S_types HO297.out BK300.out (by decide)) (fun _ hk => hk.2) (.int .i64 t288)) (fun _ hk => hk.2) (.slice Ao34 t289.length co34)) (fun _ hk => hk.2) (.slice Ao35 t292.length co35)) (fun _ hk => hk.2) (.slice Ao36 t295.length co36)) (fun _ hk => ⟨hk.1.1.2, hk.1.2⟩)))⟩; have n9_ : Aside0 (w37.heap[gb274]? = some (.cells #[.int .i64 t262, .slice Ao19 t263.length co19, .slice Ao20 t266.length co20, .slice Ao21 t269.length co21] 37 (0, 0))) := ⟨(by rw [hw]; exact (by (with_reducible repeat (first | refine blk_drewN ?_ _ | refine blk_drew ?_ | refine blk_alloc ?_ _)); refine blk_far ?_ NB274_300.out _; (with_reducible repeat (first | refine blk_drewN ?_ _ | refine blk_drew ?_ | refine blk_alloc ?_ _)); refine blk_far ?_ NB274_300.out _; (with_reducible repeat (first | refine blk_drewN ?_ _ | refine blk_drew ?_ | refine blk_alloc ?_ _)); refine blk_far ?_ NB274_300.out _; (with_reducible repeat (first | refine blk_drewN ?_ _ | refine blk_drew ?_ | refine blk_alloc ?_ _)); refine blk_far ?_ NB274_300.out _; (with_reducible repeat (first | refine blk_drewN ?_ _ | refine blk_drew ?_ | refine blk_alloc ?_ _)); exact BK274.out))⟩; have n10_ : Aside0 (w37.heap[gb287]? = some (.cells #[.int .i64 t275, .slice Ao26 t276.length co26, .slice Ao27 t279.length co27, .slice Ao28 t282.length co28] 37 (0, 0))) := ⟨(by rw [hw]; exact (by (with_reducible repeat (first | refine blk_drewN ?_ _ | refine blk_drew ?_ | refine blk_alloc ?_ _)); refine blk_far ?_ NB287_300.out _; (with_reducible repeat (first | refine blk_drewN ?_ _ | refine blk_drew ?_ | refine blk_alloc ?_ _)); refine blk_far ?_ NB287_300.out _; (with_reducible repeat (first | refine blk_drewN ?_ _ | refine blk_drew ?_ | refine blk_alloc ?_ _)); refine blk_far ?_ NB287_300.out _; (with_reducible repeat (first | refine blk_drewN ?_ _ | refine blk_drew ?_ | refine blk_alloc ?_ _)); refine blk_far ?_ NB287_300.out _; (with_reducible repeat (first | refine blk_drewN ?_ _ | refine blk_drew ?_ | refine blk_alloc ?_ _)); exact BK287.out))⟩; have n11_ : Aside0 (w37.heap[gb300]? = some (.cells #[.int .i64 t288, .slice Ao34 t289.length co34, .slice Ao35 t292.length co35, .slice Ao36 t295.length co36] 37 (0, 0))) := ⟨(by rw [hw]; exact (by (with_reducible repeat (first | refine blk_drewN ?_ _ | refine blk_drew ?_ | refine blk_alloc ?_ _)); refine blk_put (cs := #[.int .i64 t288, .slice Ao34 t289.length co34, .slice Ao35 t292.length co35, .slice none 0 0]) ?_ 3 _ rfl; (with_reducible repeat (first | refine blk_drewN ?_ _ | refine blk_drew ?_ | refine blk_alloc ?_ _)); refine blk_put (cs := #[.int .i64 t288, .slice Ao34 t289.length co34, .slice none 0 0, .slice none 0 0]) ?_ 2 _ rfl; (with_reducible repeat (first | refine blk_drewN ?_ _ | refine blk_drew ?_ | refine blk_alloc ?_ _)); refine blk_put (cs := #[.int .i64 t288, .slice none 0 0, .slice none 0 0, .slice none 0 0]) ?_ 1 _ rfl; (with_reducible repeat (first | refine blk_drewN ?_ _ | refine blk_drew ?_ | refine blk_alloc ?_ _)); refine blk_put (cs := #[.int .i64 0, .slice none 0 0, .slice none 0 0, .slice none 0 0]) ?_ 0 _ rfl; (with_reducible repeat (first | refine blk_drewN ?_ _ | refine blk_drew ?_ | refine blk_alloc ?_ _)); exact BK300.out))⟩; have n12_ : Aside0 (Below w.heap.size w w37) := ⟨(by rw [hw]; exact (by repeat (first | (with_reducible first | exact HB.out | apply below_alloc | apply pw_below_drewN | apply below_drew1 | refine below_set ?_ GE274.out | refine below_set ?_ GE287.out | refine below_set ?_ GE300.out) | exact HB.out)))⟩; clear hw; clear HO265; clear HO268; clear HO271; clear HO278; clear HO281; clear HO284; clear HO291; clear HO294; clear HO297; clear BK274; clear BK287; clear BK300; clear HB; have HO265 := n0_; have HO268 := n1_; have HO271 := n2_; have HO278 := n3_; have HO281 := n4_; have HO284 := n5_; have HO291 := n6_; have HO294 := n7_; have HO297 := n8_; have BK274 := n9_; have BK287 := n10_; have BK300 := n11_; have HB := n12_; clear n0_ n1_ n2_ n3_ n4_ n5_ n6_ n7_ n8_ n9_ n10_ n11_ n12_; have hcz38_0 : w37.cell? ⟨gb274, 0, none⟩ = some (.int .i64 t262) := (blk_cell BK274.out 0).trans rfl; have hcz38_1 : w37.cell? ⟨gb274, 1, none⟩ = some (.slice Ao19 t263.length co19) := (blk_cell BK274.out 1).trans rfl; have hcz38_2 : w37.cell? ⟨gb274, 2, none⟩ = some (.slice Ao20 t266.length co20) := (blk_cell BK274.out 2).trans rfl; have hcz38_3 : w37.cell? ⟨gb274, 3, none⟩ = some (.slice Ao21 t269.length co21) := (blk_cell BK274.out 3).trans rfl; have hfz38_0 := blk_frozen BK274.out 0; have hfz38_1 := blk_frozen BK274.out 1; have hfz38_2 := blk_frozen BK274.out 2; have hfz38_3 := blk_frozen BK274.out 3; have p301 : 0 ≤ (0 : Int) := (by omega); have q301 : 0 < (t269.length : Int) := of_decide_eq_true (by first | (with_reducible assumption) | assumption); obtain ⟨ad301, A301_5, c301_5, e301, hx301_0, hx301_1, hx301_2, hx301_3, hx301_4, hx301_5, hl301_5, hi301_5⟩ := at_T53 (Kd.S_reads' HO271.out).2.2 0 p301 q301; cases e301; obtain ⟨ce301, hce301, hMe301, hcc301⟩ := Kd.S_get HO271.out z53 0 p301 (by first | exact q301 | exact of_decide_eq_true (by first | (with_reducible assumption) | assumption) | (have e_ := (Kd.S_reads' HO271.out).1; omega)); obtain ⟨ve301_5, rfl, ge301_5⟩ := k53_openM hMe301; have hv301_5 := hcc301 5 _ rfl; rw [add_field _ _ 5 (by omega)] at hv301_5; replace hv301_5 := Option.some.inj (hv301_5.symm.trans hx301_5); rw [hv301_5] at ge301_5; have HL301_5 := Aside0.mk (show Kd.R k50 50 _ _ _ _ ((rd_T53 t269 0).f5) from ge301_5); clear hv301_5 ge301_5; clear hcc301 hce301; have qi301 : (0 < t269.length) = True := eq_true (by omega); (try rw [show ((0 : Int)).toNat = 0 from rfl] at hx301_0); (try rw [show 0 * 6 = 0 from rfl] at hx301_0); (try rw [Addr.add_zero'] at hx301_0); (try rw [show ((0 : Int)).toNat = 0 from rfl] at hx301_1); (try rw [show 0 * 6 = 0 from rfl] at hx301_1); (try rw [Addr.add_zero'] at hx301_1); (try rw [show ((0 : Int)).toNat = 0 from rfl] at hx301_2); (try rw [show 0 * 6 = 0 from rfl] at hx301_2); (try rw [Addr.add_zero'] at hx301_2); (try rw [show ((0 : Int)).toNat = 0 from rfl] at hx301_3); (try rw [show 0 * 6 = 0 from rfl] at hx301_3); (try rw [Addr.add_zero'] at hx301_3); (try rw [show ((0 : Int)).toNat = 0 from rfl] at hx301_4); (try rw [show 0 * 6 = 0 from rfl] at hx301_4); (try rw [Addr.add_zero'] at hx301_4); (try rw [show ((0 : Int)).toNat = 0 from rfl] at hx301_5); (try rw [show 0 * 6 = 0 from rfl] at hx301_5); (try rw [Addr.add_zero'] at hx301_5); have HR301_5 := Aside0.mk hi301_5; have HC301_5 := Aside0.mk hl301_5; clear hi301_5 hl301_5; replace p301 := eq_true p301; replace q301 := eq_true q301; have p302 : 0 ≤ (0 : Int) := (by omega); have q302 : 0 < (t269.length : Int) := of_decide_eq_true (by first | (with_reducible assumption) | assumption); obtain ⟨ad302, A302_5, c302_5, e302, hx302_0, hx302_1, hx302_2, hx302_3, hx302_4, hx302_5, hl302_5, hi302_5⟩ := at_T53 (Kd.S_reads' HO271.out).2.2 0 p302 q302; obtain rfl : ad301 = ad302 := (by injection e302); obtain ⟨ce302, hce302, hMe302, hcc302⟩ := Kd.S_get HO271.out z53 0 p302 (by first | exact q302 | exact of_decide_eq_true (by first | (with_reducible assumption) | assumption) | (have e_ := (Kd.S_reads' HO271.out).1; omega)); obtain ⟨ve302_5, rfl, ge302_5⟩ := k53_openM hMe302; have hv302_5 := hcc302 5 _ rfl; rw [add_field _ _ 5 (by omega)] at hv302_5; replace hv302_5 := Option.some.inj (hv302_5.symm.trans hx302_5); rw [hv302_5] at ge302_5; have HL302_5 := Aside0.mk (show Kd.R k50 50 _ _ _ _ ((rd_T53 t269 0).f5) from ge302_5); clear hv302_5 ge302_5; clear hcc302 hce302; have qi302 : (0 < t269.length) = True := eq_true (by omega); (try rw [show ((0 : Int)).toNat = 0 from rfl] at hx302_0); (try rw [show 0 * 6 = 0 from rfl] at hx302_0); (try rw [Addr.add_zero'] at hx302_0); (try rw [show ((0 : Int)).toNat = 0 from rfl] at hx302_1); (try rw [show 0 * 6 = 0 from rfl] at hx302_1); (try rw [Addr.add_zero'] at hx302_1); (try rw [show ((0 : Int)).toNat = 0 from rfl] at hx302_2); (try rw [show 0 * 6 = 0 from rfl] at hx302_2); (try rw [Addr.add_zero'] at hx302_2); (try rw [show ((0 : Int)).toNat = 0 from rfl] at hx302_3); (try rw [show 0 * 6 = 0 from rfl] at hx302_3); (try rw [Addr.add_zero'] at hx302_3); (try rw [show ((0 : Int)).toNat = 0 from rfl] at hx302_4); (try rw [show 0 * 6 = 0 from rfl] at hx302_4); (try rw [Addr.add_zero'] at hx302_4); (try rw [show ((0 : Int)).toNat = 0 from rfl] at hx302_5); (try rw [show 0 * 6 = 0 from rfl] at hx302_5); (try rw [Addr.add_zero'] at hx302_5); have HR302_5 := Aside0.mk hi302_5; have HC302_5 := Aside0.mk hl302_5; clear hi302_5 hl302_5; replace p302 := eq_true p302; replace q302 := eq_true q302; have ea_ := Option.some.inj (hx301_5.symm.trans hx302_5); injection ea_ with ea_ en_ ec_; subst ea_; subst ec_; clear en_; have p303 : 0 ≤ (1 : Int) := (by omega); have q303 : 1 < (((rd_T53 t269 0).f5).length : Int) := of_decide_eq_true (by first | (with_reducible assumption) | assumption); obtain ⟨ad303, e303, hx303_0, hx303_1, hx303_2⟩ := at_T50 (by repeat (first | (with_reducible exact HR302_5.out) | (with_reducible refine Kd.C_alloc ?_ _) | (with_reducible refine Kd.C_drewN ?_ _) | (with_reducible refine Kd.C_drew ?_) | exact HR302_5.out)) 1 p303 q303; cases e303; (try simp only [show (1 : Int).toNat = 1 from rfl, Nat.reduceMul, Nat.reduceEqDiff, Go.Addr.add, ↓reduceIte] at hx303_0); (try simp only [show (1 : Int).toNat = 1 from rfl, Nat.reduceMul, Nat.reduceEqDiff, Go.Addr.add, ↓reduceIte] at hx303_1); (try simp only [show (1 : Int).toNat = 1 from rfl, Nat.reduceMul, Nat.reduceEqDiff, Go.Addr.add, ↓reduceIte] at hx303_2); have qi303 : (1 < ((rd_T53 t269 0).f5).length) = True := eq_true (by omega); (try rw [show ((1 : Int)).toNat = 1 from rfl] at hx303_0); (try rw [show 1 * 3 = 3 from rfl] at hx303_0); (try rw [show ((1 : Int)).toNat = 1 from rfl] at hx303_1); (try rw [show 1 * 3 = 3 from rfl] at hx303_1); (try rw [show ((1 : Int)).toNat = 1 from rfl] at hx303_2); (try rw [show 1 * 3 = 3 from rfl] at hx303_2); replace p303 := eq_true p303; replace q303 := eq_true q303) | (go_at_call 24; (with_reducible refine (text_Print.calls k t262 _ _ t263 _ _ t266 _ _ t269 t304 _ ?side1 ?side2 ?side3 ?side4 ?side5 ?side6 ?side7 A15.out).mono ?_); (case side1 => repeat (first | exact (Kd.R_reads' HO265.out).2.2 | (with_reducible refine Kd.C_alloc ?_ _) | (with_reducible refine Kd.C_drewN ?_ _) | (with_reducible refine Kd.C_drew ?_))); (case side2 => exact (Kd.R_reads' HO265.out).2.1); (case side3 => repeat (first | exact (Kd.R_reads' HO268.out).2.2 | (with_reducible refine Kd.C_alloc ?_ _) | (with_reducible refine Kd.C_drewN ?_ _) | (with_reducible refine Kd.C_drew ?_))); (case side4 => exact (Kd.R_reads' HO268.out).2.1); (case side5 => repeat (first | exact (Kd.S_reads' HO271.out).2.2 | (with_reducible refine Kd.C_alloc ?_ _) | (with_reducible refine Kd.C_drewN ?_ _) | (with_reducible refine Kd.C_drew ?_))); (case side6 => exact (Kd.S_reads' HO271.out).2.1); (case side7 => first | exact Glob.below HG.out (HB.out) | (repeat (first | exact Glob.below HG.out HB.out | (with_reducible refine Glob.alloc ?_ _) | (with_reducible refine Glob.drewN ?_ _) | (with_reducible refine Glob.drew ?_)))); rintro e w39 ⟨rfl, hb⟩; have n0_ := Aside0.mk (Kd.R_below (by (with_reducible repeat (first | apply Kd.R_alloc | apply Kd.R_drewN | apply Kd.R_drew)); exact HO265.out) hb); have n1_ := Aside0.mk (Kd.R_below (by (with_reducible repeat (first | apply Kd.R_alloc | apply Kd.R_drewN | apply Kd.R_drew)); exact HO268.out) hb); have n2_ := Aside0.mk (Kd.S_below (by (with_reducible repeat (first | apply Kd.S_alloc | apply Kd.S_drewN | apply Kd.S_drew)); exact HO271.out) hb); have n3_ := Aside0.mk (Kd.R_below (by (with_reducible repeat (first | apply Kd.R_alloc | apply Kd.R_drewN | apply Kd.R_drew)); exact HO278.out) hb); have n4_ := Aside0.mk (Kd.R_below (by (with_reducible repeat (first | apply Kd.R_alloc | apply Kd.R_drewN | apply Kd.R_drew)); exact HO281.out) hb); have n5_ := Aside0.mk (Kd.S_below (by (with_reducible repeat (first | apply Kd.S_alloc | apply Kd.S_drewN | apply Kd.S_drew)); exact HO284.out) hb); have n6_ := Aside0.mk (Kd.R_below (by (with_reducible repeat (first | apply Kd.R_alloc | apply Kd.R_drewN | apply Kd.R_drew)); exact HO291.out) hb); have n7_ := Aside0.mk (Kd.R_below (by (with_reducible repeat (first | apply Kd.R_alloc | apply Kd.R_drewN | apply Kd.R_drew)); exact HO294.out) hb); have n8_ := Aside0.mk (Kd.S_below (by (with_reducible repeat (first | apply Kd.S_alloc | apply Kd.S_drewN | apply Kd.S_drew)); exact HO297.out) hb); have n9_ := Aside0.mk (Kd.R_below (by (with_reducible repeat (first | apply Kd.R_alloc | apply Kd.R_drewN | apply Kd.R_drew)); exact HL301_5.out) hb); have n10_ := Aside0.mk (Kd.R_below (by (with_reducible repeat (first | apply Kd.R_alloc | apply Kd.R_drewN | apply Kd.R_drew)); exact HL302_5.out) hb); have n11_ := Aside0.mk (blk_below BK274.out hb); have n12_ := Aside0.mk (blk_below BK287.out hb); have n13_ := Aside0.mk (blk_below BK300.out hb); have n14_ := Aside0.mk (Kd.C_below (by repeat (first | (with_reducible exact HR301_5.out) | (with_reducible refine Kd.C_alloc ?_ _) | (with_reducible refine Kd.C_drewN ?_ _) | (with_reducible refine Kd.C_drew ?_) | exact HR301_5.out)) hb); have n15_ := Aside0.mk (Kd.C_below (by repeat (first | (with_reducible exact HR302_5.out) | (with_reducible refine Kd.C_alloc ?_ _) | (with_reducible refine Kd.C_drewN ?_ _) | (with_reducible refine Kd.C_drew ?_) | exact HR302_5.out)) hb); have n16_ := Aside0.mk (below_step (HB.out) hb); clear HO265; clear HO268; clear HO271; clear HO278; clear HO281; clear HO284; clear HO291; clear HO294; clear HO297; clear HL301_5; clear HL302_5; clear BK274; clear BK287; clear BK300; clear HR301_5; clear HR302_5; clear HB; have HO265 := n0_; have HO268 := n1_; have HO271 := n2_; have HO278 := n3_; have HO281 := n4_; have HO284 := n5_; have HO291 := n6_; have HO294 := n7_; have HO297 := n8_; have HL301_5 := n9_; have HL302_5 := n10_; have BK274 := n11_; have BK287 := n12_; have BK300 := n13_; have HR301_5 := n14_; have HR302_5 := n15_; have HB := n16_; clear n0_ n1_ n2_ n3_ n4_ n5_ n6_ n7_ n8_ n9_ n10_ n11_ n12_ n13_ n14_ n15_ n16_; (try clear hb); (try clear hb2); (try clear hk); (try clear hi)))
  go_ret
  exact ⟨by first | rfl | (simp [errW_none, errW_some] <;> rfl) | (simp [*, errW_none, errW_some] <;> rfl), HB.out⟩

end Go.Proofs.YtgkjoodlcojkkaaDoor.QD
end
section
/- What the statements about texts know ahead (one set's text, three texts): it is so. No conditions beside enough rounds. -/
namespace Go.Proofs.YtgkjoodlcojkkaaDoor.Y
open Go.RowKit Go.Proofs.YtgkjoodlcojkkaaDoorW.PrintWords Go.Proofs.YtgkjoodlcojkkaaDoorW.PrintLast Go.Proofs.YtgkjoodlcojkkaaDoorW.PrintMore Go.Proofs.YtgkjoodlcojkkaaDoor.QD
set_option linter.unusedVariables false
set_option linter.unusedSimpArgs false

theorem textS_one {n : Nat} (h : n < 10) : textS (n : Int) = [UInt8.ofNat (48 + n)] := by
  rw [textS_val (by omega) (by omega), Int.toNat_natCast, dec_small h]
theorem textS_two {n : Nat} (h0 : 10 ≤ n) (h : n < 100) : textS (n : Int) = [UInt8.ofNat (48 + n / 10), UInt8.ofNat (48 + n % 10)] := by
  rw [textS_val (by omega) (by omega), Int.toNat_natCast, dec_big (by omega), dec_small (by omega)]; rfl
theorem tx0 : textS 0 = [48] := textS_one (n := 0) (by decide)
theorem tx1 : textS 1 = [49] := textS_one (n := 1) (by decide)
theorem tx2 : textS 2 = [50] := textS_one (n := 2) (by decide)
theorem tx3 : textS 3 = [51] := textS_one (n := 3) (by decide)
theorem tx10 : textS 10 = [49, 48] := textS_two (n := 10) (by decide) (by decide)
def kn1 : Bs := [112, 114, 111, 116, 111, 99, 111, 108, 32, 102, 97, 105, 114, 10, 99, 111, 114, 101, 115, 32, 49, 10, 104, 111, 109, 101, 115, 32, 48, 10, 10, 116, 97, 115, 107, 32, 97, 32, 49, 48, 32, 49, 48, 32, 49, 32, 48, 32, 114, 117, 110, 58, 51, 32, 108, 111, 99, 107, 58, 48, 58, 50, 32, 35, 32, 115, 111, 10]
def kn2 : Bs := [112, 114, 111, 116, 111, 99, 111, 108, 32, 102, 97, 105, 114, 10, 99, 111, 114, 101, 115, 32, 49, 10, 104, 111, 109, 101, 115, 32, 48, 10, 116, 97, 115, 107, 32, 97, 32, 49, 48, 32, 49, 48, 32, 49, 32, 48, 32, 108, 111, 99, 107, 58, 48, 58, 108, 111, 99, 107, 58, 48, 58, 50, 10]
def kn3 : Bs := [99, 111, 114, 101, 115, 32, 49, 10]
def knT : S53 := ⟨B [97], 10, 10, 1, 0, [⟨1, 3, 0⟩, ⟨3, 2, 0⟩]⟩
theorem kn1_eq : parseS kn1 = (1, [1], [0], [knT], 5, 0) := by kernel_rfl
theorem kn2_eq : parseS kn2 = (0, [], [], [], 3, 18) := by kernel_rfl
theorem kn3_eq : parseS kn3 = (0, [], [], [], 0, 10) := by kernel_rfl
theorem knP_ok : (checkS 1 [1] [0] [knT]).2 = 0 := by kernel_rfl
theorem knP_eq : printS 1 [1] [0] [knT] = [112, 114, 111, 116, 111, 99, 111, 108, 32, 102, 97, 105, 114, 10, 99, 111, 114, 101, 115, 32, 49, 10, 104, 111, 109, 101, 115, 32, 48, 10, 116, 97, 115, 107, 32, 97, 32, 49, 48, 32, 49, 48, 32, 49, 32, 48, 32, 114, 117, 110, 58, 51, 32, 108, 111, 99, 107, 58, 48, 58, 50, 10] := by
  unfold printS
  rw [if_pos knP_ok]
  have e1 : setWs 1 [1] [0] [knT] = [[protocolB, protoW 1], [coresB, textS 1], [homesB, textS 0], [taskB, [97], textS 10, textS 10, textS 1, textS 0, runB ++ 58 :: textS 3, lockW ++ 58 :: (textS 0 ++ 58 :: textS 2)]] := by kernel_rfl
  rw [e1, tx0, tx1, tx2, tx3, tx10]
  decide
theorem known9_eq (k : Nat) (hk : 20000 < k) (hk2 : k < 9223372036854775807) : swingbridgelaw9_known.f k = some true := by
  unfold swingbridgelaw9_known.f
  have p1 := parse_eq kn1 (by decide) k hk hk2
  have p2 := parse_eq kn2 (by decide) k hk hk2
  have p3 := parse_eq kn3 (by decide) k hk hk2
  have p4 := print_eq 1 [1] [0] [knT] 100 (fun t ht => by
    have : t = knT := by simpa using ht
    subst this
    exact ⟨by show (1 : Nat) < 100; decide, by show 3 * 2 < 100; decide⟩) k (by omega) hk2
  rw [kn1_eq] at p1
  rw [kn2_eq] at p2
  rw [kn3_eq] at p3
  rw [knP_eq] at p4
  unfold kn1 at p1
  unfold kn2 at p2
  unfold kn3 at p3
  unfold B at p1 p2 p3
  rw [p1, Option.bind_some, p2, Option.bind_some, p3, Option.bind_some]
  rw [if_pos (show (0 : Int) = 0 from rfl), if_pos (show (5 : Int) = 5 from rfl), if_pos (show (([knT] : List S53).length : Int) = 1 from rfl), if_pos (show 0 < (([knT] : List S53).length : Int) by decide),
    if_pos (show (((rd_T53 [knT] 0).f5).length : Int) = 2 from rfl), if_pos (show 1 < (((rd_T53 [knT] 0).f5).length : Int) by decide), if_pos (show (((rd_T50 ((rd_T53 [knT] 0).f5) 1).f0) == 3 && (((rd_T50 ((rd_T53 [knT] 0).f5) 1).f1) == 2 && (((rd_T50 ((rd_T53 [knT] 0).f5) 1).f2) == 0))) = true from rfl),
    if_pos (show (18 : Int) = 18 from rfl), if_pos (show (3 : Int) = 3 from rfl), if_pos (show (10 : Int) = 10 from rfl), if_pos (show (0 : Int) = 0 from rfl)]
  have p4' : text_Print.f k 1 [1] [0] [knT] = some (B [112, 114, 111, 116, 111, 99, 111, 108, 32, 102, 97, 105, 114, 10, 99, 111, 114, 101, 115, 32, 49, 10, 104, 111, 109, 101, 115, 32, 48, 10, 116, 97, 115, 107, 32, 97, 32, 49, 48, 32, 49, 48, 32, 49, 32, 48, 32, 114, 117, 110, 58, 51, 32, 108, 111, 99, 107, 58, 48, 58, 50, 10]) := p4
  rw [p4', Option.bind_some, toList_B]
  rfl
end Go.Proofs.YtgkjoodlcojkkaaDoor.Y
end
section
-- written by a program of this session (wip/tools): the functions that the laws reach, as plain Lean, and their walks
namespace Go.Proofs.YtgkjoodlcojkkaaDoor.QD
open Go.RowKit Go.Proofs.YtgkjoodlcojkkaaDoorW.PrintWords Go.Proofs.YtgkjoodlcojkkaaDoorW.PrintLast Go.Proofs.YtgkjoodlcojkkaaDoorW.PrintMore
attribute [local go_sem] max2_int min2_int max_two min_two max_three min_three max_four min_four   -- for this text's walks alone
set_option linter.unusedVariables false
set_option linter.unusedSimpArgs false

/-! ### swingbridgelaw9_TextNested: function 8 -/
def swingbridgelaw9_TextNested.l0 : Nat → Int → Int → Bool → ByteArray → Int → Int → Option (Bool)
  | 0, _, _, _, _, _, _ => none
  | k + 1, x0, x1, x3, x9, x10, x11 => if x11 < x10 then (if x9.size + 5 ≤ 9223372036854775807 then ((some (([(wrap64 (97 + x11)) % 256] : List Int) : List Int)).bind fun y421 => (if (x9 ++ (⟨#[116, 97, 115, 107, 32]⟩ : ByteArray)).size + (strOfNums y421).size ≤ 9223372036854775807 then (if ((x9 ++ (⟨#[116, 97, 115, 107, 32]⟩ : ByteArray)) ++ (strOfNums y421)).size + 7 ≤ 9223372036854775807 then ((swingbridgeref7_Text.f k (wrap64 (x11 + 1))).bind fun t424 => (if (((x9 ++ (⟨#[116, 97, 115, 107, 32]⟩ : ByteArray)) ++ (strOfNums y421)) ++ (⟨#[32, 53, 48, 32, 53, 48, 32]⟩ : ByteArray)).size + t424.size ≤ 9223372036854775807 then (if ((((x9 ++ (⟨#[116, 97, 115, 107, 32]⟩ : ByteArray)) ++ (strOfNums y421)) ++ (⟨#[32, 53, 48, 32, 53, 48, 32]⟩ : ByteArray)) ++ t424).size + 9 ≤ 9223372036854775807 then (swingbridgelaw9_TextNested.l0 k x0 x1 x3 (((((x9 ++ (⟨#[116, 97, 115, 107, 32]⟩ : ByteArray)) ++ (strOfNums y421)) ++ (⟨#[32, 53, 48, 32, 53, 48, 32]⟩ : ByteArray)) ++ t424) ++ (⟨#[32, 48, 32, 114, 117, 110, 58, 49, 10]⟩ : ByteArray)) x10 (wrap64 (x11 + 1))) else (none)) else (none))) else (none)) else (none))) else (none)) else (if x9.size + 28 ≤ 9223372036854775807 then ((swingbridgeref7_Text.f k (wrap64 (Int.tmod x0 2))).bind fun t425 => (if (x9 ++ (⟨#[116, 97, 115, 107, 32, 120, 32, 53, 48, 32, 53, 48, 32, 57, 32, 48, 32, 114, 117, 110, 58, 49, 32, 108, 111, 99, 107, 58]⟩ : ByteArray)).size + t425.size ≤ 9223372036854775807 then (if ((x9 ++ (⟨#[116, 97, 115, 107, 32, 120, 32, 53, 48, 32, 53, 48, 32, 57, 32, 48, 32, 114, 117, 110, 58, 49, 32, 108, 111, 99, 107, 58]⟩ : ByteArray)) ++ t425).size + 6 ≤ 9223372036854775807 then ((swingbridgeref7_Text.f k (wrap64 (Int.tmod x1 2))).bind fun t426 => (if (((x9 ++ (⟨#[116, 97, 115, 107, 32, 120, 32, 53, 48, 32, 53, 48, 32, 57, 32, 48, 32, 114, 117, 110, 58, 49, 32, 108, 111, 99, 107, 58]⟩ : ByteArray)) ++ t425) ++ (⟨#[58, 108, 111, 99, 107, 58]⟩ : ByteArray)).size + t426.size ≤ 9223372036854775807 then (if ((((x9 ++ (⟨#[116, 97, 115, 107, 32, 120, 32, 53, 48, 32, 53, 48, 32, 57, 32, 48, 32, 114, 117, 110, 58, 49, 32, 108, 111, 99, 107, 58]⟩ : ByteArray)) ++ t425) ++ (⟨#[58, 108, 111, 99, 107, 58]⟩ : ByteArray)) ++ t426).size + 2 ≤ 9223372036854775807 then (if x3 = true then (if (((((x9 ++ (⟨#[116, 97, 115, 107, 32, 120, 32, 53, 48, 32, 53, 48, 32, 57, 32, 48, 32, 114, 117, 110, 58, 49, 32, 108, 111, 99, 107, 58]⟩ : ByteArray)) ++ t425) ++ (⟨#[58, 108, 111, 99, 107, 58]⟩ : ByteArray)) ++ t426) ++ (⟨#[58, 51]⟩ : ByteArray)).size + 7 ≤ 9223372036854775807 then (if ((((((x9 ++ (⟨#[116, 97, 115, 107, 32, 120, 32, 53, 48, 32, 53, 48, 32, 57, 32, 48, 32, 114, 117, 110, 58, 49, 32, 108, 111, 99, 107, 58]⟩ : ByteArray)) ++ t425) ++ (⟨#[58, 108, 111, 99, 107, 58]⟩ : ByteArray)) ++ t426) ++ (⟨#[58, 51]⟩ : ByteArray)) ++ (⟨#[32, 119, 97, 108, 107, 58, 55]⟩ : ByteArray)).size + 1 ≤ 9223372036854775807 then ((text_Parse.f k (((((((x9 ++ (⟨#[116, 97, 115, 107, 32, 120, 32, 53, 48, 32, 53, 48, 32, 57, 32, 48, 32, 114, 117, 110, 58, 49, 32, 108, 111, 99, 107, 58]⟩ : ByteArray)) ++ t425) ++ (⟨#[58, 108, 111, 99, 107, 58]⟩ : ByteArray)) ++ t426) ++ (⟨#[58, 51]⟩ : ByteArray)) ++ (⟨#[32, 119, 97, 108, 107, 58, 55]⟩ : ByteArray)) ++ (⟨#[10]⟩ : ByteArray))).bind fun bt427 => (if bt427.2.2.2.2.2 = 18 then (some (bt427.2.2.2.2.1 == (wrap64 (3 + x10)))) else (some false))) else (none)) else (none)) else (if (((((x9 ++ (⟨#[116, 97, 115, 107, 32, 120, 32, 53, 48, 32, 53, 48, 32, 57, 32, 48, 32, 114, 117, 110, 58, 49, 32, 108, 111, 99, 107, 58]⟩ : ByteArray)) ++ t425) ++ (⟨#[58, 108, 111, 99, 107, 58]⟩ : ByteArray)) ++ t426) ++ (⟨#[58, 51]⟩ : ByteArray)).size + 1 ≤ 9223372036854775807 then ((text_Parse.f k ((((((x9 ++ (⟨#[116, 97, 115, 107, 32, 120, 32, 53, 48, 32, 53, 48, 32, 57, 32, 48, 32, 114, 117, 110, 58, 49, 32, 108, 111, 99, 107, 58]⟩ : ByteArray)) ++ t425) ++ (⟨#[58, 108, 111, 99, 107, 58]⟩ : ByteArray)) ++ t426) ++ (⟨#[58, 51]⟩ : ByteArray)) ++ (⟨#[10]⟩ : ByteArray))).bind fun bt440 => (if bt440.2.2.2.2.2 = 18 then (some (bt440.2.2.2.2.1 == (wrap64 (3 + x10)))) else (some false))) else (none))) else (none)) else (none))) else (none)) else (none))) else (none))
def swingbridgelaw9_TextNested.f (k : Nat) (a0 : Int) (a1 : Int) (a2 : Int) (a3 : Bool) : Option (Bool) := (swingbridgelaw9_known.f k).bind fun t420 => (if t420 = true then (swingbridgelaw9_TextNested.l0 k a0 a1 a3 (⟨#[112, 114, 111, 116, 111, 99, 111, 108, 32, 102, 97, 105, 114, 10, 99, 111, 114, 101, 115, 32, 49, 10, 104, 111, 109, 101, 115, 32, 48, 32, 48, 10]⟩ : ByteArray) (wrap64 (Int.tmod a2 5)) 0) else (some false))
theorem swingbridgelaw9_TextNested.mono_l : ∀ k, (∀ y0 y1 y2 y3 y4 y5, LeO (swingbridgelaw9_TextNested.l0 k y0 y1 y2 y3 y4 y5) (swingbridgelaw9_TextNested.l0 (k + 1) y0 y1 y2 y3 y4 y5))
  | 0 => fun _ _ _ _ _ _ r h => by simp [swingbridgelaw9_TextNested.l0] at h
  | k + 1 => by
    have ih0 := swingbridgelaw9_TextNested.mono_l k
    · intro y0 y1 y2 y3 y4 y5
      unfold swingbridgelaw9_TextNested.l0
      repeat' first
      | (with_reducible exact ih0 _ _ _ _ _ _)
      | (with_reducible exact swingbridgelaw9_known.mono _)
      | (with_reducible exact swingbridgeref7_Text.mono _ _)
      | (with_reducible exact text_Parse.mono _ _)
      | (with_reducible exact LeO.refl _)
      | (with_reducible exact LeO.none _)
      | (with_reducible refine LeO.ite ?_ ?_)
      | (with_reducible refine LeO.bind ?_ (fun _ => ?_))
      | exact ih0 _ _ _ _ _ _
      | exact swingbridgelaw9_known.mono _
      | exact swingbridgeref7_Text.mono _ _
      | exact text_Parse.mono _ _
      | exact LeO.none _
      | refine LeO.ite ?_ ?_
      | refine LeO.bind ?_ (fun _ => ?_)
theorem swingbridgelaw9_TextNested.mono : ∀ a0 a1 a2 a3 k, LeO (swingbridgelaw9_TextNested.f k a0 a1 a2 a3) (swingbridgelaw9_TextNested.f (k + 1) a0 a1 a2 a3) := by
  intro a0 a1 a2 a3 k
  have ih0 := swingbridgelaw9_TextNested.mono_l k
  unfold swingbridgelaw9_TextNested.f
  repeat' first
      | (with_reducible exact ih0 _ _ _ _ _ _)
      | (with_reducible exact swingbridgelaw9_known.mono _)
      | (with_reducible exact swingbridgeref7_Text.mono _ _)
      | (with_reducible exact text_Parse.mono _ _)
      | (with_reducible exact LeO.refl _)
      | (with_reducible exact LeO.none _)
      | (with_reducible refine LeO.ite ?_ ?_)
      | (with_reducible refine LeO.bind ?_ (fun _ => ?_))
      | exact ih0 _ _ _ _ _ _
      | exact swingbridgelaw9_known.mono _
      | exact swingbridgeref7_Text.mono _ _
      | exact text_Parse.mono _ _
      | exact LeO.none _
      | refine LeO.ite ?_ ?_
      | refine LeO.bind ?_ (fun _ => ?_)
def swingbridgelaw9_TextNested.T8 : Bool × List (List Nat × List Nat) := (true, [([], []), ([0], [0]), ([], []), ([2], [2]), ([3], [3]), ([4], [4]), ([5], [5]), ([1, 6], [1, 6]), ([7], [7]), ([], []), ([9], [9]), ([10], [10]), ([8, 11], [8, 11]), ([12], [12]), ([13, 11, 0, 1, 2, 3, 4, 5, 6, 7, 8, 9, 10, 11, 12, 13], [0, 13])])
def swingbridgelaw9_TextNested.B8 : List Nat := [0, 1, 0, 4, 12, 28, 60, 127, 255, 0, 512, 1536, 4095, 8191, 16383]
theorem swingbridgelaw9_TextNested.tab8 : rtab .any (opsOf Tryd.f8 8) = swingbridgelaw9_TextNested.T8 := by kernel_rfl
theorem swingbridgelaw9_TextNested.bits8 : waitsOk swingbridgelaw9_TextNested.T8.2 swingbridgelaw9_TextNested.B8 = true := by kernel_rfl
set_option maxHeartbeats 8000000 in
set_option maxRecDepth 100000 in
theorem swingbridgelaw9_TextNested.calls (k : Nat) (a0 : Int) (a1 : Int) (a2 : Int) (a3 : Bool) (r : Bool) [hT_ : IsTrue r] (w : World) (hG : Glob w) (h : swingbridgelaw9_TextNested.f k a0 a1 a2 a3 = some r) :
    Calls Tryd.prog 8 #[.int .u8 a0, .int .u8 a1, .int .u8 a2, .bool a3] w fun e w' => e = .returned (.bool r) ∧ Below w.heap.size w w' := by
  have hu37 := Tryd.underlying37
  have HG := Aside0.mk hG
  clear hG
  have HB := Aside0.mk (Below.refl w.heap.size w)
  have H : ((swingbridgelaw9_known.f k).bind fun t420 => (if t420 = true then (swingbridgelaw9_TextNested.l0 k a0 a1 a3 (⟨#[112, 114, 111, 116, 111, 99, 111, 108, 32, 102, 97, 105, 114, 10, 99, 111, 114, 101, 115, 32, 49, 10, 104, 111, 109, 101, 115, 32, 48, 32, 48, 10]⟩ : ByteArray) (wrap64 (Int.tmod a2 5)) 0) else (some false))) = some r := h
  clear h
  replace H := Option.bind_eq_some_iff.mp H
  obtain ⟨t420, A50, H⟩ := H
  replace H : (if t420 = true then (swingbridgelaw9_TextNested.l0 k a0 a1 a3 (⟨#[112, 114, 111, 116, 111, 99, 111, 108, 32, 102, 97, 105, 114, 10, 99, 111, 114, 101, 115, 32, 49, 10, 104, 111, 109, 101, 115, 32, 48, 32, 48, 10]⟩ : ByteArray) (wrap64 (Int.tmod a2 5)) 0) else (some false)) = some r := H
  have A5 := Aside0.mk A50
  clear A50
  by_cases c6 : t420 = true
  rotate_left
  · replace c6 := Bool.eq_false_iff.mpr c6
    subst c6
    have H1 : (some false) = some r := by rw [if_neg (show ¬ (false = true) by decide)] at H; exact H
    clear H
    have H := H1
    clear H1
    exact absurd ((Option.some.inj H).trans hT_.out) (by simp)
  subst c6
  have H1 : (swingbridgelaw9_TextNested.l0 k a0 a1 a3 (⟨#[112, 114, 111, 116, 111, 99, 111, 108, 32, 102, 97, 105, 114, 10, 99, 111, 114, 101, 115, 32, 49, 10, 104, 111, 109, 101, 115, 32, 48, 32, 48, 10]⟩ : ByteArray) (wrap64 (Int.tmod a2 5)) 0) = some r := by rw [if_pos rfl] at H; exact H
  clear H
  have H := H1
  clear H1
  have H' := Aside0.mk H
  clear H
  go_enter Tryd.func8, Tryd.ntmps8
  go_wp2_with (first | ((with_reducible refine gate_callee (f := 21) rfl ?_); refine goesL_ (some 15) rfl rfl Tryd.func21 (by kernel_rfl) rfl #[] rfl (by (try simp only [List.map_toArray, List.map_cons, List.map_nil]); first | done | rfl | (simp only [List.length_drop, List.length_take]; rfl)) ?_; (with_reducible refine (swingbridgelaw9_known.calls k  true _ ?side1 A5.out).mono ?_); (case side1 => first | exact Glob.below HG.out (HB.out) | (repeat (first | exact Glob.below HG.out HB.out | (with_reducible refine Glob.alloc ?_ _) | (with_reducible refine Glob.drewN ?_ _) | (with_reducible refine Glob.drew ?_)))); rintro e w7 ⟨rfl, hb⟩; refine ⟨_, rfl, ?_⟩; have n0_ := Aside0.mk (below_step (HB.out) hb); clear HB; have HB := n0_; clear n0_; (try clear hb); (try clear hb2); (try clear hk); (try clear hi)))
  go_loopg [9, 11] k (fun kq v9 v11 w' => ∃ (x9_1 : ByteArray) (x11_1 : Int), v9 = .string x9_1 ∧ v11 = .int .i64 x11_1 ∧ Aside0 (swingbridgelaw9_TextNested.l0 kq a0 a1 a3 x9_1 (wrap64 (Int.tmod a2 5)) x11_1 = some r) ∧ Aside0 (kq ≤ k) ∧ Aside0 (Below w.heap.size w w'))
  case atStart => exact ⟨((⟨#[112, 114, 111, 116, 111, 99, 111, 108, 32, 102, 97, 105, 114, 10, 99, 111, 114, 101, 115, 32, 49, 10, 104, 111, 109, 101, 115, 32, 48, 32, 48, 10]⟩ : ByteArray)), (0), (by first | rfl | (simp; done) | (simp [*]; done)), (by first | rfl | (simp; done) | (simp [*]; done)), H', ⟨Nat.le_refl _⟩, ⟨HB.out⟩⟩
  clear H'
  (try clear c2); (try clear p2); (try clear c6); (try clear p6)
  obtain ⟨x9_1, x11_1, rfl, rfl, HA, HK1, HB⟩ := hrel
  cases gk with
  | zero => exact absurd HA.out (by simp [swingbridgelaw9_TextNested.l0])
  | succ k1 => ?_
  have H := HA.out
  clear HA
  simp only [swingbridgelaw9_TextNested.l0] at H
  by_cases c8 : x11_1 < (wrap64 (Int.tmod a2 5))
  · rw [if_pos c8] at H
    have c8b0 : decide (x11_1 < (wrap64 (Int.tmod a2 5))) = true := decide_eq_true c8
    clear c8
    by_cases c9 : x9_1.size + 5 ≤ 9223372036854775807
    rotate_left
    · rw [if_neg c9] at H
      exact absurd H (by simp)
    rw [if_pos c9] at H
    have c9b0 := eq_true c9
    have c9b1 : decide (x9_1.size + 5 ≤ 9223372036854775807) = true := decide_eq_true c9
    try have c9b2 : (9223372036854775807 < x9_1.size + 5) = False := eq_false (Nat.not_lt.2 c9)
    obtain ⟨y421, hy421⟩ : ∃ y_ : List Int, y_ = (([(wrap64 (97 + x11_1)) % 256] : List Int)) := ⟨_, rfl⟩
    replace H : (if (x9_1 ++ (⟨#[116, 97, 115, 107, 32]⟩ : ByteArray)).size + (strOfNums y421).size ≤ 9223372036854775807 then (if ((x9_1 ++ (⟨#[116, 97, 115, 107, 32]⟩ : ByteArray)) ++ (strOfNums y421)).size + 7 ≤ 9223372036854775807 then ((swingbridgeref7_Text.f k1 (wrap64 (x11_1 + 1))).bind fun t424 => (if (((x9_1 ++ (⟨#[116, 97, 115, 107, 32]⟩ : ByteArray)) ++ (strOfNums y421)) ++ (⟨#[32, 53, 48, 32, 53, 48, 32]⟩ : ByteArray)).size + t424.size ≤ 9223372036854775807 then (if ((((x9_1 ++ (⟨#[116, 97, 115, 107, 32]⟩ : ByteArray)) ++ (strOfNums y421)) ++ (⟨#[32, 53, 48, 32, 53, 48, 32]⟩ : ByteArray)) ++ t424).size + 9 ≤ 9223372036854775807 then (swingbridgelaw9_TextNested.l0 k1 a0 a1 a3 (((((x9_1 ++ (⟨#[116, 97, 115, 107, 32]⟩ : ByteArray)) ++ (strOfNums y421)) ++ (⟨#[32, 53, 48, 32, 53, 48, 32]⟩ : ByteArray)) ++ t424) ++ (⟨#[32, 48, 32, 114, 117, 110, 58, 49, 10]⟩ : ByteArray)) (wrap64 (Int.tmod a2 5)) (wrap64 (x11_1 + 1))) else (none)) else (none))) else (none)) else (none)) = some r := by first | (rw [hy421]; with_reducible exact H) | (have H2_ := (Option.bind_some _ _).symm.trans H; rw [hy421]; with_reducible exact H2_) | (have H2_ := (Option.bind_some _ _).symm.trans H; with_reducible exact H2_) | with_reducible exact H | (rw [hy421]; exact H) | exact H
    have Ny421 := Aside0.mk hy421
    clear hy421
    by_cases c10 : (x9_1 ++ (⟨#[116, 97, 115, 107, 32]⟩ : ByteArray)).size + (strOfNums y421).size ≤ 9223372036854775807
    rotate_left
    · rw [if_neg c10] at H
      exact absurd H (by simp)
    rw [if_pos c10] at H
    have c10b0 := eq_true c10
    have c10b1 : decide ((x9_1 ++ (⟨#[116, 97, 115, 107, 32]⟩ : ByteArray)).size + (strOfNums y421).size ≤ 9223372036854775807) = true := decide_eq_true c10
    try have c10b2 : (9223372036854775807 < (x9_1 ++ (⟨#[116, 97, 115, 107, 32]⟩ : ByteArray)).size + (strOfNums y421).size) = False := eq_false (Nat.not_lt.2 c10)
    try (have c10b3 := c10b2; (repeat rw [ByteArray.size_append] at c10b3); (try rw [show (⟨#[116, 97, 115, 107, 32]⟩ : ByteArray).size = 5 from rfl] at c10b3))
    by_cases c11 : ((x9_1 ++ (⟨#[116, 97, 115, 107, 32]⟩ : ByteArray)) ++ (strOfNums y421)).size + 7 ≤ 9223372036854775807
    rotate_left
    · rw [if_neg c11] at H
      exact absurd H (by simp)
    rw [if_pos c11] at H
    have c11b0 := eq_true c11
    have c11b1 : decide (((x9_1 ++ (⟨#[116, 97, 115, 107, 32]⟩ : ByteArray)) ++ (strOfNums y421)).size + 7 ≤ 9223372036854775807) = true := decide_eq_true c11
    try have c11b2 : (9223372036854775807 < ((x9_1 ++ (⟨#[116, 97, 115, 107, 32]⟩ : ByteArray)) ++ (strOfNums y421)).size + 7) = False := eq_false (Nat.not_lt.2 c11)
    try (have c11b3 := c11b2; (repeat rw [ByteArray.size_append] at c11b3); (try rw [show (⟨#[116, 97, 115, 107, 32]⟩ : ByteArray).size = 5 from rfl] at c11b3))
    replace H := Option.bind_eq_some_iff.mp H
    obtain ⟨t424, A120, H⟩ := H
    replace H : (if (((x9_1 ++ (⟨#[116, 97, 115, 107, 32]⟩ : ByteArray)) ++ (strOfNums y421)) ++ (⟨#[32, 53, 48, 32, 53, 48, 32]⟩ : ByteArray)).size + t424.size ≤ 9223372036854775807 then (if ((((x9_1 ++ (⟨#[116, 97, 115, 107, 32]⟩ : ByteArray)) ++ (strOfNums y421)) ++ (⟨#[32, 53, 48, 32, 53, 48, 32]⟩ : ByteArray)) ++ t424).size + 9 ≤ 9223372036854775807 then (swingbridgelaw9_TextNested.l0 k1 a0 a1 a3 (((((x9_1 ++ (⟨#[116, 97, 115, 107, 32]⟩ : ByteArray)) ++ (strOfNums y421)) ++ (⟨#[32, 53, 48, 32, 53, 48, 32]⟩ : ByteArray)) ++ t424) ++ (⟨#[32, 48, 32, 114, 117, 110, 58, 49, 10]⟩ : ByteArray)) (wrap64 (Int.tmod a2 5)) (wrap64 (x11_1 + 1))) else (none)) else (none)) = some r := H
    have A12 := Aside0.mk A120
    clear A120
    by_cases c13 : (((x9_1 ++ (⟨#[116, 97, 115, 107, 32]⟩ : ByteArray)) ++ (strOfNums y421)) ++ (⟨#[32, 53, 48, 32, 53, 48, 32]⟩ : ByteArray)).size + t424.size ≤ 9223372036854775807
    rotate_left
    · rw [if_neg c13] at H
      exact absurd H (by simp)
    rw [if_pos c13] at H
    have c13b0 := eq_true c13
    have c13b1 : decide ((((x9_1 ++ (⟨#[116, 97, 115, 107, 32]⟩ : ByteArray)) ++ (strOfNums y421)) ++ (⟨#[32, 53, 48, 32, 53, 48, 32]⟩ : ByteArray)).size + t424.size ≤ 9223372036854775807) = true := decide_eq_true c13
    try have c13b2 : (9223372036854775807 < (((x9_1 ++ (⟨#[116, 97, 115, 107, 32]⟩ : ByteArray)) ++ (strOfNums y421)) ++ (⟨#[32, 53, 48, 32, 53, 48, 32]⟩ : ByteArray)).size + t424.size) = False := eq_false (Nat.not_lt.2 c13)
    try (have c13b3 := c13b2; (repeat rw [ByteArray.size_append] at c13b3); (try rw [show (⟨#[116, 97, 115, 107, 32]⟩ : ByteArray).size = 5 from rfl] at c13b3); (try rw [show (⟨#[32, 53, 48, 32, 53, 48, 32]⟩ : ByteArray).size = 7 from rfl] at c13b3))
    by_cases c14 : ((((x9_1 ++ (⟨#[116, 97, 115, 107, 32]⟩ : ByteArray)) ++ (strOfNums y421)) ++ (⟨#[32, 53, 48, 32, 53, 48, 32]⟩ : ByteArray)) ++ t424).size + 9 ≤ 9223372036854775807
    rotate_left
    · rw [if_neg c14] at H
      exact absurd H (by simp)
    rw [if_pos c14] at H
    have c14b0 := eq_true c14
    have c14b1 : decide (((((x9_1 ++ (⟨#[116, 97, 115, 107, 32]⟩ : ByteArray)) ++ (strOfNums y421)) ++ (⟨#[32, 53, 48, 32, 53, 48, 32]⟩ : ByteArray)) ++ t424).size + 9 ≤ 9223372036854775807) = true := decide_eq_true c14
    try have c14b2 : (9223372036854775807 < ((((x9_1 ++ (⟨#[116, 97, 115, 107, 32]⟩ : ByteArray)) ++ (strOfNums y421)) ++ (⟨#[32, 53, 48, 32, 53, 48, 32]⟩ : ByteArray)) ++ t424).size + 9) = False := eq_false (Nat.not_lt.2 c14)
    try (have c14b3 := c14b2; (repeat rw [ByteArray.size_append] at c14b3); (try rw [show (⟨#[116, 97, 115, 107, 32]⟩ : ByteArray).size = 5 from rfl] at c14b3); (try rw [show (⟨#[32, 53, 48, 32, 53, 48, 32]⟩ : ByteArray).size = 7 from rfl] at c14b3))
    have H' := Aside0.mk H
    clear H
    try go_wp2
    have n0_ := Aside0.mk (below_drew1 HB.out)
    clear HB
    have HB := n0_
    clear n0_
    refine start_ (n := 15) (S := fun w' => True) (ds := []) (bs 15 0) (by kernel_rfl) rfl rfl trivial (fun hHeld => ?_); refine with_tabW swingbridgelaw9_TextNested.tab8 swingbridgelaw9_TextNested.bits8 (fun HT_ HW_ => ?_)
    generalize wr.drew = w15 at HB hHeld ⊢
    refine pure_ (i := 0) (N := some 25) (v := ?_) (a' := ?_) (bs 15 1) rfl rfl (any_of HT_.out (by kernel_rfl)) (fun _ _ _ h => h) (Or.inl ⟨by rfl, ?_⟩) ?_ ?_
    rotate_left
    · intro w'
      go_simp
      with_reducible rfl
    rotate_left
    · simp only [Act.put, List.setIfInBounds_toArray, List.set_cons_zero, List.set_cons_succ, i64_w, i32_w]
      rfl
    refine pure_ (i := 1) (N := some 26) (v := ?_) (a' := ?_) (bs 15 3) rfl rfl (any_of HT_.out (by kernel_rfl)) (fun _ _ _ h => h) (Or.inl ⟨by rfl, ?_⟩) ?_ ?_
    rotate_left
    · intro w'
      go_simp
      with_reducible rfl
    rotate_left
    · simp only [Act.put, List.setIfInBounds_toArray, List.set_cons_zero, List.set_cons_succ, i64_w, i32_w]
      rfl
    refine pure_ (i := 2) (N := some 27) (v := ?_) (a' := ?_) (bs 15 7) rfl rfl (any_of HT_.out (by kernel_rfl)) (fun _ _ _ h => h) (Or.inl ⟨by rfl, ?_⟩) ?_ ?_
    rotate_left
    · intro w'
      go_simp
      with_reducible rfl
    rotate_left
    · simp only [Act.put, List.setIfInBounds_toArray, List.set_cons_zero, List.set_cons_succ, i64_w, i32_w]
      rfl
    refine pure_ (i := 3) (N := some 28) (v := ?_) (a' := ?_) (bs 15 15) rfl rfl (any_of HT_.out (by kernel_rfl)) (fun _ _ _ h => h) (Or.inl ⟨by rfl, ?_⟩) ?_ ?_
    rotate_left
    · intro w'
      go_simp
      with_reducible rfl
    rotate_left
    · simp only [Act.put, List.setIfInBounds_toArray, List.set_cons_zero, List.set_cons_succ, i64_w, i32_w]
      rfl
    refine pure_ (i := 4) (N := some 29) (v := ?_) (a' := ?_) (bs 15 31) rfl rfl (any_of HT_.out (by kernel_rfl)) (fun _ _ _ h => h) (Or.inl ⟨by rfl, ?_⟩) ?_ ?_
    rotate_left
    · intro w'
      go_simp
      with_reducible rfl
    rotate_left
    · simp only [Act.put, List.setIfInBounds_toArray, List.set_cons_zero, List.set_cons_succ, i64_w, i32_w]
      rfl
    refine pure_ (i := 9) (N := some 34) (v := ?_) (a' := ?_) (bs 15 543) rfl rfl (any_of HT_.out (by kernel_rfl)) (fun _ _ _ h => h) (Or.inl ⟨by rfl, ?_⟩) ?_ ?_
    rotate_left
    · intro w'
      go_simp
      with_reducible rfl
    rotate_left
    · simp only [Act.put, List.setIfInBounds_toArray, List.set_cons_zero, List.set_cons_succ, i64_w, i32_w]
      rfl
    refine pure_ (i := 10) (N := some 35) (v := ?_) (a' := ?_) (bs 15 1567) rfl rfl (any_of HT_.out (by kernel_rfl)) (fun _ _ _ h => h) (Or.inl ⟨by rfl, ?_⟩) ?_ ?_
    rotate_left
    · intro w'
      go_simp
      with_reducible rfl
    rotate_left
    · simp only [Act.put, List.setIfInBounds_toArray, List.set_cons_zero, List.set_cons_succ, i64_w, i32_w]
      rfl
    refine join_ (σ := Value) 3 (bs 15 4095) (fun s_ => [(30, s_), (31, .string (strOfNums y421)), (36, .string t424), (32, .string ((x9_1 ++ (⟨#[116, 97, 115, 107, 32]⟩ : ByteArray)) ++ (strOfNums y421))), (33, .string (((x9_1 ++ (⟨#[116, 97, 115, 107, 32]⟩ : ByteArray)) ++ (strOfNums y421)) ++ (⟨#[32, 53, 48, 32, 53, 48, 32]⟩ : ByteArray)))]) (fun s_ w' => (Kd.R (Kd.int .u8) 5 w' w.heap.size (fun _ => True) s_ y421) ∧ (Below w.heap.size w w')) ?_ ?_
    rotate_left
    · intro hCont
      refine two_ (i := 5) (j := 11) (Ni := some 30) (Nj := some 36) (bs 15 1599) (bs 15 3615) rfl rfl rfl rfl (two_of HT_.out (by kernel_rfl)) (by decide) (by decide) (fun K hK => ?_) (fun K hK => ?_)
      · skip
        refine Kd.R_lit_step (Kd.int .u8) _ 5 ?hg (N := 30) ?hd (xs := ([(wrap64 (97 + x11_1)) % 256] : List Int)) (inner := [.int .u8 ((wrap64 (97 + x11_1)) % 256)]) (ok := fun _ => True) (okp := fun _ => True) ?hr ?hp (fun _ hk => hk) trivial (Below.refl _ _) (Nat.le_refl _) (by simp) ?_; (case hd => rfl); (case hg => rfl); (case hr => first | (go_simp; done) | (go_simp; rfl)); (case hp => exact (Reps.one (show Kd.M (Kd.int .u8) _ _ _ ((wrap64 (97 + x11_1)) % 256) [.int .u8 ((wrap64 (97 + x11_1)) % 256)] from rfl) (Reps.none _ _)))
        intro v422 w16 ho17 hb hg_ hnew_
        clear hg_ hnew_
        (first | rw [← Ny421.out] at ho17 | (simp only [Int.reduceToNat] at ho17; rw [← Ny421.out] at ho17))
        have n0_ := Aside0.mk (Kd.R_lower ho17 (below_size (HB.out)))
        have n1_ := Aside0.mk (below_step (HB.out) hb)
        clear HB
        have HO423 := n0_
        have HB := n1_
        clear n0_ n1_
        clear hb ho17
        refine hK.out _ _ trivial (fun hHeld => ?_)
        clear hK K
        refine norm_ (a' := ?_) ?_ ?_
        rotate_left
        · show Act.put _ (some 30) _ = _
          simp only [Act.put, List.setIfInBounds_toArray, List.set_cons_zero, List.set_cons_succ, i64_w, i32_w]
          rfl
        refine two_ (i := 6) (j := 11) (Ni := some 31) (Nj := some 36) (bs 15 1663) (bs 15 3647) rfl rfl rfl rfl (two_of HT_.out (by kernel_rfl)) (by decide) (by decide) (fun K hK => ?_) (fun K hK => ?_)
        · skip
          have hcv18 := own_string (P := Tryd.prog) Tryd.underlying55 Tryd.underlying5 Tryd.underlying9 (Kd.own_of_R HO423.out)
          refine value_ (w1 := ?_) (v := ?_) (by rfl) rfl ?_ ?_
          rotate_left 2
          · go_simp
            constructor
            · rfl
            · rfl
          clear hcv18
          refine hK.out _ _ trivial (fun hHeld => ?_)
          clear hK K
          refine norm_ (a' := ?_) ?_ ?_
          rotate_left
          · show Act.put _ (some 31) _ = _
            simp only [Act.put, List.setIfInBounds_toArray, List.set_cons_zero, List.set_cons_succ, i64_w, i32_w]
            rfl
          refine pure_ (i := 7) (N := some 32) (v := ?_) (a' := ?_) (bs 15 1791) rfl rfl (any_of HT_.out (by kernel_rfl)) (fun _ _ _ h => h) (Or.inl ⟨by rfl, ?_⟩) ?_ ?_
          rotate_left
          · intro w'
            go_simp
            with_reducible rfl
          rotate_left
          · simp only [Act.put, List.setIfInBounds_toArray, List.set_cons_zero, List.set_cons_succ, i64_w, i32_w]
            rfl
          refine pure_ (i := 8) (N := some 33) (v := ?_) (a' := ?_) (bs 15 2047) rfl rfl (any_of HT_.out (by kernel_rfl)) (fun _ _ _ h => h) (Or.inl ⟨by rfl, ?_⟩) ?_ ?_
          rotate_left
          · intro w'
            go_simp
            with_reducible rfl
          rotate_left
          · simp only [Act.put, List.setIfInBounds_toArray, List.set_cons_zero, List.set_cons_succ, i64_w, i32_w]
            rfl
          refine one_ (i := 11) (N := some 36) (bs 15 4095) rfl rfl (one_of HT_.out (by kernel_rfl)) (by decide) (fun K hK => ?_)
          refine goes_ Tryd.func20 (by kernel_rfl) rfl #[.int .i64 (wrap64 (x11_1 + 1))] (by rfl) rfl rfl (by (try simp only [List.map_toArray, List.map_cons, List.map_nil]); first | done | rfl | (simp only [List.length_drop, List.length_take]; rfl)) ?_
          with_reducible refine (swingbridgeref7_Text.calls k1 (wrap64 (x11_1 + 1)) t424 _ A12.out).mono ?_
          rintro e w19 ⟨rfl, hb⟩
          refine ⟨_, rfl, ?_⟩
          have n0_ := Aside0.mk (Kd.R_below (by (with_reducible repeat (first | apply Kd.R_alloc | apply Kd.R_drewN | apply Kd.R_drew)); exact HO423.out) hb)
          have n1_ := Aside0.mk (below_step (HB.out) hb)
          clear HO423
          clear HB
          have HO423 := n0_
          have HB := n1_
          clear n0_ n1_
          (try clear hb)
          (try clear hb2)
          (try clear hk)
          (try clear hi)
          refine hK.out _ _ trivial (fun hHeld => ?_)
          clear hK K
          refine norm_ (a' := ?_) ?_ ?_
          rotate_left
          · show Act.put _ (some 36) _ = _
            simp only [Act.put, List.setIfInBounds_toArray, List.set_cons_zero, List.set_cons_succ, i64_w, i32_w]
            rfl
          exact norm_ (by simp only [putAll, Act.put, List.setIfInBounds_toArray, List.set_cons_zero, List.set_cons_succ]) (hCont (v422) _ ⟨(by (with_reducible repeat (first | apply Kd.R_alloc | apply Kd.R_drewN | apply Kd.R_drew)); exact HO423.out), (HB.out)⟩)
        · skip
          refine goes_ Tryd.func20 (by kernel_rfl) rfl #[.int .i64 (wrap64 (x11_1 + 1))] (by rfl) rfl rfl (by (try simp only [List.map_toArray, List.map_cons, List.map_nil]); first | done | rfl | (simp only [List.length_drop, List.length_take]; rfl)) ?_
          with_reducible refine (swingbridgeref7_Text.calls k1 (wrap64 (x11_1 + 1)) t424 _ A12.out).mono ?_
          rintro e w18 ⟨rfl, hb⟩
          refine ⟨_, rfl, ?_⟩
          have n0_ := Aside0.mk (Kd.R_below (by (with_reducible repeat (first | apply Kd.R_alloc | apply Kd.R_drewN | apply Kd.R_drew)); exact HO423.out) hb)
          have n1_ := Aside0.mk (below_step (HB.out) hb)
          clear HO423
          clear HB
          have HO423 := n0_
          have HB := n1_
          clear n0_ n1_
          (try clear hb)
          (try clear hb2)
          (try clear hk)
          (try clear hi)
          refine hK.out _ _ trivial (fun hHeld => ?_)
          clear hK K
          refine norm_ (a' := ?_) ?_ ?_
          rotate_left
          · show Act.put _ (some 36) _ = _
            simp only [Act.put, List.setIfInBounds_toArray, List.set_cons_zero, List.set_cons_succ, i64_w, i32_w]
            rfl
          refine one_ (i := 6) (N := some 31) (bs 15 3711) rfl rfl (one_of HT_.out (by kernel_rfl)) (by decide) (fun K hK => ?_)
          have hcv19 := own_string (P := Tryd.prog) Tryd.underlying55 Tryd.underlying5 Tryd.underlying9 (Kd.own_of_R HO423.out)
          refine value_ (w1 := ?_) (v := ?_) (by rfl) rfl ?_ ?_
          rotate_left 2
          · go_simp
            constructor
            · rfl
            · rfl
          clear hcv19
          refine hK.out _ _ trivial (fun hHeld => ?_)
          clear hK K
          refine norm_ (a' := ?_) ?_ ?_
          rotate_left
          · show Act.put _ (some 31) _ = _
            simp only [Act.put, List.setIfInBounds_toArray, List.set_cons_zero, List.set_cons_succ, i64_w, i32_w]
            rfl
          refine pure_ (i := 7) (N := some 32) (v := ?_) (a' := ?_) (bs 15 3839) rfl rfl (any_of HT_.out (by kernel_rfl)) (fun _ _ _ h => h) (Or.inl ⟨by rfl, ?_⟩) ?_ ?_
          rotate_left
          · intro w'
            go_simp
            with_reducible rfl
          rotate_left
          · simp only [Act.put, List.setIfInBounds_toArray, List.set_cons_zero, List.set_cons_succ, i64_w, i32_w]
            rfl
          refine pure_ (i := 8) (N := some 33) (v := ?_) (a' := ?_) (bs 15 4095) rfl rfl (any_of HT_.out (by kernel_rfl)) (fun _ _ _ h => h) (Or.inl ⟨by rfl, ?_⟩) ?_ ?_
          rotate_left
          · intro w'
            go_simp
            with_reducible rfl
          rotate_left
          · simp only [Act.put, List.setIfInBounds_toArray, List.set_cons_zero, List.set_cons_succ, i64_w, i32_w]
            rfl
          exact norm_ (by simp only [putAll, Act.put, List.setIfInBounds_toArray, List.set_cons_zero, List.set_cons_succ]) (hCont (v422) _ ⟨(by (with_reducible repeat (first | apply Kd.R_alloc | apply Kd.R_drewN | apply Kd.R_drew)); exact HO423.out), (HB.out)⟩)
      · skip
        refine goes_ Tryd.func20 (by kernel_rfl) rfl #[.int .i64 (wrap64 (x11_1 + 1))] (by rfl) rfl rfl (by (try simp only [List.map_toArray, List.map_cons, List.map_nil]); first | done | rfl | (simp only [List.length_drop, List.length_take]; rfl)) ?_
        with_reducible refine (swingbridgeref7_Text.calls k1 (wrap64 (x11_1 + 1)) t424 _ A12.out).mono ?_
        rintro e w16 ⟨rfl, hb⟩
        refine ⟨_, rfl, ?_⟩
        have n0_ := Aside0.mk (below_step (HB.out) hb)
        clear HB
        have HB := n0_
        clear n0_
        (try clear hb)
        (try clear hb2)
        (try clear hk)
        (try clear hi)
        refine hK.out _ _ trivial (fun hHeld => ?_)
        clear hK K
        refine norm_ (a' := ?_) ?_ ?_
        rotate_left
        · show Act.put _ (some 36) _ = _
          simp only [Act.put, List.setIfInBounds_toArray, List.set_cons_zero, List.set_cons_succ, i64_w, i32_w]
          rfl
        refine one_ (i := 5) (N := some 30) (bs 15 3647) rfl rfl (one_of HT_.out (by kernel_rfl)) (by decide) (fun K hK => ?_)
        refine Kd.R_lit_step (Kd.int .u8) _ 5 ?hg (N := 30) ?hd (xs := ([(wrap64 (97 + x11_1)) % 256] : List Int)) (inner := [.int .u8 ((wrap64 (97 + x11_1)) % 256)]) (ok := fun _ => True) (okp := fun _ => True) ?hr ?hp (fun _ hk => hk) trivial (Below.refl _ _) (Nat.le_refl _) (by simp) ?_; (case hd => rfl); (case hg => rfl); (case hr => first | (go_simp; done) | (go_simp; rfl)); (case hp => exact (Reps.one (show Kd.M (Kd.int .u8) _ _ _ ((wrap64 (97 + x11_1)) % 256) [.int .u8 ((wrap64 (97 + x11_1)) % 256)] from rfl) (Reps.none _ _)))
        intro v422 w17 ho18 hb hg_ hnew_
        clear hg_ hnew_
        (first | rw [← Ny421.out] at ho18 | (simp only [Int.reduceToNat] at ho18; rw [← Ny421.out] at ho18))
        have n0_ := Aside0.mk (Kd.R_lower ho18 (below_size (HB.out)))
        have n1_ := Aside0.mk (below_step (HB.out) hb)
        clear HB
        have HO423 := n0_
        have HB := n1_
        clear n0_ n1_
        clear hb ho18
        refine hK.out _ _ trivial (fun hHeld => ?_)
        clear hK K
        refine norm_ (a' := ?_) ?_ ?_
        rotate_left
        · show Act.put _ (some 30) _ = _
          simp only [Act.put, List.setIfInBounds_toArray, List.set_cons_zero, List.set_cons_succ, i64_w, i32_w]
          rfl
        refine one_ (i := 6) (N := some 31) (bs 15 3711) rfl rfl (one_of HT_.out (by kernel_rfl)) (by decide) (fun K hK => ?_)
        have hcv19 := own_string (P := Tryd.prog) Tryd.underlying55 Tryd.underlying5 Tryd.underlying9 (Kd.own_of_R HO423.out)
        refine value_ (w1 := ?_) (v := ?_) (by rfl) rfl ?_ ?_
        rotate_left 2
        · go_simp
          constructor
          · rfl
          · rfl
        clear hcv19
        refine hK.out _ _ trivial (fun hHeld => ?_)
        clear hK K
        refine norm_ (a' := ?_) ?_ ?_
        rotate_left
        · show Act.put _ (some 31) _ = _
          simp only [Act.put, List.setIfInBounds_toArray, List.set_cons_zero, List.set_cons_succ, i64_w, i32_w]
          rfl
        refine pure_ (i := 7) (N := some 32) (v := ?_) (a' := ?_) (bs 15 3839) rfl rfl (any_of HT_.out (by kernel_rfl)) (fun _ _ _ h => h) (Or.inl ⟨by rfl, ?_⟩) ?_ ?_
        rotate_left
        · intro w'
          go_simp
          with_reducible rfl
        rotate_left
        · simp only [Act.put, List.setIfInBounds_toArray, List.set_cons_zero, List.set_cons_succ, i64_w, i32_w]
          rfl
        refine pure_ (i := 8) (N := some 33) (v := ?_) (a' := ?_) (bs 15 4095) rfl rfl (any_of HT_.out (by kernel_rfl)) (fun _ _ _ h => h) (Or.inl ⟨by rfl, ?_⟩) ?_ ?_
        rotate_left
        · intro w'
          go_simp
          with_reducible rfl
        rotate_left
        · simp only [Act.put, List.setIfInBounds_toArray, List.set_cons_zero, List.set_cons_succ, i64_w, i32_w]
          rfl
        exact norm_ (by simp only [putAll, Act.put, List.setIfInBounds_toArray, List.set_cons_zero, List.set_cons_succ]) (hCont (v422) _ ⟨(by (with_reducible repeat (first | apply Kd.R_alloc | apply Kd.R_drewN | apply Kd.R_drew)); exact HO423.out), (HB.out)⟩)
    rintro v422 w20 ⟨h0_, h1_⟩
    have n0_ : Aside0 (Kd.R (Kd.int .u8) 5 w20 w.heap.size (fun _ => True) v422 y421) := ⟨h0_⟩
    have n1_ : Aside0 (Below w.heap.size w w20) := ⟨h1_⟩
    clear HB
    clear h0_ h1_
    have HO423 := n0_
    have HB := n1_
    clear n0_ n1_
    have hHeld := trivial
    refine norm_ (a' := ?_) ?_ ?_
    rotate_left
    · simp only [putAll, Act.put, List.setIfInBounds_toArray, List.set_cons_zero, List.set_cons_succ]
      rfl
    refine pure_ (i := 12) (N := some 37) (v := ?_) (a' := ?_) (bs 15 8191) rfl rfl (any_of HT_.out (by kernel_rfl)) (fun _ _ _ h => h) (Or.inl ⟨by rfl, ?_⟩) ?_ ?_
    rotate_left
    · intro w'
      go_simp
      with_reducible rfl
    rotate_left
    · simp only [Act.put, List.setIfInBounds_toArray, List.set_cons_zero, List.set_cons_succ, i64_w, i32_w]
      rfl
    refine pure_ (i := 13) (N := some 38) (v := ?_) (a' := ?_) (bs 15 16383) rfl rfl (any_of HT_.out (by kernel_rfl)) (fun _ _ _ h => h) (Or.inl ⟨by rfl, ?_⟩) ?_ ?_
    rotate_left
    · intro w'
      go_simp
      with_reducible rfl
    rotate_left
    · simp only [Act.put, List.setIfInBounds_toArray, List.set_cons_zero, List.set_cons_succ, i64_w, i32_w]
      rfl
    refine pure_ (i := 14) (N := some 9) (v := ?_) (a' := ?_) (bs 15 32767) rfl rfl (any_of HT_.out (by kernel_rfl)) (fun _ _ _ h => h) (Or.inl ⟨by rfl, ?_⟩) ?_ ?_
    rotate_left
    · intro w'
      go_simp
      with_reducible rfl
    rotate_left
    · simp only [Act.put, List.setIfInBounds_toArray, List.set_cons_zero, List.set_cons_succ, i64_w, i32_w]
      rfl
    refine done_ (done_of HT_.out (by kernel_rfl)) ?_
    try go_wp2
    go_roundg k1
    case measure => have := HK1.out; omega
    case rel => exact ⟨(((((x9_1 ++ (⟨#[116, 97, 115, 107, 32]⟩ : ByteArray)) ++ (strOfNums y421)) ++ (⟨#[32, 53, 48, 32, 53, 48, 32]⟩ : ByteArray)) ++ t424) ++ (⟨#[32, 48, 32, 114, 117, 110, 58, 49, 10]⟩ : ByteArray)), (wrap64 (x11_1 + 1)), (by first | rfl | (simp; done) | (simp [*]; done)), (by first | rfl | (simp; done) | (simp [*]; done)), H', ⟨by have := HK1.out; omega⟩, ⟨HB.out⟩⟩
  rw [if_neg c8] at H
  have c8b0 : decide (x11_1 < (wrap64 (Int.tmod a2 5))) = false := decide_eq_false c8
  clear c8
  by_cases c21 : x9_1.size + 28 ≤ 9223372036854775807
  rotate_left
  · rw [if_neg c21] at H
    exact absurd H (by simp)
  rw [if_pos c21] at H
  have c21b0 := eq_true c21
  have c21b1 : decide (x9_1.size + 28 ≤ 9223372036854775807) = true := decide_eq_true c21
  try have c21b2 : (9223372036854775807 < x9_1.size + 28) = False := eq_false (Nat.not_lt.2 c21)
  replace H := Option.bind_eq_some_iff.mp H
  obtain ⟨t425, A220, H⟩ := H
  replace H : (if (x9_1 ++ (⟨#[116, 97, 115, 107, 32, 120, 32, 53, 48, 32, 53, 48, 32, 57, 32, 48, 32, 114, 117, 110, 58, 49, 32, 108, 111, 99, 107, 58]⟩ : ByteArray)).size + t425.size ≤ 9223372036854775807 then (if ((x9_1 ++ (⟨#[116, 97, 115, 107, 32, 120, 32, 53, 48, 32, 53, 48, 32, 57, 32, 48, 32, 114, 117, 110, 58, 49, 32, 108, 111, 99, 107, 58]⟩ : ByteArray)) ++ t425).size + 6 ≤ 9223372036854775807 then ((swingbridgeref7_Text.f k1 (wrap64 (Int.tmod a1 2))).bind fun t426 => (if (((x9_1 ++ (⟨#[116, 97, 115, 107, 32, 120, 32, 53, 48, 32, 53, 48, 32, 57, 32, 48, 32, 114, 117, 110, 58, 49, 32, 108, 111, 99, 107, 58]⟩ : ByteArray)) ++ t425) ++ (⟨#[58, 108, 111, 99, 107, 58]⟩ : ByteArray)).size + t426.size ≤ 9223372036854775807 then (if ((((x9_1 ++ (⟨#[116, 97, 115, 107, 32, 120, 32, 53, 48, 32, 53, 48, 32, 57, 32, 48, 32, 114, 117, 110, 58, 49, 32, 108, 111, 99, 107, 58]⟩ : ByteArray)) ++ t425) ++ (⟨#[58, 108, 111, 99, 107, 58]⟩ : ByteArray)) ++ t426).size + 2 ≤ 9223372036854775807 then (if a3 = true then (if (((((x9_1 ++ (⟨#[116, 97, 115, 107, 32, 120, 32, 53, 48, 32, 53, 48, 32, 57, 32, 48, 32, 114, 117, 110, 58, 49, 32, 108, 111, 99, 107, 58]⟩ : ByteArray)) ++ t425) ++ (⟨#[58, 108, 111, 99, 107, 58]⟩ : ByteArray)) ++ t426) ++ (⟨#[58, 51]⟩ : ByteArray)).size + 7 ≤ 9223372036854775807 then (if ((((((x9_1 ++ (⟨#[116, 97, 115, 107, 32, 120, 32, 53, 48, 32, 53, 48, 32, 57, 32, 48, 32, 114, 117, 110, 58, 49, 32, 108, 111, 99, 107, 58]⟩ : ByteArray)) ++ t425) ++ (⟨#[58, 108, 111, 99, 107, 58]⟩ : ByteArray)) ++ t426) ++ (⟨#[58, 51]⟩ : ByteArray)) ++ (⟨#[32, 119, 97, 108, 107, 58, 55]⟩ : ByteArray)).size + 1 ≤ 9223372036854775807 then ((text_Parse.f k1 (((((((x9_1 ++ (⟨#[116, 97, 115, 107, 32, 120, 32, 53, 48, 32, 53, 48, 32, 57, 32, 48, 32, 114, 117, 110, 58, 49, 32, 108, 111, 99, 107, 58]⟩ : ByteArray)) ++ t425) ++ (⟨#[58, 108, 111, 99, 107, 58]⟩ : ByteArray)) ++ t426) ++ (⟨#[58, 51]⟩ : ByteArray)) ++ (⟨#[32, 119, 97, 108, 107, 58, 55]⟩ : ByteArray)) ++ (⟨#[10]⟩ : ByteArray))).bind fun bt427 => (if bt427.2.2.2.2.2 = 18 then (some (bt427.2.2.2.2.1 == (wrap64 (3 + (wrap64 (Int.tmod a2 5)))))) else (some false))) else (none)) else (none)) else (if (((((x9_1 ++ (⟨#[116, 97, 115, 107, 32, 120, 32, 53, 48, 32, 53, 48, 32, 57, 32, 48, 32, 114, 117, 110, 58, 49, 32, 108, 111, 99, 107, 58]⟩ : ByteArray)) ++ t425) ++ (⟨#[58, 108, 111, 99, 107, 58]⟩ : ByteArray)) ++ t426) ++ (⟨#[58, 51]⟩ : ByteArray)).size + 1 ≤ 9223372036854775807 then ((text_Parse.f k1 ((((((x9_1 ++ (⟨#[116, 97, 115, 107, 32, 120, 32, 53, 48, 32, 53, 48, 32, 57, 32, 48, 32, 114, 117, 110, 58, 49, 32, 108, 111, 99, 107, 58]⟩ : ByteArray)) ++ t425) ++ (⟨#[58, 108, 111, 99, 107, 58]⟩ : ByteArray)) ++ t426) ++ (⟨#[58, 51]⟩ : ByteArray)) ++ (⟨#[10]⟩ : ByteArray))).bind fun bt440 => (if bt440.2.2.2.2.2 = 18 then (some (bt440.2.2.2.2.1 == (wrap64 (3 + (wrap64 (Int.tmod a2 5)))))) else (some false))) else (none))) else (none)) else (none))) else (none)) else (none)) = some r := H
  have A22 := Aside0.mk A220
  clear A220
  by_cases c23 : (x9_1 ++ (⟨#[116, 97, 115, 107, 32, 120, 32, 53, 48, 32, 53, 48, 32, 57, 32, 48, 32, 114, 117, 110, 58, 49, 32, 108, 111, 99, 107, 58]⟩ : ByteArray)).size + t425.size ≤ 9223372036854775807
  rotate_left
  · rw [if_neg c23] at H
    exact absurd H (by simp)
  rw [if_pos c23] at H
  have c23b0 := eq_true c23
  have c23b1 : decide ((x9_1 ++ (⟨#[116, 97, 115, 107, 32, 120, 32, 53, 48, 32, 53, 48, 32, 57, 32, 48, 32, 114, 117, 110, 58, 49, 32, 108, 111, 99, 107, 58]⟩ : ByteArray)).size + t425.size ≤ 9223372036854775807) = true := decide_eq_true c23
  try have c23b2 : (9223372036854775807 < (x9_1 ++ (⟨#[116, 97, 115, 107, 32, 120, 32, 53, 48, 32, 53, 48, 32, 57, 32, 48, 32, 114, 117, 110, 58, 49, 32, 108, 111, 99, 107, 58]⟩ : ByteArray)).size + t425.size) = False := eq_false (Nat.not_lt.2 c23)
  try (have c23b3 := c23b2; (repeat rw [ByteArray.size_append] at c23b3); (try rw [show (⟨#[116, 97, 115, 107, 32, 120, 32, 53, 48, 32, 53, 48, 32, 57, 32, 48, 32, 114, 117, 110, 58, 49, 32, 108, 111, 99, 107, 58]⟩ : ByteArray).size = 28 from rfl] at c23b3))
  by_cases c24 : ((x9_1 ++ (⟨#[116, 97, 115, 107, 32, 120, 32, 53, 48, 32, 53, 48, 32, 57, 32, 48, 32, 114, 117, 110, 58, 49, 32, 108, 111, 99, 107, 58]⟩ : ByteArray)) ++ t425).size + 6 ≤ 9223372036854775807
  rotate_left
  · rw [if_neg c24] at H
    exact absurd H (by simp)
  rw [if_pos c24] at H
  have c24b0 := eq_true c24
  have c24b1 : decide (((x9_1 ++ (⟨#[116, 97, 115, 107, 32, 120, 32, 53, 48, 32, 53, 48, 32, 57, 32, 48, 32, 114, 117, 110, 58, 49, 32, 108, 111, 99, 107, 58]⟩ : ByteArray)) ++ t425).size + 6 ≤ 9223372036854775807) = true := decide_eq_true c24
  try have c24b2 : (9223372036854775807 < ((x9_1 ++ (⟨#[116, 97, 115, 107, 32, 120, 32, 53, 48, 32, 53, 48, 32, 57, 32, 48, 32, 114, 117, 110, 58, 49, 32, 108, 111, 99, 107, 58]⟩ : ByteArray)) ++ t425).size + 6) = False := eq_false (Nat.not_lt.2 c24)
  try (have c24b3 := c24b2; (repeat rw [ByteArray.size_append] at c24b3); (try rw [show (⟨#[116, 97, 115, 107, 32, 120, 32, 53, 48, 32, 53, 48, 32, 57, 32, 48, 32, 114, 117, 110, 58, 49, 32, 108, 111, 99, 107, 58]⟩ : ByteArray).size = 28 from rfl] at c24b3))
  replace H := Option.bind_eq_some_iff.mp H
  obtain ⟨t426, A250, H⟩ := H
  replace H : (if (((x9_1 ++ (⟨#[116, 97, 115, 107, 32, 120, 32, 53, 48, 32, 53, 48, 32, 57, 32, 48, 32, 114, 117, 110, 58, 49, 32, 108, 111, 99, 107, 58]⟩ : ByteArray)) ++ t425) ++ (⟨#[58, 108, 111, 99, 107, 58]⟩ : ByteArray)).size + t426.size ≤ 9223372036854775807 then (if ((((x9_1 ++ (⟨#[116, 97, 115, 107, 32, 120, 32, 53, 48, 32, 53, 48, 32, 57, 32, 48, 32, 114, 117, 110, 58, 49, 32, 108, 111, 99, 107, 58]⟩ : ByteArray)) ++ t425) ++ (⟨#[58, 108, 111, 99, 107, 58]⟩ : ByteArray)) ++ t426).size + 2 ≤ 9223372036854775807 then (if a3 = true then (if (((((x9_1 ++ (⟨#[116, 97, 115, 107, 32, 120, 32, 53, 48, 32, 53, 48, 32, 57, 32, 48, 32, 114, 117, 110, 58, 49, 32, 108, 111, 99, 107, 58]⟩ : ByteArray)) ++ t425) ++ (⟨#[58, 108, 111, 99, 107, 58]⟩ : ByteArray)) ++ t426) ++ (⟨#[58, 51]⟩ : ByteArray)).size + 7 ≤ 9223372036854775807 then (if ((((((x9_1 ++ (⟨#[116, 97, 115, 107, 32, 120, 32, 53, 48, 32, 53, 48, 32, 57, 32, 48, 32, 114, 117, 110, 58, 49, 32, 108, 111, 99, 107, 58]⟩ : ByteArray)) ++ t425) ++ (⟨#[58, 108, 111, 99, 107, 58]⟩ : ByteArray)) ++ t426) ++ (⟨#[58, 51]⟩ : ByteArray)) ++ (⟨#[32, 119, 97, 108, 107, 58, 55]⟩ : ByteArray)).size + 1 ≤ 9223372036854775807 then ((text_Parse.f k1 (((((((x9_1 ++ (⟨#[116, 97, 115, 107, 32, 120, 32, 53, 48, 32, 53, 48, 32, 57, 32, 48, 32, 114, 117, 110, 58, 49, 32, 108, 111, 99, 107, 58]⟩ : ByteArray)) ++ t425) ++ (⟨#[58, 108, 111, 99, 107, 58]⟩ : ByteArray)) ++ t426) ++ (⟨#[58, 51]⟩ : ByteArray)) ++ (⟨#[32, 119, 97, 108, 107, 58, 55]⟩ : ByteArray)) ++ (⟨#[10]⟩ : ByteArray))).bind fun bt427 => (if bt427.2.2.2.2.2 = 18 then (some (bt427.2.2.2.2.1 == (wrap64 (3 + (wrap64 (Int.tmod a2 5)))))) else (some false))) else (none)) else (none)) else (if (((((x9_1 ++ (⟨#[116, 97, 115, 107, 32, 120, 32, 53, 48, 32, 53, 48, 32, 57, 32, 48, 32, 114, 117, 110, 58, 49, 32, 108, 111, 99, 107, 58]⟩ : ByteArray)) ++ t425) ++ (⟨#[58, 108, 111, 99, 107, 58]⟩ : ByteArray)) ++ t426) ++ (⟨#[58, 51]⟩ : ByteArray)).size + 1 ≤ 9223372036854775807 then ((text_Parse.f k1 ((((((x9_1 ++ (⟨#[116, 97, 115, 107, 32, 120, 32, 53, 48, 32, 53, 48, 32, 57, 32, 48, 32, 114, 117, 110, 58, 49, 32, 108, 111, 99, 107, 58]⟩ : ByteArray)) ++ t425) ++ (⟨#[58, 108, 111, 99, 107, 58]⟩ : ByteArray)) ++ t426) ++ (⟨#[58, 51]⟩ : ByteArray)) ++ (⟨#[10]⟩ : ByteArray))).bind fun bt440 => (if bt440.2.2.2.2.2 = 18 then (some (bt440.2.2.2.2.1 == (wrap64 (3 + (wrap64 (Int.tmod a2 5)))))) else (some false))) else (none))) else (none)) else (none)) = some r := H
  have A25 := Aside0.mk A250
  clear A250
  by_cases c26 : (((x9_1 ++ (⟨#[116, 97, 115, 107, 32, 120, 32, 53, 48, 32, 53, 48, 32, 57, 32, 48, 32, 114, 117, 110, 58, 49, 32, 108, 111, 99, 107, 58]⟩ : ByteArray)) ++ t425) ++ (⟨#[58, 108, 111, 99, 107, 58]⟩ : ByteArray)).size + t426.size ≤ 9223372036854775807
  rotate_left
  · rw [if_neg c26] at H
    exact absurd H (by simp)
  rw [if_pos c26] at H
  have c26b0 := eq_true c26
  have c26b1 : decide ((((x9_1 ++ (⟨#[116, 97, 115, 107, 32, 120, 32, 53, 48, 32, 53, 48, 32, 57, 32, 48, 32, 114, 117, 110, 58, 49, 32, 108, 111, 99, 107, 58]⟩ : ByteArray)) ++ t425) ++ (⟨#[58, 108, 111, 99, 107, 58]⟩ : ByteArray)).size + t426.size ≤ 9223372036854775807) = true := decide_eq_true c26
  try have c26b2 : (9223372036854775807 < (((x9_1 ++ (⟨#[116, 97, 115, 107, 32, 120, 32, 53, 48, 32, 53, 48, 32, 57, 32, 48, 32, 114, 117, 110, 58, 49, 32, 108, 111, 99, 107, 58]⟩ : ByteArray)) ++ t425) ++ (⟨#[58, 108, 111, 99, 107, 58]⟩ : ByteArray)).size + t426.size) = False := eq_false (Nat.not_lt.2 c26)
  try (have c26b3 := c26b2; (repeat rw [ByteArray.size_append] at c26b3); (try rw [show (⟨#[116, 97, 115, 107, 32, 120, 32, 53, 48, 32, 53, 48, 32, 57, 32, 48, 32, 114, 117, 110, 58, 49, 32, 108, 111, 99, 107, 58]⟩ : ByteArray).size = 28 from rfl] at c26b3); (try rw [show (⟨#[58, 108, 111, 99, 107, 58]⟩ : ByteArray).size = 6 from rfl] at c26b3))
  by_cases c27 : ((((x9_1 ++ (⟨#[116, 97, 115, 107, 32, 120, 32, 53, 48, 32, 53, 48, 32, 57, 32, 48, 32, 114, 117, 110, 58, 49, 32, 108, 111, 99, 107, 58]⟩ : ByteArray)) ++ t425) ++ (⟨#[58, 108, 111, 99, 107, 58]⟩ : ByteArray)) ++ t426).size + 2 ≤ 9223372036854775807
  rotate_left
  · rw [if_neg c27] at H
    exact absurd H (by simp)
  rw [if_pos c27] at H
  have c27b0 := eq_true c27
  have c27b1 : decide (((((x9_1 ++ (⟨#[116, 97, 115, 107, 32, 120, 32, 53, 48, 32, 53, 48, 32, 57, 32, 48, 32, 114, 117, 110, 58, 49, 32, 108, 111, 99, 107, 58]⟩ : ByteArray)) ++ t425) ++ (⟨#[58, 108, 111, 99, 107, 58]⟩ : ByteArray)) ++ t426).size + 2 ≤ 9223372036854775807) = true := decide_eq_true c27
  try have c27b2 : (9223372036854775807 < ((((x9_1 ++ (⟨#[116, 97, 115, 107, 32, 120, 32, 53, 48, 32, 53, 48, 32, 57, 32, 48, 32, 114, 117, 110, 58, 49, 32, 108, 111, 99, 107, 58]⟩ : ByteArray)) ++ t425) ++ (⟨#[58, 108, 111, 99, 107, 58]⟩ : ByteArray)) ++ t426).size + 2) = False := eq_false (Nat.not_lt.2 c27)
  try (have c27b3 := c27b2; (repeat rw [ByteArray.size_append] at c27b3); (try rw [show (⟨#[116, 97, 115, 107, 32, 120, 32, 53, 48, 32, 53, 48, 32, 57, 32, 48, 32, 114, 117, 110, 58, 49, 32, 108, 111, 99, 107, 58]⟩ : ByteArray).size = 28 from rfl] at c27b3); (try rw [show (⟨#[58, 108, 111, 99, 107, 58]⟩ : ByteArray).size = 6 from rfl] at c27b3))
  by_cases c28 : a3 = true
  rotate_left
  · replace c28 := Bool.eq_false_iff.mpr c28
    subst c28
    have H1 : (if (((((x9_1 ++ (⟨#[116, 97, 115, 107, 32, 120, 32, 53, 48, 32, 53, 48, 32, 57, 32, 48, 32, 114, 117, 110, 58, 49, 32, 108, 111, 99, 107, 58]⟩ : ByteArray)) ++ t425) ++ (⟨#[58, 108, 111, 99, 107, 58]⟩ : ByteArray)) ++ t426) ++ (⟨#[58, 51]⟩ : ByteArray)).size + 1 ≤ 9223372036854775807 then ((text_Parse.f k1 ((((((x9_1 ++ (⟨#[116, 97, 115, 107, 32, 120, 32, 53, 48, 32, 53, 48, 32, 57, 32, 48, 32, 114, 117, 110, 58, 49, 32, 108, 111, 99, 107, 58]⟩ : ByteArray)) ++ t425) ++ (⟨#[58, 108, 111, 99, 107, 58]⟩ : ByteArray)) ++ t426) ++ (⟨#[58, 51]⟩ : ByteArray)) ++ (⟨#[10]⟩ : ByteArray))).bind fun bt440 => (if bt440.2.2.2.2.2 = 18 then (some (bt440.2.2.2.2.1 == (wrap64 (3 + (wrap64 (Int.tmod a2 5)))))) else (some false))) else (none)) = some r := by rw [if_neg (show ¬ (false = true) by decide)] at H; exact H
    clear H
    have H := H1
    clear H1
    by_cases c29 : (((((x9_1 ++ (⟨#[116, 97, 115, 107, 32, 120, 32, 53, 48, 32, 53, 48, 32, 57, 32, 48, 32, 114, 117, 110, 58, 49, 32, 108, 111, 99, 107, 58]⟩ : ByteArray)) ++ t425) ++ (⟨#[58, 108, 111, 99, 107, 58]⟩ : ByteArray)) ++ t426) ++ (⟨#[58, 51]⟩ : ByteArray)).size + 1 ≤ 9223372036854775807
    rotate_left
    · rw [if_neg c29] at H
      exact absurd H (by simp)
    rw [if_pos c29] at H
    have c29b0 := eq_true c29
    have c29b1 : decide ((((((x9_1 ++ (⟨#[116, 97, 115, 107, 32, 120, 32, 53, 48, 32, 53, 48, 32, 57, 32, 48, 32, 114, 117, 110, 58, 49, 32, 108, 111, 99, 107, 58]⟩ : ByteArray)) ++ t425) ++ (⟨#[58, 108, 111, 99, 107, 58]⟩ : ByteArray)) ++ t426) ++ (⟨#[58, 51]⟩ : ByteArray)).size + 1 ≤ 9223372036854775807) = true := decide_eq_true c29
    try have c29b2 : (9223372036854775807 < (((((x9_1 ++ (⟨#[116, 97, 115, 107, 32, 120, 32, 53, 48, 32, 53, 48, 32, 57, 32, 48, 32, 114, 117, 110, 58, 49, 32, 108, 111, 99, 107, 58]⟩ : ByteArray)) ++ t425) ++ (⟨#[58, 108, 111, 99, 107, 58]⟩ : ByteArray)) ++ t426) ++ (⟨#[58, 51]⟩ : ByteArray)).size + 1) = False := eq_false (Nat.not_lt.2 c29)
    try (have c29b3 := c29b2; (repeat rw [ByteArray.size_append] at c29b3); (try rw [show (⟨#[116, 97, 115, 107, 32, 120, 32, 53, 48, 32, 53, 48, 32, 57, 32, 48, 32, 114, 117, 110, 58, 49, 32, 108, 111, 99, 107, 58]⟩ : ByteArray).size = 28 from rfl] at c29b3); (try rw [show (⟨#[58, 108, 111, 99, 107, 58]⟩ : ByteArray).size = 6 from rfl] at c29b3); (try rw [show (⟨#[58, 51]⟩ : ByteArray).size = 2 from rfl] at c29b3))
    replace H := Option.bind_eq_some_iff.mp H
    obtain ⟨⟨t440, t441, t444, t447, t450, t451⟩, A300, H⟩ := H
    replace H : (if t451 = 18 then (some (t450 == (wrap64 (3 + (wrap64 (Int.tmod a2 5)))))) else (some false)) = some r := H
    have A30 := Aside0.mk A300
    clear A300
    by_cases c31 : t451 = 18
    rotate_left
    · rw [if_neg c31] at H
      have c31b0 : (t451 == 18) = false := beq_eq_false_iff_ne.mpr c31
      have c31b1 : (t451 != 18) = true := bne_iff_ne.mpr c31
      exact absurd ((Option.some.inj H).trans hT_.out) (by simp)
    rw [if_pos c31] at H
    have c31b0 : (t451 == 18) = true := beq_iff_eq.mpr c31
    have c31b1 : (t451 != 18) = false := bne_eq_false_iff_eq.mpr c31
    clear c31
    obtain rfl := Option.some.inj H
    go_wp2_with (first | ((with_reducible refine gate_callee (f := 20) rfl ?_); refine goesL_ (some 44) rfl rfl Tryd.func20 (by kernel_rfl) rfl #[.int .i64 (wrap64 (Int.tmod a0 2))] rfl (by (try simp only [List.map_toArray, List.map_cons, List.map_nil]); first | done | rfl | (simp only [List.length_drop, List.length_take]; rfl)) ?_; (with_reducible refine (swingbridgeref7_Text.calls k1 (wrap64 (Int.tmod a0 2)) t425 _ A22.out).mono ?_); rintro e w32 ⟨rfl, hb⟩; refine ⟨_, rfl, ?_⟩; have n0_ := Aside0.mk (below_step (HB.out) hb); clear HB; have HB := n0_; clear n0_; (try clear hb); (try clear hb2); (try clear hk); (try clear hi)) | ((with_reducible refine gate_callee (f := 20) rfl ?_); refine goesL_ (some 50) rfl rfl Tryd.func20 (by kernel_rfl) rfl #[.int .i64 (wrap64 (Int.tmod a1 2))] rfl (by (try simp only [List.map_toArray, List.map_cons, List.map_nil]); first | done | rfl | (simp only [List.length_drop, List.length_take]; rfl)) ?_; (with_reducible refine (swingbridgeref7_Text.calls k1 (wrap64 (Int.tmod a1 2)) t426 _ A25.out).mono ?_); rintro e w33 ⟨rfl, hb⟩; refine ⟨_, rfl, ?_⟩; have n0_ := Aside0.mk (below_step (HB.out) hb); clear HB; have HB := n0_; clear n0_; (try clear hb); (try clear hb2); (try clear hk); (try clear hi)) | ((with_reducible refine gate_callee (f := 25) rfl ?_); refine goesL_ (some 59) rfl rfl Tryd.func25 (by kernel_rfl) rfl #[.string ((((((x9_1 ++ (⟨#[116, 97, 115, 107, 32, 120, 32, 53, 48, 32, 53, 48, 32, 57, 32, 48, 32, 114, 117, 110, 58, 49, 32, 108, 111, 99, 107, 58]⟩ : ByteArray)) ++ t425) ++ (⟨#[58, 108, 111, 99, 107, 58]⟩ : ByteArray)) ++ t426) ++ (⟨#[58, 51]⟩ : ByteArray)) ++ (⟨#[10]⟩ : ByteArray))] rfl (by (try simp only [List.map_toArray, List.map_cons, List.map_nil]); first | done | rfl | (simp only [List.length_drop, List.length_take]; rfl)) ?_; (with_reducible refine (text_Parse.calls k1 ((((((x9_1 ++ (⟨#[116, 97, 115, 107, 32, 120, 32, 53, 48, 32, 53, 48, 32, 57, 32, 48, 32, 114, 117, 110, 58, 49, 32, 108, 111, 99, 107, 58]⟩ : ByteArray)) ++ t425) ++ (⟨#[58, 108, 111, 99, 107, 58]⟩ : ByteArray)) ++ t426) ++ (⟨#[58, 51]⟩ : ByteArray)) ++ (⟨#[10]⟩ : ByteArray)) t440 t441 t444 t447 t450 t451 _ ?side1 A30.out).mono ?_); (case side1 => first | exact Glob.below HG.out (HB.out) | (repeat (first | exact Glob.below HG.out HB.out | (with_reducible refine Glob.alloc ?_ _) | (with_reducible refine Glob.drewN ?_ _) | (with_reducible refine Glob.drew ?_)))); rintro e w34 ⟨v442, v445, v448, rfl, ho0, ho1, ho2, hb⟩; refine ⟨_, rfl, ?_⟩; have n0_ := Aside0.mk (Kd.R_lower ho0 (below_size (HB.out))); have n1_ := Aside0.mk (Kd.R_lower ho1 (below_size (HB.out))); have n2_ := Aside0.mk (Kd.S_lower ho2 (below_size (HB.out))); have n3_ := Aside0.mk (below_step (HB.out) hb); clear HB; have HO443 := n0_; have HO446 := n1_; have HO449 := n2_; have HB := n3_; clear n0_ n1_ n2_ n3_; (try clear hb); (try clear hb2); (try clear hk); (try clear hi); (try clear ho0); (try clear ho1); (try clear ho2)) | ((with_reducible refine gate_dst (N := 12) rfl ?_); refine box_event ?hg (N := 12) ?hd (cs := #[.int .i64 0, .slice none 0 0, .slice none 0 0, .slice none 0 0]) (t := 37) ?hr ?_; (case hd => rfl); (case hg => rfl); (case hr => first | (go_simp; done) | (go_simp; rfl)); intro gb452 hg w35 hbox hb; have n0_ := Aside0.mk (Kd.R_below (by (with_reducible repeat (first | apply Kd.R_alloc | apply Kd.R_drewN | apply Kd.R_drew)); exact HO443.out) hb); have n1_ := Aside0.mk (Kd.R_below (by (with_reducible repeat (first | apply Kd.R_alloc | apply Kd.R_drewN | apply Kd.R_drew)); exact HO446.out) hb); have n2_ := Aside0.mk (Kd.S_below (by (with_reducible repeat (first | apply Kd.S_alloc | apply Kd.S_drewN | apply Kd.S_drew)); exact HO449.out) hb); have n3_ := Aside0.mk (below_step (HB.out) hb); have n4_ := Aside0.mk (hbox); have n5_ := Aside0.mk ((by rw [hg]; exact (below_size (HB.out)) : w.heap.size ≤ gb452)); have n6_ := n5_; clear HO443; clear HO446; clear HO449; clear HB; have HO443 := n0_; have HO446 := n1_; have HO449 := n2_; have HB := n3_; have BK452 := n4_; have GW452 := n5_; have GE452 := n6_; clear n0_ n1_ n2_ n3_ n4_ n5_ n6_; clear hb hbox hg; have hcz36_0 : w35.cell? ⟨gb452, 0, none⟩ = some (.int .i64 0) := (blk_cell BK452.out 0).trans rfl; have hcz36_1 : w35.cell? ⟨gb452, 1, none⟩ = some (.slice none 0 0) := (blk_cell BK452.out 1).trans rfl; have hcz36_2 : w35.cell? ⟨gb452, 2, none⟩ = some (.slice none 0 0) := (blk_cell BK452.out 2).trans rfl; have hcz36_3 : w35.cell? ⟨gb452, 3, none⟩ = some (.slice none 0 0) := (blk_cell BK452.out 3).trans rfl; have hfz36_0 := blk_frozen BK452.out 0; have hfz36_1 := blk_frozen BK452.out 1; have hfz36_2 := blk_frozen BK452.out 2; have hfz36_3 := blk_frozen BK452.out 3; obtain ⟨Ao37, co37, eo37⟩ := Kd.R_slice HO443.out; subst eo37; obtain ⟨Ao38, co38, eo38⟩ := Kd.R_slice HO446.out; subst eo38; obtain ⟨Ao39, co39, eo39⟩ := Kd.S_slice HO449.out; subst eo39))
    go_ret
    exact ⟨by first | rfl | (simp [errW_none, errW_some] <;> rfl) | (simp [*, errW_none, errW_some] <;> rfl), by repeat (first | (with_reducible first | exact HB.out | apply below_alloc | apply pw_below_drewN | apply below_drew1 | refine below_set ?_ GE452.out) | exact HB.out)⟩
  subst c28
  have H1 : (if (((((x9_1 ++ (⟨#[116, 97, 115, 107, 32, 120, 32, 53, 48, 32, 53, 48, 32, 57, 32, 48, 32, 114, 117, 110, 58, 49, 32, 108, 111, 99, 107, 58]⟩ : ByteArray)) ++ t425) ++ (⟨#[58, 108, 111, 99, 107, 58]⟩ : ByteArray)) ++ t426) ++ (⟨#[58, 51]⟩ : ByteArray)).size + 7 ≤ 9223372036854775807 then (if ((((((x9_1 ++ (⟨#[116, 97, 115, 107, 32, 120, 32, 53, 48, 32, 53, 48, 32, 57, 32, 48, 32, 114, 117, 110, 58, 49, 32, 108, 111, 99, 107, 58]⟩ : ByteArray)) ++ t425) ++ (⟨#[58, 108, 111, 99, 107, 58]⟩ : ByteArray)) ++ t426) ++ (⟨#[58, 51]⟩ : ByteArray)) ++ (⟨#[32, 119, 97, 108, 107, 58, 55]⟩ : ByteArray)).size + 1 ≤ 9223372036854775807 then ((text_Parse.f k1 (((((((x9_1 ++ (⟨#[116, 97, 115, 107, 32, 120, 32, 53, 48, 32, 53, 48, 32, 57, 32, 48, 32, 114, 117, 110, 58, 49, 32, 108, 111, 99, 107, 58]⟩ : ByteArray)) ++ t425) ++ (⟨#[58, 108, 111, 99, 107, 58]⟩ : ByteArray)) ++ t426) ++ (⟨#[58, 51]⟩ : ByteArray)) ++ (⟨#[32, 119, 97, 108, 107, 58, 55]⟩ : ByteArray)) ++ (⟨#[10]⟩ : ByteArray))).bind fun bt427 => (if bt427.2.2.2.2.2 = 18 then (some (bt427.2.2.2.2.1 == (wrap64 (3 + (wrap64 (Int.tmod a2 5)))))) else (some false))) else (none)) else (none)) = some r := by rw [if_pos rfl] at H; exact H
  clear H
  have H := H1
  clear H1
  by_cases c40 : (((((x9_1 ++ (⟨#[116, 97, 115, 107, 32, 120, 32, 53, 48, 32, 53, 48, 32, 57, 32, 48, 32, 114, 117, 110, 58, 49, 32, 108, 111, 99, 107, 58]⟩ : ByteArray)) ++ t425) ++ (⟨#[58, 108, 111, 99, 107, 58]⟩ : ByteArray)) ++ t426) ++ (⟨#[58, 51]⟩ : ByteArray)).size + 7 ≤ 9223372036854775807
  rotate_left
  · rw [if_neg c40] at H
    exact absurd H (by simp)
  rw [if_pos c40] at H
  have c40b0 := eq_true c40
  have c40b1 : decide ((((((x9_1 ++ (⟨#[116, 97, 115, 107, 32, 120, 32, 53, 48, 32, 53, 48, 32, 57, 32, 48, 32, 114, 117, 110, 58, 49, 32, 108, 111, 99, 107, 58]⟩ : ByteArray)) ++ t425) ++ (⟨#[58, 108, 111, 99, 107, 58]⟩ : ByteArray)) ++ t426) ++ (⟨#[58, 51]⟩ : ByteArray)).size + 7 ≤ 9223372036854775807) = true := decide_eq_true c40
  try have c40b2 : (9223372036854775807 < (((((x9_1 ++ (⟨#[116, 97, 115, 107, 32, 120, 32, 53, 48, 32, 53, 48, 32, 57, 32, 48, 32, 114, 117, 110, 58, 49, 32, 108, 111, 99, 107, 58]⟩ : ByteArray)) ++ t425) ++ (⟨#[58, 108, 111, 99, 107, 58]⟩ : ByteArray)) ++ t426) ++ (⟨#[58, 51]⟩ : ByteArray)).size + 7) = False := eq_false (Nat.not_lt.2 c40)
  try (have c40b3 := c40b2; (repeat rw [ByteArray.size_append] at c40b3); (try rw [show (⟨#[116, 97, 115, 107, 32, 120, 32, 53, 48, 32, 53, 48, 32, 57, 32, 48, 32, 114, 117, 110, 58, 49, 32, 108, 111, 99, 107, 58]⟩ : ByteArray).size = 28 from rfl] at c40b3); (try rw [show (⟨#[58, 108, 111, 99, 107, 58]⟩ : ByteArray).size = 6 from rfl] at c40b3); (try rw [show (⟨#[58, 51]⟩ : ByteArray).size = 2 from rfl] at c40b3))
  by_cases c41 : ((((((x9_1 ++ (⟨#[116, 97, 115, 107, 32, 120, 32, 53, 48, 32, 53, 48, 32, 57, 32, 48, 32, 114, 117, 110, 58, 49, 32, 108, 111, 99, 107, 58]⟩ : ByteArray)) ++ t425) ++ (⟨#[58, 108, 111, 99, 107, 58]⟩ : ByteArray)) ++ t426) ++ (⟨#[58, 51]⟩ : ByteArray)) ++ (⟨#[32, 119, 97, 108, 107, 58, 55]⟩ : ByteArray)).size + 1 ≤ 9223372036854775807
  rotate_left
  · rw [if_neg c41] at H
    exact absurd H (by simp)
  rw [if_pos c41] at H
  have c41b0 := eq_true c41
  have c41b1 : decide (((((((x9_1 ++ (⟨#[116, 97, 115, 107, 32, 120, 32, 53, 48, 32, 53, 48, 32, 57, 32, 48, 32, 114, 117, 110, 58, 49, 32, 108, 111, 99, 107, 58]⟩ : ByteArray)) ++ t425) ++ (⟨#[58, 108, 111, 99, 107, 58]⟩ : ByteArray)) ++ t426) ++ (⟨#[58, 51]⟩ : ByteArray)) ++ (⟨#[32, 119, 97, 108, 107, 58, 55]⟩ : ByteArray)).size + 1 ≤ 9223372036854775807) = true := decide_eq_true c41
  try have c41b2 : (9223372036854775807 < ((((((x9_1 ++ (⟨#[116, 97, 115, 107, 32, 120, 32, 53, 48, 32, 53, 48, 32, 57, 32, 48, 32, 114, 117, 110, 58, 49, 32, 108, 111, 99, 107, 58]⟩ : ByteArray)) ++ t425) ++ (⟨#[58, 108, 111, 99, 107, 58]⟩ : ByteArray)) ++ t426) ++ (⟨#[58, 51]⟩ : ByteArray)) ++ (⟨#[32, 119, 97, 108, 107, 58, 55]⟩ : ByteArray)).size + 1) = False := eq_false (Nat.not_lt.2 c41)
  try (have c41b3 := c41b2; (repeat rw [ByteArray.size_append] at c41b3); (try rw [show (⟨#[116, 97, 115, 107, 32, 120, 32, 53, 48, 32, 53, 48, 32, 57, 32, 48, 32, 114, 117, 110, 58, 49, 32, 108, 111, 99, 107, 58]⟩ : ByteArray).size = 28 from rfl] at c41b3); (try rw [show (⟨#[58, 108, 111, 99, 107, 58]⟩ : ByteArray).size = 6 from rfl] at c41b3); (try rw [show (⟨#[58, 51]⟩ : ByteArray).size = 2 from rfl] at c41b3); (try rw [show (⟨#[32, 119, 97, 108, 107, 58, 55]⟩ : ByteArray).size = 7 from rfl] at c41b3))
  replace H := Option.bind_eq_some_iff.mp H
  obtain ⟨⟨t427, t428, t431, t434, t437, t438⟩, A420, H⟩ := H
  replace H : (if t438 = 18 then (some (t437 == (wrap64 (3 + (wrap64 (Int.tmod a2 5)))))) else (some false)) = some r := H
  have A42 := Aside0.mk A420
  clear A420
  by_cases c43 : t438 = 18
  rotate_left
  · rw [if_neg c43] at H
    have c43b0 : (t438 == 18) = false := beq_eq_false_iff_ne.mpr c43
    have c43b1 : (t438 != 18) = true := bne_iff_ne.mpr c43
    exact absurd ((Option.some.inj H).trans hT_.out) (by simp)
  rw [if_pos c43] at H
  have c43b0 : (t438 == 18) = true := beq_iff_eq.mpr c43
  have c43b1 : (t438 != 18) = false := bne_eq_false_iff_eq.mpr c43
  clear c43
  obtain rfl := Option.some.inj H
  go_wp2_with (first | ((with_reducible refine gate_callee (f := 20) rfl ?_); refine goesL_ (some 44) rfl rfl Tryd.func20 (by kernel_rfl) rfl #[.int .i64 (wrap64 (Int.tmod a0 2))] rfl (by (try simp only [List.map_toArray, List.map_cons, List.map_nil]); first | done | rfl | (simp only [List.length_drop, List.length_take]; rfl)) ?_; (with_reducible refine (swingbridgeref7_Text.calls k1 (wrap64 (Int.tmod a0 2)) t425 _ A22.out).mono ?_); rintro e w44 ⟨rfl, hb⟩; refine ⟨_, rfl, ?_⟩; have n0_ := Aside0.mk (below_step (HB.out) hb); clear HB; have HB := n0_; clear n0_; (try clear hb); (try clear hb2); (try clear hk); (try clear hi)) | ((with_reducible refine gate_callee (f := 20) rfl ?_); refine goesL_ (some 50) rfl rfl Tryd.func20 (by kernel_rfl) rfl #[.int .i64 (wrap64 (Int.tmod a1 2))] rfl (by (try simp only [List.map_toArray, List.map_cons, List.map_nil]); first | done | rfl | (simp only [List.length_drop, List.length_take]; rfl)) ?_; (with_reducible refine (swingbridgeref7_Text.calls k1 (wrap64 (Int.tmod a1 2)) t426 _ A25.out).mono ?_); rintro e w45 ⟨rfl, hb⟩; refine ⟨_, rfl, ?_⟩; have n0_ := Aside0.mk (below_step (HB.out) hb); clear HB; have HB := n0_; clear n0_; (try clear hb); (try clear hb2); (try clear hk); (try clear hi)) | ((with_reducible refine gate_callee (f := 25) rfl ?_); refine goesL_ (some 59) rfl rfl Tryd.func25 (by kernel_rfl) rfl #[.string (((((((x9_1 ++ (⟨#[116, 97, 115, 107, 32, 120, 32, 53, 48, 32, 53, 48, 32, 57, 32, 48, 32, 114, 117, 110, 58, 49, 32, 108, 111, 99, 107, 58]⟩ : ByteArray)) ++ t425) ++ (⟨#[58, 108, 111, 99, 107, 58]⟩ : ByteArray)) ++ t426) ++ (⟨#[58, 51]⟩ : ByteArray)) ++ (⟨#[32, 119, 97, 108, 107, 58, 55]⟩ : ByteArray)) ++ (⟨#[10]⟩ : ByteArray))] rfl (by (try simp only [List.map_toArray, List.map_cons, List.map_nil]); first | done | rfl | (simp only [List.length_drop, List.length_take]; rfl)) ?_; (with_reducible refine (text_Parse.calls k1 (((((((x9_1 ++ (⟨#[116, 97, 115, 107, 32, 120, 32, 53, 48, 32, 53, 48, 32, 57, 32, 48, 32, 114, 117, 110, 58, 49, 32, 108, 111, 99, 107, 58]⟩ : ByteArray)) ++ t425) ++ (⟨#[58, 108, 111, 99, 107, 58]⟩ : ByteArray)) ++ t426) ++ (⟨#[58, 51]⟩ : ByteArray)) ++ (⟨#[32, 119, 97, 108, 107, 58, 55]⟩ : ByteArray)) ++ (⟨#[10]⟩ : ByteArray)) t427 t428 t431 t434 t437 t438 _ ?side1 A42.out).mono ?_); (case side1 => first | exact Glob.below HG.out (HB.out) | (repeat (first | exact Glob.below HG.out HB.out | (with_reducible refine Glob.alloc ?_ _) | (with_reducible refine Glob.drewN ?_ _) | (with_reducible refine Glob.drew ?_)))); rintro e w46 ⟨v429, v432, v435, rfl, ho0, ho1, ho2, hb⟩; refine ⟨_, rfl, ?_⟩; have n0_ := Aside0.mk (Kd.R_lower ho0 (below_size (HB.out))); have n1_ := Aside0.mk (Kd.R_lower ho1 (below_size (HB.out))); have n2_ := Aside0.mk (Kd.S_lower ho2 (below_size (HB.out))); have n3_ := Aside0.mk (below_step (HB.out) hb); clear HB; have HO430 := n0_; have HO433 := n1_; have HO436 := n2_; have HB := n3_; clear n0_ n1_ n2_ n3_; (try clear hb); (try clear hb2); (try clear hk); (try clear hi); (try clear ho0); (try clear ho1); (try clear ho2)) | ((with_reducible refine gate_dst (N := 12) rfl ?_); refine box_event ?hg (N := 12) ?hd (cs := #[.int .i64 0, .slice none 0 0, .slice none 0 0, .slice none 0 0]) (t := 37) ?hr ?_; (case hd => rfl); (case hg => rfl); (case hr => first | (go_simp; done) | (go_simp; rfl)); intro gb439 hg w47 hbox hb; have n0_ := Aside0.mk (Kd.R_below (by (with_reducible repeat (first | apply Kd.R_alloc | apply Kd.R_drewN | apply Kd.R_drew)); exact HO430.out) hb); have n1_ := Aside0.mk (Kd.R_below (by (with_reducible repeat (first | apply Kd.R_alloc | apply Kd.R_drewN | apply Kd.R_drew)); exact HO433.out) hb); have n2_ := Aside0.mk (Kd.S_below (by (with_reducible repeat (first | apply Kd.S_alloc | apply Kd.S_drewN | apply Kd.S_drew)); exact HO436.out) hb); have n3_ := Aside0.mk (below_step (HB.out) hb); have n4_ := Aside0.mk (hbox); have n5_ := Aside0.mk ((by rw [hg]; exact (below_size (HB.out)) : w.heap.size ≤ gb439)); have n6_ := n5_; clear HO430; clear HO433; clear HO436; clear HB; have HO430 := n0_; have HO433 := n1_; have HO436 := n2_; have HB := n3_; have BK439 := n4_; have GW439 := n5_; have GE439 := n6_; clear n0_ n1_ n2_ n3_ n4_ n5_ n6_; clear hb hbox hg; have hcz48_0 : w47.cell? ⟨gb439, 0, none⟩ = some (.int .i64 0) := (blk_cell BK439.out 0).trans rfl; have hcz48_1 : w47.cell? ⟨gb439, 1, none⟩ = some (.slice none 0 0) := (blk_cell BK439.out 1).trans rfl; have hcz48_2 : w47.cell? ⟨gb439, 2, none⟩ = some (.slice none 0 0) := (blk_cell BK439.out 2).trans rfl; have hcz48_3 : w47.cell? ⟨gb439, 3, none⟩ = some (.slice none 0 0) := (blk_cell BK439.out 3).trans rfl; have hfz48_0 := blk_frozen BK439.out 0; have hfz48_1 := blk_frozen BK439.out 1; have hfz48_2 := blk_frozen BK439.out 2; have hfz48_3 := blk_frozen BK439.out 3; obtain ⟨Ao49, co49, eo49⟩ := Kd.R_slice HO430.out; subst eo49; obtain ⟨Ao50, co50, eo50⟩ := Kd.R_slice HO433.out; subst eo50; obtain ⟨Ao51, co51, eo51⟩ := Kd.S_slice HO436.out; subst eo51))
  go_ret
  exact ⟨by first | rfl | (simp [errW_none, errW_some] <;> rfl) | (simp [*, errW_none, errW_some] <;> rfl), by repeat (first | (with_reducible first | exact HB.out | apply below_alloc | apply pw_below_drewN | apply below_drew1 | refine below_set ?_ GE439.out) | exact HB.out)⟩

/-- THE ONE PURE STATEMENT of swingbridgelaw9_TextNested: yours. -/
def swingbridgelaw9_TextNested.Pure : Prop := ∀ (a0 : Int) (a1 : Int) (a2 : Int) (a3 : Bool), (Lit.int .u8 a0).wf = true → (Lit.int .u8 a1).wf = true → (Lit.int .u8 a2).wf = true → ∃ k, swingbridgelaw9_TextNested.f k a0 a1 a2 a3 = some true
theorem swingbridgelaw9_TextNested.walk (P : swingbridgelaw9_TextNested.Pure) (a0 : Int) (a1 : Int) (a2 : Int) (a3 : Bool) (w : World) (w0 : (Lit.int .u8 a0).wf = true) (w1 : (Lit.int .u8 a1).wf = true) (w2 : (Lit.int .u8 a2).wf = true) (hG : Glob w) :
    Calls Tryd.prog 8 #[.int .u8 a0, .int .u8 a1, .int .u8 a2, .bool a3] w fun e w' => e = .returned (.bool true) ∧ Below w.heap.size w w' := by
  obtain ⟨k, h⟩ := P a0 a1 a2 a3 w0 w1 w2
  refine (swingbridgelaw9_TextNested.calls k a0 a1 a2 a3 true w hG h).mono ?_
  rintro e w' ⟨rfl, hd⟩
  exact ⟨rfl, hd⟩

end Go.Proofs.YtgkjoodlcojkkaaDoor.QD
end
section
/- TextNested's plain law: a lock within a lock is told so, at its line. Conditions: the numbers are bytes. -/
namespace Go.Proofs.YtgkjoodlcojkkaaDoor.Y
open Go.RowKit Go.Proofs.YtgkjoodlcojkkaaDoorW.PrintWords Go.Proofs.YtgkjoodlcojkkaaDoorW.PrintLast Go.Proofs.YtgkjoodlcojkkaaDoorW.PrintMore Go.Proofs.YtgkjoodlcojkkaaDoor.QD
set_option linter.unusedVariables false
set_option linter.unusedSimpArgs false

def nHead : Bs := [112, 114, 111, 116, 111, 99, 111, 108, 32, 102, 97, 105, 114, 10, 99, 111, 114, 101, 115, 32, 49, 10, 104, 111, 109, 101, 115, 32, 48, 32, 48, 10]
def nLine (j : Nat) : Bs := [116, 97, 115, 107, 32] ++ [UInt8.ofNat (97 + j)] ++ [32, 53, 48, 32, 53, 48, 32] ++ [UInt8.ofNat (48 + (j + 1))] ++ [32, 48, 32, 114, 117, 110, 58, 49, 10]
def nLines : Nat → Bs
  | 0 => []
  | n + 1 => nLines n ++ nLine n
def nLast (a b : Nat) (more : Bool) : Bs := [116, 97, 115, 107, 32, 120, 32, 53, 48, 32, 53, 48, 32, 57, 32, 48, 32, 114, 117, 110, 58, 49, 32, 108, 111, 99, 107, 58] ++ [UInt8.ofNat (48 + a)] ++ [58, 108, 111, 99, 107, 58] ++ [UInt8.ofNat (48 + b)] ++ [58, 51] ++ (if more = true then [32, 119, 97, 108, 107, 58, 55] else []) ++ [10]
def nText (n a b : Nat) (more : Bool) : Bs := nHead ++ nLines n ++ nLast a b more
def nestOk : Bool := (List.range 5).all fun n => (List.range 2).all fun a => (List.range 2).all fun b => [true, false].all fun m => decide ((parseS (nText n a b m)).2.2.2.2 = (((3 + n : Nat) : Int), 18))
theorem nestOk_true : nestOk = true := by kernel_rfl
theorem nest_all : ∀ n, n < 5 → ∀ a, a < 2 → ∀ b, b < 2 → ∀ more : Bool, (parseS (nText n a b more)).2.2.2.2 = (((3 + n : Nat) : Int), 18) := by
  intro n hn a ha b hb more
  have h := nestOk_true
  unfold nestOk at h
  rw [List.all_eq_true] at h
  have h := h n (List.mem_range.mpr hn)
  rw [List.all_eq_true] at h
  have h := h a (List.mem_range.mpr ha)
  rw [List.all_eq_true] at h
  have h := h b (List.mem_range.mpr hb)
  rw [List.all_eq_true] at h
  exact of_decide_eq_true (h more (by cases more <;> simp))
theorem nLine_len (j : Nat) : (nLine j).length = 23 := by unfold nLine; simp
theorem nLines_len : ∀ n, (nLines n).length = 23 * n
  | 0 => rfl
  | n + 1 => by unfold nLines; rw [List.length_append, nLines_len n, nLine_len]; omega
theorem nest_step (k : Nat) (a0 a1 : Int) (a3 : Bool) (s : Bs) (n j : Nat) (hj : j < n) (hn : n ≤ 4) (hs : s.length ≤ 1000) (hk : 30 < k) :
    swingbridgelaw9_TextNested.l0 (k + 1) a0 a1 a3 (B s) (n : Int) (j : Int) = swingbridgelaw9_TextNested.l0 k a0 a1 a3 (B (s ++ nLine j)) (n : Int) ((j + 1 : Nat) : Int) := by
  have e1 : (some (([(wrap64 (97 + (j : Int))) % 256] : List Int) : List Int)) = some [((97 + j : Nat) : Int)] := by
    rw [w64 (by omega)]
    congr 2
    omega
  have e2 : strOfNums [((97 + j : Nat) : Int)] = B [UInt8.ofNat (97 + j)] := rfl
  have e3 : swingbridgeref7_Text.f k (wrap64 ((j : Int) + 1)) = some (B [UInt8.ofNat (48 + (j + 1))]) := by
    rw [w64s j (by omega), refText_eq _ k (by omega), textS_one (by omega)]
  conv => lhs; unfold swingbridgelaw9_TextNested.l0
  rw [if_pos (by omega), size_B, if_pos (by omega), e1, Option.bind_some, e2, show (⟨#[116, 97, 115, 107, 32]⟩ : ByteArray) = B [116, 97, 115, 107, 32] from rfl, append_B, size_B, size_B, if_pos (by simp; omega), append_B, size_B, if_pos (by simp; omega), e3, Option.bind_some,
    show (⟨#[32, 53, 48, 32, 53, 48, 32]⟩ : ByteArray) = B [32, 53, 48, 32, 53, 48, 32] from rfl, append_B, size_B, size_B, if_pos (by simp; omega), append_B, size_B, if_pos (by simp; omega), show (⟨#[32, 48, 32, 114, 117, 110, 58, 49, 10]⟩ : ByteArray) = B [32, 48, 32, 114, 117, 110, 58, 49, 10] from rfl, append_B, w64s j (by omega)]
  unfold nLine
  simp only [List.append_assoc]
theorem nest_loop (a0 a1 : Int) (a3 : Bool) (n : Nat) (hn : n ≤ 4) : ∀ (d j k : Nat), j + d = n → 40 < k →
    swingbridgelaw9_TextNested.l0 (k + d) a0 a1 a3 (B (nHead ++ nLines j)) (n : Int) (j : Int) = swingbridgelaw9_TextNested.l0 k a0 a1 a3 (B (nHead ++ nLines n)) (n : Int) (n : Int)
  | 0, j, k, h, hk => by
    have : j = n := by omega
    rw [this]; rfl
  | d + 1, j, k, h, hk => by
    have hl := nLines_len j
    have hl0 : nHead.length = 32 := rfl
    rw [show k + (d + 1) = (k + d) + 1 from rfl, nest_step (k + d) a0 a1 a3 _ n j (by omega) hn (by rw [List.length_append]; omega) (by omega)]
    have := nest_loop a0 a1 a3 n hn d (j + 1) k (by omega) hk
    rw [List.append_assoc]
    exact this
theorem nest_end (a0 a1 : Int) (a3 : Bool) (n a b : Nat) (hn : n ≤ 4) (ha : Int.tmod a0 2 = (a : Int)) (hb : Int.tmod a1 2 = (b : Int)) (h2 : a < 2) (h3 : b < 2) (k : Nat) (hk : 20000 < k) (hk2 : k < 9223372036854775807) :
    swingbridgelaw9_TextNested.l0 (k + 1) a0 a1 a3 (B (nHead ++ nLines n)) (n : Int) (n : Int) = some true := by
  have hl := nLines_len n
  have hl0 : nHead.length = 32 := rfl
  have hsl : (nHead ++ nLines n).length ≤ 200 := by rw [List.length_append]; omega
  have e1 : swingbridgeref7_Text.f k (wrap64 (Int.tmod a0 2)) = some (B [UInt8.ofNat (48 + a)]) := by
    rw [ha, w64 (by omega), refText_eq _ k (by omega), textS_one (by omega)]
  have e2 : swingbridgeref7_Text.f k (wrap64 (Int.tmod a1 2)) = some (B [UInt8.ofNat (48 + b)]) := by
    rw [hb, w64 (by omega), refText_eq _ k (by omega), textS_one (by omega)]
  have hall := nest_all n (by omega) a h2 b h3 a3
  have hpz := parse_eq (nText n a b a3) (by unfold nText nLast; split <;> simp only [List.length_append, List.length_cons, List.length_nil] <;> simp only [List.length_append] at hsl <;> omega) k hk hk2
  have hw : wrap64 (3 + (n : Int)) = ((3 + n : Nat) : Int) := by rw [w64 (by omega)]; omega
  have e18 : (parseS (nText n a b a3)).2.2.2.2.2 = 18 := by rw [hall]
  have e3n : (parseS (nText n a b a3)).2.2.2.2.1 = ((3 + n : Nat) : Int) := by rw [hall]
  have hh : ∀ (x : Int × Int), (x.2 = 18) → x.1 = ((3 + n : Nat) : Int) → (if x.2 = 18 then some (x.1 == ((3 + n : Nat) : Int)) else some false) = some true := by
    intro x h1 h2
    rw [if_pos h1, h2]; simp
  have p1 : (⟨#[116, 97, 115, 107, 32, 120, 32, 53, 48, 32, 53, 48, 32, 57, 32, 48, 32, 114, 117, 110, 58, 49, 32, 108, 111, 99, 107, 58]⟩ : ByteArray) = B [116, 97, 115, 107, 32, 120, 32, 53, 48, 32, 53, 48, 32, 57, 32, 48, 32, 114, 117, 110, 58, 49, 32, 108, 111, 99, 107, 58] := rfl
  have p2 : (⟨#[58, 108, 111, 99, 107, 58]⟩ : ByteArray) = B [58, 108, 111, 99, 107, 58] := rfl
  have p3 : (⟨#[58, 51]⟩ : ByteArray) = B [58, 51] := rfl
  have p4 : (⟨#[32, 119, 97, 108, 107, 58, 55]⟩ : ByteArray) = B [32, 119, 97, 108, 107, 58, 55] := rfl
  have p5 : (⟨#[10]⟩ : ByteArray) = B [10] := rfl
  unfold swingbridgelaw9_TextNested.l0
  rw [if_neg (show ¬ ((n : Int) < n) by omega), e1, e2, Option.bind_some, p1, p2, p3, p4, p5, hw]
  unfold nText nLast at hpz e18 e3n
  generalize nHead ++ nLines n = s at hsl hpz e18 e3n
  rw [size_B, if_pos (by omega), append_B, size_B, size_B, if_pos (by simp; omega), append_B, size_B, if_pos (by simp; omega), Option.bind_some, append_B, size_B, size_B, if_pos (by simp; omega), append_B, size_B, if_pos (by simp; omega), append_B]
  cases a3 with
  | true =>
    rw [if_pos rfl] at hpz e18 e3n
    rw [if_pos rfl, size_B, if_pos (by simp; omega), append_B, size_B, if_pos (by simp; omega), append_B]
    simp only [List.append_assoc] at hpz e18 e3n ⊢
    rw [hpz, Option.bind_some, if_pos e18, e3n]
    simp
  | false =>
    rw [if_neg (by decide)] at hpz e18 e3n
    rw [if_neg (by decide), size_B, if_pos (by simp; omega), append_B]
    simp only [List.append_assoc, List.nil_append] at hpz e18 e3n ⊢
    rw [hpz, Option.bind_some, if_pos e18, e3n]
    simp
theorem TextNested_pure : swingbridgelaw9_TextNested.Pure := by
  intro a0 a1 a2 a3 w0 w1 w2
  have b0 : 0 ≤ a0 ∧ a0 ≤ 255 := by simpa [Lit.wf, IntKind.min, IntKind.max, IntKind.signed, IntKind.bits] using w0
  have b1 : 0 ≤ a1 ∧ a1 ≤ 255 := by simpa [Lit.wf, IntKind.min, IntKind.max, IntKind.signed, IntKind.bits] using w1
  have b2 : 0 ≤ a2 ∧ a2 ≤ 255 := by simpa [Lit.wf, IntKind.min, IntKind.max, IntKind.signed, IntKind.bits] using w2
  obtain ⟨n, hn, hn4⟩ : ∃ n : Nat, Int.tmod a2 5 = (n : Int) ∧ n ≤ 4 := ⟨(Int.tmod a2 5).toNat, by rw [Int.tmod_eq_emod_of_nonneg b2.1]; omega, by rw [Int.tmod_eq_emod_of_nonneg b2.1]; omega⟩
  obtain ⟨a, ha, h2⟩ : ∃ n : Nat, Int.tmod a0 2 = (n : Int) ∧ n < 2 := ⟨(Int.tmod a0 2).toNat, by rw [Int.tmod_eq_emod_of_nonneg b0.1]; omega, by rw [Int.tmod_eq_emod_of_nonneg b0.1]; omega⟩
  obtain ⟨b, hb, h3⟩ : ∃ n : Nat, Int.tmod a1 2 = (n : Int) ∧ n < 2 := ⟨(Int.tmod a1 2).toNat, by rw [Int.tmod_eq_emod_of_nonneg b1.1]; omega, by rw [Int.tmod_eq_emod_of_nonneg b1.1]; omega⟩
  refine ⟨30001 + n, ?_⟩
  unfold swingbridgelaw9_TextNested.f
  rw [known9_eq _ (by omega) (by omega), Option.bind_some, if_pos rfl, hn, w64 (by omega)]
  have hl := nest_loop a0 a1 a3 n hn4 n 0 30001 (by omega) (by omega)
  have he := nest_end a0 a1 a3 n a b hn4 ha hb h2 h3 30000 (by omega) (by omega)
  exact hl.trans he
end Go.Proofs.YtgkjoodlcojkkaaDoor.Y
end
