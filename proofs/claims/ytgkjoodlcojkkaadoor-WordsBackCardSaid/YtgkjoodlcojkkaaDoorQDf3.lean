-- written by a program of this session (wip/tools): the functions that the laws reach, as plain Lean, and their walks
import Derived.Test.YtgkjoodlcojkkaaDoorQD0
import Derived.Test.YtgkjoodlcojkkaaDoorQDf13
import Derived.Test.YtgkjoodlcojkkaaDoorQDf15
import Derived.Test.YtgkjoodlcojkkaaDoorQDf17
import Derived.Test.YtgkjoodlcojkkaaDoorQDf19
import Derived.Test.YtgkjoodlcojkkaaDoorQDf9
import Derived.Test.YtgkjoodlcojkkaaDoorQDf11
import Derived.Test.YtgkjoodlcojkkaaDoorQDf14
import Derived.Test.YtgkjoodlcojkkaaDoorQDf16
import Derived.Test.YtgkjoodlcojkkaaDoorQDf18
import Derived.Test.YtgkjoodlcojkkaaDoorQDf20
import Derived.Test.YtgkjoodlcojkkaaDoorQDf12
import Derived.Test.YtgkjoodlcojkkaaDoorXLib
namespace Go.Proofs.YtgkjoodlcojkkaaDoor.QD
open Go.RowKit Go.Proofs.YtgkjoodlcojkkaaDoorW.PrintWords Go.Proofs.YtgkjoodlcojkkaaDoorW.PrintLast Go.Proofs.YtgkjoodlcojkkaaDoorW.PrintMore
attribute [local go_sem] max2_int min2_int max_two min_two max_three min_three max_four min_four   -- for this text's walks alone
set_option linter.unusedVariables false
set_option linter.unusedSimpArgs false

/-! ### swingbridgelaw7_WordsTell: function 3 -/
def swingbridgelaw7_WordsTell.f (k : Nat) (a0 : ByteArray) (a1 : Int) : Option (Bool) := (swingbridgelaw7_known.f k).bind fun t203 => (if t203 = true then (if (a0.size : Int) > 400 then (some true) else ((words_Num.f a0).bind fun bt204 => ((swingbridgeref7_Num.f k a0).bind fun bt206 => ((words_Lines.f a0).bind fun t208 => ((swingbridgeref7_Lines.f k a0).bind fun t211 => ((swingbridgelaw7_same.f k t208 t211).bind fun t214 => (if t214 = true then ((words_Words.f k a0).bind fun t215 => ((swingbridgeref7_Words.f k a0).bind fun t218 => ((swingbridgelaw7_same.f k t215 t218).bind fun t221 => (if t221 = true then (if bt204.1 = bt206.1 then (if (bt204.2 == bt206.2) = true then ((words_Name.f k a0).bind fun t222 => ((swingbridgeref7_Name.f k a0).bind fun t223 => (if (t222 == t223) = true then ((words_Text.f a1).bind fun t224 => ((swingbridgeref7_Text.f k a1).bind fun t225 => (some (t224.toList == t225.toList)))) else (some false)))) else (some false)) else (some false)) else (some false))))) else (some false)))))))) else (some false))
theorem swingbridgelaw7_WordsTell.mono : ∀ a0 a1 k, LeO (swingbridgelaw7_WordsTell.f k a0 a1) (swingbridgelaw7_WordsTell.f (k + 1) a0 a1) := by
  intro a0 a1 k
  unfold swingbridgelaw7_WordsTell.f
  repeat' first
      | (with_reducible exact swingbridgelaw7_known.mono _)
      | (with_reducible exact swingbridgelaw7_same.mono _ _ _)
      | (with_reducible exact swingbridgeref7_Lines.mono _ _)
      | (with_reducible exact swingbridgeref7_Name.mono _ _)
      | (with_reducible exact swingbridgeref7_Num.mono _ _)
      | (with_reducible exact swingbridgeref7_Text.mono _ _)
      | (with_reducible exact swingbridgeref7_Words.mono _ _)
      | (with_reducible exact words_Name.mono _ _)
      | (with_reducible exact words_Words.mono _ _)
      | (with_reducible exact LeO.refl _)
      | (with_reducible exact LeO.none _)
      | (with_reducible refine LeO.ite ?_ ?_)
      | (with_reducible refine LeO.bind ?_ (fun _ => ?_))
      | exact swingbridgelaw7_known.mono _
      | exact swingbridgelaw7_same.mono _ _ _
      | exact swingbridgeref7_Lines.mono _ _
      | exact swingbridgeref7_Name.mono _ _
      | exact swingbridgeref7_Num.mono _ _
      | exact swingbridgeref7_Text.mono _ _
      | exact swingbridgeref7_Words.mono _ _
      | exact words_Name.mono _ _
      | exact words_Words.mono _ _
      | exact LeO.none _
      | refine LeO.ite ?_ ?_
      | refine LeO.bind ?_ (fun _ => ?_)
set_option maxHeartbeats 8000000 in
set_option maxRecDepth 100000 in
theorem swingbridgelaw7_WordsTell.calls (k : Nat) (a0 : ByteArray) (a1 : Int) (r : Bool) [hT_ : IsTrue r] (w : World) (hG : Glob w) (h : swingbridgelaw7_WordsTell.f k a0 a1 = some r) :
    Calls Tryd.prog 3 #[.string a0, .int .i64 a1] w fun e w' => e = .returned (.bool r) ∧ Below w.heap.size w w' := by
  have HG := Aside0.mk hG
  clear hG
  have HB := Aside0.mk (Below.refl w.heap.size w)
  have H : ((swingbridgelaw7_known.f k).bind fun t203 => (if t203 = true then (if (a0.size : Int) > 400 then (some true) else ((words_Num.f a0).bind fun bt204 => ((swingbridgeref7_Num.f k a0).bind fun bt206 => ((words_Lines.f a0).bind fun t208 => ((swingbridgeref7_Lines.f k a0).bind fun t211 => ((swingbridgelaw7_same.f k t208 t211).bind fun t214 => (if t214 = true then ((words_Words.f k a0).bind fun t215 => ((swingbridgeref7_Words.f k a0).bind fun t218 => ((swingbridgelaw7_same.f k t215 t218).bind fun t221 => (if t221 = true then (if bt204.1 = bt206.1 then (if (bt204.2 == bt206.2) = true then ((words_Name.f k a0).bind fun t222 => ((swingbridgeref7_Name.f k a0).bind fun t223 => (if (t222 == t223) = true then ((words_Text.f a1).bind fun t224 => ((swingbridgeref7_Text.f k a1).bind fun t225 => (some (t224.toList == t225.toList)))) else (some false)))) else (some false)) else (some false)) else (some false))))) else (some false)))))))) else (some false))) = some r := h
  clear h
  replace H := Option.bind_eq_some_iff.mp H
  obtain ⟨t203, A30, H⟩ := H
  replace H : (if t203 = true then (if (a0.size : Int) > 400 then (some true) else ((words_Num.f a0).bind fun bt204 => ((swingbridgeref7_Num.f k a0).bind fun bt206 => ((words_Lines.f a0).bind fun t208 => ((swingbridgeref7_Lines.f k a0).bind fun t211 => ((swingbridgelaw7_same.f k t208 t211).bind fun t214 => (if t214 = true then ((words_Words.f k a0).bind fun t215 => ((swingbridgeref7_Words.f k a0).bind fun t218 => ((swingbridgelaw7_same.f k t215 t218).bind fun t221 => (if t221 = true then (if bt204.1 = bt206.1 then (if (bt204.2 == bt206.2) = true then ((words_Name.f k a0).bind fun t222 => ((swingbridgeref7_Name.f k a0).bind fun t223 => (if (t222 == t223) = true then ((words_Text.f a1).bind fun t224 => ((swingbridgeref7_Text.f k a1).bind fun t225 => (some (t224.toList == t225.toList)))) else (some false)))) else (some false)) else (some false)) else (some false))))) else (some false)))))))) else (some false)) = some r := H
  have A3 := Aside0.mk A30
  clear A30
  by_cases c4 : t203 = true
  rotate_left
  · replace c4 := Bool.eq_false_iff.mpr c4
    subst c4
    have H1 : (some false) = some r := by rw [if_neg (show ¬ (false = true) by decide)] at H; exact H
    clear H
    have H := H1
    clear H1
    exact absurd ((Option.some.inj H).trans hT_.out) (by simp)
  subst c4
  have H1 : (if (a0.size : Int) > 400 then (some true) else ((words_Num.f a0).bind fun bt204 => ((swingbridgeref7_Num.f k a0).bind fun bt206 => ((words_Lines.f a0).bind fun t208 => ((swingbridgeref7_Lines.f k a0).bind fun t211 => ((swingbridgelaw7_same.f k t208 t211).bind fun t214 => (if t214 = true then ((words_Words.f k a0).bind fun t215 => ((swingbridgeref7_Words.f k a0).bind fun t218 => ((swingbridgelaw7_same.f k t215 t218).bind fun t221 => (if t221 = true then (if bt204.1 = bt206.1 then (if (bt204.2 == bt206.2) = true then ((words_Name.f k a0).bind fun t222 => ((swingbridgeref7_Name.f k a0).bind fun t223 => (if (t222 == t223) = true then ((words_Text.f a1).bind fun t224 => ((swingbridgeref7_Text.f k a1).bind fun t225 => (some (t224.toList == t225.toList)))) else (some false)))) else (some false)) else (some false)) else (some false))))) else (some false)))))))) = some r := by rw [if_pos rfl] at H; exact H
  clear H
  have H := H1
  clear H1
  by_cases c5 : (a0.size : Int) > 400
  · rw [if_pos c5] at H
    have c5b0 : decide (400 < (a0.size : Int)) = true := decide_eq_true c5
    have c5b1 : decide (400 < a0.size) = true := decide_eq_true (by omega)
    clear c5
    obtain rfl := Option.some.inj H
    go_enter Tryd.func3, Tryd.ntmps3
    go_wp2_with (first | ((with_reducible refine gate_callee (f := 9) rfl ?_); refine goesL_ (some 9) rfl rfl Tryd.func9 (by kernel_rfl) rfl #[] rfl (by (try simp only [List.map_toArray, List.map_cons, List.map_nil]); first | done | rfl | (simp only [List.length_drop, List.length_take]; rfl)) ?_; (with_reducible refine (swingbridgelaw7_known.calls k  true _ ?side1 A3.out).mono ?_); (case side1 => first | exact Glob.below HG.out (HB.out) | (repeat (first | exact Glob.below HG.out HB.out | (with_reducible refine Glob.alloc ?_ _) | (with_reducible refine Glob.drewN ?_ _) | (with_reducible refine Glob.drew ?_)))); rintro e w6 ⟨rfl, hb⟩; refine ⟨_, rfl, ?_⟩; have n0_ := Aside0.mk (below_step (HB.out) hb); clear HB; have HB := n0_; clear n0_; (try clear hb); (try clear hb2); (try clear hk); (try clear hi)))
    go_ret
    exact ⟨by first | rfl | (simp [errW_none, errW_some] <;> rfl) | (simp [*, errW_none, errW_some] <;> rfl), HB.out⟩
  rw [if_neg c5] at H
  have c5b0 : decide (400 < (a0.size : Int)) = false := decide_eq_false c5
  have c5b1 : decide (400 < a0.size) = false := decide_eq_false (by omega)
  clear c5
  replace H := Option.bind_eq_some_iff.mp H
  obtain ⟨⟨t204, t205⟩, A70, H⟩ := H
  replace H : ((swingbridgeref7_Num.f k a0).bind fun bt206 => ((words_Lines.f a0).bind fun t208 => ((swingbridgeref7_Lines.f k a0).bind fun t211 => ((swingbridgelaw7_same.f k t208 t211).bind fun t214 => (if t214 = true then ((words_Words.f k a0).bind fun t215 => ((swingbridgeref7_Words.f k a0).bind fun t218 => ((swingbridgelaw7_same.f k t215 t218).bind fun t221 => (if t221 = true then (if t204 = bt206.1 then (if (t205 == bt206.2) = true then ((words_Name.f k a0).bind fun t222 => ((swingbridgeref7_Name.f k a0).bind fun t223 => (if (t222 == t223) = true then ((words_Text.f a1).bind fun t224 => ((swingbridgeref7_Text.f k a1).bind fun t225 => (some (t224.toList == t225.toList)))) else (some false)))) else (some false)) else (some false)) else (some false))))) else (some false)))))) = some r := H
  have A7 := Aside0.mk A70
  clear A70
  replace H := Option.bind_eq_some_iff.mp H
  obtain ⟨⟨t206, t207⟩, A80, H⟩ := H
  replace H : ((words_Lines.f a0).bind fun t208 => ((swingbridgeref7_Lines.f k a0).bind fun t211 => ((swingbridgelaw7_same.f k t208 t211).bind fun t214 => (if t214 = true then ((words_Words.f k a0).bind fun t215 => ((swingbridgeref7_Words.f k a0).bind fun t218 => ((swingbridgelaw7_same.f k t215 t218).bind fun t221 => (if t221 = true then (if t204 = t206 then (if (t205 == t207) = true then ((words_Name.f k a0).bind fun t222 => ((swingbridgeref7_Name.f k a0).bind fun t223 => (if (t222 == t223) = true then ((words_Text.f a1).bind fun t224 => ((swingbridgeref7_Text.f k a1).bind fun t225 => (some (t224.toList == t225.toList)))) else (some false)))) else (some false)) else (some false)) else (some false))))) else (some false))))) = some r := H
  have A8 := Aside0.mk A80
  clear A80
  replace H := Option.bind_eq_some_iff.mp H
  obtain ⟨t208, A90, H⟩ := H
  replace H : ((swingbridgeref7_Lines.f k a0).bind fun t211 => ((swingbridgelaw7_same.f k t208 t211).bind fun t214 => (if t214 = true then ((words_Words.f k a0).bind fun t215 => ((swingbridgeref7_Words.f k a0).bind fun t218 => ((swingbridgelaw7_same.f k t215 t218).bind fun t221 => (if t221 = true then (if t204 = t206 then (if (t205 == t207) = true then ((words_Name.f k a0).bind fun t222 => ((swingbridgeref7_Name.f k a0).bind fun t223 => (if (t222 == t223) = true then ((words_Text.f a1).bind fun t224 => ((swingbridgeref7_Text.f k a1).bind fun t225 => (some (t224.toList == t225.toList)))) else (some false)))) else (some false)) else (some false)) else (some false))))) else (some false)))) = some r := H
  have A9 := Aside0.mk A90
  clear A90
  replace H := Option.bind_eq_some_iff.mp H
  obtain ⟨t211, A100, H⟩ := H
  replace H : ((swingbridgelaw7_same.f k t208 t211).bind fun t214 => (if t214 = true then ((words_Words.f k a0).bind fun t215 => ((swingbridgeref7_Words.f k a0).bind fun t218 => ((swingbridgelaw7_same.f k t215 t218).bind fun t221 => (if t221 = true then (if t204 = t206 then (if (t205 == t207) = true then ((words_Name.f k a0).bind fun t222 => ((swingbridgeref7_Name.f k a0).bind fun t223 => (if (t222 == t223) = true then ((words_Text.f a1).bind fun t224 => ((swingbridgeref7_Text.f k a1).bind fun t225 => (some (t224.toList == t225.toList)))) else (some false)))) else (some false)) else (some false)) else (some false))))) else (some false))) = some r := H
  have A10 := Aside0.mk A100
  clear A100
  replace H := Option.bind_eq_some_iff.mp H
  obtain ⟨t214, A110, H⟩ := H
  replace H : (if t214 = true then ((words_Words.f k a0).bind fun t215 => ((swingbridgeref7_Words.f k a0).bind fun t218 => ((swingbridgelaw7_same.f k t215 t218).bind fun t221 => (if t221 = true then (if t204 = t206 then (if (t205 == t207) = true then ((words_Name.f k a0).bind fun t222 => ((swingbridgeref7_Name.f k a0).bind fun t223 => (if (t222 == t223) = true then ((words_Text.f a1).bind fun t224 => ((swingbridgeref7_Text.f k a1).bind fun t225 => (some (t224.toList == t225.toList)))) else (some false)))) else (some false)) else (some false)) else (some false))))) else (some false)) = some r := H
  have A11 := Aside0.mk A110
  clear A110
  by_cases c12 : t214 = true
  rotate_left
  · replace c12 := Bool.eq_false_iff.mpr c12
    subst c12
    have H1 : (some false) = some r := by rw [if_neg (show ¬ (false = true) by decide)] at H; exact H
    clear H
    have H := H1
    clear H1
    exact absurd ((Option.some.inj H).trans hT_.out) (by simp)
  subst c12
  have H1 : ((words_Words.f k a0).bind fun t215 => ((swingbridgeref7_Words.f k a0).bind fun t218 => ((swingbridgelaw7_same.f k t215 t218).bind fun t221 => (if t221 = true then (if t204 = t206 then (if (t205 == t207) = true then ((words_Name.f k a0).bind fun t222 => ((swingbridgeref7_Name.f k a0).bind fun t223 => (if (t222 == t223) = true then ((words_Text.f a1).bind fun t224 => ((swingbridgeref7_Text.f k a1).bind fun t225 => (some (t224.toList == t225.toList)))) else (some false)))) else (some false)) else (some false)) else (some false))))) = some r := by rw [if_pos rfl] at H; exact H
  clear H
  have H := H1
  clear H1
  replace H := Option.bind_eq_some_iff.mp H
  obtain ⟨t215, A130, H⟩ := H
  replace H : ((swingbridgeref7_Words.f k a0).bind fun t218 => ((swingbridgelaw7_same.f k t215 t218).bind fun t221 => (if t221 = true then (if t204 = t206 then (if (t205 == t207) = true then ((words_Name.f k a0).bind fun t222 => ((swingbridgeref7_Name.f k a0).bind fun t223 => (if (t222 == t223) = true then ((words_Text.f a1).bind fun t224 => ((swingbridgeref7_Text.f k a1).bind fun t225 => (some (t224.toList == t225.toList)))) else (some false)))) else (some false)) else (some false)) else (some false)))) = some r := H
  have A13 := Aside0.mk A130
  clear A130
  replace H := Option.bind_eq_some_iff.mp H
  obtain ⟨t218, A140, H⟩ := H
  replace H : ((swingbridgelaw7_same.f k t215 t218).bind fun t221 => (if t221 = true then (if t204 = t206 then (if (t205 == t207) = true then ((words_Name.f k a0).bind fun t222 => ((swingbridgeref7_Name.f k a0).bind fun t223 => (if (t222 == t223) = true then ((words_Text.f a1).bind fun t224 => ((swingbridgeref7_Text.f k a1).bind fun t225 => (some (t224.toList == t225.toList)))) else (some false)))) else (some false)) else (some false)) else (some false))) = some r := H
  have A14 := Aside0.mk A140
  clear A140
  replace H := Option.bind_eq_some_iff.mp H
  obtain ⟨t221, A150, H⟩ := H
  replace H : (if t221 = true then (if t204 = t206 then (if (t205 == t207) = true then ((words_Name.f k a0).bind fun t222 => ((swingbridgeref7_Name.f k a0).bind fun t223 => (if (t222 == t223) = true then ((words_Text.f a1).bind fun t224 => ((swingbridgeref7_Text.f k a1).bind fun t225 => (some (t224.toList == t225.toList)))) else (some false)))) else (some false)) else (some false)) else (some false)) = some r := H
  have A15 := Aside0.mk A150
  clear A150
  by_cases c16 : t221 = true
  rotate_left
  · replace c16 := Bool.eq_false_iff.mpr c16
    subst c16
    have H1 : (some false) = some r := by rw [if_neg (show ¬ (false = true) by decide)] at H; exact H
    clear H
    have H := H1
    clear H1
    exact absurd ((Option.some.inj H).trans hT_.out) (by simp)
  subst c16
  have H1 : (if t204 = t206 then (if (t205 == t207) = true then ((words_Name.f k a0).bind fun t222 => ((swingbridgeref7_Name.f k a0).bind fun t223 => (if (t222 == t223) = true then ((words_Text.f a1).bind fun t224 => ((swingbridgeref7_Text.f k a1).bind fun t225 => (some (t224.toList == t225.toList)))) else (some false)))) else (some false)) else (some false)) = some r := by rw [if_pos rfl] at H; exact H
  clear H
  have H := H1
  clear H1
  by_cases c17 : t204 = t206
  rotate_left
  · rw [if_neg c17] at H
    have c17b0 : (t204 == t206) = false := beq_eq_false_iff_ne.mpr c17
    have c17b1 : (t204 != t206) = true := bne_iff_ne.mpr c17
    exact absurd ((Option.some.inj H).trans hT_.out) (by simp)
  rw [if_pos c17] at H
  have c17b0 : (t204 == t206) = true := beq_iff_eq.mpr c17
  have c17b1 : (t204 != t206) = false := bne_eq_false_iff_eq.mpr c17
  clear c17
  by_cases c18 : (t205 == t207) = true
  rotate_left
  · rw [if_neg c18] at H
    have c18b0 : (t205 == t207) = false := by simpa using c18
    (try (have c18b1 : decide (t205 = t207) = false := by simpa using c18))
    (try (have c18b2 : (t205 == t207) = false := by simpa using c18))
    (try (have c18b3 : ¬ (t205 = t207) := by simpa using c18))
    clear c18
    exact absurd ((Option.some.inj H).trans hT_.out) (by simp)
  rw [if_pos c18] at H
  have c18b0 : (t205 == t207) = true := c18
  (try (have c18b1 : decide (t205 = t207) = true := by simpa using c18))
  (try (have c18b2 : (t205 == t207) = true := by simpa using c18))
  clear c18
  replace H := Option.bind_eq_some_iff.mp H
  obtain ⟨t222, A190, H⟩ := H
  replace H : ((swingbridgeref7_Name.f k a0).bind fun t223 => (if (t222 == t223) = true then ((words_Text.f a1).bind fun t224 => ((swingbridgeref7_Text.f k a1).bind fun t225 => (some (t224.toList == t225.toList)))) else (some false))) = some r := H
  have A19 := Aside0.mk A190
  clear A190
  replace H := Option.bind_eq_some_iff.mp H
  obtain ⟨t223, A200, H⟩ := H
  replace H : (if (t222 == t223) = true then ((words_Text.f a1).bind fun t224 => ((swingbridgeref7_Text.f k a1).bind fun t225 => (some (t224.toList == t225.toList)))) else (some false)) = some r := H
  have A20 := Aside0.mk A200
  clear A200
  by_cases c21 : (t222 == t223) = true
  rotate_left
  · rw [if_neg c21] at H
    have c21b0 : (t222 == t223) = false := by simpa using c21
    (try (have c21b1 : decide (t222 = t223) = false := by simpa using c21))
    (try (have c21b2 : (t222 == t223) = false := by simpa using c21))
    (try (have c21b3 : ¬ (t222 = t223) := by simpa using c21))
    clear c21
    exact absurd ((Option.some.inj H).trans hT_.out) (by simp)
  rw [if_pos c21] at H
  have c21b0 : (t222 == t223) = true := c21
  (try (have c21b1 : decide (t222 = t223) = true := by simpa using c21))
  (try (have c21b2 : (t222 == t223) = true := by simpa using c21))
  clear c21
  replace H := Option.bind_eq_some_iff.mp H
  obtain ⟨t224, A220, H⟩ := H
  replace H : ((swingbridgeref7_Text.f k a1).bind fun t225 => (some (t224.toList == t225.toList))) = some r := H
  have A22 := Aside0.mk A220
  clear A220
  replace H := Option.bind_eq_some_iff.mp H
  obtain ⟨t225, A230, H⟩ := H
  replace H : (some (t224.toList == t225.toList)) = some r := H
  have A23 := Aside0.mk A230
  clear A230
  obtain rfl := Option.some.inj H
  go_enter Tryd.func3, Tryd.ntmps3
  go_wp2_with (first | ((with_reducible refine gate_callee (f := 9) rfl ?_); refine goesL_ (some 9) rfl rfl Tryd.func9 (by kernel_rfl) rfl #[] rfl (by (try simp only [List.map_toArray, List.map_cons, List.map_nil]); first | done | rfl | (simp only [List.length_drop, List.length_take]; rfl)) ?_; (with_reducible refine (swingbridgelaw7_known.calls k  true _ ?side1 A3.out).mono ?_); (case side1 => first | exact Glob.below HG.out (HB.out) | (repeat (first | exact Glob.below HG.out HB.out | (with_reducible refine Glob.alloc ?_ _) | (with_reducible refine Glob.drewN ?_ _) | (with_reducible refine Glob.drew ?_)))); rintro e w24 ⟨rfl, hb⟩; refine ⟨_, rfl, ?_⟩; have n0_ := Aside0.mk (below_step (HB.out) hb); clear HB; have HB := n0_; clear n0_; (try clear hb); (try clear hb2); (try clear hk); (try clear hi)) | ((with_reducible refine gate_callee (f := 10) rfl ?_); refine goesL_ (some 16) rfl rfl Tryd.func10 (by kernel_rfl) rfl #[.string a0] rfl (by (try simp only [List.map_toArray, List.map_cons, List.map_nil]); first | done | rfl | (simp only [List.length_drop, List.length_take]; rfl)) ?_; (with_reducible refine (words_Num.calls a0 t204 t205 _ ?side1 A7.out).mono ?_); (case side1 => first | exact Glob.below HG.out (HB.out) | (repeat (first | exact Glob.below HG.out HB.out | (with_reducible refine Glob.alloc ?_ _) | (with_reducible refine Glob.drewN ?_ _) | (with_reducible refine Glob.drew ?_)))); rintro e w25 ⟨rfl, hb⟩; refine ⟨_, rfl, ?_⟩; have n0_ := Aside0.mk (below_step (HB.out) hb); clear HB; have HB := n0_; clear n0_; (try clear hb); (try clear hb2); (try clear hk); (try clear hi)) | ((with_reducible refine gate_callee (f := 11) rfl ?_); refine goesL_ (some 21) rfl rfl Tryd.func11 (by kernel_rfl) rfl #[.string a0] rfl (by (try simp only [List.map_toArray, List.map_cons, List.map_nil]); first | done | rfl | (simp only [List.length_drop, List.length_take]; rfl)) ?_; (with_reducible refine (swingbridgeref7_Num.calls k a0 t206 t207 _ A8.out).mono ?_); rintro e w' ⟨rfl, ⟨nd, rfl⟩⟩; refine ⟨_, rfl, ?_⟩) | ((with_reducible refine gate_callee (f := 13) rfl ?_); refine goesL_ (some 25) rfl rfl Tryd.func13 (by kernel_rfl) rfl #[.string a0] rfl (by (try simp only [List.map_toArray, List.map_cons, List.map_nil]); first | done | rfl | (simp only [List.length_drop, List.length_take]; rfl)) ?_; (with_reducible refine (words_Lines.calls a0 t208 _ ?side1 A9.out).mono ?_); (case side1 => first | exact Glob.below HG.out (by repeat (first | (with_reducible first | exact HB.out | apply below_alloc | apply pw_below_drewN | apply below_drew1) | exact HB.out)) | (repeat (first | exact Glob.below HG.out HB.out | (with_reducible refine Glob.alloc ?_ _) | (with_reducible refine Glob.drewN ?_ _) | (with_reducible refine Glob.drew ?_)))); rintro e w26 ⟨v209, rfl, ho0, hb⟩; refine ⟨_, rfl, ?_⟩; have n0_ := Aside0.mk (Kd.R_lower ho0 (below_size (by repeat (first | (with_reducible first | exact HB.out | apply below_alloc | apply pw_below_drewN | apply below_drew1) | exact HB.out)))); have n1_ := Aside0.mk (below_step (by repeat (first | (with_reducible first | exact HB.out | apply below_alloc | apply pw_below_drewN | apply below_drew1) | exact HB.out)) hb); clear HB; have HO210 := n0_; have HB := n1_; clear n0_ n1_; (try clear hb); (try clear hb2); (try clear hk); (try clear hi); (try clear ho0)) | ((with_reducible refine gate_callee (f := 14) rfl ?_); refine goesL_ (some 27) rfl rfl Tryd.func14 (by kernel_rfl) rfl #[.string a0] rfl (by (try simp only [List.map_toArray, List.map_cons, List.map_nil]); first | done | rfl | (simp only [List.length_drop, List.length_take]; rfl)) ?_; (with_reducible refine (swingbridgeref7_Lines.calls k a0 t211 _ A10.out).mono ?_); rintro e w27 ⟨v212, rfl, ho0, hb⟩; refine ⟨_, rfl, ?_⟩; have n0_ := Aside0.mk (Kd.R_elder' (by (with_reducible repeat (first | apply Kd.R_alloc | apply Kd.R_drewN | apply Kd.R_drew)); exact HO210.out) (Kd.R_base ho0) hb); have n1_ := Aside0.mk (Kd.R_lower (Kd.R_new' ho0 (Kd.R_lt (by (with_reducible repeat (first | apply Kd.R_alloc | apply Kd.R_drewN | apply Kd.R_drew)); exact HO210.out))) (below_size (HB.out))); have n2_ := Aside0.mk (below_step (HB.out) hb); clear HO210; clear HB; have HO210 := n0_; have HO213 := n1_; have HB := n2_; clear n0_ n1_ n2_; (try clear hb); (try clear hb2); (try clear hk); (try clear hi); (try clear ho0); obtain ⟨Ao28, co28, eo28⟩ := Kd.R_slice HO210.out; subst eo28; obtain ⟨Ao29, co29, eo29⟩ := Kd.R_slice HO213.out; subst eo29) | ((with_reducible refine gate_callee (f := 12) rfl ?_); refine goesL_ (some 28) rfl rfl Tryd.func12 (by kernel_rfl) rfl #[.slice Ao28 t208.length co28, .slice Ao29 t211.length co29] rfl (by (try simp only [List.map_toArray, List.map_cons, List.map_nil]); first | done | rfl | (simp only [List.length_drop, List.length_take]; rfl)) ?_; (with_reducible refine (swingbridgelaw7_same.calls k _ _ t208 _ _ t211 true _ ?side1 ?side2 ?side3 ?side4 A11.out).mono ?_); (case side1 => repeat (first | exact (Kd.R_reads' HO210.out).2.2 | (with_reducible refine Kd.C_alloc ?_ _) | (with_reducible refine Kd.C_drewN ?_ _) | (with_reducible refine Kd.C_drew ?_))); (case side2 => exact (Kd.R_reads' HO210.out).2.1); (case side3 => repeat (first | exact (Kd.R_reads' HO213.out).2.2 | (with_reducible refine Kd.C_alloc ?_ _) | (with_reducible refine Kd.C_drewN ?_ _) | (with_reducible refine Kd.C_drew ?_))); (case side4 => exact (Kd.R_reads' HO213.out).2.1); rintro e w' ⟨rfl, ⟨nd, rfl⟩⟩; refine ⟨_, rfl, ?_⟩) | (go_at_call 15; (with_reducible refine (words_Words.calls k a0 t215 _ ?side1 A13.out).mono ?_); (case side1 => first | exact Glob.below HG.out (by repeat (first | (with_reducible first | exact HB.out | apply below_alloc | apply pw_below_drewN | apply below_drew1) | exact HB.out)) | (repeat (first | exact Glob.below HG.out HB.out | (with_reducible refine Glob.alloc ?_ _) | (with_reducible refine Glob.drewN ?_ _) | (with_reducible refine Glob.drew ?_)))); rintro e w30 ⟨v216, rfl, ho0, hb⟩; have n0_ := Aside0.mk (Kd.R_elder' (by (with_reducible repeat (first | apply Kd.R_alloc | apply Kd.R_drewN | apply Kd.R_drew)); exact HO210.out) (Kd.R_base ho0) hb); have n1_ := Aside0.mk (Kd.R_elder' (by (with_reducible repeat (first | apply Kd.R_alloc | apply Kd.R_drewN | apply Kd.R_drew)); exact HO213.out) (Kd.R_base ho0) hb); have n2_ := Aside0.mk (Kd.R_lower (Kd.R_new' (Kd.R_new' ho0 (Kd.R_lt (by (with_reducible repeat (first | apply Kd.R_alloc | apply Kd.R_drewN | apply Kd.R_drew)); exact HO210.out))) (Kd.R_lt (by (with_reducible repeat (first | apply Kd.R_alloc | apply Kd.R_drewN | apply Kd.R_drew)); exact HO213.out))) (below_size (by repeat (first | (with_reducible first | exact HB.out | apply below_alloc | apply pw_below_drewN | apply below_drew1) | exact HB.out)))); have n3_ := Aside0.mk (below_step (by repeat (first | (with_reducible first | exact HB.out | apply below_alloc | apply pw_below_drewN | apply below_drew1) | exact HB.out)) hb); clear HO210; clear HO213; clear HB; have HO210 := n0_; have HO213 := n1_; have HO217 := n2_; have HB := n3_; clear n0_ n1_ n2_ n3_; (try clear hb); (try clear hb2); (try clear hk); (try clear hi); (try clear ho0)) | (go_at_call 16; (with_reducible refine (swingbridgeref7_Words.calls k a0 t218 _ A14.out).mono ?_); rintro e w31 ⟨v219, rfl, ho0, hb⟩; have n0_ := Aside0.mk (Kd.R_elder' (by (with_reducible repeat (first | apply Kd.R_alloc | apply Kd.R_drewN | apply Kd.R_drew)); exact HO210.out) (Kd.R_base ho0) hb); have n1_ := Aside0.mk (Kd.R_elder' (by (with_reducible repeat (first | apply Kd.R_alloc | apply Kd.R_drewN | apply Kd.R_drew)); exact HO213.out) (Kd.R_base ho0) hb); have n2_ := Aside0.mk (Kd.R_elder' (by (with_reducible repeat (first | apply Kd.R_alloc | apply Kd.R_drewN | apply Kd.R_drew)); exact HO217.out) (Kd.R_base ho0) hb); have n3_ := Aside0.mk (Kd.R_lower (Kd.R_new' (Kd.R_new' (Kd.R_new' ho0 (Kd.R_lt (by (with_reducible repeat (first | apply Kd.R_alloc | apply Kd.R_drewN | apply Kd.R_drew)); exact HO210.out))) (Kd.R_lt (by (with_reducible repeat (first | apply Kd.R_alloc | apply Kd.R_drewN | apply Kd.R_drew)); exact HO213.out))) (Kd.R_lt (by (with_reducible repeat (first | apply Kd.R_alloc | apply Kd.R_drewN | apply Kd.R_drew)); exact HO217.out))) (below_size (HB.out))); have n4_ := Aside0.mk (below_step (HB.out) hb); clear HO210; clear HO213; clear HO217; clear HB; have HO210 := n0_; have HO213 := n1_; have HO217 := n2_; have HO220 := n3_; have HB := n4_; clear n0_ n1_ n2_ n3_ n4_; (try clear hb); (try clear hb2); (try clear hk); (try clear hi); (try clear ho0); obtain ⟨Ao32, co32, eo32⟩ := Kd.R_slice HO217.out; subst eo32; obtain ⟨Ao33, co33, eo33⟩ := Kd.R_slice HO220.out; subst eo33) | (go_at_call 12; (with_reducible refine (swingbridgelaw7_same.calls k _ _ t215 _ _ t218 true _ ?side1 ?side2 ?side3 ?side4 A15.out).mono ?_); (case side1 => repeat (first | exact (Kd.R_reads' HO217.out).2.2 | (with_reducible refine Kd.C_alloc ?_ _) | (with_reducible refine Kd.C_drewN ?_ _) | (with_reducible refine Kd.C_drew ?_))); (case side2 => exact (Kd.R_reads' HO217.out).2.1); (case side3 => repeat (first | exact (Kd.R_reads' HO220.out).2.2 | (with_reducible refine Kd.C_alloc ?_ _) | (with_reducible refine Kd.C_drewN ?_ _) | (with_reducible refine Kd.C_drew ?_))); (case side4 => exact (Kd.R_reads' HO220.out).2.1); rintro e w' ⟨rfl, ⟨nd, rfl⟩⟩) | (go_at_call 17; (with_reducible refine (words_Name.calls k a0 t222 _ A19.out).mono ?_); rintro e w' ⟨rfl, ⟨nd, rfl⟩⟩) | (go_at_call 18; (with_reducible refine (swingbridgeref7_Name.calls k a0 t223 _ A20.out).mono ?_); rintro e w' ⟨rfl, ⟨nd, rfl⟩⟩) | (go_at_call 19; (with_reducible refine (words_Text.calls a1 t224 _ ?side1 A22.out).mono ?_); (case side1 => first | exact Glob.below HG.out (by repeat (first | (with_reducible first | exact HB.out | apply below_alloc | apply pw_below_drewN | apply below_drew1) | exact HB.out)) | (repeat (first | exact Glob.below HG.out HB.out | (with_reducible refine Glob.alloc ?_ _) | (with_reducible refine Glob.drewN ?_ _) | (with_reducible refine Glob.drew ?_)))); rintro e w34 ⟨rfl, hb⟩; have n0_ := Aside0.mk (Kd.R_below (by (with_reducible repeat (first | apply Kd.R_alloc | apply Kd.R_drewN | apply Kd.R_drew)); exact HO210.out) hb); have n1_ := Aside0.mk (Kd.R_below (by (with_reducible repeat (first | apply Kd.R_alloc | apply Kd.R_drewN | apply Kd.R_drew)); exact HO213.out) hb); have n2_ := Aside0.mk (Kd.R_below (by (with_reducible repeat (first | apply Kd.R_alloc | apply Kd.R_drewN | apply Kd.R_drew)); exact HO217.out) hb); have n3_ := Aside0.mk (Kd.R_below (by (with_reducible repeat (first | apply Kd.R_alloc | apply Kd.R_drewN | apply Kd.R_drew)); exact HO220.out) hb); have n4_ := Aside0.mk (below_step (by repeat (first | (with_reducible first | exact HB.out | apply below_alloc | apply pw_below_drewN | apply below_drew1) | exact HB.out)) hb); clear HO210; clear HO213; clear HO217; clear HO220; clear HB; have HO210 := n0_; have HO213 := n1_; have HO217 := n2_; have HO220 := n3_; have HB := n4_; clear n0_ n1_ n2_ n3_ n4_; (try clear hb); (try clear hb2); (try clear hk); (try clear hi)) | (go_at_call 20; (with_reducible refine (swingbridgeref7_Text.calls k a1 t225 _ A23.out).mono ?_); rintro e w35 ⟨rfl, hb⟩; have n0_ := Aside0.mk (Kd.R_below (by (with_reducible repeat (first | apply Kd.R_alloc | apply Kd.R_drewN | apply Kd.R_drew)); exact HO210.out) hb); have n1_ := Aside0.mk (Kd.R_below (by (with_reducible repeat (first | apply Kd.R_alloc | apply Kd.R_drewN | apply Kd.R_drew)); exact HO213.out) hb); have n2_ := Aside0.mk (Kd.R_below (by (with_reducible repeat (first | apply Kd.R_alloc | apply Kd.R_drewN | apply Kd.R_drew)); exact HO217.out) hb); have n3_ := Aside0.mk (Kd.R_below (by (with_reducible repeat (first | apply Kd.R_alloc | apply Kd.R_drewN | apply Kd.R_drew)); exact HO220.out) hb); have n4_ := Aside0.mk (below_step (HB.out) hb); clear HO210; clear HO213; clear HO217; clear HO220; clear HB; have HO210 := n0_; have HO213 := n1_; have HO217 := n2_; have HO220 := n3_; have HB := n4_; clear n0_ n1_ n2_ n3_ n4_; (try clear hb); (try clear hb2); (try clear hk); (try clear hi)))
  go_ret
  exact ⟨by first | rfl | (simp [errW_none, errW_some] <;> rfl) | (simp [*, errW_none, errW_some] <;> rfl), HB.out⟩

/-- THE ONE PURE STATEMENT of swingbridgelaw7_WordsTell: yours. -/
def swingbridgelaw7_WordsTell.Pure : Prop := ∀ (a0 : ByteArray) (a1 : Int), a0.size ≤ 140737488351232 → (Lit.int .i64 a1).wf = true → ∃ k, swingbridgelaw7_WordsTell.f k a0 a1 = some true
theorem swingbridgelaw7_WordsTell.walk (P : swingbridgelaw7_WordsTell.Pure) (a0 : ByteArray) (a1 : Int) (w : World) (w0 : a0.size ≤ 140737488351232) (w1 : (Lit.int .i64 a1).wf = true) (hG : Glob w) :
    Calls Tryd.prog 3 #[.string a0, .int .i64 a1] w fun e w' => e = .returned (.bool true) ∧ Below w.heap.size w w' := by
  obtain ⟨k, h⟩ := P a0 a1 w0 w1
  refine (swingbridgelaw7_WordsTell.calls k a0 a1 true w hG h).mono ?_
  rintro e w' ⟨rfl, hd⟩
  exact ⟨rfl, hd⟩

end Go.Proofs.YtgkjoodlcojkkaaDoor.QD
