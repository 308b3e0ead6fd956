-- written by a program of this session (wip/tools): the functions that the laws reach, as plain Lean, and their walks
import Derived.Test.YtgkjoodlcojkkaaDoorQD0
import Derived.Test.YtgkjoodlcojkkaaDoorQDf13
import Derived.Test.YtgkjoodlcojkkaaDoorQDf15
import Derived.Test.YtgkjoodlcojkkaaDoorQDf17
import Derived.Test.YtgkjoodlcojkkaaDoorQDf19
import Derived.Test.YtgkjoodlcojkkaaDoorQDf12
import Derived.Test.YtgkjoodlcojkkaaDoorXLib
namespace Go.Proofs.YtgkjoodlcojkkaaDoor.QD
open Go.RowKit Go.Proofs.YtgkjoodlcojkkaaDoorW.PrintWords Go.Proofs.YtgkjoodlcojkkaaDoorW.PrintLast Go.Proofs.YtgkjoodlcojkkaaDoorW.PrintMore
attribute [local go_sem] max2_int min2_int max_two min_two max_three min_three max_four min_four   -- for this text's walks alone
set_option linter.unusedVariables false
set_option linter.unusedSimpArgs false

/-! ### swingbridgelaw7_known: function 9 -/
def swingbridgelaw7_known.f (k : Nat)  : Option (Bool) := (words_Num.f (⟨#[49, 50, 48]⟩ : ByteArray)).bind fun bt157 => ((words_Num.f (⟨#[48, 49]⟩ : ByteArray)).bind fun bt159 => ((words_Words.f k (⟨#[97, 32, 32, 98, 32, 35, 32, 99]⟩ : ByteArray)).bind fun t161 => ((swingbridgelaw7_same.f k t161 (([(⟨#[97]⟩ : ByteArray), (⟨#[98]⟩ : ByteArray)] : List ByteArray))).bind fun t167 => (if t167 = true then ((words_Lines.f (⟨#[120, 10, 10, 121]⟩ : ByteArray)).bind fun t168 => ((swingbridgelaw7_same.f k t168 (([(⟨#[120]⟩ : ByteArray), (⟨#[]⟩ : ByteArray), (⟨#[121]⟩ : ByteArray)] : List ByteArray))).bind fun t174 => (if t174 = true then (if bt157.2 = true then (if bt157.1 = 120 then (if bt159.2 = true then (some false) else ((words_Name.f k (⟨#[97, 49]⟩ : ByteArray)).bind fun t175 => (if t175 = true then ((words_Name.f k (⟨#[49, 97]⟩ : ByteArray)).bind fun t176 => (if t176 = true then (some false) else ((words_Text.f 120).bind fun t177 => (if t177.toList = ([49, 50, 48] : List UInt8) then ((words_Text.f (-1)).bind fun t178 => (some (t178.toList == ([] : List UInt8)))) else (some false))))) else (some false)))) else (some false)) else (some false)) else (some false)))) else (some false)))))
theorem swingbridgelaw7_known.mono : ∀ k, LeO (swingbridgelaw7_known.f k ) (swingbridgelaw7_known.f (k + 1) ) := by
  intro  k
  unfold swingbridgelaw7_known.f
  repeat' first
      | (with_reducible exact swingbridgelaw7_same.mono _ _ _)
      | (with_reducible exact words_Name.mono _ _)
      | (with_reducible exact words_Words.mono _ _)
      | (with_reducible exact LeO.refl _)
      | (with_reducible exact LeO.none _)
      | (with_reducible refine LeO.ite ?_ ?_)
      | (with_reducible refine LeO.bind ?_ (fun _ => ?_))
      | exact swingbridgelaw7_same.mono _ _ _
      | exact words_Name.mono _ _
      | exact words_Words.mono _ _
      | exact LeO.none _
      | refine LeO.ite ?_ ?_
      | refine LeO.bind ?_ (fun _ => ?_)
set_option maxHeartbeats 8000000 in
set_option maxRecDepth 100000 in
theorem swingbridgelaw7_known.calls (k : Nat)  (r : Bool) [hT_ : IsTrue r] (w : World) (hG : Glob w) (h : swingbridgelaw7_known.f k  = some r) :
    Calls Tryd.prog 9 #[] w fun e w' => e = .returned (.bool r) ∧ Below w.heap.size w w' := by
  have HG := Aside0.mk hG
  clear hG
  have HB := Aside0.mk (Below.refl w.heap.size w)
  have H : ((words_Num.f (⟨#[49, 50, 48]⟩ : ByteArray)).bind fun bt157 => ((words_Num.f (⟨#[48, 49]⟩ : ByteArray)).bind fun bt159 => ((words_Words.f k (⟨#[97, 32, 32, 98, 32, 35, 32, 99]⟩ : ByteArray)).bind fun t161 => ((swingbridgelaw7_same.f k t161 (([(⟨#[97]⟩ : ByteArray), (⟨#[98]⟩ : ByteArray)] : List ByteArray))).bind fun t167 => (if t167 = true then ((words_Lines.f (⟨#[120, 10, 10, 121]⟩ : ByteArray)).bind fun t168 => ((swingbridgelaw7_same.f k t168 (([(⟨#[120]⟩ : ByteArray), (⟨#[]⟩ : ByteArray), (⟨#[121]⟩ : ByteArray)] : List ByteArray))).bind fun t174 => (if t174 = true then (if bt157.2 = true then (if bt157.1 = 120 then (if bt159.2 = true then (some false) else ((words_Name.f k (⟨#[97, 49]⟩ : ByteArray)).bind fun t175 => (if t175 = true then ((words_Name.f k (⟨#[49, 97]⟩ : ByteArray)).bind fun t176 => (if t176 = true then (some false) else ((words_Text.f 120).bind fun t177 => (if t177.toList = ([49, 50, 48] : List UInt8) then ((words_Text.f (-1)).bind fun t178 => (some (t178.toList == ([] : List UInt8)))) else (some false))))) else (some false)))) else (some false)) else (some false)) else (some false)))) else (some false)))))) = some r := h
  clear h
  replace H := Option.bind_eq_some_iff.mp H
  obtain ⟨⟨t157, t158⟩, A10, H⟩ := H
  replace H : ((words_Num.f (⟨#[48, 49]⟩ : ByteArray)).bind fun bt159 => ((words_Words.f k (⟨#[97, 32, 32, 98, 32, 35, 32, 99]⟩ : ByteArray)).bind fun t161 => ((swingbridgelaw7_same.f k t161 (([(⟨#[97]⟩ : ByteArray), (⟨#[98]⟩ : ByteArray)] : List ByteArray))).bind fun t167 => (if t167 = true then ((words_Lines.f (⟨#[120, 10, 10, 121]⟩ : ByteArray)).bind fun t168 => ((swingbridgelaw7_same.f k t168 (([(⟨#[120]⟩ : ByteArray), (⟨#[]⟩ : ByteArray), (⟨#[121]⟩ : ByteArray)] : List ByteArray))).bind fun t174 => (if t174 = true then (if t158 = true then (if t157 = 120 then (if bt159.2 = true then (some false) else ((words_Name.f k (⟨#[97, 49]⟩ : ByteArray)).bind fun t175 => (if t175 = true then ((words_Name.f k (⟨#[49, 97]⟩ : ByteArray)).bind fun t176 => (if t176 = true then (some false) else ((words_Text.f 120).bind fun t177 => (if t177.toList = ([49, 50, 48] : List UInt8) then ((words_Text.f (-1)).bind fun t178 => (some (t178.toList == ([] : List UInt8)))) else (some false))))) else (some false)))) else (some false)) else (some false)) else (some false)))) else (some false))))) = some r := H
  have A1 := Aside0.mk A10
  clear A10
  replace H := Option.bind_eq_some_iff.mp H
  obtain ⟨⟨t159, t160⟩, A20, H⟩ := H
  replace H : ((words_Words.f k (⟨#[97, 32, 32, 98, 32, 35, 32, 99]⟩ : ByteArray)).bind fun t161 => ((swingbridgelaw7_same.f k t161 (([(⟨#[97]⟩ : ByteArray), (⟨#[98]⟩ : ByteArray)] : List ByteArray))).bind fun t167 => (if t167 = true then ((words_Lines.f (⟨#[120, 10, 10, 121]⟩ : ByteArray)).bind fun t168 => ((swingbridgelaw7_same.f k t168 (([(⟨#[120]⟩ : ByteArray), (⟨#[]⟩ : ByteArray), (⟨#[121]⟩ : ByteArray)] : List ByteArray))).bind fun t174 => (if t174 = true then (if t158 = true then (if t157 = 120 then (if t160 = true then (some false) else ((words_Name.f k (⟨#[97, 49]⟩ : ByteArray)).bind fun t175 => (if t175 = true then ((words_Name.f k (⟨#[49, 97]⟩ : ByteArray)).bind fun t176 => (if t176 = true then (some false) else ((words_Text.f 120).bind fun t177 => (if t177.toList = ([49, 50, 48] : List UInt8) then ((words_Text.f (-1)).bind fun t178 => (some (t178.toList == ([] : List UInt8)))) else (some false))))) else (some false)))) else (some false)) else (some false)) else (some false)))) else (some false)))) = some r := H
  have A2 := Aside0.mk A20
  clear A20
  replace H := Option.bind_eq_some_iff.mp H
  obtain ⟨t161, A30, H⟩ := H
  replace H : ((swingbridgelaw7_same.f k t161 (([(⟨#[97]⟩ : ByteArray), (⟨#[98]⟩ : ByteArray)] : List ByteArray))).bind fun t167 => (if t167 = true then ((words_Lines.f (⟨#[120, 10, 10, 121]⟩ : ByteArray)).bind fun t168 => ((swingbridgelaw7_same.f k t168 (([(⟨#[120]⟩ : ByteArray), (⟨#[]⟩ : ByteArray), (⟨#[121]⟩ : ByteArray)] : List ByteArray))).bind fun t174 => (if t174 = true then (if t158 = true then (if t157 = 120 then (if t160 = true then (some false) else ((words_Name.f k (⟨#[97, 49]⟩ : ByteArray)).bind fun t175 => (if t175 = true then ((words_Name.f k (⟨#[49, 97]⟩ : ByteArray)).bind fun t176 => (if t176 = true then (some false) else ((words_Text.f 120).bind fun t177 => (if t177.toList = ([49, 50, 48] : List UInt8) then ((words_Text.f (-1)).bind fun t178 => (some (t178.toList == ([] : List UInt8)))) else (some false))))) else (some false)))) else (some false)) else (some false)) else (some false)))) else (some false))) = some r := H
  have A3 := Aside0.mk A30
  clear A30
  obtain ⟨y164, hy164⟩ : ∃ y_ : List ByteArray, y_ = (([(⟨#[97]⟩ : ByteArray), (⟨#[98]⟩ : ByteArray)] : List ByteArray)) := ⟨_, rfl⟩
  replace H : ((swingbridgelaw7_same.f k t161 y164).bind fun t167 => (if t167 = true then ((words_Lines.f (⟨#[120, 10, 10, 121]⟩ : ByteArray)).bind fun t168 => ((swingbridgelaw7_same.f k t168 (([(⟨#[120]⟩ : ByteArray), (⟨#[]⟩ : ByteArray), (⟨#[121]⟩ : ByteArray)] : List ByteArray))).bind fun t174 => (if t174 = true then (if t158 = true then (if t157 = 120 then (if t160 = true then (some false) else ((words_Name.f k (⟨#[97, 49]⟩ : ByteArray)).bind fun t175 => (if t175 = true then ((words_Name.f k (⟨#[49, 97]⟩ : ByteArray)).bind fun t176 => (if t176 = true then (some false) else ((words_Text.f 120).bind fun t177 => (if t177.toList = ([49, 50, 48] : List UInt8) then ((words_Text.f (-1)).bind fun t178 => (some (t178.toList == ([] : List UInt8)))) else (some false))))) else (some false)))) else (some false)) else (some false)) else (some false)))) else (some false))) = some r := by first | (rw [hy164]; with_reducible exact H) | (have H2_ := (Option.bind_some _ _).symm.trans H; rw [hy164]; with_reducible exact H2_) | (have H2_ := (Option.bind_some _ _).symm.trans H; with_reducible exact H2_) | with_reducible exact H | (rw [hy164]; exact H) | exact H
  have Ny164 := Aside0.mk hy164
  clear hy164
  replace H := Option.bind_eq_some_iff.mp H
  obtain ⟨t167, A40, H⟩ := H
  replace H : (if t167 = true then ((words_Lines.f (⟨#[120, 10, 10, 121]⟩ : ByteArray)).bind fun t168 => ((swingbridgelaw7_same.f k t168 (([(⟨#[120]⟩ : ByteArray), (⟨#[]⟩ : ByteArray), (⟨#[121]⟩ : ByteArray)] : List ByteArray))).bind fun t174 => (if t174 = true then (if t158 = true then (if t157 = 120 then (if t160 = true then (some false) else ((words_Name.f k (⟨#[97, 49]⟩ : ByteArray)).bind fun t175 => (if t175 = true then ((words_Name.f k (⟨#[49, 97]⟩ : ByteArray)).bind fun t176 => (if t176 = true then (some false) else ((words_Text.f 120).bind fun t177 => (if t177.toList = ([49, 50, 48] : List UInt8) then ((words_Text.f (-1)).bind fun t178 => (some (t178.toList == ([] : List UInt8)))) else (some false))))) else (some false)))) else (some false)) else (some false)) else (some false)))) else (some false)) = some r := H
  have A4 := Aside0.mk A40
  clear A40
  by_cases c5 : t167 = true
  rotate_left
  · replace c5 := Bool.eq_false_iff.mpr c5
    subst c5
    have H1 : (some false) = some r := by rw [if_neg (show ¬ (false = true) by decide)] at H; exact H
    clear H
    have H := H1
    clear H1
    exact absurd ((Option.some.inj H).trans hT_.out) (by simp)
  subst c5
  have H1 : ((words_Lines.f (⟨#[120, 10, 10, 121]⟩ : ByteArray)).bind fun t168 => ((swingbridgelaw7_same.f k t168 (([(⟨#[120]⟩ : ByteArray), (⟨#[]⟩ : ByteArray), (⟨#[121]⟩ : ByteArray)] : List ByteArray))).bind fun t174 => (if t174 = true then (if t158 = true then (if t157 = 120 then (if t160 = true then (some false) else ((words_Name.f k (⟨#[97, 49]⟩ : ByteArray)).bind fun t175 => (if t175 = true then ((words_Name.f k (⟨#[49, 97]⟩ : ByteArray)).bind fun t176 => (if t176 = true then (some false) else ((words_Text.f 120).bind fun t177 => (if t177.toList = ([49, 50, 48] : List UInt8) then ((words_Text.f (-1)).bind fun t178 => (some (t178.toList == ([] : List UInt8)))) else (some false))))) else (some false)))) else (some false)) else (some false)) else (some false)))) = some r := by rw [if_pos rfl] at H; exact H
  clear H
  have H := H1
  clear H1
  replace H := Option.bind_eq_some_iff.mp H
  obtain ⟨t168, A60, H⟩ := H
  replace H : ((swingbridgelaw7_same.f k t168 (([(⟨#[120]⟩ : ByteArray), (⟨#[]⟩ : ByteArray), (⟨#[121]⟩ : ByteArray)] : List ByteArray))).bind fun t174 => (if t174 = true then (if t158 = true then (if t157 = 120 then (if t160 = true then (some false) else ((words_Name.f k (⟨#[97, 49]⟩ : ByteArray)).bind fun t175 => (if t175 = true then ((words_Name.f k (⟨#[49, 97]⟩ : ByteArray)).bind fun t176 => (if t176 = true then (some false) else ((words_Text.f 120).bind fun t177 => (if t177.toList = ([49, 50, 48] : List UInt8) then ((words_Text.f (-1)).bind fun t178 => (some (t178.toList == ([] : List UInt8)))) else (some false))))) else (some false)))) else (some false)) else (some false)) else (some false))) = some r := H
  have A6 := Aside0.mk A60
  clear A60
  obtain ⟨y171, hy171⟩ : ∃ y_ : List ByteArray, y_ = (([(⟨#[120]⟩ : ByteArray), (⟨#[]⟩ : ByteArray), (⟨#[121]⟩ : ByteArray)] : List ByteArray)) := ⟨_, rfl⟩
  replace H : ((swingbridgelaw7_same.f k t168 y171).bind fun t174 => (if t174 = true then (if t158 = true then (if t157 = 120 then (if t160 = true then (some false) else ((words_Name.f k (⟨#[97, 49]⟩ : ByteArray)).bind fun t175 => (if t175 = true then ((words_Name.f k (⟨#[49, 97]⟩ : ByteArray)).bind fun t176 => (if t176 = true then (some false) else ((words_Text.f 120).bind fun t177 => (if t177.toList = ([49, 50, 48] : List UInt8) then ((words_Text.f (-1)).bind fun t178 => (some (t178.toList == ([] : List UInt8)))) else (some false))))) else (some false)))) else (some false)) else (some false)) else (some false))) = some r := by first | (rw [hy171]; with_reducible exact H) | (have H2_ := (Option.bind_some _ _).symm.trans H; rw [hy171]; with_reducible exact H2_) | (have H2_ := (Option.bind_some _ _).symm.trans H; with_reducible exact H2_) | with_reducible exact H | (rw [hy171]; exact H) | exact H
  have Ny171 := Aside0.mk hy171
  clear hy171
  replace H := Option.bind_eq_some_iff.mp H
  obtain ⟨t174, A70, H⟩ := H
  replace H : (if t174 = true then (if t158 = true then (if t157 = 120 then (if t160 = true then (some false) else ((words_Name.f k (⟨#[97, 49]⟩ : ByteArray)).bind fun t175 => (if t175 = true then ((words_Name.f k (⟨#[49, 97]⟩ : ByteArray)).bind fun t176 => (if t176 = true then (some false) else ((words_Text.f 120).bind fun t177 => (if t177.toList = ([49, 50, 48] : List UInt8) then ((words_Text.f (-1)).bind fun t178 => (some (t178.toList == ([] : List UInt8)))) else (some false))))) else (some false)))) else (some false)) else (some false)) else (some false)) = some r := H
  have A7 := Aside0.mk A70
  clear A70
  by_cases c8 : t174 = true
  rotate_left
  · replace c8 := Bool.eq_false_iff.mpr c8
    subst c8
    have H1 : (some false) = some r := by rw [if_neg (show ¬ (false = true) by decide)] at H; exact H
    clear H
    have H := H1
    clear H1
    exact absurd ((Option.some.inj H).trans hT_.out) (by simp)
  subst c8
  have H1 : (if t158 = true then (if t157 = 120 then (if t160 = true then (some false) else ((words_Name.f k (⟨#[97, 49]⟩ : ByteArray)).bind fun t175 => (if t175 = true then ((words_Name.f k (⟨#[49, 97]⟩ : ByteArray)).bind fun t176 => (if t176 = true then (some false) else ((words_Text.f 120).bind fun t177 => (if t177.toList = ([49, 50, 48] : List UInt8) then ((words_Text.f (-1)).bind fun t178 => (some (t178.toList == ([] : List UInt8)))) else (some false))))) else (some false)))) else (some false)) else (some false)) = some r := by rw [if_pos rfl] at H; exact H
  clear H
  have H := H1
  clear H1
  by_cases c9 : t158 = true
  rotate_left
  · replace c9 := Bool.eq_false_iff.mpr c9
    subst c9
    have H1 : (some false) = some r := by rw [if_neg (show ¬ (false = true) by decide)] at H; exact H
    clear H
    have H := H1
    clear H1
    exact absurd ((Option.some.inj H).trans hT_.out) (by simp)
  subst c9
  have H1 : (if t157 = 120 then (if t160 = true then (some false) else ((words_Name.f k (⟨#[97, 49]⟩ : ByteArray)).bind fun t175 => (if t175 = true then ((words_Name.f k (⟨#[49, 97]⟩ : ByteArray)).bind fun t176 => (if t176 = true then (some false) else ((words_Text.f 120).bind fun t177 => (if t177.toList = ([49, 50, 48] : List UInt8) then ((words_Text.f (-1)).bind fun t178 => (some (t178.toList == ([] : List UInt8)))) else (some false))))) else (some false)))) else (some false)) = some r := by rw [if_pos rfl] at H; exact H
  clear H
  have H := H1
  clear H1
  by_cases c10 : t157 = 120
  rotate_left
  · rw [if_neg c10] at H
    have c10b0 : (t157 == 120) = false := beq_eq_false_iff_ne.mpr c10
    have c10b1 : (t157 != 120) = true := bne_iff_ne.mpr c10
    exact absurd ((Option.some.inj H).trans hT_.out) (by simp)
  rw [if_pos c10] at H
  have c10b0 : (t157 == 120) = true := beq_iff_eq.mpr c10
  have c10b1 : (t157 != 120) = false := bne_eq_false_iff_eq.mpr c10
  clear c10
  by_cases c11 : t160 = true
  · subst c11
    have H1 : (some false) = some r := by rw [if_pos rfl] at H; exact H
    clear H
    have H := H1
    clear H1
    exact absurd ((Option.some.inj H).trans hT_.out) (by simp)
  replace c11 := Bool.eq_false_iff.mpr c11
  subst c11
  have H1 : ((words_Name.f k (⟨#[97, 49]⟩ : ByteArray)).bind fun t175 => (if t175 = true then ((words_Name.f k (⟨#[49, 97]⟩ : ByteArray)).bind fun t176 => (if t176 = true then (some false) else ((words_Text.f 120).bind fun t177 => (if t177.toList = ([49, 50, 48] : List UInt8) then ((words_Text.f (-1)).bind fun t178 => (some (t178.toList == ([] : List UInt8)))) else (some false))))) else (some false))) = some r := by rw [if_neg (show ¬ (false = true) by decide)] at H; exact H
  clear H
  have H := H1
  clear H1
  replace H := Option.bind_eq_some_iff.mp H
  obtain ⟨t175, A120, H⟩ := H
  replace H : (if t175 = true then ((words_Name.f k (⟨#[49, 97]⟩ : ByteArray)).bind fun t176 => (if t176 = true then (some false) else ((words_Text.f 120).bind fun t177 => (if t177.toList = ([49, 50, 48] : List UInt8) then ((words_Text.f (-1)).bind fun t178 => (some (t178.toList == ([] : List UInt8)))) else (some false))))) else (some false)) = some r := H
  have A12 := Aside0.mk A120
  clear A120
  by_cases c13 : t175 = true
  rotate_left
  · replace c13 := Bool.eq_false_iff.mpr c13
    subst c13
    have H1 : (some false) = some r := by rw [if_neg (show ¬ (false = true) by decide)] at H; exact H
    clear H
    have H := H1
    clear H1
    exact absurd ((Option.some.inj H).trans hT_.out) (by simp)
  subst c13
  have H1 : ((words_Name.f k (⟨#[49, 97]⟩ : ByteArray)).bind fun t176 => (if t176 = true then (some false) else ((words_Text.f 120).bind fun t177 => (if t177.toList = ([49, 50, 48] : List UInt8) then ((words_Text.f (-1)).bind fun t178 => (some (t178.toList == ([] : List UInt8)))) else (some false))))) = some r := by rw [if_pos rfl] at H; exact H
  clear H
  have H := H1
  clear H1
  replace H := Option.bind_eq_some_iff.mp H
  obtain ⟨t176, A140, H⟩ := H
  replace H : (if t176 = true then (some false) else ((words_Text.f 120).bind fun t177 => (if t177.toList = ([49, 50, 48] : List UInt8) then ((words_Text.f (-1)).bind fun t178 => (some (t178.toList == ([] : List UInt8)))) else (some false)))) = some r := H
  have A14 := Aside0.mk A140
  clear A140
  by_cases c15 : t176 = true
  · subst c15
    have H1 : (some false) = some r := by rw [if_pos rfl] at H; exact H
    clear H
    have H := H1
    clear H1
    exact absurd ((Option.some.inj H).trans hT_.out) (by simp)
  replace c15 := Bool.eq_false_iff.mpr c15
  subst c15
  have H1 : ((words_Text.f 120).bind fun t177 => (if t177.toList = ([49, 50, 48] : List UInt8) then ((words_Text.f (-1)).bind fun t178 => (some (t178.toList == ([] : List UInt8)))) else (some false))) = some r := by rw [if_neg (show ¬ (false = true) by decide)] at H; exact H
  clear H
  have H := H1
  clear H1
  replace H := Option.bind_eq_some_iff.mp H
  obtain ⟨t177, A160, H⟩ := H
  replace H : (if t177.toList = ([49, 50, 48] : List UInt8) then ((words_Text.f (-1)).bind fun t178 => (some (t178.toList == ([] : List UInt8)))) else (some false)) = some r := H
  have A16 := Aside0.mk A160
  clear A160
  by_cases c17 : t177.toList = ([49, 50, 48] : List UInt8)
  rotate_left
  · rw [if_neg c17] at H
    have c17b0 : (t177.toList == ([49, 50, 48] : List UInt8)) = false := beq_eq_false_iff_ne.mpr c17
    have c17b1 : (t177.toList != ([49, 50, 48] : List UInt8)) = true := bne_iff_ne.mpr c17
    exact absurd ((Option.some.inj H).trans hT_.out) (by simp)
  rw [if_pos c17] at H
  have c17b0 : (t177.toList == ([49, 50, 48] : List UInt8)) = true := beq_iff_eq.mpr c17
  have c17b1 : (t177.toList != ([49, 50, 48] : List UInt8)) = false := bne_eq_false_iff_eq.mpr c17
  clear c17
  replace H := Option.bind_eq_some_iff.mp H
  obtain ⟨t178, A180, H⟩ := H
  replace H : (some (t178.toList == ([] : List UInt8))) = some r := H
  have A18 := Aside0.mk A180
  clear A180
  obtain rfl := Option.some.inj H
  go_enter Tryd.func9, Tryd.ntmps9
  go_wp2_with (first | ((with_reducible refine gate_callee (f := 10) rfl ?_); refine goesL_ (some 6) rfl rfl Tryd.func10 (by kernel_rfl) rfl #[.string (⟨#[49, 50, 48]⟩ : ByteArray)] rfl (by (try simp only [List.map_toArray, List.map_cons, List.map_nil]); first | done | rfl | (simp only [List.length_drop, List.length_take]; rfl)) ?_; (with_reducible refine (words_Num.calls (⟨#[49, 50, 48]⟩ : ByteArray) t157 true _ ?side1 A1.out).mono ?_); (case side1 => first | exact Glob.below HG.out (HB.out) | (repeat (first | exact Glob.below HG.out HB.out | (with_reducible refine Glob.alloc ?_ _) | (with_reducible refine Glob.drewN ?_ _) | (with_reducible refine Glob.drew ?_)))); rintro e w19 ⟨rfl, hb⟩; refine ⟨_, rfl, ?_⟩; have n0_ := Aside0.mk (below_step (HB.out) hb); clear HB; have HB := n0_; clear n0_; (try clear hb); (try clear hb2); (try clear hk); (try clear hi)) | ((with_reducible refine gate_callee (f := 10) rfl ?_); refine goesL_ (some 10) rfl rfl Tryd.func10 (by kernel_rfl) rfl #[.string (⟨#[48, 49]⟩ : ByteArray)] rfl (by (try simp only [List.map_toArray, List.map_cons, List.map_nil]); first | done | rfl | (simp only [List.length_drop, List.length_take]; rfl)) ?_; (with_reducible refine (words_Num.calls (⟨#[48, 49]⟩ : ByteArray) t159 false _ ?side1 A2.out).mono ?_); (case side1 => first | exact Glob.below HG.out (HB.out) | (repeat (first | exact Glob.below HG.out HB.out | (with_reducible refine Glob.alloc ?_ _) | (with_reducible refine Glob.drewN ?_ _) | (with_reducible refine Glob.drew ?_)))); rintro e w20 ⟨rfl, hb⟩; refine ⟨_, rfl, ?_⟩; have n0_ := Aside0.mk (below_step (HB.out) hb); clear HB; have HB := n0_; clear n0_; (try clear hb); (try clear hb2); (try clear hk); (try clear hi)) | ((with_reducible refine gate_callee (f := 15) rfl ?_); refine goesL_ (some 13) rfl rfl Tryd.func15 (by kernel_rfl) rfl #[.string (⟨#[97, 32, 32, 98, 32, 35, 32, 99]⟩ : ByteArray)] rfl (by (try simp only [List.map_toArray, List.map_cons, List.map_nil]); first | done | rfl | (simp only [List.length_drop, List.length_take]; rfl)) ?_; (with_reducible refine (words_Words.calls k (⟨#[97, 32, 32, 98, 32, 35, 32, 99]⟩ : ByteArray) t161 _ ?side1 A3.out).mono ?_); (case side1 => first | exact Glob.below HG.out (HB.out) | (repeat (first | exact Glob.below HG.out HB.out | (with_reducible refine Glob.alloc ?_ _) | (with_reducible refine Glob.drewN ?_ _) | (with_reducible refine Glob.drew ?_)))); rintro e w21 ⟨v162, rfl, ho0, hb⟩; refine ⟨_, rfl, ?_⟩; have n0_ := Aside0.mk (Kd.R_lower ho0 (below_size (HB.out))); have n1_ := Aside0.mk (below_step (HB.out) hb); clear HB; have HO163 := n0_; have HB := n1_; clear n0_ n1_; (try clear hb); (try clear hb2); (try clear hk); (try clear hi); (try clear ho0)) | ((with_reducible refine gate_dst (N := 14) rfl ?_); (try (refine gate_guard (by rfl) ?_; dsimp only)); refine Kd.R_lit Kd.string _ 9 ?hg (N := 14) ?hd (xs := ([(⟨#[97]⟩ : ByteArray), (⟨#[98]⟩ : ByteArray)] : List ByteArray)) (inner := [.string (⟨#[97]⟩ : ByteArray), .string (⟨#[98]⟩ : ByteArray)]) (ok := fun _ => True) (okp := fun _ => True) ?hr ?hp (fun _ hk => hk) trivial (Below.refl _ _) (Nat.le_refl _) (by simp) ?_; (case hd => rfl); (case hg => rfl); (case hr => first | (go_simp; done) | (go_simp; rfl)); (case hp => exact (Reps.one (show Kd.M Kd.string _ _ _ (⟨#[97]⟩ : ByteArray) [.string (⟨#[97]⟩ : ByteArray)] from rfl) (Reps.one (show Kd.M Kd.string _ _ _ (⟨#[98]⟩ : ByteArray) [.string (⟨#[98]⟩ : ByteArray)] from rfl) (Reps.none _ _)))); intro v165 w22 ho23 hb hg_ hnew_; clear hg_ hnew_; (first | rw [← Ny164.out] at ho23 | (simp only [Int.reduceToNat] at ho23; rw [← Ny164.out] at ho23)); have n0_ := Aside0.mk (Kd.R_elder' (by (with_reducible repeat (first | apply Kd.R_alloc | apply Kd.R_drewN | apply Kd.R_drew)); exact HO163.out) (Kd.R_base ho23) hb); have n1_ := Aside0.mk (Kd.R_lower (Kd.R_new' ho23 (Kd.R_lt (by (with_reducible repeat (first | apply Kd.R_alloc | apply Kd.R_drewN | apply Kd.R_drew)); exact HO163.out))) (below_size (HB.out))); have n2_ := Aside0.mk (below_step (HB.out) hb); clear HO163; clear HB; have HO163 := n0_; have HO166 := n1_; have HB := n2_; clear n0_ n1_ n2_; clear hb ho23; obtain ⟨Ao24, co24, eo24⟩ := Kd.R_slice HO163.out; subst eo24; obtain ⟨Ao25, co25, eo25⟩ := Kd.R_slice HO166.out; subst eo25) | ((with_reducible refine gate_callee (f := 12) rfl ?_); refine goesL_ (some 15) rfl rfl Tryd.func12 (by kernel_rfl) rfl #[.slice Ao24 t161.length co24, .slice Ao25 y164.length co25] rfl (by (try simp only [List.map_toArray, List.map_cons, List.map_nil]); first | done | rfl | (simp only [List.length_drop, List.length_take]; rfl)) ?_; (with_reducible refine (swingbridgelaw7_same.calls k _ _ t161 _ _ y164 true _ ?side1 ?side2 ?side3 ?side4 A4.out).mono ?_); (case side1 => repeat (first | exact (Kd.R_reads' HO163.out).2.2 | (with_reducible refine Kd.C_alloc ?_ _) | (with_reducible refine Kd.C_drewN ?_ _) | (with_reducible refine Kd.C_drew ?_))); (case side2 => exact (Kd.R_reads' HO163.out).2.1); (case side3 => repeat (first | exact (Kd.R_reads' HO166.out).2.2 | (with_reducible refine Kd.C_alloc ?_ _) | (with_reducible refine Kd.C_drewN ?_ _) | (with_reducible refine Kd.C_drew ?_))); (case side4 => exact (Kd.R_reads' HO166.out).2.1); rintro e w' ⟨rfl, ⟨nd, rfl⟩⟩; refine ⟨_, rfl, ?_⟩) | (go_at_call 13; (with_reducible refine (words_Lines.calls (⟨#[120, 10, 10, 121]⟩ : ByteArray) t168 _ ?side1 A6.out).mono ?_); (case side1 => first | exact Glob.below HG.out (by repeat (first | (with_reducible first | exact HB.out | apply below_alloc | apply pw_below_drewN | apply below_drew1) | exact HB.out)) | (repeat (first | exact Glob.below HG.out HB.out | (with_reducible refine Glob.alloc ?_ _) | (with_reducible refine Glob.drewN ?_ _) | (with_reducible refine Glob.drew ?_)))); rintro e w26 ⟨v169, rfl, ho0, hb⟩; have n0_ := Aside0.mk (Kd.R_elder' (by (with_reducible repeat (first | apply Kd.R_alloc | apply Kd.R_drewN | apply Kd.R_drew)); exact HO163.out) (Kd.R_base ho0) hb); have n1_ := Aside0.mk (Kd.R_elder' (by (with_reducible repeat (first | apply Kd.R_alloc | apply Kd.R_drewN | apply Kd.R_drew)); exact HO166.out) (Kd.R_base ho0) hb); have n2_ := Aside0.mk (Kd.R_lower (Kd.R_new' (Kd.R_new' ho0 (Kd.R_lt (by (with_reducible repeat (first | apply Kd.R_alloc | apply Kd.R_drewN | apply Kd.R_drew)); exact HO163.out))) (Kd.R_lt (by (with_reducible repeat (first | apply Kd.R_alloc | apply Kd.R_drewN | apply Kd.R_drew)); exact HO166.out))) (below_size (by repeat (first | (with_reducible first | exact HB.out | apply below_alloc | apply pw_below_drewN | apply below_drew1) | exact HB.out)))); have n3_ := Aside0.mk (below_step (by repeat (first | (with_reducible first | exact HB.out | apply below_alloc | apply pw_below_drewN | apply below_drew1) | exact HB.out)) hb); clear HO163; clear HO166; clear HB; have HO163 := n0_; have HO166 := n1_; have HO170 := n2_; have HB := n3_; clear n0_ n1_ n2_ n3_; (try clear hb); (try clear hb2); (try clear hk); (try clear hi); (try clear ho0)) | ((with_reducible refine gate_dst (N := 18) rfl ?_); (try (refine gate_guard (by rfl) ?_; dsimp only)); refine Kd.R_lit Kd.string _ 9 ?hg (N := 18) ?hd (xs := ([(⟨#[120]⟩ : ByteArray), (⟨#[]⟩ : ByteArray), (⟨#[121]⟩ : ByteArray)] : List ByteArray)) (inner := [.string (⟨#[120]⟩ : ByteArray), .string (⟨#[]⟩ : ByteArray), .string (⟨#[121]⟩ : ByteArray)]) (ok := fun _ => True) (okp := fun _ => True) ?hr ?hp (fun _ hk => hk) trivial (Below.refl _ _) (Nat.le_refl _) (by simp) ?_; (case hd => rfl); (case hg => rfl); (case hr => first | (go_simp; done) | (go_simp; rfl)); (case hp => exact (Reps.one (show Kd.M Kd.string _ _ _ (⟨#[120]⟩ : ByteArray) [.string (⟨#[120]⟩ : ByteArray)] from rfl) (Reps.one (show Kd.M Kd.string _ _ _ (⟨#[]⟩ : ByteArray) [.string (⟨#[]⟩ : ByteArray)] from rfl) (Reps.one (show Kd.M Kd.string _ _ _ (⟨#[121]⟩ : ByteArray) [.string (⟨#[121]⟩ : ByteArray)] from rfl) (Reps.none _ _))))); intro v172 w27 ho28 hb hg_ hnew_; clear hg_ hnew_; (first | rw [← Ny171.out] at ho28 | (simp only [Int.reduceToNat] at ho28; rw [← Ny171.out] at ho28)); have n0_ := Aside0.mk (Kd.R_elder' (by (with_reducible repeat (first | apply Kd.R_alloc | apply Kd.R_drewN | apply Kd.R_drew)); exact HO163.out) (Kd.R_base ho28) hb); have n1_ := Aside0.mk (Kd.R_elder' (by (with_reducible repeat (first | apply Kd.R_alloc | apply Kd.R_drewN | apply Kd.R_drew)); exact HO166.out) (Kd.R_base ho28) hb); have n2_ := Aside0.mk (Kd.R_elder' (by (with_reducible repeat (first | apply Kd.R_alloc | apply Kd.R_drewN | apply Kd.R_drew)); exact HO170.out) (Kd.R_base ho28) hb); have n3_ := Aside0.mk (Kd.R_lower (Kd.R_new' (Kd.R_new' (Kd.R_new' ho28 (Kd.R_lt (by (with_reducible repeat (first | apply Kd.R_alloc | apply Kd.R_drewN | apply Kd.R_drew)); exact HO163.out))) (Kd.R_lt (by (with_reducible repeat (first | apply Kd.R_alloc | apply Kd.R_drewN | apply Kd.R_drew)); exact HO166.out))) (Kd.R_lt (by (with_reducible repeat (first | apply Kd.R_alloc | apply Kd.R_drewN | apply Kd.R_drew)); exact HO170.out))) (below_size (HB.out))); have n4_ := Aside0.mk (below_step (HB.out) hb); clear HO163; clear HO166; clear HO170; clear HB; have HO163 := n0_; have HO166 := n1_; have HO170 := n2_; have HO173 := n3_; have HB := n4_; clear n0_ n1_ n2_ n3_ n4_; clear hb ho28; obtain ⟨Ao29, co29, eo29⟩ := Kd.R_slice HO170.out; subst eo29; obtain ⟨Ao30, co30, eo30⟩ := Kd.R_slice HO173.out; subst eo30) | (go_at_call 12; (with_reducible refine (swingbridgelaw7_same.calls k _ _ t168 _ _ y171 true _ ?side1 ?side2 ?side3 ?side4 A7.out).mono ?_); (case side1 => repeat (first | exact (Kd.R_reads' HO170.out).2.2 | (with_reducible refine Kd.C_alloc ?_ _) | (with_reducible refine Kd.C_drewN ?_ _) | (with_reducible refine Kd.C_drew ?_))); (case side2 => exact (Kd.R_reads' HO170.out).2.1); (case side3 => repeat (first | exact (Kd.R_reads' HO173.out).2.2 | (with_reducible refine Kd.C_alloc ?_ _) | (with_reducible refine Kd.C_drewN ?_ _) | (with_reducible refine Kd.C_drew ?_))); (case side4 => exact (Kd.R_reads' HO173.out).2.1); rintro e w' ⟨rfl, ⟨nd, rfl⟩⟩) | (go_at_call 17; (with_reducible refine (words_Name.calls k (⟨#[97, 49]⟩ : ByteArray) true _ A12.out).mono ?_); rintro e w' ⟨rfl, ⟨nd, rfl⟩⟩) | (go_at_call 17; (with_reducible refine (words_Name.calls k (⟨#[49, 97]⟩ : ByteArray) false _ A14.out).mono ?_); rintro e w' ⟨rfl, ⟨nd, rfl⟩⟩) | (go_at_call 19; (with_reducible refine (words_Text.calls 120 t177 _ ?side1 A16.out).mono ?_); (case side1 => first | exact Glob.below HG.out (by repeat (first | (with_reducible first | exact HB.out | apply below_alloc | apply pw_below_drewN | apply below_drew1) | exact HB.out)) | (repeat (first | exact Glob.below HG.out HB.out | (with_reducible refine Glob.alloc ?_ _) | (with_reducible refine Glob.drewN ?_ _) | (with_reducible refine Glob.drew ?_)))); rintro e w31 ⟨rfl, hb⟩; have n0_ := Aside0.mk (Kd.R_below (by (with_reducible repeat (first | apply Kd.R_alloc | apply Kd.R_drewN | apply Kd.R_drew)); exact HO163.out) hb); have n1_ := Aside0.mk (Kd.R_below (by (with_reducible repeat (first | apply Kd.R_alloc | apply Kd.R_drewN | apply Kd.R_drew)); exact HO166.out) hb); have n2_ := Aside0.mk (Kd.R_below (by (with_reducible repeat (first | apply Kd.R_alloc | apply Kd.R_drewN | apply Kd.R_drew)); exact HO170.out) hb); have n3_ := Aside0.mk (Kd.R_below (by (with_reducible repeat (first | apply Kd.R_alloc | apply Kd.R_drewN | apply Kd.R_drew)); exact HO173.out) hb); have n4_ := Aside0.mk (below_step (by repeat (first | (with_reducible first | exact HB.out | apply below_alloc | apply pw_below_drewN | apply below_drew1) | exact HB.out)) hb); clear HO163; clear HO166; clear HO170; clear HO173; clear HB; have HO163 := n0_; have HO166 := n1_; have HO170 := n2_; have HO173 := n3_; have HB := n4_; clear n0_ n1_ n2_ n3_ n4_; (try clear hb); (try clear hb2); (try clear hk); (try clear hi)) | (go_at_call 19; (with_reducible refine (words_Text.calls (-1) t178 _ ?side1 A18.out).mono ?_); (case side1 => first | exact Glob.below HG.out (HB.out) | (repeat (first | exact Glob.below HG.out HB.out | (with_reducible refine Glob.alloc ?_ _) | (with_reducible refine Glob.drewN ?_ _) | (with_reducible refine Glob.drew ?_)))); rintro e w32 ⟨rfl, hb⟩; have n0_ := Aside0.mk (Kd.R_below (by (with_reducible repeat (first | apply Kd.R_alloc | apply Kd.R_drewN | apply Kd.R_drew)); exact HO163.out) hb); have n1_ := Aside0.mk (Kd.R_below (by (with_reducible repeat (first | apply Kd.R_alloc | apply Kd.R_drewN | apply Kd.R_drew)); exact HO166.out) hb); have n2_ := Aside0.mk (Kd.R_below (by (with_reducible repeat (first | apply Kd.R_alloc | apply Kd.R_drewN | apply Kd.R_drew)); exact HO170.out) hb); have n3_ := Aside0.mk (Kd.R_below (by (with_reducible repeat (first | apply Kd.R_alloc | apply Kd.R_drewN | apply Kd.R_drew)); exact HO173.out) hb); have n4_ := Aside0.mk (below_step (HB.out) hb); clear HO163; clear HO166; clear HO170; clear HO173; clear HB; have HO163 := n0_; have HO166 := n1_; have HO170 := n2_; have HO173 := n3_; have HB := n4_; clear n0_ n1_ n2_ n3_ n4_; (try clear hb); (try clear hb2); (try clear hk); (try clear hi)))
  go_ret
  exact ⟨by first | rfl | (simp [errW_none, errW_some] <;> rfl) | (simp [*, errW_none, errW_some] <;> rfl), HB.out⟩

end Go.Proofs.YtgkjoodlcojkkaaDoor.QD
