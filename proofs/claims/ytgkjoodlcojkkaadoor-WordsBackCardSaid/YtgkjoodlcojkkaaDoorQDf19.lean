-- written by a program of this session (wip/tools): the functions that the laws reach, as plain Lean, and their walks
import Derived.Test.YtgkjoodlcojkkaaDoorQD0
import Derived.Test.YtgkjoodlcojkkaaDoorXLib
namespace Go.Proofs.YtgkjoodlcojkkaaDoor.QD
open Go.RowKit Go.Proofs.YtgkjoodlcojkkaaDoorW.PrintWords Go.Proofs.YtgkjoodlcojkkaaDoorW.PrintLast Go.Proofs.YtgkjoodlcojkkaaDoorW.PrintMore
attribute [local go_sem] max2_int min2_int max_two min_two max_three min_three max_four min_four   -- for this text's walks alone
set_option linter.unusedVariables false
set_option linter.unusedSimpArgs false

/-! ### words_Text: function 19 -/
def words_Text.f (a0 : Int) : Option (ByteArray) := if a0 < 0 then (some (⟨#[]⟩ : ByteArray)) else (if a0 > 9999999 then (some (⟨#[]⟩ : ByteArray)) else ((strconv_Itoa_28.f a0).bind fun t156 => (some t156)))
set_option maxHeartbeats 8000000 in
set_option maxRecDepth 100000 in
theorem words_Text.calls (a0 : Int) (r : ByteArray) (w : World) (hG : Glob w) (h : words_Text.f a0 = some r) :
    Calls Tryd.prog 19 #[.int .i64 a0] w fun e w' => e = .returned (.string r) ∧ Below w.heap.size w w' := by
  have HG := Aside0.mk hG
  clear hG
  have HB := Aside0.mk (Below.refl w.heap.size w)
  have H : (if a0 < 0 then (some (⟨#[]⟩ : ByteArray)) else (if a0 > 9999999 then (some (⟨#[]⟩ : ByteArray)) else ((strconv_Itoa_28.f a0).bind fun t156 => (some t156)))) = some r := h
  clear h
  by_cases c2 : a0 < 0
  · rw [if_pos c2] at H
    have c2b0 : decide (a0 < 0) = true := decide_eq_true c2
    clear c2
    obtain rfl := Option.some.inj H
    go_enter Tryd.func19, Tryd.ntmps19
    go_wp2
    go_ret
    exact ⟨by first | rfl | (simp [errW_none, errW_some] <;> rfl) | (simp [*, errW_none, errW_some] <;> rfl), HB.out⟩
  rw [if_neg c2] at H
  have c2b0 : decide (a0 < 0) = false := decide_eq_false c2
  clear c2
  by_cases c3 : a0 > 9999999
  · rw [if_pos c3] at H
    have c3b0 : decide (9999999 < a0) = true := decide_eq_true c3
    clear c3
    obtain rfl := Option.some.inj H
    go_enter Tryd.func19, Tryd.ntmps19
    go_wp2
    go_ret
    exact ⟨by first | rfl | (simp [errW_none, errW_some] <;> rfl) | (simp [*, errW_none, errW_some] <;> rfl), HB.out⟩
  rw [if_neg c3] at H
  have c3b0 : decide (9999999 < a0) = false := decide_eq_false c3
  clear c3
  replace H := Option.bind_eq_some_iff.mp H
  obtain ⟨t156, A40, H⟩ := H
  replace H : (some t156) = some r := H
  have A4 := Aside0.mk A40
  clear A40
  obtain rfl := Option.some.inj H
  go_enter Tryd.func19, Tryd.ntmps19
  go_wp2_with (first | ((with_reducible refine gate_callee (f := 28) rfl ?_); refine goesL_ (some 10) rfl rfl Tryd.func28 (by kernel_rfl) rfl #[.int .i64 a0] rfl (by (try simp only [List.map_toArray, List.map_cons, List.map_nil]); first | done | rfl | (simp only [List.length_drop, List.length_take]; rfl)) ?_; (with_reducible refine (strconv_Itoa_28.calls a0 t156 _ ?side1 A4.out).mono ?_); (case side1 => first | exact Glob.below HG.out (HB.out) | (repeat (first | exact Glob.below HG.out HB.out | (with_reducible refine Glob.alloc ?_ _) | (with_reducible refine Glob.drewN ?_ _) | (with_reducible refine Glob.drew ?_)))); rintro e w5 ⟨rfl, hb⟩; refine ⟨_, rfl, ?_⟩; have n0_ := Aside0.mk (below_step (HB.out) hb); clear HB; have HB := n0_; clear n0_; (try clear hb); (try clear hb2); (try clear hk); (try clear hi)))
  go_ret
  exact ⟨by first | rfl | (simp [errW_none, errW_some] <;> rfl) | (simp [*, errW_none, errW_some] <;> rfl), HB.out⟩

end Go.Proofs.YtgkjoodlcojkkaaDoor.QD
