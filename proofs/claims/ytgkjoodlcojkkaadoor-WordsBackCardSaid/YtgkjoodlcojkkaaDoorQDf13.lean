-- written by a program of this session (wip/tools): the functions that the laws reach, as plain Lean, and their walks
import Derived.Test.YtgkjoodlcojkkaaDoorQD0
import Derived.Test.YtgkjoodlcojkkaaDoorXLib
namespace Go.Proofs.YtgkjoodlcojkkaaDoor.QD
open Go.RowKit Go.Proofs.YtgkjoodlcojkkaaDoorW.PrintWords Go.Proofs.YtgkjoodlcojkkaaDoorW.PrintLast Go.Proofs.YtgkjoodlcojkkaaDoorW.PrintMore
attribute [local go_sem] max2_int min2_int max_two min_two max_three min_three max_four min_four   -- for this text's walks alone
set_option linter.unusedVariables false
set_option linter.unusedSimpArgs false

/-! ### words_Lines: function 13 -/
def words_Lines.f (a0 : ByteArray) : Option (List ByteArray) := (strings_Split.f a0 (⟨#[10]⟩ : ByteArray)).bind fun t139 => (if 0 ≤ (wrap64 ((t139.length : Int) - 1)) then (if (wrap64 ((t139.length : Int) - 1)) < (t139.length : Int) then (if (rdOf ByteArray.empty t139 (wrap64 ((t139.length : Int) - 1))).toList = ([] : List UInt8) then (if (wrap64 ((t139.length : Int) - 1)) ≤ (t139.length : Int) then (some (t139.take ((wrap64 ((t139.length : Int) - 1)) : Int).toNat)) else (none)) else (some t139)) else (none)) else (none))
set_option maxHeartbeats 8000000 in
set_option maxRecDepth 100000 in
theorem words_Lines.calls (a0 : ByteArray) (r : List ByteArray) (w : World) (hG : Glob w) (h : words_Lines.f a0 = some r) :
    Calls Tryd.prog 13 #[.string a0] w fun e w' => ∃ v0_ : Value, e = .returned (v0_) ∧ Kd.R Kd.string 9 w' w.heap.size (fun _ => True) v0_ r ∧ Below w.heap.size w w' := by
  have HG := Aside0.mk hG
  clear hG
  have HB := Aside0.mk (Below.refl w.heap.size w)
  have H : ((strings_Split.f a0 (⟨#[10]⟩ : ByteArray)).bind fun t139 => (if 0 ≤ (wrap64 ((t139.length : Int) - 1)) then (if (wrap64 ((t139.length : Int) - 1)) < (t139.length : Int) then (if (rdOf ByteArray.empty t139 (wrap64 ((t139.length : Int) - 1))).toList = ([] : List UInt8) then (if (wrap64 ((t139.length : Int) - 1)) ≤ (t139.length : Int) then (some (t139.take ((wrap64 ((t139.length : Int) - 1)) : Int).toNat)) else (none)) else (some t139)) else (none)) else (none))) = some r := h
  clear h
  replace H := Option.bind_eq_some_iff.mp H
  obtain ⟨t139, A20, H⟩ := H
  replace H : (if 0 ≤ (wrap64 ((t139.length : Int) - 1)) then (if (wrap64 ((t139.length : Int) - 1)) < (t139.length : Int) then (if (rdOf ByteArray.empty t139 (wrap64 ((t139.length : Int) - 1))).toList = ([] : List UInt8) then (if (wrap64 ((t139.length : Int) - 1)) ≤ (t139.length : Int) then (some (t139.take ((wrap64 ((t139.length : Int) - 1)) : Int).toNat)) else (none)) else (some t139)) else (none)) else (none)) = some r := H
  have A2 := Aside0.mk A20
  clear A20
  obtain ⟨ji3, hji3⟩ : ∃ j_ : Int, (wrap64 ((t139.length : Int) - 1)) = j_ := ⟨_, rfl⟩
  replace H : (if 0 ≤ (ji3) then (if (ji3) < (t139.length : Int) then (if (rdOf ByteArray.empty t139 (ji3)).toList = ([] : List UInt8) then (if (ji3) ≤ (t139.length : Int) then (some (t139.take ((ji3) : Int).toNat)) else (none)) else (some t139)) else (none)) else (none)) = some r := by first | (rw [hji3] at H; exact H) | (simp only [hji3] at H ⊢; exact H)
  (try rw [hji3] at A2)
  have hji3w : (IntKind.i64.wrap ((t139.length : Int) - 1)) = ji3 := (i64_w _).trans hji3
  by_cases c4 : 0 ≤ (ji3)
  rotate_left
  · rw [if_neg c4] at H
    exact absurd H (by simp)
  rw [if_pos c4] at H
  have c4b0 : decide (0 ≤ (ji3)) = true := decide_eq_true c4
  clear c4
  by_cases c5 : (ji3) < (t139.length : Int)
  rotate_left
  · rw [if_neg c5] at H
    exact absurd H (by simp)
  rw [if_pos c5] at H
  have c5b0 : decide ((ji3) < (t139.length : Int)) = true := decide_eq_true c5
  clear c5
  by_cases c6 : (rdOf ByteArray.empty t139 (ji3)).toList = ([] : List UInt8)
  rotate_left
  · rw [if_neg c6] at H
    have c6b0 : ((rdOf ByteArray.empty t139 (ji3)).toList == ([] : List UInt8)) = false := beq_eq_false_iff_ne.mpr c6
    have c6b1 : ((rdOf ByteArray.empty t139 (ji3)).toList != ([] : List UInt8)) = true := bne_iff_ne.mpr c6
    obtain rfl := Option.some.inj H
    go_enter Tryd.func13, Tryd.ntmps13
    go_wp2_with (first | ((with_reducible refine gate_callee (f := 29) rfl ?_); refine goesL_ (some 5) rfl rfl Tryd.func29 (by kernel_rfl) rfl #[.string a0, .string (⟨#[10]⟩ : ByteArray)] rfl (by (try simp only [List.map_toArray, List.map_cons, List.map_nil]); first | done | rfl | (simp only [List.length_drop, List.length_take]; rfl)) ?_; (with_reducible refine (strings_Split.calls a0 (⟨#[10]⟩ : ByteArray) t139 _ ?side1 A2.out).mono ?_); (case side1 => first | exact Glob.below HG.out (HB.out) | (repeat (first | exact Glob.below HG.out HB.out | (with_reducible refine Glob.alloc ?_ _) | (with_reducible refine Glob.drewN ?_ _) | (with_reducible refine Glob.drew ?_)))); rintro e w7 ⟨v140, rfl, ho0, hb⟩; refine ⟨_, rfl, ?_⟩; have n0_ := Aside0.mk (Kd.R_lower ho0 (below_size (HB.out))); have n1_ := Aside0.mk (below_step (HB.out) hb); clear HB; have HO141 := n0_; have HB := n1_; clear n0_ n1_; (try clear hb); (try clear hb2); (try clear hk); (try clear hi); (try clear ho0); obtain ⟨Ao8, co8, eo8⟩ := Kd.R_slice HO141.out; subst eo8; have p142 : 0 ≤ ((ji3) : Int) := of_decide_eq_true (by first | (with_reducible assumption) | assumption); have q142 : (ji3) < (t139.length : Int) := of_decide_eq_true (by first | (with_reducible assumption) | assumption); obtain ⟨ad142, e142, hx142_0⟩ := Kd.at_string (Kd.R_reads' HO141.out).2.2 (ji3) p142 q142; cases e142; replace p142 := eq_true p142; replace q142 := eq_true q142))
    go_ret
    exact ⟨_, by first | rfl | (simp [errW_none, errW_some] <;> rfl) | (simp only [← hji3]; first | rfl | (simp [errW_none, errW_some] <;> rfl)) | (simp [*, errW_none, errW_some] <;> rfl), by (with_reducible repeat (first | apply Kd.R_alloc | apply Kd.R_drewN | apply Kd.R_drew)); exact HO141.out, HB.out⟩
  rw [if_pos c6] at H
  have c6b0 : ((rdOf ByteArray.empty t139 (ji3)).toList == ([] : List UInt8)) = true := beq_iff_eq.mpr c6
  have c6b1 : ((rdOf ByteArray.empty t139 (ji3)).toList != ([] : List UInt8)) = false := bne_eq_false_iff_eq.mpr c6
  clear c6
  by_cases c9 : (ji3) ≤ (t139.length : Int)
  rotate_left
  · rw [if_neg c9] at H
    exact absurd H (by simp)
  rw [if_pos c9] at H
  have c9b0 := eq_true c9
  have c9b1 : decide ((ji3) ≤ (t139.length : Int)) = true := decide_eq_true c9
  clear c9
  obtain ⟨y143, hy143⟩ : ∃ y_ : List ByteArray, y_ = (t139.take ((ji3) : Int).toNat) := ⟨_, rfl⟩
  replace H : (some y143) = some r := by first | (rw [hy143]; with_reducible exact H) | (have H2_ := (Option.bind_some _ _).symm.trans H; rw [hy143]; with_reducible exact H2_) | (have H2_ := (Option.bind_some _ _).symm.trans H; with_reducible exact H2_) | with_reducible exact H | (rw [hy143]; exact H) | exact H
  have Ny143 := Aside0.mk hy143
  clear hy143
  obtain rfl := Option.some.inj H
  go_enter Tryd.func13, Tryd.ntmps13
  go_wp2_with (first | ((with_reducible refine gate_callee (f := 29) rfl ?_); refine goesL_ (some 5) rfl rfl Tryd.func29 (by kernel_rfl) rfl #[.string a0, .string (⟨#[10]⟩ : ByteArray)] rfl (by (try simp only [List.map_toArray, List.map_cons, List.map_nil]); first | done | rfl | (simp only [List.length_drop, List.length_take]; rfl)) ?_; (with_reducible refine (strings_Split.calls a0 (⟨#[10]⟩ : ByteArray) t139 _ ?side1 A2.out).mono ?_); (case side1 => first | exact Glob.below HG.out (HB.out) | (repeat (first | exact Glob.below HG.out HB.out | (with_reducible refine Glob.alloc ?_ _) | (with_reducible refine Glob.drewN ?_ _) | (with_reducible refine Glob.drew ?_)))); rintro e w10 ⟨v140, rfl, ho0, hb⟩; refine ⟨_, rfl, ?_⟩; have n0_ := Aside0.mk (Kd.R_lower ho0 (below_size (HB.out))); have n1_ := Aside0.mk (below_step (HB.out) hb); clear HB; have HO141 := n0_; have HB := n1_; clear n0_ n1_; (try clear hb); (try clear hb2); (try clear hk); (try clear hi); (try clear ho0); obtain ⟨Ao11, co11, eo11⟩ := Kd.R_slice HO141.out; subst eo11; have p142 : 0 ≤ ((ji3) : Int) := of_decide_eq_true (by first | (with_reducible assumption) | assumption); have q142 : (ji3) < (t139.length : Int) := of_decide_eq_true (by first | (with_reducible assumption) | assumption); obtain ⟨ad142, e142, hx142_0⟩ := Kd.at_string (Kd.R_reads' HO141.out).2.2 (ji3) p142 q142; cases e142; replace p142 := eq_true p142; replace q142 := eq_true q142; have q12 : ((ji3) : Int) ≤ ((t139.length : Int) : Int) := of_decide_eq_true (by first | (with_reducible assumption) | assumption); obtain ⟨i012, hi012, _, hsz12, _⟩ := info_parts info9; have hcut12 := cut_to (P := Tryd.prog) 26 9 .i64 Tryd.underlying26 hi012 (some ad142) t139.length co11 (ji3) (of_decide_eq_true (by first | (with_reducible assumption) | assumption)) q12 (Kd.R_reads' HO141.out).2.1; have hr12 := Kd.R_take (m := ((ji3) : Int).toNat) HO141.out (by omega); have hy12 : y143.length = ((ji3) : Int).toNat := (by rw [Ny143.out, List.length_take]; omega); rw [← Ny143.out] at hr12; rw [← hy12] at hr12 hcut12; clear hy12 hi012 hsz12 HO141; have HO145 := Aside0.mk hr12; clear hr12; replace q12 := eq_true q12))
  go_ret
  exact ⟨_, by first | rfl | (simp [errW_none, errW_some] <;> rfl) | (simp only [← hji3]; first | rfl | (simp [errW_none, errW_some] <;> rfl)) | (simp [*, errW_none, errW_some] <;> rfl), by (with_reducible repeat (first | apply Kd.R_alloc | apply Kd.R_drewN | apply Kd.R_drew)); exact HO145.out, HB.out⟩

end Go.Proofs.YtgkjoodlcojkkaaDoor.QD
