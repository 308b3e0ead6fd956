-- written by a program of this session (wip/tools): the functions that the laws reach, as plain Lean, and their walks
import Derived.Test.YtgkjoodlcojkkaaDoorQD0
import Derived.Test.YtgkjoodlcojkkaaDoorQDf13
import Derived.Test.YtgkjoodlcojkkaaDoorQDf15
import Derived.Test.YtgkjoodlcojkkaaDoorQDf9
import Derived.Test.YtgkjoodlcojkkaaDoorQDf12
namespace Go.Proofs.YtgkjoodlcojkkaaDoor.QD
open Go.RowKit Go.Proofs.YtgkjoodlcojkkaaDoorW.PrintWords Go.Proofs.YtgkjoodlcojkkaaDoorW.PrintLast Go.Proofs.YtgkjoodlcojkkaaDoorW.PrintMore
attribute [local go_sem] max2_int min2_int max_two min_two max_three min_three max_four min_four   -- for this text's walks alone
set_option linter.unusedVariables false
set_option linter.unusedSimpArgs false

/-! ### swingbridgelaw7_WordsBack: function 4 -/
mutual
def swingbridgelaw7_WordsBack.j0 : Nat → List ByteArray → Int → ByteArray → Bool → Option (Bool)
  | 0, _, _, _, _ => none
  | k + 1, x0, x1, x2, x20 => if x20 = true then (some true) else (swingbridgelaw7_WordsBack.l0 k x0 x1 x2 (⟨#[]⟩ : ByteArray) (⟨#[]⟩ : ByteArray) 0)
def swingbridgelaw7_WordsBack.l0 : Nat → List ByteArray → Int → ByteArray → ByteArray → ByteArray → Int → Option (Bool)
  | 0, _, _, _, _, _, _ => none
  | k + 1, x0, x1, x2, x7, x8, x9 => if x9 < (x0.length : Int) then (if 0 ≤ x9 then (if ((rdOf ByteArray.empty x0 x9).size : Int) = 0 then (swingbridgelaw7_WordsBack.j2 k x0 x1 x2 x7 x8 x9 true) else (swingbridgelaw7_WordsBack.j2 k x0 x1 x2 x7 x8 x9 (decide (((rdOf ByteArray.empty x0 x9).size : Int) > 20)))) else (none)) else ((words_Words.f k x7).bind fun t235 => ((swingbridgelaw7_same.f k t235 x0).bind fun t238 => (if t238 = true then (if x7.size + 2 ≤ 9223372036854775807 then (if (x7 ++ (⟨#[32, 35]⟩ : ByteArray)).size + x2.size ≤ 9223372036854775807 then ((words_Words.f k ((x7 ++ (⟨#[32, 35]⟩ : ByteArray)) ++ x2)).bind fun t239 => ((swingbridgelaw7_same.f k t239 x0).bind fun t242 => (if t242 = true then ((words_Lines.f x8).bind fun t243 => ((swingbridgelaw7_same.f k t243 x0).bind fun t246 => (some t246))) else (some false)))) else (none)) else (none)) else (some false))))
def swingbridgelaw7_WordsBack.j2 : Nat → List ByteArray → Int → ByteArray → ByteArray → ByteArray → Int → Bool → Option (Bool)
  | 0, _, _, _, _, _, _, _ => none
  | k + 1, x0, x1, x2, x7, x8, x9, x40 => if x40 = true then (some true) else (swingbridgelaw7_WordsBack.l1 k x0 x1 x2 x7 x8 x9 0)
def swingbridgelaw7_WordsBack.l1 : Nat → List ByteArray → Int → ByteArray → ByteArray → ByteArray → Int → Int → Option (Bool)
  | 0, _, _, _, _, _, _, _ => none
  | k + 1, x0, x1, x2, x7, x8, x9, x10 => if 0 ≤ x9 then (if x9 < (x0.length : Int) then (if x10 < ((rdOf ByteArray.empty x0 x9).size : Int) then (if 0 ≤ x10 then (if (bt (rdOf ByteArray.empty x0 x9) x10) = 32 then (some true) else (if (bt (rdOf ByteArray.empty x0 x9) x10) = 35 then (some true) else (if (bt (rdOf ByteArray.empty x0 x9) x10) = 10 then (some true) else (swingbridgelaw7_WordsBack.l1 k x0 x1 x2 x7 x8 x9 (wrap64 (x10 + 1)))))) else (none)) else (if 0 ≤ (IntKind.u64.wrap (x9)) then (if 0 ≤ (wrap64 (1 + (wrap64 (Go.bits .and .u16 (shr .u16 x1 (IntKind.u64.wrap (x9))) 1)))) then (if (wrap64 (1 + (wrap64 (Go.bits .and .u16 (shr .u16 x1 (IntKind.u64.wrap (x9))) 1)))) ≤ 3 then (if x7.size + ((⟨#[32, 32, 32]⟩ : ByteArray).extract 0 ((wrap64 (1 + (wrap64 (Go.bits .and .u16 (shr .u16 x1 (IntKind.u64.wrap (x9))) 1)))) : Int).toNat).size ≤ 9223372036854775807 then (if (x7 ++ ((⟨#[32, 32, 32]⟩ : ByteArray).extract 0 ((wrap64 (1 + (wrap64 (Go.bits .and .u16 (shr .u16 x1 (IntKind.u64.wrap (x9))) 1)))) : Int).toNat)).size + (rdOf ByteArray.empty x0 x9).size ≤ 9223372036854775807 then (if x8.size + (rdOf ByteArray.empty x0 x9).size ≤ 9223372036854775807 then (if (x8 ++ (rdOf ByteArray.empty x0 x9)).size + 1 ≤ 9223372036854775807 then (swingbridgelaw7_WordsBack.l0 k x0 x1 x2 ((x7 ++ ((⟨#[32, 32, 32]⟩ : ByteArray).extract 0 ((wrap64 (1 + (wrap64 (Go.bits .and .u16 (shr .u16 x1 (IntKind.u64.wrap (x9))) 1)))) : Int).toNat)) ++ (rdOf ByteArray.empty x0 x9)) ((x8 ++ (rdOf ByteArray.empty x0 x9)) ++ (⟨#[10]⟩ : ByteArray)) (wrap64 (x9 + 1))) else (none)) else (none)) else (none)) else (none)) else (none)) else (none)) else (none))) else (none)) else (none)
end
def swingbridgelaw7_WordsBack.f (k : Nat) (l0 : List ByteArray) (a1 : Int) (a2 : ByteArray) : Option (Bool) := (swingbridgelaw7_known.f k).bind fun t226 => (if t226 = true then (if (l0.length : Int) > 12 then (swingbridgelaw7_WordsBack.j0 k l0 a1 a2 true) else (swingbridgelaw7_WordsBack.j0 k l0 a1 a2 (decide ((a2.size : Int) > 40)))) else (some false))
theorem swingbridgelaw7_WordsBack.mono_l : ∀ k, (∀ y0 y1 y2 y3, LeO (swingbridgelaw7_WordsBack.j0 k y0 y1 y2 y3) (swingbridgelaw7_WordsBack.j0 (k + 1) y0 y1 y2 y3)) ∧ (∀ y0 y1 y2 y3 y4 y5, LeO (swingbridgelaw7_WordsBack.l0 k y0 y1 y2 y3 y4 y5) (swingbridgelaw7_WordsBack.l0 (k + 1) y0 y1 y2 y3 y4 y5)) ∧ (∀ y0 y1 y2 y3 y4 y5 y6, LeO (swingbridgelaw7_WordsBack.j2 k y0 y1 y2 y3 y4 y5 y6) (swingbridgelaw7_WordsBack.j2 (k + 1) y0 y1 y2 y3 y4 y5 y6)) ∧ (∀ y0 y1 y2 y3 y4 y5 y6, LeO (swingbridgelaw7_WordsBack.l1 k y0 y1 y2 y3 y4 y5 y6) (swingbridgelaw7_WordsBack.l1 (k + 1) y0 y1 y2 y3 y4 y5 y6))
  | 0 => ⟨fun _ _ _ _ r h => by simp [swingbridgelaw7_WordsBack.j0] at h, fun _ _ _ _ _ _ r h => by simp [swingbridgelaw7_WordsBack.l0] at h, fun _ _ _ _ _ _ _ r h => by simp [swingbridgelaw7_WordsBack.j2] at h, fun _ _ _ _ _ _ _ r h => by simp [swingbridgelaw7_WordsBack.l1] at h⟩
  | k + 1 => by
    obtain ⟨ih0, ih1, ih2, ih3⟩ := swingbridgelaw7_WordsBack.mono_l k
    refine ⟨?_, ?_, ?_, ?_⟩
    · intro y0 y1 y2 y3
      unfold swingbridgelaw7_WordsBack.j0
      repeat' first
      | (with_reducible exact ih0 _ _ _ _)
      | (with_reducible exact ih1 _ _ _ _ _ _)
      | (with_reducible exact ih2 _ _ _ _ _ _ _)
      | (with_reducible exact ih3 _ _ _ _ _ _ _)
      | (with_reducible exact swingbridgelaw7_known.mono _)
      | (with_reducible exact swingbridgelaw7_same.mono _ _ _)
      | (with_reducible exact words_Words.mono _ _)
      | (with_reducible exact LeO.refl _)
      | (with_reducible exact LeO.none _)
      | (with_reducible refine LeO.ite ?_ ?_)
      | (with_reducible refine LeO.bind ?_ (fun _ => ?_))
      | exact ih0 _ _ _ _
      | exact ih1 _ _ _ _ _ _
      | exact ih2 _ _ _ _ _ _ _
      | exact ih3 _ _ _ _ _ _ _
      | exact swingbridgelaw7_known.mono _
      | exact swingbridgelaw7_same.mono _ _ _
      | exact words_Words.mono _ _
      | exact LeO.none _
      | refine LeO.ite ?_ ?_
      | refine LeO.bind ?_ (fun _ => ?_)
    · intro y0 y1 y2 y3 y4 y5
      unfold swingbridgelaw7_WordsBack.l0
      repeat' first
      | (with_reducible exact ih0 _ _ _ _)
      | (with_reducible exact ih1 _ _ _ _ _ _)
      | (with_reducible exact ih2 _ _ _ _ _ _ _)
      | (with_reducible exact ih3 _ _ _ _ _ _ _)
      | (with_reducible exact swingbridgelaw7_known.mono _)
      | (with_reducible exact swingbridgelaw7_same.mono _ _ _)
      | (with_reducible exact words_Words.mono _ _)
      | (with_reducible exact LeO.refl _)
      | (with_reducible exact LeO.none _)
      | (with_reducible refine LeO.ite ?_ ?_)
      | (with_reducible refine LeO.bind ?_ (fun _ => ?_))
      | exact ih0 _ _ _ _
      | exact ih1 _ _ _ _ _ _
      | exact ih2 _ _ _ _ _ _ _
      | exact ih3 _ _ _ _ _ _ _
      | exact swingbridgelaw7_known.mono _
      | exact swingbridgelaw7_same.mono _ _ _
      | exact words_Words.mono _ _
      | exact LeO.none _
      | refine LeO.ite ?_ ?_
      | refine LeO.bind ?_ (fun _ => ?_)
    · intro y0 y1 y2 y3 y4 y5 y6
      unfold swingbridgelaw7_WordsBack.j2
      repeat' first
      | (with_reducible exact ih0 _ _ _ _)
      | (with_reducible exact ih1 _ _ _ _ _ _)
      | (with_reducible exact ih2 _ _ _ _ _ _ _)
      | (with_reducible exact ih3 _ _ _ _ _ _ _)
      | (with_reducible exact swingbridgelaw7_known.mono _)
      | (with_reducible exact swingbridgelaw7_same.mono _ _ _)
      | (with_reducible exact words_Words.mono _ _)
      | (with_reducible exact LeO.refl _)
      | (with_reducible exact LeO.none _)
      | (with_reducible refine LeO.ite ?_ ?_)
      | (with_reducible refine LeO.bind ?_ (fun _ => ?_))
      | exact ih0 _ _ _ _
      | exact ih1 _ _ _ _ _ _
      | exact ih2 _ _ _ _ _ _ _
      | exact ih3 _ _ _ _ _ _ _
      | exact swingbridgelaw7_known.mono _
      | exact swingbridgelaw7_same.mono _ _ _
      | exact words_Words.mono _ _
      | exact LeO.none _
      | refine LeO.ite ?_ ?_
      | refine LeO.bind ?_ (fun _ => ?_)
    · intro y0 y1 y2 y3 y4 y5 y6
      unfold swingbridgelaw7_WordsBack.l1
      repeat' first
      | (with_reducible exact ih0 _ _ _ _)
      | (with_reducible exact ih1 _ _ _ _ _ _)
      | (with_reducible exact ih2 _ _ _ _ _ _ _)
      | (with_reducible exact ih3 _ _ _ _ _ _ _)
      | (with_reducible exact swingbridgelaw7_known.mono _)
      | (with_reducible exact swingbridgelaw7_same.mono _ _ _)
      | (with_reducible exact words_Words.mono _ _)
      | (with_reducible exact LeO.refl _)
      | (with_reducible exact LeO.none _)
      | (with_reducible refine LeO.ite ?_ ?_)
      | (with_reducible refine LeO.bind ?_ (fun _ => ?_))
      | exact ih0 _ _ _ _
      | exact ih1 _ _ _ _ _ _
      | exact ih2 _ _ _ _ _ _ _
      | exact ih3 _ _ _ _ _ _ _
      | exact swingbridgelaw7_known.mono _
      | exact swingbridgelaw7_same.mono _ _ _
      | exact words_Words.mono _ _
      | exact LeO.none _
      | refine LeO.ite ?_ ?_
      | refine LeO.bind ?_ (fun _ => ?_)
theorem swingbridgelaw7_WordsBack.mono : ∀ a0 a1 a2 k, LeO (swingbridgelaw7_WordsBack.f k a0 a1 a2) (swingbridgelaw7_WordsBack.f (k + 1) a0 a1 a2) := by
  intro a0 a1 a2 k
  obtain ⟨ih0, ih1, ih2, ih3⟩ := swingbridgelaw7_WordsBack.mono_l k
  unfold swingbridgelaw7_WordsBack.f
  repeat' first
      | (with_reducible exact ih0 _ _ _ _)
      | (with_reducible exact ih1 _ _ _ _ _ _)
      | (with_reducible exact ih2 _ _ _ _ _ _ _)
      | (with_reducible exact ih3 _ _ _ _ _ _ _)
      | (with_reducible exact swingbridgelaw7_known.mono _)
      | (with_reducible exact swingbridgelaw7_same.mono _ _ _)
      | (with_reducible exact words_Words.mono _ _)
      | (with_reducible exact LeO.refl _)
      | (with_reducible exact LeO.none _)
      | (with_reducible refine LeO.ite ?_ ?_)
      | (with_reducible refine LeO.bind ?_ (fun _ => ?_))
      | exact ih0 _ _ _ _
      | exact ih1 _ _ _ _ _ _
      | exact ih2 _ _ _ _ _ _ _
      | exact ih3 _ _ _ _ _ _ _
      | exact swingbridgelaw7_known.mono _
      | exact swingbridgelaw7_same.mono _ _ _
      | exact words_Words.mono _ _
      | exact LeO.none _
      | refine LeO.ite ?_ ?_
      | refine LeO.bind ?_ (fun _ => ?_)
set_option maxHeartbeats 8000000 in
set_option maxRecDepth 100000 in
theorem swingbridgelaw7_WordsBack.calls (k : Nat) (A0 : Option Addr) (c0 : Nat) (l0 : List ByteArray) (a1 : Int) (a2 : ByteArray) (r : Bool) [hT_ : IsTrue r] (w : World) (hr0 : Kd.C Kd.string w A0 l0.length l0) (hc0 : l0.length ≤ c0) (hG : Glob w) (h : swingbridgelaw7_WordsBack.f k l0 a1 a2 = some r) :
    Calls Tryd.prog 4 #[.slice A0 l0.length c0, .int .u16 a1, .string a2] w fun e w' => e = .returned (.bool r) ∧ Below w.heap.size w w' := by
  have HR0 := Aside0.mk hr0
  have HC0 := Aside0.mk hc0
  clear hr0 hc0
  have HG := Aside0.mk hG
  clear hG
  have HB := Aside0.mk (Below.refl w.heap.size w)
  have H : ((swingbridgelaw7_known.f k).bind fun t226 => (if t226 = true then (if (l0.length : Int) > 12 then (swingbridgelaw7_WordsBack.j0 k l0 a1 a2 true) else (swingbridgelaw7_WordsBack.j0 k l0 a1 a2 (decide ((a2.size : Int) > 40)))) else (some false))) = some r := h
  clear h
  replace H := Option.bind_eq_some_iff.mp H
  obtain ⟨t226, A40, H⟩ := H
  replace H : (if t226 = true then (if (l0.length : Int) > 12 then (swingbridgelaw7_WordsBack.j0 k l0 a1 a2 true) else (swingbridgelaw7_WordsBack.j0 k l0 a1 a2 (decide ((a2.size : Int) > 40)))) else (some false)) = some r := H
  have A4 := Aside0.mk A40
  clear A40
  by_cases c5 : t226 = true
  rotate_left
  · replace c5 := Bool.eq_false_iff.mpr c5
    subst c5
    have H1 : (some false) = some r := by rw [if_neg (show ¬ (false = true) by decide)] at H; exact H
    clear H
    have H := H1
    clear H1
    exact absurd ((Option.some.inj H).trans hT_.out) (by simp)
  subst c5
  have H1 : (if (l0.length : Int) > 12 then (swingbridgelaw7_WordsBack.j0 k l0 a1 a2 true) else (swingbridgelaw7_WordsBack.j0 k l0 a1 a2 (decide ((a2.size : Int) > 40)))) = some r := by rw [if_pos rfl] at H; exact H
  clear H
  have H := H1
  clear H1
  have HC6 := Aside0.mk H
  clear H
  go_enter Tryd.func4, Tryd.ntmps4
  go_upto_region 3 with (first | (go_at_call 9; (with_reducible refine (swingbridgelaw7_known.calls k  true _ ?side1 A4.out).mono ?_); (case side1 => first | exact Glob.below HG.out (by repeat (first | (with_reducible first | exact HB.out | apply below_alloc | apply pw_below_drewN | apply below_drew1) | exact HB.out)) | (repeat (first | exact Glob.below HG.out HB.out | (with_reducible refine Glob.alloc ?_ _) | (with_reducible refine Glob.drewN ?_ _) | (with_reducible refine Glob.drew ?_)))); rintro e w7 ⟨rfl, hb⟩; have n0_ := Aside0.mk (below_step (by repeat (first | (with_reducible first | exact HB.out | apply below_alloc | apply pw_below_drewN | apply below_drew1) | exact HB.out)) hb); clear HB; have HB := n0_; clear n0_; (try clear hb); (try clear hb2); (try clear hk); (try clear hi)))
  repeat (go_quiet (first | (go_at_call 9; (with_reducible refine (swingbridgelaw7_known.calls k  true _ ?side1 A4.out).mono ?_); (case side1 => first | exact Glob.below HG.out (by repeat (first | (with_reducible first | exact HB.out | apply below_alloc | apply pw_below_drewN | apply below_drew1) | exact HB.out)) | (repeat (first | exact Glob.below HG.out HB.out | (with_reducible refine Glob.alloc ?_ _) | (with_reducible refine Glob.drewN ?_ _) | (with_reducible refine Glob.drew ?_)))); rintro e w7 ⟨rfl, hb⟩; have n0_ := Aside0.mk (below_step (by repeat (first | (with_reducible first | exact HB.out | apply below_alloc | apply pw_below_drewN | apply below_drew1) | exact HB.out)) hb); clear HB; have HB := n0_; clear n0_; (try clear hb); (try clear hb2); (try clear hk); (try clear hi))); go_upto_region 3 with (first | (go_at_call 9; (with_reducible refine (swingbridgelaw7_known.calls k  true _ ?side1 A4.out).mono ?_); (case side1 => first | exact Glob.below HG.out (by repeat (first | (with_reducible first | exact HB.out | apply below_alloc | apply pw_below_drewN | apply below_drew1) | exact HB.out)) | (repeat (first | exact Glob.below HG.out HB.out | (with_reducible refine Glob.alloc ?_ _) | (with_reducible refine Glob.drewN ?_ _) | (with_reducible refine Glob.drew ?_)))); rintro e w7 ⟨rfl, hb⟩; have n0_ := Aside0.mk (below_step (by repeat (first | (with_reducible first | exact HB.out | apply below_alloc | apply pw_below_drewN | apply below_drew1) | exact HB.out)) hb); clear HB; have HB := n0_; clear n0_; (try clear hb); (try clear hb2); (try clear hk); (try clear hi))))
  (try simp only [Act.put, List.setIfInBounds_toArray, List.set_cons_zero, List.set_cons_succ])
  go_cut [20] (fun v20 wc => ∃ (kq : Nat) (x20_5 : Bool), v20 = .bool x20_5 ∧ Aside0 (swingbridgelaw7_WordsBack.j0 kq l0 a1 a2 x20_5 = some r) ∧ Aside0 (kq ≤ k) ∧ Aside0 (Below w.heap.size w wc))
  case first =>
    have H := HC6.out
    clear HC6
    by_cases c8 : (l0.length : Int) > 12
    rotate_left
    · rw [if_neg c8] at H
      have c8b0 : decide (12 < (l0.length : Int)) = false := decide_eq_false c8
      have c8b1 : decide (12 < l0.length) = false := decide_eq_false (by omega)
      clear c8
      (first | rw [c8b0] | (simp only [i64_w, i32_w]; rw [c8b0]) | skip)
      have H' := Aside0.mk H
      clear H
      go_wp2
      repeat (go_quiet (fail); try go_wp2)
      go_meet
      case rel => exact ⟨_, (decide ((a2.size : Int) > 40)), (by first | rfl | (simp; done) | (simp [*]; done)), H', ⟨by first | omega | exact Nat.le_refl _⟩, ⟨by repeat (first | (with_reducible first | exact HB.out | apply below_alloc | apply pw_below_drewN | apply below_drew1) | exact HB.out)⟩⟩
    rw [if_pos c8] at H
    have c8b0 : decide (12 < (l0.length : Int)) = true := decide_eq_true c8
    have c8b1 : decide (12 < l0.length) = true := decide_eq_true (by omega)
    clear c8
    (first | rw [c8b0] | (simp only [i64_w, i32_w]; rw [c8b0]) | skip)
    have H' := Aside0.mk H
    clear H
    go_wp2
    repeat (go_quiet (fail); try go_wp2)
    go_meet
    case rel => exact ⟨_, (true), (by first | rfl | (simp; done) | (simp [*]; done)), H', ⟨by first | omega | exact Nat.le_refl _⟩, ⟨by repeat (first | (with_reducible first | exact HB.out | apply below_alloc | apply pw_below_drewN | apply below_drew1) | exact HB.out)⟩⟩
  clear HC6
  (try clear p2); (try clear c4); (try clear c5); (try clear c8); (try clear c8b0); (try clear c8b1)
  obtain ⟨kq, x20_5, rfl, HA, HJ5, HB⟩ := hcut
  cases kq with
  | zero => exact absurd HA.out (by simp [swingbridgelaw7_WordsBack.j0])
  | succ kj5 => ?_
  have H := HA.out
  clear HA
  simp only [swingbridgelaw7_WordsBack.j0] at H
  by_cases c9 : x20_5 = true
  · subst c9
    have H1 : (some true) = some r := by rw [if_pos rfl] at H; exact H
    clear H
    have H := H1
    clear H1
    obtain rfl := Option.some.inj H
    go_wp2
    repeat (go_quiet (fail); try go_wp2)
    go_ret
    exact ⟨by first | rfl | (simp [errW_none, errW_some] <;> rfl) | (simp [*, errW_none, errW_some] <;> rfl), by repeat (first | (with_reducible first | exact HB.out | apply below_alloc | apply pw_below_drewN | apply below_drew1) | exact HB.out)⟩
  replace c9 := Bool.eq_false_iff.mpr c9
  subst c9
  have H1 : (swingbridgelaw7_WordsBack.l0 kj5 l0 a1 a2 (⟨#[]⟩ : ByteArray) (⟨#[]⟩ : ByteArray) 0) = some r := by rw [if_neg (show ¬ (false = true) by decide)] at H; exact H
  clear H
  have H := H1
  clear H1
  have H' := Aside0.mk H
  clear H
  go_wp2
  repeat (go_quiet (fail); try go_wp2)
  go_loopg [7, 8, 9] kj5 (fun kq v7 v8 v9 w' => ∃ (x7_2 : ByteArray) (x8_2 : ByteArray) (x9_2 : Int), v7 = .string x7_2 ∧ v8 = .string x8_2 ∧ v9 = .int .i64 x9_2 ∧ Aside0 (swingbridgelaw7_WordsBack.l0 kq l0 a1 a2 x7_2 x8_2 x9_2 = some r) ∧ Aside0 (kq ≤ kj5) ∧ Aside0 (Below w.heap.size w w'))
  case atStart => exact ⟨((⟨#[]⟩ : ByteArray)), ((⟨#[]⟩ : ByteArray)), (0), (by first | rfl | (simp; done) | (simp [*]; done)), (by first | rfl | (simp; done) | (simp [*]; done)), (by first | rfl | (simp; done) | (simp [*]; done)), H', ⟨Nat.le_refl _⟩, ⟨by repeat (first | (with_reducible first | exact HB.out | apply below_alloc | apply pw_below_drewN | apply below_drew1) | exact HB.out)⟩⟩
  clear H'
  (try clear p2); (try clear c4); (try clear c5); (try clear c8); (try clear c8b0); (try clear c8b1); (try clear c9); (try clear p2)
  obtain ⟨x7_2, x8_2, x9_2, rfl, rfl, rfl, HA, HK2, HB⟩ := hrel
  cases gk with
  | zero => exact absurd HA.out (by simp [swingbridgelaw7_WordsBack.l0])
  | succ k2 => ?_
  have H := HA.out
  clear HA
  simp only [swingbridgelaw7_WordsBack.l0] at H
  by_cases c10 : x9_2 < (l0.length : Int)
  rotate_left
  · rw [if_neg c10] at H
    have c10b0 : decide (x9_2 < (l0.length : Int)) = false := decide_eq_false c10
    clear c10
    replace H := Option.bind_eq_some_iff.mp H
    obtain ⟨t235, A110, H⟩ := H
    replace H : ((swingbridgelaw7_same.f k2 t235 l0).bind fun t238 => (if t238 = true then (if x7_2.size + 2 ≤ 9223372036854775807 then (if (x7_2 ++ (⟨#[32, 35]⟩ : ByteArray)).size + a2.size ≤ 9223372036854775807 then ((words_Words.f k2 ((x7_2 ++ (⟨#[32, 35]⟩ : ByteArray)) ++ a2)).bind fun t239 => ((swingbridgelaw7_same.f k2 t239 l0).bind fun t242 => (if t242 = true then ((words_Lines.f x8_2).bind fun t243 => ((swingbridgelaw7_same.f k2 t243 l0).bind fun t246 => (some t246))) else (some false)))) else (none)) else (none)) else (some false))) = some r := H
    have A11 := Aside0.mk A110
    clear A110
    replace H := Option.bind_eq_some_iff.mp H
    obtain ⟨t238, A120, H⟩ := H
    replace H : (if t238 = true then (if x7_2.size + 2 ≤ 9223372036854775807 then (if (x7_2 ++ (⟨#[32, 35]⟩ : ByteArray)).size + a2.size ≤ 9223372036854775807 then ((words_Words.f k2 ((x7_2 ++ (⟨#[32, 35]⟩ : ByteArray)) ++ a2)).bind fun t239 => ((swingbridgelaw7_same.f k2 t239 l0).bind fun t242 => (if t242 = true then ((words_Lines.f x8_2).bind fun t243 => ((swingbridgelaw7_same.f k2 t243 l0).bind fun t246 => (some t246))) else (some false)))) else (none)) else (none)) else (some false)) = some r := H
    have A12 := Aside0.mk A120
    clear A120
    by_cases c13 : t238 = true
    rotate_left
    · replace c13 := Bool.eq_false_iff.mpr c13
      subst c13
      have H1 : (some false) = some r := by rw [if_neg (show ¬ (false = true) by decide)] at H; exact H
      clear H
      have H := H1
      clear H1
      exact absurd ((Option.some.inj H).trans hT_.out) (by simp)
    subst c13
    have H1 : (if x7_2.size + 2 ≤ 9223372036854775807 then (if (x7_2 ++ (⟨#[32, 35]⟩ : ByteArray)).size + a2.size ≤ 9223372036854775807 then ((words_Words.f k2 ((x7_2 ++ (⟨#[32, 35]⟩ : ByteArray)) ++ a2)).bind fun t239 => ((swingbridgelaw7_same.f k2 t239 l0).bind fun t242 => (if t242 = true then ((words_Lines.f x8_2).bind fun t243 => ((swingbridgelaw7_same.f k2 t243 l0).bind fun t246 => (some t246))) else (some false)))) else (none)) else (none)) = some r := by rw [if_pos rfl] at H; exact H
    clear H
    have H := H1
    clear H1
    by_cases c14 : x7_2.size + 2 ≤ 9223372036854775807
    rotate_left
    · rw [if_neg c14] at H
      exact absurd H (by simp)
    rw [if_pos c14] at H
    have c14b0 := eq_true c14
    have c14b1 : decide (x7_2.size + 2 ≤ 9223372036854775807) = true := decide_eq_true c14
    try have c14b2 : (9223372036854775807 < x7_2.size + 2) = False := eq_false (Nat.not_lt.2 c14)
    by_cases c15 : (x7_2 ++ (⟨#[32, 35]⟩ : ByteArray)).size + a2.size ≤ 9223372036854775807
    rotate_left
    · rw [if_neg c15] at H
      exact absurd H (by simp)
    rw [if_pos c15] at H
    have c15b0 := eq_true c15
    have c15b1 : decide ((x7_2 ++ (⟨#[32, 35]⟩ : ByteArray)).size + a2.size ≤ 9223372036854775807) = true := decide_eq_true c15
    try have c15b2 : (9223372036854775807 < (x7_2 ++ (⟨#[32, 35]⟩ : ByteArray)).size + a2.size) = False := eq_false (Nat.not_lt.2 c15)
    try (have c15b3 := c15b2; rw [ByteArray.size_append] at c15b3)
    replace H := Option.bind_eq_some_iff.mp H
    obtain ⟨t239, A160, H⟩ := H
    replace H : ((swingbridgelaw7_same.f k2 t239 l0).bind fun t242 => (if t242 = true then ((words_Lines.f x8_2).bind fun t243 => ((swingbridgelaw7_same.f k2 t243 l0).bind fun t246 => (some t246))) else (some false))) = some r := H
    have A16 := Aside0.mk A160
    clear A160
    replace H := Option.bind_eq_some_iff.mp H
    obtain ⟨t242, A170, H⟩ := H
    replace H : (if t242 = true then ((words_Lines.f x8_2).bind fun t243 => ((swingbridgelaw7_same.f k2 t243 l0).bind fun t246 => (some t246))) else (some false)) = some r := H
    have A17 := Aside0.mk A170
    clear A170
    by_cases c18 : t242 = true
    rotate_left
    · replace c18 := Bool.eq_false_iff.mpr c18
      subst c18
      have H1 : (some false) = some r := by rw [if_neg (show ¬ (false = true) by decide)] at H; exact H
      clear H
      have H := H1
      clear H1
      exact absurd ((Option.some.inj H).trans hT_.out) (by simp)
    subst c18
    have H1 : ((words_Lines.f x8_2).bind fun t243 => ((swingbridgelaw7_same.f k2 t243 l0).bind fun t246 => (some t246))) = some r := by rw [if_pos rfl] at H; exact H
    clear H
    have H := H1
    clear H1
    replace H := Option.bind_eq_some_iff.mp H
    obtain ⟨t243, A190, H⟩ := H
    replace H : ((swingbridgelaw7_same.f k2 t243 l0).bind fun t246 => (some t246)) = some r := H
    have A19 := Aside0.mk A190
    clear A190
    replace H := Option.bind_eq_some_iff.mp H
    obtain ⟨t246, A200, H⟩ := H
    replace H : (some t246) = some r := H
    have A20 := Aside0.mk A200
    clear A200
    obtain rfl := Option.some.inj H
    go_wp2_with (first | (go_at_call 15; (with_reducible refine (words_Words.calls k2 x7_2 t235 _ ?side1 A11.out).mono ?_); (case side1 => first | exact Glob.below HG.out (by repeat (first | (with_reducible first | exact HB.out | apply below_alloc | apply pw_below_drewN | apply below_drew1) | exact HB.out)) | (repeat (first | exact Glob.below HG.out HB.out | (with_reducible refine Glob.alloc ?_ _) | (with_reducible refine Glob.drewN ?_ _) | (with_reducible refine Glob.drew ?_)))); rintro e w21 ⟨v236, rfl, ho0, hb⟩; have n0_ := Aside0.mk (Kd.R_lower ho0 (below_size (by repeat (first | (with_reducible first | exact HB.out | apply below_alloc | apply pw_below_drewN | apply below_drew1) | exact HB.out)))); have n1_ := Aside0.mk (below_step (by repeat (first | (with_reducible first | exact HB.out | apply below_alloc | apply pw_below_drewN | apply below_drew1) | exact HB.out)) hb); clear HB; have HO237 := n0_; have HB := n1_; clear n0_ n1_; (try clear hb); (try clear hb2); (try clear hk); (try clear hi); (try clear ho0); obtain ⟨Ao22, co22, eo22⟩ := Kd.R_slice HO237.out; subst eo22) | (go_at_call 12; (with_reducible refine (swingbridgelaw7_same.calls k2 _ _ t235 _ _ l0 true _ ?side1 ?side2 ?side3 ?side4 A12.out).mono ?_); (case side1 => repeat (first | exact (Kd.R_reads' HO237.out).2.2 | (with_reducible refine Kd.C_alloc ?_ _) | (with_reducible refine Kd.C_drewN ?_ _) | (with_reducible refine Kd.C_drew ?_))); (case side2 => exact (Kd.R_reads' HO237.out).2.1); (case side3 => repeat (first | exact (Kd.C_below HR0.out HB.out) | (with_reducible refine Kd.C_alloc ?_ _) | (with_reducible refine Kd.C_drewN ?_ _) | (with_reducible refine Kd.C_drew ?_))); (case side4 => exact HC0.out); rintro e w' ⟨rfl, ⟨nd, rfl⟩⟩; (try first | exact ⟨rfl, _, World.drewN_drewN _ _ _⟩ | exact ⟨rfl, _, Eq.trans (World.drewN_drewN _ _ _) (congrArg (World.drewN _) (Nat.add_assoc _ _ _))⟩)) | (go_at_call 15; (with_reducible refine (words_Words.calls k2 ((x7_2 ++ (⟨#[32, 35]⟩ : ByteArray)) ++ a2) t239 _ ?side1 A16.out).mono ?_); (case side1 => first | exact Glob.below HG.out (by repeat (first | (with_reducible first | exact HB.out | apply below_alloc | apply pw_below_drewN | apply below_drew1) | exact HB.out)) | (repeat (first | exact Glob.below HG.out HB.out | (with_reducible refine Glob.alloc ?_ _) | (with_reducible refine Glob.drewN ?_ _) | (with_reducible refine Glob.drew ?_)))); rintro e w23 ⟨v240, rfl, ho0, hb⟩; have n0_ := Aside0.mk (Kd.R_elder' (by (with_reducible repeat (first | apply Kd.R_alloc | apply Kd.R_drewN | apply Kd.R_drew)); exact HO237.out) (Kd.R_base ho0) hb); have n1_ := Aside0.mk (Kd.R_lower (Kd.R_new' ho0 (Kd.R_lt (by (with_reducible repeat (first | apply Kd.R_alloc | apply Kd.R_drewN | apply Kd.R_drew)); exact HO237.out))) (below_size (by repeat (first | (with_reducible first | exact HB.out | apply below_alloc | apply pw_below_drewN | apply below_drew1) | exact HB.out)))); have n2_ := Aside0.mk (below_step (by repeat (first | (with_reducible first | exact HB.out | apply below_alloc | apply pw_below_drewN | apply below_drew1) | exact HB.out)) hb); clear HO237; clear HB; have HO237 := n0_; have HO241 := n1_; have HB := n2_; clear n0_ n1_ n2_; (try clear hb); (try clear hb2); (try clear hk); (try clear hi); (try clear ho0); obtain ⟨Ao24, co24, eo24⟩ := Kd.R_slice HO241.out; subst eo24) | (go_at_call 12; (with_reducible refine (swingbridgelaw7_same.calls k2 _ _ t239 _ _ l0 true _ ?side1 ?side2 ?side3 ?side4 A17.out).mono ?_); (case side1 => repeat (first | exact (Kd.R_reads' HO241.out).2.2 | (with_reducible refine Kd.C_alloc ?_ _) | (with_reducible refine Kd.C_drewN ?_ _) | (with_reducible refine Kd.C_drew ?_))); (case side2 => exact (Kd.R_reads' HO241.out).2.1); (case side3 => repeat (first | exact (Kd.C_below HR0.out HB.out) | (with_reducible refine Kd.C_alloc ?_ _) | (with_reducible refine Kd.C_drewN ?_ _) | (with_reducible refine Kd.C_drew ?_))); (case side4 => exact HC0.out); rintro e w' ⟨rfl, ⟨nd, rfl⟩⟩; (try first | exact ⟨rfl, _, World.drewN_drewN _ _ _⟩ | exact ⟨rfl, _, Eq.trans (World.drewN_drewN _ _ _) (congrArg (World.drewN _) (Nat.add_assoc _ _ _))⟩)) | (go_at_call 13; (with_reducible refine (words_Lines.calls x8_2 t243 _ ?side1 A19.out).mono ?_); (case side1 => first | exact Glob.below HG.out (by repeat (first | (with_reducible first | exact HB.out | apply below_alloc | apply pw_below_drewN | apply below_drew1) | exact HB.out)) | (repeat (first | exact Glob.below HG.out HB.out | (with_reducible refine Glob.alloc ?_ _) | (with_reducible refine Glob.drewN ?_ _) | (with_reducible refine Glob.drew ?_)))); rintro e w25 ⟨v244, rfl, ho0, hb⟩; have n0_ := Aside0.mk (Kd.R_elder' (by (with_reducible repeat (first | apply Kd.R_alloc | apply Kd.R_drewN | apply Kd.R_drew)); exact HO237.out) (Kd.R_base ho0) hb); have n1_ := Aside0.mk (Kd.R_elder' (by (with_reducible repeat (first | apply Kd.R_alloc | apply Kd.R_drewN | apply Kd.R_drew)); exact HO241.out) (Kd.R_base ho0) hb); have n2_ := Aside0.mk (Kd.R_lower (Kd.R_new' (Kd.R_new' ho0 (Kd.R_lt (by (with_reducible repeat (first | apply Kd.R_alloc | apply Kd.R_drewN | apply Kd.R_drew)); exact HO237.out))) (Kd.R_lt (by (with_reducible repeat (first | apply Kd.R_alloc | apply Kd.R_drewN | apply Kd.R_drew)); exact HO241.out))) (below_size (by repeat (first | (with_reducible first | exact HB.out | apply below_alloc | apply pw_below_drewN | apply below_drew1) | exact HB.out)))); have n3_ := Aside0.mk (below_step (by repeat (first | (with_reducible first | exact HB.out | apply below_alloc | apply pw_below_drewN | apply below_drew1) | exact HB.out)) hb); clear HO237; clear HO241; clear HB; have HO237 := n0_; have HO241 := n1_; have HO245 := n2_; have HB := n3_; clear n0_ n1_ n2_ n3_; (try clear hb); (try clear hb2); (try clear hk); (try clear hi); (try clear ho0); obtain ⟨Ao26, co26, eo26⟩ := Kd.R_slice HO245.out; subst eo26) | (go_at_call 12; (with_reducible refine (swingbridgelaw7_same.calls k2 _ _ t243 _ _ l0 t246 _ ?side1 ?side2 ?side3 ?side4 A20.out).mono ?_); (case side1 => repeat (first | exact (Kd.R_reads' HO245.out).2.2 | (with_reducible refine Kd.C_alloc ?_ _) | (with_reducible refine Kd.C_drewN ?_ _) | (with_reducible refine Kd.C_drew ?_))); (case side2 => exact (Kd.R_reads' HO245.out).2.1); (case side3 => repeat (first | exact (Kd.C_below HR0.out HB.out) | (with_reducible refine Kd.C_alloc ?_ _) | (with_reducible refine Kd.C_drewN ?_ _) | (with_reducible refine Kd.C_drew ?_))); (case side4 => exact HC0.out); rintro e w' ⟨rfl, ⟨nd, rfl⟩⟩; (try first | exact ⟨rfl, _, World.drewN_drewN _ _ _⟩ | exact ⟨rfl, _, Eq.trans (World.drewN_drewN _ _ _) (congrArg (World.drewN _) (Nat.add_assoc _ _ _))⟩)))
    repeat (go_quiet (first | (go_at_call 15; (with_reducible refine (words_Words.calls k2 x7_2 t235 _ ?side1 A11.out).mono ?_); (case side1 => first | exact Glob.below HG.out (by repeat (first | (with_reducible first | exact HB.out | apply below_alloc | apply pw_below_drewN | apply below_drew1) | exact HB.out)) | (repeat (first | exact Glob.below HG.out HB.out | (with_reducible refine Glob.alloc ?_ _) | (with_reducible refine Glob.drewN ?_ _) | (with_reducible refine Glob.drew ?_)))); rintro e w21 ⟨v236, rfl, ho0, hb⟩; have n0_ := Aside0.mk (Kd.R_lower ho0 (below_size (by repeat (first | (with_reducible first | exact HB.out | apply below_alloc | apply pw_below_drewN | apply below_drew1) | exact HB.out)))); have n1_ := Aside0.mk (below_step (by repeat (first | (with_reducible first | exact HB.out | apply below_alloc | apply pw_below_drewN | apply below_drew1) | exact HB.out)) hb); clear HB; have HO237 := n0_; have HB := n1_; clear n0_ n1_; (try clear hb); (try clear hb2); (try clear hk); (try clear hi); (try clear ho0); obtain ⟨Ao22, co22, eo22⟩ := Kd.R_slice HO237.out; subst eo22) | (go_at_call 12; (with_reducible refine (swingbridgelaw7_same.calls k2 _ _ t235 _ _ l0 true _ ?side1 ?side2 ?side3 ?side4 A12.out).mono ?_); (case side1 => repeat (first | exact (Kd.R_reads' HO237.out).2.2 | (with_reducible refine Kd.C_alloc ?_ _) | (with_reducible refine Kd.C_drewN ?_ _) | (with_reducible refine Kd.C_drew ?_))); (case side2 => exact (Kd.R_reads' HO237.out).2.1); (case side3 => repeat (first | exact (Kd.C_below HR0.out HB.out) | (with_reducible refine Kd.C_alloc ?_ _) | (with_reducible refine Kd.C_drewN ?_ _) | (with_reducible refine Kd.C_drew ?_))); (case side4 => exact HC0.out); rintro e w' ⟨rfl, ⟨nd, rfl⟩⟩; (try first | exact ⟨rfl, _, World.drewN_drewN _ _ _⟩ | exact ⟨rfl, _, Eq.trans (World.drewN_drewN _ _ _) (congrArg (World.drewN _) (Nat.add_assoc _ _ _))⟩)) | (go_at_call 15; (with_reducible refine (words_Words.calls k2 ((x7_2 ++ (⟨#[32, 35]⟩ : ByteArray)) ++ a2) t239 _ ?side1 A16.out).mono ?_); (case side1 => first | exact Glob.below HG.out (by repeat (first | (with_reducible first | exact HB.out | apply below_alloc | apply pw_below_drewN | apply below_drew1) | exact HB.out)) | (repeat (first | exact Glob.below HG.out HB.out | (with_reducible refine Glob.alloc ?_ _) | (with_reducible refine Glob.drewN ?_ _) | (with_reducible refine Glob.drew ?_)))); rintro e w23 ⟨v240, rfl, ho0, hb⟩; have n0_ := Aside0.mk (Kd.R_elder' (by (with_reducible repeat (first | apply Kd.R_alloc | apply Kd.R_drewN | apply Kd.R_drew)); exact HO237.out) (Kd.R_base ho0) hb); have n1_ := Aside0.mk (Kd.R_lower (Kd.R_new' ho0 (Kd.R_lt (by (with_reducible repeat (first | apply Kd.R_alloc | apply Kd.R_drewN | apply Kd.R_drew)); exact HO237.out))) (below_size (by repeat (first | (with_reducible first | exact HB.out | apply below_alloc | apply pw_below_drewN | apply below_drew1) | exact HB.out)))); have n2_ := Aside0.mk (below_step (by repeat (first | (with_reducible first | exact HB.out | apply below_alloc | apply pw_below_drewN | apply below_drew1) | exact HB.out)) hb); clear HO237; clear HB; have HO237 := n0_; have HO241 := n1_; have HB := n2_; clear n0_ n1_ n2_; (try clear hb); (try clear hb2); (try clear hk); (try clear hi); (try clear ho0); obtain ⟨Ao24, co24, eo24⟩ := Kd.R_slice HO241.out; subst eo24) | (go_at_call 12; (with_reducible refine (swingbridgelaw7_same.calls k2 _ _ t239 _ _ l0 true _ ?side1 ?side2 ?side3 ?side4 A17.out).mono ?_); (case side1 => repeat (first | exact (Kd.R_reads' HO241.out).2.2 | (with_reducible refine Kd.C_alloc ?_ _) | (with_reducible refine Kd.C_drewN ?_ _) | (with_reducible refine Kd.C_drew ?_))); (case side2 => exact (Kd.R_reads' HO241.out).2.1); (case side3 => repeat (first | exact (Kd.C_below HR0.out HB.out) | (with_reducible refine Kd.C_alloc ?_ _) | (with_reducible refine Kd.C_drewN ?_ _) | (with_reducible refine Kd.C_drew ?_))); (case side4 => exact HC0.out); rintro e w' ⟨rfl, ⟨nd, rfl⟩⟩; (try first | exact ⟨rfl, _, World.drewN_drewN _ _ _⟩ | exact ⟨rfl, _, Eq.trans (World.drewN_drewN _ _ _) (congrArg (World.drewN _) (Nat.add_assoc _ _ _))⟩)) | (go_at_call 13; (with_reducible refine (words_Lines.calls x8_2 t243 _ ?side1 A19.out).mono ?_); (case side1 => first | exact Glob.below HG.out (by repeat (first | (with_reducible first | exact HB.out | apply below_alloc | apply pw_below_drewN | apply below_drew1) | exact HB.out)) | (repeat (first | exact Glob.below HG.out HB.out | (with_reducible refine Glob.alloc ?_ _) | (with_reducible refine Glob.drewN ?_ _) | (with_reducible refine Glob.drew ?_)))); rintro e w25 ⟨v244, rfl, ho0, hb⟩; have n0_ := Aside0.mk (Kd.R_elder' (by (with_reducible repeat (first | apply Kd.R_alloc | apply Kd.R_drewN | apply Kd.R_drew)); exact HO237.out) (Kd.R_base ho0) hb); have n1_ := Aside0.mk (Kd.R_elder' (by (with_reducible repeat (first | apply Kd.R_alloc | apply Kd.R_drewN | apply Kd.R_drew)); exact HO241.out) (Kd.R_base ho0) hb); have n2_ := Aside0.mk (Kd.R_lower (Kd.R_new' (Kd.R_new' ho0 (Kd.R_lt (by (with_reducible repeat (first | apply Kd.R_alloc | apply Kd.R_drewN | apply Kd.R_drew)); exact HO237.out))) (Kd.R_lt (by (with_reducible repeat (first | apply Kd.R_alloc | apply Kd.R_drewN | apply Kd.R_drew)); exact HO241.out))) (below_size (by repeat (first | (with_reducible first | exact HB.out | apply below_alloc | apply pw_below_drewN | apply below_drew1) | exact HB.out)))); have n3_ := Aside0.mk (below_step (by repeat (first | (with_reducible first | exact HB.out | apply below_alloc | apply pw_below_drewN | apply below_drew1) | exact HB.out)) hb); clear HO237; clear HO241; clear HB; have HO237 := n0_; have HO241 := n1_; have HO245 := n2_; have HB := n3_; clear n0_ n1_ n2_ n3_; (try clear hb); (try clear hb2); (try clear hk); (try clear hi); (try clear ho0); obtain ⟨Ao26, co26, eo26⟩ := Kd.R_slice HO245.out; subst eo26) | (go_at_call 12; (with_reducible refine (swingbridgelaw7_same.calls k2 _ _ t243 _ _ l0 t246 _ ?side1 ?side2 ?side3 ?side4 A20.out).mono ?_); (case side1 => repeat (first | exact (Kd.R_reads' HO245.out).2.2 | (with_reducible refine Kd.C_alloc ?_ _) | (with_reducible refine Kd.C_drewN ?_ _) | (with_reducible refine Kd.C_drew ?_))); (case side2 => exact (Kd.R_reads' HO245.out).2.1); (case side3 => repeat (first | exact (Kd.C_below HR0.out HB.out) | (with_reducible refine Kd.C_alloc ?_ _) | (with_reducible refine Kd.C_drewN ?_ _) | (with_reducible refine Kd.C_drew ?_))); (case side4 => exact HC0.out); rintro e w' ⟨rfl, ⟨nd, rfl⟩⟩; (try first | exact ⟨rfl, _, World.drewN_drewN _ _ _⟩ | exact ⟨rfl, _, Eq.trans (World.drewN_drewN _ _ _) (congrArg (World.drewN _) (Nat.add_assoc _ _ _))⟩))); try go_wp2_with (first | (go_at_call 15; (with_reducible refine (words_Words.calls k2 x7_2 t235 _ ?side1 A11.out).mono ?_); (case side1 => first | exact Glob.below HG.out (by repeat (first | (with_reducible first | exact HB.out | apply below_alloc | apply pw_below_drewN | apply below_drew1) | exact HB.out)) | (repeat (first | exact Glob.below HG.out HB.out | (with_reducible refine Glob.alloc ?_ _) | (with_reducible refine Glob.drewN ?_ _) | (with_reducible refine Glob.drew ?_)))); rintro e w21 ⟨v236, rfl, ho0, hb⟩; have n0_ := Aside0.mk (Kd.R_lower ho0 (below_size (by repeat (first | (with_reducible first | exact HB.out | apply below_alloc | apply pw_below_drewN | apply below_drew1) | exact HB.out)))); have n1_ := Aside0.mk (below_step (by repeat (first | (with_reducible first | exact HB.out | apply below_alloc | apply pw_below_drewN | apply below_drew1) | exact HB.out)) hb); clear HB; have HO237 := n0_; have HB := n1_; clear n0_ n1_; (try clear hb); (try clear hb2); (try clear hk); (try clear hi); (try clear ho0); obtain ⟨Ao22, co22, eo22⟩ := Kd.R_slice HO237.out; subst eo22) | (go_at_call 12; (with_reducible refine (swingbridgelaw7_same.calls k2 _ _ t235 _ _ l0 true _ ?side1 ?side2 ?side3 ?side4 A12.out).mono ?_); (case side1 => repeat (first | exact (Kd.R_reads' HO237.out).2.2 | (with_reducible refine Kd.C_alloc ?_ _) | (with_reducible refine Kd.C_drewN ?_ _) | (with_reducible refine Kd.C_drew ?_))); (case side2 => exact (Kd.R_reads' HO237.out).2.1); (case side3 => repeat (first | exact (Kd.C_below HR0.out HB.out) | (with_reducible refine Kd.C_alloc ?_ _) | (with_reducible refine Kd.C_drewN ?_ _) | (with_reducible refine Kd.C_drew ?_))); (case side4 => exact HC0.out); rintro e w' ⟨rfl, ⟨nd, rfl⟩⟩; (try first | exact ⟨rfl, _, World.drewN_drewN _ _ _⟩ | exact ⟨rfl, _, Eq.trans (World.drewN_drewN _ _ _) (congrArg (World.drewN _) (Nat.add_assoc _ _ _))⟩)) | (go_at_call 15; (with_reducible refine (words_Words.calls k2 ((x7_2 ++ (⟨#[32, 35]⟩ : ByteArray)) ++ a2) t239 _ ?side1 A16.out).mono ?_); (case side1 => first | exact Glob.below HG.out (by repeat (first | (with_reducible first | exact HB.out | apply below_alloc | apply pw_below_drewN | apply below_drew1) | exact HB.out)) | (repeat (first | exact Glob.below HG.out HB.out | (with_reducible refine Glob.alloc ?_ _) | (with_reducible refine Glob.drewN ?_ _) | (with_reducible refine Glob.drew ?_)))); rintro e w23 ⟨v240, rfl, ho0, hb⟩; have n0_ := Aside0.mk (Kd.R_elder' (by (with_reducible repeat (first | apply Kd.R_alloc | apply Kd.R_drewN | apply Kd.R_drew)); exact HO237.out) (Kd.R_base ho0) hb); have n1_ := Aside0.mk (Kd.R_lower (Kd.R_new' ho0 (Kd.R_lt (by (with_reducible repeat (first | apply Kd.R_alloc | apply Kd.R_drewN | apply Kd.R_drew)); exact HO237.out))) (below_size (by repeat (first | (with_reducible first | exact HB.out | apply below_alloc | apply pw_below_drewN | apply below_drew1) | exact HB.out)))); have n2_ := Aside0.mk (below_step (by repeat (first | (with_reducible first | exact HB.out | apply below_alloc | apply pw_below_drewN | apply below_drew1) | exact HB.out)) hb); clear HO237; clear HB; have HO237 := n0_; have HO241 := n1_; have HB := n2_; clear n0_ n1_ n2_; (try clear hb); (try clear hb2); (try clear hk); (try clear hi); (try clear ho0); obtain ⟨Ao24, co24, eo24⟩ := Kd.R_slice HO241.out; subst eo24) | (go_at_call 12; (with_reducible refine (swingbridgelaw7_same.calls k2 _ _ t239 _ _ l0 true _ ?side1 ?side2 ?side3 ?side4 A17.out).mono ?_); (case side1 => repeat (first | exact (Kd.R_reads' HO241.out).2.2 | (with_reducible refine Kd.C_alloc ?_ _) | (with_reducible refine Kd.C_drewN ?_ _) | (with_reducible refine Kd.C_drew ?_))); (case side2 => exact (Kd.R_reads' HO241.out).2.1); (case side3 => repeat (first | exact (Kd.C_below HR0.out HB.out) | (with_reducible refine Kd.C_alloc ?_ _) | (with_reducible refine Kd.C_drewN ?_ _) | (with_reducible refine Kd.C_drew ?_))); (case side4 => exact HC0.out); rintro e w' ⟨rfl, ⟨nd, rfl⟩⟩; (try first | exact ⟨rfl, _, World.drewN_drewN _ _ _⟩ | exact ⟨rfl, _, Eq.trans (World.drewN_drewN _ _ _) (congrArg (World.drewN _) (Nat.add_assoc _ _ _))⟩)) | (go_at_call 13; (with_reducible refine (words_Lines.calls x8_2 t243 _ ?side1 A19.out).mono ?_); (case side1 => first | exact Glob.below HG.out (by repeat (first | (with_reducible first | exact HB.out | apply below_alloc | apply pw_below_drewN | apply below_drew1) | exact HB.out)) | (repeat (first | exact Glob.below HG.out HB.out | (with_reducible refine Glob.alloc ?_ _) | (with_reducible refine Glob.drewN ?_ _) | (with_reducible refine Glob.drew ?_)))); rintro e w25 ⟨v244, rfl, ho0, hb⟩; have n0_ := Aside0.mk (Kd.R_elder' (by (with_reducible repeat (first | apply Kd.R_alloc | apply Kd.R_drewN | apply Kd.R_drew)); exact HO237.out) (Kd.R_base ho0) hb); have n1_ := Aside0.mk (Kd.R_elder' (by (with_reducible repeat (first | apply Kd.R_alloc | apply Kd.R_drewN | apply Kd.R_drew)); exact HO241.out) (Kd.R_base ho0) hb); have n2_ := Aside0.mk (Kd.R_lower (Kd.R_new' (Kd.R_new' ho0 (Kd.R_lt (by (with_reducible repeat (first | apply Kd.R_alloc | apply Kd.R_drewN | apply Kd.R_drew)); exact HO237.out))) (Kd.R_lt (by (with_reducible repeat (first | apply Kd.R_alloc | apply Kd.R_drewN | apply Kd.R_drew)); exact HO241.out))) (below_size (by repeat (first | (with_reducible first | exact HB.out | apply below_alloc | apply pw_below_drewN | apply below_drew1) | exact HB.out)))); have n3_ := Aside0.mk (below_step (by repeat (first | (with_reducible first | exact HB.out | apply below_alloc | apply pw_below_drewN | apply below_drew1) | exact HB.out)) hb); clear HO237; clear HO241; clear HB; have HO237 := n0_; have HO241 := n1_; have HO245 := n2_; have HB := n3_; clear n0_ n1_ n2_ n3_; (try clear hb); (try clear hb2); (try clear hk); (try clear hi); (try clear ho0); obtain ⟨Ao26, co26, eo26⟩ := Kd.R_slice HO245.out; subst eo26) | (go_at_call 12; (with_reducible refine (swingbridgelaw7_same.calls k2 _ _ t243 _ _ l0 t246 _ ?side1 ?side2 ?side3 ?side4 A20.out).mono ?_); (case side1 => repeat (first | exact (Kd.R_reads' HO245.out).2.2 | (with_reducible refine Kd.C_alloc ?_ _) | (with_reducible refine Kd.C_drewN ?_ _) | (with_reducible refine Kd.C_drew ?_))); (case side2 => exact (Kd.R_reads' HO245.out).2.1); (case side3 => repeat (first | exact (Kd.C_below HR0.out HB.out) | (with_reducible refine Kd.C_alloc ?_ _) | (with_reducible refine Kd.C_drewN ?_ _) | (with_reducible refine Kd.C_drew ?_))); (case side4 => exact HC0.out); rintro e w' ⟨rfl, ⟨nd, rfl⟩⟩; (try first | exact ⟨rfl, _, World.drewN_drewN _ _ _⟩ | exact ⟨rfl, _, Eq.trans (World.drewN_drewN _ _ _) (congrArg (World.drewN _) (Nat.add_assoc _ _ _))⟩))))
    go_ret
    exact ⟨by first | rfl | (simp [errW_none, errW_some] <;> rfl) | (simp [*, errW_none, errW_some] <;> rfl), by repeat (first | (with_reducible first | exact HB.out | apply below_alloc | apply pw_below_drewN | apply below_drew1) | exact HB.out)⟩
  rw [if_pos c10] at H
  have c10b0 : decide (x9_2 < (l0.length : Int)) = true := decide_eq_true c10
  clear c10
  have HC27 := Aside0.mk H
  clear H
  go_upto_region 9 with (fail)
  repeat (go_quiet (fail); go_upto_region 9 with (fail))
  go_cut [40] (fun v40 wc => ∃ (kq : Nat) (x40_26 : Bool), v40 = .bool x40_26 ∧ Aside0 (swingbridgelaw7_WordsBack.j2 kq l0 a1 a2 x7_2 x8_2 x9_2 x40_26 = some r) ∧ Aside0 (kq ≤ k2) ∧ Aside0 (Below w.heap.size w wc))
  case first =>
    have H := HC27.out
    clear HC27
    by_cases c28 : 0 ≤ x9_2
    rotate_left
    · rw [if_neg c28] at H
      exact absurd H (by simp)
    rw [if_pos c28] at H
    have c28b0 : decide (0 ≤ x9_2) = true := decide_eq_true c28
    clear c28
    (first | rw [c28b0] | (simp only [i64_w, i32_w]; rw [c28b0]) | skip)
    by_cases c29 : ((rdOf ByteArray.empty l0 x9_2).size : Int) = 0
    · rw [if_pos c29] at H
      have c29b0 : (((rdOf ByteArray.empty l0 x9_2).size : Int) == 0) = true := beq_iff_eq.mpr c29
      have c29b1 : (((rdOf ByteArray.empty l0 x9_2).size : Int) != 0) = false := bne_eq_false_iff_eq.mpr c29
      clear c29
      have H' := Aside0.mk H
      clear H
      have p227 : 0 ≤ (x9_2 : Int) := of_decide_eq_true (by first | (with_reducible assumption) | assumption)
      have q227 : x9_2 < (l0.length : Int) := of_decide_eq_true (by first | (with_reducible assumption) | assumption)
      obtain ⟨ad227, e227, hx227_0⟩ := Kd.at_string HR0.out x9_2 p227 q227
      cases e227
      replace hx227_0 := (HB.out.cell (World.block_lt_of_cell? w _ hx227_0)).trans hx227_0
      replace p227 := eq_true p227
      replace q227 := eq_true q227
      go_wp2
      repeat (go_quiet (fail); try go_wp2)
      go_meet
      case rel => exact ⟨_, (true), (by first | rfl | (simp; done) | (simp [*]; done)), H', ⟨by have := HJ5.out; have := HK2.out; first | omega | exact Nat.le_refl _⟩, ⟨by repeat (first | (with_reducible first | exact HB.out | apply below_alloc | apply pw_below_drewN | apply below_drew1) | exact HB.out)⟩⟩
    rw [if_neg c29] at H
    have c29b0 : (((rdOf ByteArray.empty l0 x9_2).size : Int) == 0) = false := beq_eq_false_iff_ne.mpr c29
    have c29b1 : (((rdOf ByteArray.empty l0 x9_2).size : Int) != 0) = true := bne_iff_ne.mpr c29
    have H' := Aside0.mk H
    clear H
    have p227 : 0 ≤ (x9_2 : Int) := of_decide_eq_true (by first | (with_reducible assumption) | assumption)
    have q227 : x9_2 < (l0.length : Int) := of_decide_eq_true (by first | (with_reducible assumption) | assumption)
    obtain ⟨ad227, e227, hx227_0⟩ := Kd.at_string HR0.out x9_2 p227 q227
    cases e227
    replace hx227_0 := (HB.out.cell (World.block_lt_of_cell? w _ hx227_0)).trans hx227_0
    replace p227 := eq_true p227
    replace q227 := eq_true q227
    have p228 : 0 ≤ (x9_2 : Int) := of_decide_eq_true (by first | (with_reducible assumption) | assumption)
    have q228 : x9_2 < (l0.length : Int) := of_decide_eq_true (by first | (with_reducible assumption) | assumption)
    obtain ⟨ad228, e228, hx228_0⟩ := Kd.at_string HR0.out x9_2 p228 q228
    obtain rfl : ad227 = ad228 := (by injection e228)
    replace hx228_0 := (HB.out.cell (World.block_lt_of_cell? w _ hx228_0)).trans hx228_0
    replace p228 := eq_true p228
    replace q228 := eq_true q228
    go_wp2
    repeat (go_quiet (fail); try go_wp2)
    go_meet
    case rel => exact ⟨_, (decide (((rdOf ByteArray.empty l0 x9_2).size : Int) > 20)), (by first | rfl | (simp; done) | (simp [*]; done)), H', ⟨by have := HJ5.out; have := HK2.out; first | omega | exact Nat.le_refl _⟩, ⟨by repeat (first | (with_reducible first | exact HB.out | apply below_alloc | apply pw_below_drewN | apply below_drew1) | exact HB.out)⟩⟩
  clear HC27
  (try clear c1); (try clear c2); (try clear p2); (try clear q2); (try clear hx2); (try clear c4); (try clear c5); (try clear c8); (try clear c8b0); (try clear c8b1); (try clear c9); (try clear c10); (try clear c10b0); (try clear c13); (try clear c14); (try clear c14b0); (try clear c14b1); (try clear c14b2); (try clear c15); (try clear c15b0); (try clear c15b1); (try clear c15b2); (try clear c18); (try clear p22); (try clear q22); (try clear hx22); (try clear c28); (try clear c28b0); (try clear c29); (try clear c29b0); (try clear c29b1); (try clear hx227_0); (try clear hx228_0); (try clear p2); (try clear p227); (try clear p228); (try clear q227); (try clear q228)
  obtain ⟨kq, x40_26, rfl, HA, HJ26, HB⟩ := hcut
  cases kq with
  | zero => exact absurd HA.out (by simp [swingbridgelaw7_WordsBack.j2])
  | succ kj26 => ?_
  have H := HA.out
  clear HA
  simp only [swingbridgelaw7_WordsBack.j2] at H
  by_cases c30 : x40_26 = true
  · subst c30
    have H1 : (some true) = some r := by rw [if_pos rfl] at H; exact H
    clear H
    have H := H1
    clear H1
    obtain rfl := Option.some.inj H
    go_wp2
    repeat (go_quiet (fail); try go_wp2)
    go_ret
    exact ⟨by first | rfl | (simp [errW_none, errW_some] <;> rfl) | (simp [*, errW_none, errW_some] <;> rfl), by repeat (first | (with_reducible first | exact HB.out | apply below_alloc | apply pw_below_drewN | apply below_drew1) | exact HB.out)⟩
  replace c30 := Bool.eq_false_iff.mpr c30
  subst c30
  have H1 : (swingbridgelaw7_WordsBack.l1 kj26 l0 a1 a2 x7_2 x8_2 x9_2 0) = some r := by rw [if_neg (show ¬ (false = true) by decide)] at H; exact H
  clear H
  have H := H1
  clear H1
  have H' := Aside0.mk H
  clear H
  go_wp2
  repeat (go_quiet (fail); try go_wp2)
  go_loopg [10] kj26 (fun kq v10 w' => ∃ (x10_4 : Int), v10 = .int .i64 x10_4 ∧ Aside0 (swingbridgelaw7_WordsBack.l1 kq l0 a1 a2 x7_2 x8_2 x9_2 x10_4 = some r) ∧ Aside0 (kq ≤ kj26) ∧ Aside0 (Below w.heap.size w w'))
  case atStart => exact ⟨(0), (by first | rfl | (simp; done) | (simp [*]; done)), H', ⟨Nat.le_refl _⟩, ⟨by repeat (first | (with_reducible first | exact HB.out | apply below_alloc | apply pw_below_drewN | apply below_drew1) | exact HB.out)⟩⟩
  clear H'
  (try clear c1); (try clear c2); (try clear p2); (try clear q2); (try clear hx2); (try clear c3); (try clear c4); (try clear c5); (try clear c8); (try clear c8b0); (try clear c8b1); (try clear c9); (try clear c10); (try clear c10b0); (try clear c13); (try clear c14); (try clear c14b0); (try clear c14b1); (try clear c14b2); (try clear c15); (try clear c15b0); (try clear c15b1); (try clear c15b2); (try clear c18); (try clear p22); (try clear q22); (try clear hx22); (try clear c28); (try clear c28b0); (try clear c29); (try clear c29b0); (try clear c29b1); (try clear c30); (try clear hx227_0); (try clear hx228_0); (try clear p2); (try clear p22); (try clear p227); (try clear p228); (try clear q2); (try clear q22); (try clear q227); (try clear q228)
  obtain ⟨x10_4, rfl, HA, HK4, HB⟩ := hrel
  cases gk with
  | zero => exact absurd HA.out (by simp [swingbridgelaw7_WordsBack.l1])
  | succ k4 => ?_
  have H := HA.out
  clear HA
  simp only [swingbridgelaw7_WordsBack.l1] at H
  by_cases c31 : 0 ≤ x9_2
  rotate_left
  · rw [if_neg c31] at H
    exact absurd H (by simp)
  rw [if_pos c31] at H
  have c31b0 : decide (0 ≤ x9_2) = true := decide_eq_true c31
  clear c31
  by_cases c32 : x9_2 < (l0.length : Int)
  rotate_left
  · rw [if_neg c32] at H
    exact absurd H (by simp)
  rw [if_pos c32] at H
  have c32b0 : decide (x9_2 < (l0.length : Int)) = true := decide_eq_true c32
  clear c32
  by_cases c33 : x10_4 < ((rdOf ByteArray.empty l0 x9_2).size : Int)
  · rw [if_pos c33] at H
    have c33b0 : decide (x10_4 < ((rdOf ByteArray.empty l0 x9_2).size : Int)) = true := decide_eq_true c33
    clear c33
    by_cases c34 : 0 ≤ x10_4
    rotate_left
    · rw [if_neg c34] at H
      exact absurd H (by simp)
    rw [if_pos c34] at H
    have c34b0 : decide (0 ≤ x10_4) = true := decide_eq_true c34
    clear c34
    by_cases c36 : (bt (rdOf ByteArray.empty l0 x9_2) x10_4) = 32
    · rw [if_pos c36] at H
      have c36b0 : ((bt (rdOf ByteArray.empty l0 x9_2) x10_4) == 32) = true := beq_iff_eq.mpr c36
      have c36b1 : ((bt (rdOf ByteArray.empty l0 x9_2) x10_4) != 32) = false := bne_eq_false_iff_eq.mpr c36
      clear c36
      obtain rfl := Option.some.inj H
      have p229 : 0 ≤ (x9_2 : Int) := of_decide_eq_true (by first | (with_reducible assumption) | assumption)
      have q229 : x9_2 < (l0.length : Int) := of_decide_eq_true (by first | (with_reducible assumption) | assumption)
      obtain ⟨ad229, e229, hx229_0⟩ := Kd.at_string HR0.out x9_2 p229 q229
      cases e229
      replace hx229_0 := (HB.out.cell (World.block_lt_of_cell? w _ hx229_0)).trans hx229_0
      replace p229 := eq_true p229
      replace q229 := eq_true q229
      have p230 : 0 ≤ (x9_2 : Int) := of_decide_eq_true (by first | (with_reducible assumption) | assumption)
      have q230 : x9_2 < (l0.length : Int) := of_decide_eq_true (by first | (with_reducible assumption) | assumption)
      obtain ⟨ad230, e230, hx230_0⟩ := Kd.at_string HR0.out x9_2 p230 q230
      obtain rfl : ad229 = ad230 := (by injection e230)
      replace hx230_0 := (HB.out.cell (World.block_lt_of_cell? w _ hx230_0)).trans hx230_0
      replace p230 := eq_true p230
      replace q230 := eq_true q230
      have p35 : 0 ≤ (x10_4 : Int) := of_decide_eq_true (by first | (with_reducible assumption) | assumption)
      have q35 : x10_4 < ((rdOf ByteArray.empty l0 x9_2).size : Int) := of_decide_eq_true (by first | (with_reducible assumption) | assumption)
      have hx35 := bt_at (rdOf ByteArray.empty l0 x9_2) x10_4
      replace p35 := eq_true p35
      replace q35 := eq_true q35
      go_wp2
      repeat (go_quiet (fail); try go_wp2)
      go_ret
      exact ⟨by first | rfl | (simp [errW_none, errW_some] <;> rfl) | (simp [*, errW_none, errW_some] <;> rfl), by repeat (first | (with_reducible first | exact HB.out | apply below_alloc | apply pw_below_drewN | apply below_drew1) | exact HB.out)⟩
    rw [if_neg c36] at H
    have c36b0 : ((bt (rdOf ByteArray.empty l0 x9_2) x10_4) == 32) = false := beq_eq_false_iff_ne.mpr c36
    have c36b1 : ((bt (rdOf ByteArray.empty l0 x9_2) x10_4) != 32) = true := bne_iff_ne.mpr c36
    by_cases c38 : (bt (rdOf ByteArray.empty l0 x9_2) x10_4) = 35
    · rw [if_pos c38] at H
      have c38b0 : ((bt (rdOf ByteArray.empty l0 x9_2) x10_4) == 35) = true := beq_iff_eq.mpr c38
      have c38b1 : ((bt (rdOf ByteArray.empty l0 x9_2) x10_4) != 35) = false := bne_eq_false_iff_eq.mpr c38
      clear c38
      obtain rfl := Option.some.inj H
      have p229 : 0 ≤ (x9_2 : Int) := of_decide_eq_true (by first | (with_reducible assumption) | assumption)
      have q229 : x9_2 < (l0.length : Int) := of_decide_eq_true (by first | (with_reducible assumption) | assumption)
      obtain ⟨ad229, e229, hx229_0⟩ := Kd.at_string HR0.out x9_2 p229 q229
      cases e229
      replace hx229_0 := (HB.out.cell (World.block_lt_of_cell? w _ hx229_0)).trans hx229_0
      replace p229 := eq_true p229
      replace q229 := eq_true q229
      have p230 : 0 ≤ (x9_2 : Int) := of_decide_eq_true (by first | (with_reducible assumption) | assumption)
      have q230 : x9_2 < (l0.length : Int) := of_decide_eq_true (by first | (with_reducible assumption) | assumption)
      obtain ⟨ad230, e230, hx230_0⟩ := Kd.at_string HR0.out x9_2 p230 q230
      obtain rfl : ad229 = ad230 := (by injection e230)
      replace hx230_0 := (HB.out.cell (World.block_lt_of_cell? w _ hx230_0)).trans hx230_0
      replace p230 := eq_true p230
      replace q230 := eq_true q230
      have p35 : 0 ≤ (x10_4 : Int) := of_decide_eq_true (by first | (with_reducible assumption) | assumption)
      have q35 : x10_4 < ((rdOf ByteArray.empty l0 x9_2).size : Int) := of_decide_eq_true (by first | (with_reducible assumption) | assumption)
      have hx35 := bt_at (rdOf ByteArray.empty l0 x9_2) x10_4
      replace p35 := eq_true p35
      replace q35 := eq_true q35
      have p231 : 0 ≤ (x9_2 : Int) := of_decide_eq_true (by first | (with_reducible assumption) | assumption)
      have q231 : x9_2 < (l0.length : Int) := of_decide_eq_true (by first | (with_reducible assumption) | assumption)
      obtain ⟨ad231, e231, hx231_0⟩ := Kd.at_string HR0.out x9_2 p231 q231
      obtain rfl : ad229 = ad231 := (by injection e231)
      replace hx231_0 := (HB.out.cell (World.block_lt_of_cell? w _ hx231_0)).trans hx231_0
      replace p231 := eq_true p231
      replace q231 := eq_true q231
      have p37 : 0 ≤ (x10_4 : Int) := of_decide_eq_true (by first | (with_reducible assumption) | assumption)
      have q37 : x10_4 < ((rdOf ByteArray.empty l0 x9_2).size : Int) := of_decide_eq_true (by first | (with_reducible assumption) | assumption)
      have hx37 := bt_at (rdOf ByteArray.empty l0 x9_2) x10_4
      replace p37 := eq_true p37
      replace q37 := eq_true q37
      go_wp2
      repeat (go_quiet (fail); try go_wp2)
      go_ret
      exact ⟨by first | rfl | (simp [errW_none, errW_some] <;> rfl) | (simp [*, errW_none, errW_some] <;> rfl), by repeat (first | (with_reducible first | exact HB.out | apply below_alloc | apply pw_below_drewN | apply below_drew1) | exact HB.out)⟩
    rw [if_neg c38] at H
    have c38b0 : ((bt (rdOf ByteArray.empty l0 x9_2) x10_4) == 35) = false := beq_eq_false_iff_ne.mpr c38
    have c38b1 : ((bt (rdOf ByteArray.empty l0 x9_2) x10_4) != 35) = true := bne_iff_ne.mpr c38
    by_cases c40 : (bt (rdOf ByteArray.empty l0 x9_2) x10_4) = 10
    rotate_left
    · rw [if_neg c40] at H
      have c40b0 : ((bt (rdOf ByteArray.empty l0 x9_2) x10_4) == 10) = false := beq_eq_false_iff_ne.mpr c40
      have c40b1 : ((bt (rdOf ByteArray.empty l0 x9_2) x10_4) != 10) = true := bne_iff_ne.mpr c40
      have H' := Aside0.mk H
      clear H
      have p229 : 0 ≤ (x9_2 : Int) := of_decide_eq_true (by first | (with_reducible assumption) | assumption)
      have q229 : x9_2 < (l0.length : Int) := of_decide_eq_true (by first | (with_reducible assumption) | assumption)
      obtain ⟨ad229, e229, hx229_0⟩ := Kd.at_string HR0.out x9_2 p229 q229
      cases e229
      replace hx229_0 := (HB.out.cell (World.block_lt_of_cell? w _ hx229_0)).trans hx229_0
      replace p229 := eq_true p229
      replace q229 := eq_true q229
      have p230 : 0 ≤ (x9_2 : Int) := of_decide_eq_true (by first | (with_reducible assumption) | assumption)
      have q230 : x9_2 < (l0.length : Int) := of_decide_eq_true (by first | (with_reducible assumption) | assumption)
      obtain ⟨ad230, e230, hx230_0⟩ := Kd.at_string HR0.out x9_2 p230 q230
      obtain rfl : ad229 = ad230 := (by injection e230)
      replace hx230_0 := (HB.out.cell (World.block_lt_of_cell? w _ hx230_0)).trans hx230_0
      replace p230 := eq_true p230
      replace q230 := eq_true q230
      have p35 : 0 ≤ (x10_4 : Int) := of_decide_eq_true (by first | (with_reducible assumption) | assumption)
      have q35 : x10_4 < ((rdOf ByteArray.empty l0 x9_2).size : Int) := of_decide_eq_true (by first | (with_reducible assumption) | assumption)
      have hx35 := bt_at (rdOf ByteArray.empty l0 x9_2) x10_4
      replace p35 := eq_true p35
      replace q35 := eq_true q35
      have p231 : 0 ≤ (x9_2 : Int) := of_decide_eq_true (by first | (with_reducible assumption) | assumption)
      have q231 : x9_2 < (l0.length : Int) := of_decide_eq_true (by first | (with_reducible assumption) | assumption)
      obtain ⟨ad231, e231, hx231_0⟩ := Kd.at_string HR0.out x9_2 p231 q231
      obtain rfl : ad229 = ad231 := (by injection e231)
      replace hx231_0 := (HB.out.cell (World.block_lt_of_cell? w _ hx231_0)).trans hx231_0
      replace p231 := eq_true p231
      replace q231 := eq_true q231
      have p37 : 0 ≤ (x10_4 : Int) := of_decide_eq_true (by first | (with_reducible assumption) | assumption)
      have q37 : x10_4 < ((rdOf ByteArray.empty l0 x9_2).size : Int) := of_decide_eq_true (by first | (with_reducible assumption) | assumption)
      have hx37 := bt_at (rdOf ByteArray.empty l0 x9_2) x10_4
      replace p37 := eq_true p37
      replace q37 := eq_true q37
      have p232 : 0 ≤ (x9_2 : Int) := of_decide_eq_true (by first | (with_reducible assumption) | assumption)
      have q232 : x9_2 < (l0.length : Int) := of_decide_eq_true (by first | (with_reducible assumption) | assumption)
      obtain ⟨ad232, e232, hx232_0⟩ := Kd.at_string HR0.out x9_2 p232 q232
      obtain rfl : ad229 = ad232 := (by injection e232)
      replace hx232_0 := (HB.out.cell (World.block_lt_of_cell? w _ hx232_0)).trans hx232_0
      replace p232 := eq_true p232
      replace q232 := eq_true q232
      have p39 : 0 ≤ (x10_4 : Int) := of_decide_eq_true (by first | (with_reducible assumption) | assumption)
      have q39 : x10_4 < ((rdOf ByteArray.empty l0 x9_2).size : Int) := of_decide_eq_true (by first | (with_reducible assumption) | assumption)
      have hx39 := bt_at (rdOf ByteArray.empty l0 x9_2) x10_4
      replace p39 := eq_true p39
      replace q39 := eq_true q39
      go_wp2
      repeat (go_quiet (fail); try go_wp2)
      go_roundg k4
      case measure => have := HJ5.out; have := HK2.out; have := HJ26.out; have := HK4.out; omega
      case rel => exact ⟨(wrap64 (x10_4 + 1)), (by first | rfl | (simp; done) | (simp [*]; done)), H', ⟨by have := HJ5.out; have := HK2.out; have := HJ26.out; have := HK4.out; omega⟩, ⟨by repeat (first | (with_reducible first | exact HB.out | apply below_alloc | apply pw_below_drewN | apply below_drew1) | exact HB.out)⟩⟩
    rw [if_pos c40] at H
    have c40b0 : ((bt (rdOf ByteArray.empty l0 x9_2) x10_4) == 10) = true := beq_iff_eq.mpr c40
    have c40b1 : ((bt (rdOf ByteArray.empty l0 x9_2) x10_4) != 10) = false := bne_eq_false_iff_eq.mpr c40
    clear c40
    obtain rfl := Option.some.inj H
    have p229 : 0 ≤ (x9_2 : Int) := of_decide_eq_true (by first | (with_reducible assumption) | assumption)
    have q229 : x9_2 < (l0.length : Int) := of_decide_eq_true (by first | (with_reducible assumption) | assumption)
    obtain ⟨ad229, e229, hx229_0⟩ := Kd.at_string HR0.out x9_2 p229 q229
    cases e229
    replace hx229_0 := (HB.out.cell (World.block_lt_of_cell? w _ hx229_0)).trans hx229_0
    replace p229 := eq_true p229
    replace q229 := eq_true q229
    have p230 : 0 ≤ (x9_2 : Int) := of_decide_eq_true (by first | (with_reducible assumption) | assumption)
    have q230 : x9_2 < (l0.length : Int) := of_decide_eq_true (by first | (with_reducible assumption) | assumption)
    obtain ⟨ad230, e230, hx230_0⟩ := Kd.at_string HR0.out x9_2 p230 q230
    obtain rfl : ad229 = ad230 := (by injection e230)
    replace hx230_0 := (HB.out.cell (World.block_lt_of_cell? w _ hx230_0)).trans hx230_0
    replace p230 := eq_true p230
    replace q230 := eq_true q230
    have p35 : 0 ≤ (x10_4 : Int) := of_decide_eq_true (by first | (with_reducible assumption) | assumption)
    have q35 : x10_4 < ((rdOf ByteArray.empty l0 x9_2).size : Int) := of_decide_eq_true (by first | (with_reducible assumption) | assumption)
    have hx35 := bt_at (rdOf ByteArray.empty l0 x9_2) x10_4
    replace p35 := eq_true p35
    replace q35 := eq_true q35
    have p231 : 0 ≤ (x9_2 : Int) := of_decide_eq_true (by first | (with_reducible assumption) | assumption)
    have q231 : x9_2 < (l0.length : Int) := of_decide_eq_true (by first | (with_reducible assumption) | assumption)
    obtain ⟨ad231, e231, hx231_0⟩ := Kd.at_string HR0.out x9_2 p231 q231
    obtain rfl : ad229 = ad231 := (by injection e231)
    replace hx231_0 := (HB.out.cell (World.block_lt_of_cell? w _ hx231_0)).trans hx231_0
    replace p231 := eq_true p231
    replace q231 := eq_true q231
    have p37 : 0 ≤ (x10_4 : Int) := of_decide_eq_true (by first | (with_reducible assumption) | assumption)
    have q37 : x10_4 < ((rdOf ByteArray.empty l0 x9_2).size : Int) := of_decide_eq_true (by first | (with_reducible assumption) | assumption)
    have hx37 := bt_at (rdOf ByteArray.empty l0 x9_2) x10_4
    replace p37 := eq_true p37
    replace q37 := eq_true q37
    have p232 : 0 ≤ (x9_2 : Int) := of_decide_eq_true (by first | (with_reducible assumption) | assumption)
    have q232 : x9_2 < (l0.length : Int) := of_decide_eq_true (by first | (with_reducible assumption) | assumption)
    obtain ⟨ad232, e232, hx232_0⟩ := Kd.at_string HR0.out x9_2 p232 q232
    obtain rfl : ad229 = ad232 := (by injection e232)
    replace hx232_0 := (HB.out.cell (World.block_lt_of_cell? w _ hx232_0)).trans hx232_0
    replace p232 := eq_true p232
    replace q232 := eq_true q232
    have p39 : 0 ≤ (x10_4 : Int) := of_decide_eq_true (by first | (with_reducible assumption) | assumption)
    have q39 : x10_4 < ((rdOf ByteArray.empty l0 x9_2).size : Int) := of_decide_eq_true (by first | (with_reducible assumption) | assumption)
    have hx39 := bt_at (rdOf ByteArray.empty l0 x9_2) x10_4
    replace p39 := eq_true p39
    replace q39 := eq_true q39
    go_wp2
    repeat (go_quiet (fail); try go_wp2)
    go_ret
    exact ⟨by first | rfl | (simp [errW_none, errW_some] <;> rfl) | (simp [*, errW_none, errW_some] <;> rfl), by repeat (first | (with_reducible first | exact HB.out | apply below_alloc | apply pw_below_drewN | apply below_drew1) | exact HB.out)⟩
  rw [if_neg c33] at H
  have c33b0 : decide (x10_4 < ((rdOf ByteArray.empty l0 x9_2).size : Int)) = false := decide_eq_false c33
  clear c33
  obtain ⟨ji41, hji41⟩ : ∃ j_ : Int, (IntKind.u64.wrap (x9_2)) = j_ := ⟨_, rfl⟩
  replace H : (if 0 ≤ (ji41) then (if 0 ≤ (wrap64 (1 + (wrap64 (Go.bits .and .u16 (shr .u16 a1 (ji41)) 1)))) then (if (wrap64 (1 + (wrap64 (Go.bits .and .u16 (shr .u16 a1 (ji41)) 1)))) ≤ 3 then (if x7_2.size + ((⟨#[32, 32, 32]⟩ : ByteArray).extract 0 ((wrap64 (1 + (wrap64 (Go.bits .and .u16 (shr .u16 a1 (ji41)) 1)))) : Int).toNat).size ≤ 9223372036854775807 then (if (x7_2 ++ ((⟨#[32, 32, 32]⟩ : ByteArray).extract 0 ((wrap64 (1 + (wrap64 (Go.bits .and .u16 (shr .u16 a1 (ji41)) 1)))) : Int).toNat)).size + (rdOf ByteArray.empty l0 x9_2).size ≤ 9223372036854775807 then (if x8_2.size + (rdOf ByteArray.empty l0 x9_2).size ≤ 9223372036854775807 then (if (x8_2 ++ (rdOf ByteArray.empty l0 x9_2)).size + 1 ≤ 9223372036854775807 then (swingbridgelaw7_WordsBack.l0 k4 l0 a1 a2 ((x7_2 ++ ((⟨#[32, 32, 32]⟩ : ByteArray).extract 0 ((wrap64 (1 + (wrap64 (Go.bits .and .u16 (shr .u16 a1 (ji41)) 1)))) : Int).toNat)) ++ (rdOf ByteArray.empty l0 x9_2)) ((x8_2 ++ (rdOf ByteArray.empty l0 x9_2)) ++ (⟨#[10]⟩ : ByteArray)) (wrap64 (x9_2 + 1))) else (none)) else (none)) else (none)) else (none)) else (none)) else (none)) else (none)) = some r := by first | (rw [hji41] at H; exact H) | (simp only [hji41] at H ⊢; exact H)
  by_cases c42 : 0 ≤ (ji41)
  rotate_left
  · rw [if_neg c42] at H
    exact absurd H (by simp)
  rw [if_pos c42] at H
  have c42b0 := eq_true c42
  have c42b1 : decide (0 ≤ (ji41)) = true := decide_eq_true c42
  clear c42
  obtain ⟨ji43, hji43⟩ : ∃ j_ : Int, (shr .u16 a1 (ji41)) = j_ := ⟨_, rfl⟩
  replace H : (if 0 ≤ (wrap64 (1 + (wrap64 (Go.bits .and .u16 (ji43) 1)))) then (if (wrap64 (1 + (wrap64 (Go.bits .and .u16 (ji43) 1)))) ≤ 3 then (if x7_2.size + ((⟨#[32, 32, 32]⟩ : ByteArray).extract 0 ((wrap64 (1 + (wrap64 (Go.bits .and .u16 (ji43) 1)))) : Int).toNat).size ≤ 9223372036854775807 then (if (x7_2 ++ ((⟨#[32, 32, 32]⟩ : ByteArray).extract 0 ((wrap64 (1 + (wrap64 (Go.bits .and .u16 (ji43) 1)))) : Int).toNat)).size + (rdOf ByteArray.empty l0 x9_2).size ≤ 9223372036854775807 then (if x8_2.size + (rdOf ByteArray.empty l0 x9_2).size ≤ 9223372036854775807 then (if (x8_2 ++ (rdOf ByteArray.empty l0 x9_2)).size + 1 ≤ 9223372036854775807 then (swingbridgelaw7_WordsBack.l0 k4 l0 a1 a2 ((x7_2 ++ ((⟨#[32, 32, 32]⟩ : ByteArray).extract 0 ((wrap64 (1 + (wrap64 (Go.bits .and .u16 (ji43) 1)))) : Int).toNat)) ++ (rdOf ByteArray.empty l0 x9_2)) ((x8_2 ++ (rdOf ByteArray.empty l0 x9_2)) ++ (⟨#[10]⟩ : ByteArray)) (wrap64 (x9_2 + 1))) else (none)) else (none)) else (none)) else (none)) else (none)) else (none)) = some r := by first | (rw [hji43] at H; exact H) | (simp only [hji43] at H ⊢; exact H)
  have hji43_ : (a1 / 2 ^ min (ji41).toNat 16) = ji43 := hji43
  have hji43z : (ji41) ≤ 16 → (a1 / 2 ^ (ji41).toNat) = ji43 := shr_small hji43
  obtain ⟨ji44, hji44⟩ : ∃ j_ : Int, (wrap64 (1 + (wrap64 (Go.bits .and .u16 (ji43) 1)))) = j_ := ⟨_, rfl⟩
  replace H : (if 0 ≤ (ji44) then (if (ji44) ≤ 3 then (if x7_2.size + ((⟨#[32, 32, 32]⟩ : ByteArray).extract 0 ((ji44) : Int).toNat).size ≤ 9223372036854775807 then (if (x7_2 ++ ((⟨#[32, 32, 32]⟩ : ByteArray).extract 0 ((ji44) : Int).toNat)).size + (rdOf ByteArray.empty l0 x9_2).size ≤ 9223372036854775807 then (if x8_2.size + (rdOf ByteArray.empty l0 x9_2).size ≤ 9223372036854775807 then (if (x8_2 ++ (rdOf ByteArray.empty l0 x9_2)).size + 1 ≤ 9223372036854775807 then (swingbridgelaw7_WordsBack.l0 k4 l0 a1 a2 ((x7_2 ++ ((⟨#[32, 32, 32]⟩ : ByteArray).extract 0 ((ji44) : Int).toNat)) ++ (rdOf ByteArray.empty l0 x9_2)) ((x8_2 ++ (rdOf ByteArray.empty l0 x9_2)) ++ (⟨#[10]⟩ : ByteArray)) (wrap64 (x9_2 + 1))) else (none)) else (none)) else (none)) else (none)) else (none)) else (none)) = some r := by first | (rw [hji44] at H; exact H) | (simp only [hji44] at H ⊢; exact H)
  have hji44w : (IntKind.i64.wrap (1 + (wrap64 (Go.bits .and .u16 (ji43) 1)))) = ji44 := (i64_w _).trans hji44
  by_cases c45 : 0 ≤ (ji44)
  rotate_left
  · rw [if_neg c45] at H
    exact absurd H (by simp)
  rw [if_pos c45] at H
  have c45b0 := eq_true c45
  have c45b1 : decide (0 ≤ (ji44)) = true := decide_eq_true c45
  clear c45
  by_cases c46 : (ji44) ≤ 3
  rotate_left
  · rw [if_neg c46] at H
    exact absurd H (by simp)
  rw [if_pos c46] at H
  have c46b0 := eq_true c46
  have c46b1 : decide ((ji44) ≤ 3) = true := decide_eq_true c46
  clear c46
  by_cases c47 : x7_2.size + ((⟨#[32, 32, 32]⟩ : ByteArray).extract 0 ((ji44) : Int).toNat).size ≤ 9223372036854775807
  rotate_left
  · rw [if_neg c47] at H
    exact absurd H (by simp)
  rw [if_pos c47] at H
  have c47b0 := eq_true c47
  have c47b1 : decide (x7_2.size + ((⟨#[32, 32, 32]⟩ : ByteArray).extract 0 ((ji44) : Int).toNat).size ≤ 9223372036854775807) = true := decide_eq_true c47
  try have c47b2 : (9223372036854775807 < x7_2.size + ((⟨#[32, 32, 32]⟩ : ByteArray).extract 0 ((ji44) : Int).toNat).size) = False := eq_false (Nat.not_lt.2 c47)
  by_cases c48 : (x7_2 ++ ((⟨#[32, 32, 32]⟩ : ByteArray).extract 0 ((ji44) : Int).toNat)).size + (rdOf ByteArray.empty l0 x9_2).size ≤ 9223372036854775807
  rotate_left
  · rw [if_neg c48] at H
    exact absurd H (by simp)
  rw [if_pos c48] at H
  have c48b0 := eq_true c48
  have c48b1 : decide ((x7_2 ++ ((⟨#[32, 32, 32]⟩ : ByteArray).extract 0 ((ji44) : Int).toNat)).size + (rdOf ByteArray.empty l0 x9_2).size ≤ 9223372036854775807) = true := decide_eq_true c48
  try have c48b2 : (9223372036854775807 < (x7_2 ++ ((⟨#[32, 32, 32]⟩ : ByteArray).extract 0 ((ji44) : Int).toNat)).size + (rdOf ByteArray.empty l0 x9_2).size) = False := eq_false (Nat.not_lt.2 c48)
  try (have c48b3 := c48b2; rw [ByteArray.size_append] at c48b3)
  by_cases c49 : x8_2.size + (rdOf ByteArray.empty l0 x9_2).size ≤ 9223372036854775807
  rotate_left
  · rw [if_neg c49] at H
    exact absurd H (by simp)
  rw [if_pos c49] at H
  have c49b0 := eq_true c49
  have c49b1 : decide (x8_2.size + (rdOf ByteArray.empty l0 x9_2).size ≤ 9223372036854775807) = true := decide_eq_true c49
  try have c49b2 : (9223372036854775807 < x8_2.size + (rdOf ByteArray.empty l0 x9_2).size) = False := eq_false (Nat.not_lt.2 c49)
  by_cases c50 : (x8_2 ++ (rdOf ByteArray.empty l0 x9_2)).size + 1 ≤ 9223372036854775807
  rotate_left
  · rw [if_neg c50] at H
    exact absurd H (by simp)
  rw [if_pos c50] at H
  have c50b0 := eq_true c50
  have c50b1 : decide ((x8_2 ++ (rdOf ByteArray.empty l0 x9_2)).size + 1 ≤ 9223372036854775807) = true := decide_eq_true c50
  try have c50b2 : (9223372036854775807 < (x8_2 ++ (rdOf ByteArray.empty l0 x9_2)).size + 1) = False := eq_false (Nat.not_lt.2 c50)
  try (have c50b3 := c50b2; rw [ByteArray.size_append] at c50b3)
  have H' := Aside0.mk H
  clear H
  have p229 : 0 ≤ (x9_2 : Int) := of_decide_eq_true (by first | (with_reducible assumption) | assumption)
  have q229 : x9_2 < (l0.length : Int) := of_decide_eq_true (by first | (with_reducible assumption) | assumption)
  obtain ⟨ad229, e229, hx229_0⟩ := Kd.at_string HR0.out x9_2 p229 q229
  cases e229
  replace hx229_0 := (HB.out.cell (World.block_lt_of_cell? w _ hx229_0)).trans hx229_0
  replace p229 := eq_true p229
  replace q229 := eq_true q229
  have p233 : 0 ≤ (x9_2 : Int) := of_decide_eq_true (by first | (with_reducible assumption) | assumption)
  have q233 : x9_2 < (l0.length : Int) := of_decide_eq_true (by first | (with_reducible assumption) | assumption)
  obtain ⟨ad233, e233, hx233_0⟩ := Kd.at_string HR0.out x9_2 p233 q233
  obtain rfl : ad229 = ad233 := (by injection e233)
  replace hx233_0 := (HB.out.cell (World.block_lt_of_cell? w _ hx233_0)).trans hx233_0
  replace p233 := eq_true p233
  replace q233 := eq_true q233
  have p234 : 0 ≤ (x9_2 : Int) := of_decide_eq_true (by first | (with_reducible assumption) | assumption)
  have q234 : x9_2 < (l0.length : Int) := of_decide_eq_true (by first | (with_reducible assumption) | assumption)
  obtain ⟨ad234, e234, hx234_0⟩ := Kd.at_string HR0.out x9_2 p234 q234
  obtain rfl : ad229 = ad234 := (by injection e234)
  replace hx234_0 := (HB.out.cell (World.block_lt_of_cell? w _ hx234_0)).trans hx234_0
  replace p234 := eq_true p234
  replace q234 := eq_true q234
  go_wp2
  repeat (go_quiet (fail); try go_wp2)
  go_roundg k4
  case measure => have := HJ5.out; have := HK2.out; have := HJ26.out; have := HK4.out; omega
  case rel => exact ⟨((x7_2 ++ ((⟨#[32, 32, 32]⟩ : ByteArray).extract 0 ((ji44) : Int).toNat)) ++ (rdOf ByteArray.empty l0 x9_2)), ((x8_2 ++ (rdOf ByteArray.empty l0 x9_2)) ++ (⟨#[10]⟩ : ByteArray)), (wrap64 (x9_2 + 1)), (by first | rfl | (simp; done) | (simp only [← hji44] <;> (first | rfl | simp)) | (simp [*]; done)), (by first | rfl | (simp; done) | (simp [*]; done)), (by first | rfl | (simp; done) | (simp [*]; done)), H', ⟨by have := HJ5.out; have := HK2.out; have := HJ26.out; have := HK4.out; omega⟩, ⟨by repeat (first | (with_reducible first | exact HB.out | apply below_alloc | apply pw_below_drewN | apply below_drew1) | exact HB.out)⟩⟩

end Go.Proofs.YtgkjoodlcojkkaaDoor.QD
