import Derived.Test.YtgkjoodlcojkkaaDoorMB2
section
namespace Go.Proofs.YtgkjoodlcojkkaaDoor.QD
open Go.RowKit Go.Proofs.YtgkjoodlcojkkaaDoorW.PrintWords Go.Proofs.YtgkjoodlcojkkaaDoorW.PrintLast Go.Proofs.YtgkjoodlcojkkaaDoorW.PrintMore
attribute [local go_sem] zbd_ zbe_ zbm_ zbl_ zaW_ zaX_ zbc_ zbb_
set_option linter.unusedVariables false
set_option linter.unusedSimpArgs false
def zaq_.l0 : Nat → List Int → List ByteArray → Int → Int → Option (List Int × Bool)
  | 0, _, _, _, _ => none
  | k + 1, x4, x9, x10, x11 => if x11 < x10 then (if 0 ≤ x11 then (if x11 < (x9.length : Int) then ((words_Num.f (rdOf ByteArray.empty x9 x11)).bind fun a7 => (if a7.2 = true then (if x4.length < 17592186044416 then (zaq_.l0 k (x4 ++ [a7.1]) x9 x10 (wrap64 (x11 + 1))) else (none)) else (some (([] : List Int), false)))) else (none)) else (none)) else (some (x4, true))
def zaq_.f (k : Nat) (l0 : List ByteArray) : Option (List Int × Bool) := zaq_.l0 k ([] : List Int) l0 (l0.length : Int) 0
theorem zaq_.mono_l : ∀ k, (∀ y0 y1 y2 y3, LeO (zaq_.l0 k y0 y1 y2 y3) (zaq_.l0 (k + 1) y0 y1 y2 y3))
  | 0 => fun _ _ _ _ r h => by simp [zaq_.l0] at h
  | k + 1 => by
    have ih0 := zaq_.mono_l k
    · intro y0 y1 y2 y3
      unfold zaq_.l0
      repeat' first
      | (with_reducible exact ih0 _ _ _ _)
      | (with_reducible exact LeO.refl _)
      | (with_reducible exact LeO.none _)
      | (with_reducible refine LeO.ite ?_ ?_)
      | (with_reducible refine LeO.bind ?_ (fun _ => ?_))
      | exact ih0 _ _ _ _
      | exact LeO.none _
      | refine LeO.ite ?_ ?_
      | refine LeO.bind ?_ (fun _ => ?_)
theorem zaq_.mono : ∀ a0 k, LeO (zaq_.f k a0) (zaq_.f (k + 1) a0) := by
  intro a0 k
  have ih0 := zaq_.mono_l k
  unfold zaq_.f
  repeat' first
      | (with_reducible exact ih0 _ _ _ _)
      | (with_reducible exact LeO.refl _)
      | (with_reducible exact LeO.none _)
      | (with_reducible refine LeO.ite ?_ ?_)
      | (with_reducible refine LeO.bind ?_ (fun _ => ?_))
      | exact ih0 _ _ _ _
      | exact LeO.none _
      | refine LeO.ite ?_ ?_
      | refine LeO.bind ?_ (fun _ => ?_)
set_option maxHeartbeats 8000000 in
set_option maxRecDepth 100000 in
theorem zaq_.calls (k : Nat) (A0 : Option Addr) (c0 : Nat) (l0 : List ByteArray) (r1 : List Int) (r2 : Bool) (w : World) (hr0 : Kd.C Kd.string w A0 l0.length l0) (hc0 : l0.length ≤ c0) (hG : Glob w) (h : zaq_.f k l0 = some (r1, r2)) :
    Calls Tryd.prog 56 #[.slice A0 l0.length c0] w fun e w' => ∃ v0_ : Value, e = .returned (.tuple #[v0_, .bool r2]) ∧ Kd.R (Kd.int .i64) 3 w' w.heap.size (fun _ => True) v0_ r1 ∧ Below w.heap.size w w' := by
  have b5 := Aside0.mk hr0
  have HC0 := Aside0.mk hc0
  clear hr0 hc0
  have HG := Aside0.mk hG
  clear hG
  have HB := Aside0.mk (Below.refl w.heap.size w)
  have H : (zaq_.l0 k ([] : List Int) l0 (l0.length : Int) 0) = some (r1, r2) := h
  clear h
  have H' := Aside0.mk H
  clear H
  go_enter Tryd.func56, Tryd.ntmps56
  go_wp2
  go_loopg [4, 11] k (fun kq v4 b8 w' => ∃ (a2 : List Int) (a1 : Int), b8 = .int .i64 a1 ∧ Aside0 (zaq_.l0 kq a2 l0 (l0.length : Int) a1 = some (r1, r2)) ∧ Aside0 (kq ≤ k) ∧ Aside0 (Kd.R (Kd.int .i64) 3 w' w.heap.size (fun _ => True) v4 a2) ∧ Aside0 (Below w.heap.size w w'))
  case atStart => exact ⟨(([] : List Int)), (0), (by first | rfl | (simp; done) | (simp [*]; done)), H', ⟨Nat.le_refl _⟩, ⟨by first | exact Kd.R_nil _ _ _ _ _ | exact Kd.N_nil _ _ _ _ _ | exact Kd.V_nil _ _ _ _ _ | exact Kd.Q_nil _ _ _ _ _ | exact Kd.S_nil _ _ _ _ _⟩, ⟨HB.out⟩⟩
  clear H'
  obtain ⟨a2, a1, rfl, HA, b6, HO_4, HB⟩ := hrel
  cases gk with
  | zero => exact absurd HA.out (by simp [zaq_.l0])
  | succ k1 => ?_
  have H := HA.out
  clear HA
  simp only [zaq_.l0] at H
  by_cases c2 : a1 < (l0.length : Int)
  rotate_left
  · rw [if_neg c2] at H
    have b4 : decide (a1 < (l0.length : Int)) = false := decide_eq_false c2
    clear c2
    simp only [Option.some.injEq, Prod.mk.injEq] at H
    obtain ⟨rfl, rfl⟩ := H
    go_wp2
    go_ret2
    exact ⟨_, by first | rfl | (simp [zal_, zak_] <;> rfl) | (simp [*, zal_, zak_] <;> rfl), by (with_reducible repeat (first | apply Kd.zav_ | apply Kd.zaw_ | apply Kd.R_drew)); exact HO_4.out, HB.out⟩
  rw [if_pos c2] at H
  have b4 : decide (a1 < (l0.length : Int)) = true := decide_eq_true c2
  clear c2
  by_cases c3 : 0 ≤ a1
  rotate_left
  · rw [if_neg c3] at H
    exact absurd H (by simp)
  rw [if_pos c3] at H
  have b9 : decide (0 ≤ a1) = true := decide_eq_true c3
  clear c3
  by_cases c4 : a1 < (l0.length : Int)
  rotate_left
  · rw [if_neg c4] at H
    exact absurd H (by simp)
  rw [if_pos c4] at H
  have c1 : decide (a1 < (l0.length : Int)) = true := decide_eq_true c4
  clear c4
  replace H := Option.bind_eq_some_iff.mp H
  obtain ⟨⟨a6, b0⟩, b7, H⟩ := H
  replace H : (if b0 = true then (if a2.length < 17592186044416 then (zaq_.l0 k1 (a2 ++ [a6]) l0 (l0.length : Int) (wrap64 (a1 + 1))) else (none)) else (some (([] : List Int), false))) = some (r1, r2) := H
  have A5 := Aside0.mk b7
  clear b7
  by_cases c6 : b0 = true
  rotate_left
  · replace c6 := Bool.eq_false_iff.mpr c6
    subst c6
    rw [if_neg (show ¬ (false = true) by decide)] at H
    simp only [Option.some.injEq, Prod.mk.injEq] at H
    obtain ⟨rfl, rfl⟩ := H
    have a4 : 0 ≤ (a1 : Int) := of_decide_eq_true (by first | (with_reducible assumption) | assumption)
    have a5 : a1 < (l0.length : Int) := of_decide_eq_true (by first | (with_reducible assumption) | assumption)
    obtain ⟨ad272, e272, hx272_0⟩ := Kd.zbj_ b5.out a1 a4 a5
    cases e272
    replace hx272_0 := (HB.out.cell (World.block_lt_of_cell? w _ hx272_0)).trans hx272_0
    replace a4 := eq_true a4
    replace a5 := eq_true a5
    go_wp2_with (first | ((with_reducible refine zar_ (f := 10) rfl ?_); refine goesL_ (some 17) rfl rfl Tryd.func10 (by kernel_rfl) rfl #[.string (rdOf ByteArray.empty l0 a1)] rfl (by (try simp only [List.map_toArray, List.map_cons, List.map_nil]); first | done | rfl | (simp only [List.length_drop, List.length_take]; rfl)) ?_; (with_reducible refine (words_Num.calls (rdOf ByteArray.empty l0 a1) a6 false _ ?side1 A5.out).mono ?_); (case side1 => first | exact Glob.below HG.out (HB.out) | (repeat (first | exact Glob.below HG.out HB.out | (with_reducible refine Glob.alloc ?_ _) | (with_reducible refine Glob.drewN ?_ _) | (with_reducible refine Glob.drew ?_)))); rintro e w7 ⟨rfl, hb⟩; refine ⟨_, rfl, ?_⟩; have a8 := Aside0.mk (Kd.zaU_ (by (with_reducible repeat (first | apply Kd.zav_ | apply Kd.zaw_ | apply Kd.R_drew)); exact HO_4.out) hb); have a9 := Aside0.mk (zaj_ (HB.out) hb); clear HO_4; clear HB; have HO_4 := a8; have HB := a9; clear a8 a9; (try clear hb); (try clear hb2); (try clear hk); (try clear hi)))
    go_ret2
    exact ⟨_, by first | rfl | (simp [zal_, zak_] <;> rfl) | (simp [*, zal_, zak_] <;> rfl), by first | exact Kd.R_nil _ _ _ _ _ | exact Kd.N_nil _ _ _ _ _ | exact Kd.V_nil _ _ _ _ _ | exact Kd.Q_nil _ _ _ _ _ | exact Kd.S_nil _ _ _ _ _, HB.out⟩
  subst c6
  rw [if_pos rfl] at H
  by_cases c8 : a2.length < 17592186044416
  rotate_left
  · rw [if_neg c8] at H
    exact absurd H (by simp)
  rw [if_pos c8] at H
  have LMc8 := Aside0.mk c8
  clear c8
  obtain ⟨b1, a3⟩ : ∃ y_ : List Int, y_ = (a2 ++ [a6]) := ⟨_, rfl⟩
  replace H : (zaq_.l0 k1 b1 l0 (l0.length : Int) (wrap64 (a1 + 1))) = some (r1, r2) := by first | (rw [a3]; with_reducible exact H) | (have H2_ := (Option.bind_some _ _).symm.trans H; rw [a3]; with_reducible exact H2_) | (have H2_ := (Option.bind_some _ _).symm.trans H; with_reducible exact H2_) | with_reducible exact H | (rw [a3]; exact H) | exact H
  have b2 := Aside0.mk a3
  clear a3
  have H' := Aside0.mk H
  clear H
  have a4 : 0 ≤ (a1 : Int) := of_decide_eq_true (by first | (with_reducible assumption) | assumption)
  have a5 : a1 < (l0.length : Int) := of_decide_eq_true (by first | (with_reducible assumption) | assumption)
  obtain ⟨ad272, e272, hx272_0⟩ := Kd.zbj_ b5.out a1 a4 a5
  cases e272
  replace hx272_0 := (HB.out.cell (World.block_lt_of_cell? w _ hx272_0)).trans hx272_0
  replace a4 := eq_true a4
  replace a5 := eq_true a5
  go_wp2_with (first | ((with_reducible refine zar_ (f := 10) rfl ?_); refine goesL_ (some 17) rfl rfl Tryd.func10 (by kernel_rfl) rfl #[.string (rdOf ByteArray.empty l0 a1)] rfl (by (try simp only [List.map_toArray, List.map_cons, List.map_nil]); first | done | rfl | (simp only [List.length_drop, List.length_take]; rfl)) ?_; (with_reducible refine (words_Num.calls (rdOf ByteArray.empty l0 a1) a6 true _ ?side1 A5.out).mono ?_); (case side1 => first | exact Glob.below HG.out (HB.out) | (repeat (first | exact Glob.below HG.out HB.out | (with_reducible refine Glob.alloc ?_ _) | (with_reducible refine Glob.drewN ?_ _) | (with_reducible refine Glob.drew ?_)))); rintro e w9 ⟨rfl, hb⟩; refine ⟨_, rfl, ?_⟩; have a8 := Aside0.mk (Kd.zaU_ (by (with_reducible repeat (first | apply Kd.zav_ | apply Kd.zaw_ | apply Kd.R_drew)); exact HO_4.out) hb); have a9 := Aside0.mk (zaj_ (HB.out) hb); clear HO_4; clear HB; have HO_4 := a8; have HB := a9; clear a8 a9; (try clear hb); (try clear hb2); (try clear hk); (try clear hi)) | ((with_reducible refine zbD_ (b := .append) (xs := #[.tmp 22, .tmp 24]) rfl ?_); at_builtin; refine Kd.R_append (Kd.int .i64) (w0 := w) w.heap.size rfl (.tmp 22) (.tmp 24) 34 3 (.int .i64 0) 8 rfl Tryd.underlying34 info3 rfl (by decide) (by omega) u4 a2 a6 [.int .i64 a6] (fun _ => True) (fun _ => False) rfl rfl ?aP (fun _ hk => hk.elim) ?aF ?aO ?aB ?aS ?aL ?_; (case aP => exact rfl); (case aB => exact (HB.out)); (case aF => exact (fun _ _ => trivial)); (case aO => exact (by (with_reducible repeat (first | apply Kd.zav_ | apply Kd.zaw_ | apply Kd.R_drew)); exact HO_4.out)); (case aS => exact (zam_ (HB.out))); (case aL => have := LMc8.out; omega); intro c5 c7 ho hb hg hat; rw [← b2.out] at ho; have a8 := Aside0.mk (hb); have a9 := Aside0.mk (ho); clear HB; clear HO_4; have HB := a8; have b3 := a9; clear a8 a9; clear ho hb hg hat))
  go_roundg k1
  case measure => have := b6.out; omega
  case rel => exact ⟨(b1), (wrap64 (a1 + 1)), (by first | rfl | (simp; done) | (simp [*]; done)), H', ⟨by have := b6.out; omega⟩, ⟨by (with_reducible repeat (first | apply Kd.zav_ | apply Kd.zaw_ | apply Kd.R_drew)); exact b3.out⟩, ⟨HB.out⟩⟩
end Go.Proofs.YtgkjoodlcojkkaaDoor.QD
end
section
namespace Go.Proofs.YtgkjoodlcojkkaaDoor.QD
open Go.RowKit Go.Proofs.YtgkjoodlcojkkaaDoorW.PrintWords Go.Proofs.YtgkjoodlcojkkaaDoorW.PrintLast Go.Proofs.YtgkjoodlcojkkaaDoorW.PrintMore
attribute [local go_sem] zbd_ zbe_ zbm_ zbl_ zaW_ zaX_ zbc_ zbb_
set_option linter.unusedVariables false
set_option linter.unusedSimpArgs false
mutual
def zap_.j0 : Nat → List (S81) → Bool → Int → Option (Int × List Int × List Int × (List (S53)) × Int × Bool)
  | 0, _, _, _ => none
  | k + 1, x0, x27, a7 => if x27 = true then (some (a7, ([] : List Int), ([] : List Int), ([] : List (S53)), 0, false)) else (zap_.l0 k x0 1 a7)
def zap_.l0 : Nat → List (S81) → Int → Int → Option (Int × List Int × List Int × (List (S53)) × Int × Bool)
  | 0, _, _, _ => none
  | k + 1, x0, x6, a7 => if x6 ≤ 3 then (if 0 < (x0.length : Int) then (if 1 < (((rd_T81 x0 0).f1).length : Int) then ((zbt_.f x6).bind fun c3 => (if (rdOf ByteArray.empty ((rd_T81 x0 0).f1) 1).toList = c3.toList then (zap_.l0 k x0 (wrap64 (x6 + 1)) x6) else (zap_.l0 k x0 (wrap64 (x6 + 1)) a7))) else (none)) else (none)) else (if a7 = 0 then (some (a7, ([] : List Int), ([] : List Int), ([] : List (S53)), 0, false)) else (if (x0.length : Int) > 1 then (if 1 < (x0.length : Int) then (if 0 < (((rd_T81 x0 1).f1).length : Int) then (zap_.j2 k x0 false ((rdOf ByteArray.empty ((rd_T81 x0 1).f1) 0).toList == ([99, 111, 114, 101, 115] : List UInt8)) a7) else (none)) else (none)) else (zap_.j2 k x0 false false a7)))
def zap_.j2 : Nat → List (S81) → Bool → Bool → Int → Option (Int × List Int × List Int × (List (S53)) × Int × Bool)
  | 0, _, _, _, _ => none
  | k + 1, x0, x7, x59, a7 => if x59 = true then (if 1 < (x0.length : Int) then (if 1 ≤ (((rd_T81 x0 1).f1).length : Int) then ((zaq_.f k (((rd_T81 x0 1).f1).drop 1)).bind fun j8 => (zap_.j3 k x0 j8.2 a7 j8.1)) else (none)) else (none)) else (zap_.j3 k x0 x7 a7 ([] : List Int))
def zap_.j3 : Nat → List (S81) → Bool → Int → List Int → Option (Int × List Int × List Int × (List (S53)) × Int × Bool)
  | 0, _, _, _, _ => none
  | k + 1, x0, x7, a7, b0 => if x7 = true then (zap_.j4 k x0 ((b0.length : Int) == 0) a7 b0) else (zap_.j4 k x0 true a7 b0)
def zap_.j4 : Nat → List (S81) → Bool → Int → List Int → Option (Int × List Int × List Int × (List (S53)) × Int × Bool)
  | 0, _, _, _, _ => none
  | k + 1, x0, x77, a7, b0 => if x77 = true then (some (a7, b0, ([] : List Int), ([] : List (S53)), 1, false)) else (if (x0.length : Int) = 2 then (zap_.j5 k x0 true a7 b0) else (if 2 < (x0.length : Int) then (if 0 < (((rd_T81 x0 2).f1).length : Int) then (zap_.j5 k x0 ((rdOf ByteArray.empty ((rd_T81 x0 2).f1) 0).toList != ([104, 111, 109, 101, 115] : List UInt8)) a7 b0) else (none)) else (none)))
def zap_.j5 : Nat → List (S81) → Bool → Int → List Int → Option (Int × List Int × List Int × (List (S53)) × Int × Bool)
  | 0, _, _, _, _ => none
  | k + 1, x0, x90, a7, b0 => if x90 = true then (some (a7, b0, ([] : List Int), ([] : List (S53)), 2, true)) else (if 2 < (x0.length : Int) then (if 1 ≤ (((rd_T81 x0 2).f1).length : Int) then ((zaq_.f k (((rd_T81 x0 2).f1).drop 1)).bind fun d2 => (if d2.2 = true then (if (d2.1.length : Int) = 0 then (some (a7, b0, d2.1, ([] : List (S53)), 2, false)) else (some (a7, b0, d2.1, ([] : List (S53)), 3, true))) else (some (a7, b0, d2.1, ([] : List (S53)), 2, false)))) else (none)) else (none))
end
def zap_.f (k : Nat) (l0 : List (S81)) : Option (Int × List Int × List Int × (List (S53)) × Int × Bool) := if (l0.length : Int) = 0 then (zap_.j0 k l0 true 0) else (if 0 < (l0.length : Int) then (if 0 < (((rd_T81 l0 0).f1).length : Int) then (if (rdOf ByteArray.empty ((rd_T81 l0 0).f1) 0).toList = ([112, 114, 111, 116, 111, 99, 111, 108] : List UInt8) then (zap_.j0 k l0 ((((rd_T81 l0 0).f1).length : Int) != 2) 0) else (zap_.j0 k l0 true 0)) else (none)) else (none))
theorem zap_.mono_l : ∀ k, (∀ y0 y1 y2, LeO (zap_.j0 k y0 y1 y2) (zap_.j0 (k + 1) y0 y1 y2)) ∧ (∀ y0 y1 y2, LeO (zap_.l0 k y0 y1 y2) (zap_.l0 (k + 1) y0 y1 y2)) ∧ (∀ y0 y1 y2 y3, LeO (zap_.j2 k y0 y1 y2 y3) (zap_.j2 (k + 1) y0 y1 y2 y3)) ∧ (∀ y0 y1 y2 y3, LeO (zap_.j3 k y0 y1 y2 y3) (zap_.j3 (k + 1) y0 y1 y2 y3)) ∧ (∀ y0 y1 y2 y3, LeO (zap_.j4 k y0 y1 y2 y3) (zap_.j4 (k + 1) y0 y1 y2 y3)) ∧ (∀ y0 y1 y2 y3, LeO (zap_.j5 k y0 y1 y2 y3) (zap_.j5 (k + 1) y0 y1 y2 y3))
  | 0 => ⟨fun _ _ _ r h => by simp [zap_.j0] at h, fun _ _ _ r h => by simp [zap_.l0] at h, fun _ _ _ _ r h => by simp [zap_.j2] at h, fun _ _ _ _ r h => by simp [zap_.j3] at h, fun _ _ _ _ r h => by simp [zap_.j4] at h, fun _ _ _ _ r h => by simp [zap_.j5] at h⟩
  | k + 1 => by
    obtain ⟨ih0, ih1, ih2, ih3, ih4, ih5⟩ := zap_.mono_l k
    refine ⟨?_, ?_, ?_, ?_, ?_, ?_⟩
    · intro y0 y1 y2
      unfold zap_.j0
      repeat' first
      | (with_reducible exact ih0 _ _ _)
      | (with_reducible exact ih1 _ _ _)
      | (with_reducible exact ih2 _ _ _ _)
      | (with_reducible exact ih3 _ _ _ _)
      | (with_reducible exact ih4 _ _ _ _)
      | (with_reducible exact ih5 _ _ _ _)
      | (with_reducible exact zaq_.mono _ _)
      | (with_reducible exact LeO.refl _)
      | (with_reducible exact LeO.none _)
      | (with_reducible refine LeO.ite ?_ ?_)
      | (with_reducible refine LeO.bind ?_ (fun _ => ?_))
      | exact ih0 _ _ _
      | exact ih1 _ _ _
      | exact ih2 _ _ _ _
      | exact ih3 _ _ _ _
      | exact ih4 _ _ _ _
      | exact ih5 _ _ _ _
      | exact zaq_.mono _ _
      | exact LeO.none _
      | refine LeO.ite ?_ ?_
      | refine LeO.bind ?_ (fun _ => ?_)
    · intro y0 y1 y2
      unfold zap_.l0
      repeat' first
      | (with_reducible exact ih0 _ _ _)
      | (with_reducible exact ih1 _ _ _)
      | (with_reducible exact ih2 _ _ _ _)
      | (with_reducible exact ih3 _ _ _ _)
      | (with_reducible exact ih4 _ _ _ _)
      | (with_reducible exact ih5 _ _ _ _)
      | (with_reducible exact zaq_.mono _ _)
      | (with_reducible exact LeO.refl _)
      | (with_reducible exact LeO.none _)
      | (with_reducible refine LeO.ite ?_ ?_)
      | (with_reducible refine LeO.bind ?_ (fun _ => ?_))
      | exact ih0 _ _ _
      | exact ih1 _ _ _
      | exact ih2 _ _ _ _
      | exact ih3 _ _ _ _
      | exact ih4 _ _ _ _
      | exact ih5 _ _ _ _
      | exact zaq_.mono _ _
      | exact LeO.none _
      | refine LeO.ite ?_ ?_
      | refine LeO.bind ?_ (fun _ => ?_)
    · intro y0 y1 y2 y3
      unfold zap_.j2
      repeat' first
      | (with_reducible exact ih0 _ _ _)
      | (with_reducible exact ih1 _ _ _)
      | (with_reducible exact ih2 _ _ _ _)
      | (with_reducible exact ih3 _ _ _ _)
      | (with_reducible exact ih4 _ _ _ _)
      | (with_reducible exact ih5 _ _ _ _)
      | (with_reducible exact zaq_.mono _ _)
      | (with_reducible exact LeO.refl _)
      | (with_reducible exact LeO.none _)
      | (with_reducible refine LeO.ite ?_ ?_)
      | (with_reducible refine LeO.bind ?_ (fun _ => ?_))
      | exact ih0 _ _ _
      | exact ih1 _ _ _
      | exact ih2 _ _ _ _
      | exact ih3 _ _ _ _
      | exact ih4 _ _ _ _
      | exact ih5 _ _ _ _
      | exact zaq_.mono _ _
      | exact LeO.none _
      | refine LeO.ite ?_ ?_
      | refine LeO.bind ?_ (fun _ => ?_)
    · intro y0 y1 y2 y3
      unfold zap_.j3
      repeat' first
      | (with_reducible exact ih0 _ _ _)
      | (with_reducible exact ih1 _ _ _)
      | (with_reducible exact ih2 _ _ _ _)
      | (with_reducible exact ih3 _ _ _ _)
      | (with_reducible exact ih4 _ _ _ _)
      | (with_reducible exact ih5 _ _ _ _)
      | (with_reducible exact zaq_.mono _ _)
      | (with_reducible exact LeO.refl _)
      | (with_reducible exact LeO.none _)
      | (with_reducible refine LeO.ite ?_ ?_)
      | (with_reducible refine LeO.bind ?_ (fun _ => ?_))
      | exact ih0 _ _ _
      | exact ih1 _ _ _
      | exact ih2 _ _ _ _
      | exact ih3 _ _ _ _
      | exact ih4 _ _ _ _
      | exact ih5 _ _ _ _
      | exact zaq_.mono _ _
      | exact LeO.none _
      | refine LeO.ite ?_ ?_
      | refine LeO.bind ?_ (fun _ => ?_)
    · intro y0 y1 y2 y3
      unfold zap_.j4
      repeat' first
      | (with_reducible exact ih0 _ _ _)
      | (with_reducible exact ih1 _ _ _)
      | (with_reducible exact ih2 _ _ _ _)
      | (with_reducible exact ih3 _ _ _ _)
      | (with_reducible exact ih4 _ _ _ _)
      | (with_reducible exact ih5 _ _ _ _)
      | (with_reducible exact zaq_.mono _ _)
      | (with_reducible exact LeO.refl _)
      | (with_reducible exact LeO.none _)
      | (with_reducible refine LeO.ite ?_ ?_)
      | (with_reducible refine LeO.bind ?_ (fun _ => ?_))
      | exact ih0 _ _ _
      | exact ih1 _ _ _
      | exact ih2 _ _ _ _
      | exact ih3 _ _ _ _
      | exact ih4 _ _ _ _
      | exact ih5 _ _ _ _
      | exact zaq_.mono _ _
      | exact LeO.none _
      | refine LeO.ite ?_ ?_
      | refine LeO.bind ?_ (fun _ => ?_)
    · intro y0 y1 y2 y3
      unfold zap_.j5
      repeat' first
      | (with_reducible exact ih0 _ _ _)
      | (with_reducible exact ih1 _ _ _)
      | (with_reducible exact ih2 _ _ _ _)
      | (with_reducible exact ih3 _ _ _ _)
      | (with_reducible exact ih4 _ _ _ _)
      | (with_reducible exact ih5 _ _ _ _)
      | (with_reducible exact zaq_.mono _ _)
      | (with_reducible exact LeO.refl _)
      | (with_reducible exact LeO.none _)
      | (with_reducible refine LeO.ite ?_ ?_)
      | (with_reducible refine LeO.bind ?_ (fun _ => ?_))
      | exact ih0 _ _ _
      | exact ih1 _ _ _
      | exact ih2 _ _ _ _
      | exact ih3 _ _ _ _
      | exact ih4 _ _ _ _
      | exact ih5 _ _ _ _
      | exact zaq_.mono _ _
      | exact LeO.none _
      | refine LeO.ite ?_ ?_
      | refine LeO.bind ?_ (fun _ => ?_)
theorem zap_.mono : ∀ a0 k, LeO (zap_.f k a0) (zap_.f (k + 1) a0) := by
  intro a0 k
  obtain ⟨ih0, ih1, ih2, ih3, ih4, ih5⟩ := zap_.mono_l k
  unfold zap_.f
  repeat' first
      | (with_reducible exact ih0 _ _ _)
      | (with_reducible exact ih1 _ _ _)
      | (with_reducible exact ih2 _ _ _ _)
      | (with_reducible exact ih3 _ _ _ _)
      | (with_reducible exact ih4 _ _ _ _)
      | (with_reducible exact ih5 _ _ _ _)
      | (with_reducible exact zaq_.mono _ _)
      | (with_reducible exact LeO.refl _)
      | (with_reducible exact LeO.none _)
      | (with_reducible refine LeO.ite ?_ ?_)
      | (with_reducible refine LeO.bind ?_ (fun _ => ?_))
      | exact ih0 _ _ _
      | exact ih1 _ _ _
      | exact ih2 _ _ _ _
      | exact ih3 _ _ _ _
      | exact ih4 _ _ _ _
      | exact ih5 _ _ _ _
      | exact zaq_.mono _ _
      | exact LeO.none _
      | refine LeO.ite ?_ ?_
      | refine LeO.bind ?_ (fun _ => ?_)
def zap_.T7 : Bool × List (List Nat × List Nat) := (true, [([], []), ([0], [0]), ([1], [1]), ([2], [2]), ([3], [3]), ([4], [4]), ([], []), ([6], [6]), ([5, 7], [5, 7])])
def zap_.B7 : List Nat := [0, 1, 3, 7, 15, 31, 0, 64, 255]
theorem zap_.tab7 : rtab .any (opsOf Tryd.f40 7) = zap_.T7 := by kernel_rfl
theorem zap_.bits7 : waitsOk zap_.T7.2 zap_.B7 = true := by kernel_rfl
set_option maxHeartbeats 8000000 in
set_option maxRecDepth 100000 in
theorem zap_.calls (k : Nat) (A0 : Option Addr) (c0 : Nat) (l0 : List (S81)) (r1 : Int) (r2 : List Int) (r3 : List Int) (r4 : List (S53)) (r5 : Int) (r6 : Bool) (w : World) (hr0 : Kd.C k81 w A0 l0.length l0) (hc0 : l0.length ≤ c0) (hG : Glob w) (h : zap_.f k l0 = some (r1, r2, r3, r4, r5, r6)) :
    Calls Tryd.prog 40 #[.slice A0 l0.length c0] w fun e w' => ∃ v1_ v2_ v3_ : Value, e = .returned (.tuple #[.agg #[.int .i64 r1, v1_, v2_, v3_], .int .i64 r5, .bool r6]) ∧ Kd.R (Kd.int .i64) 3 w' w.heap.size (fun k_ => some k_ ≠ (v2_ : Value).ownBlock) v1_ r2 ∧ Kd.R (Kd.int .i64) 3 w' w.heap.size (fun k_ => some k_ ≠ (v1_ : Value).ownBlock) v2_ r3 ∧ Kd.S k53 53 w' w.heap.size (fun _ => True) v3_ r4 ∧ Below w.heap.size w w' := by
  have hu37 := Tryd.underlying37
  have g7 := Aside0.mk hr0
  have HC0 := Aside0.mk hc0
  clear hr0 hc0
  have HG := Aside0.mk hG
  clear hG
  have HB := Aside0.mk (Below.refl w.heap.size w)
  have H : (if (l0.length : Int) = 0 then (zap_.j0 k l0 true 0) else (if 0 < (l0.length : Int) then (if 0 < (((rd_T81 l0 0).f1).length : Int) then (if (rdOf ByteArray.empty ((rd_T81 l0 0).f1) 0).toList = ([112, 114, 111, 116, 111, 99, 111, 108] : List UInt8) then (zap_.j0 k l0 ((((rd_T81 l0 0).f1).length : Int) != 2) 0) else (zap_.j0 k l0 true 0)) else (none)) else (none))) = some (r1, r2, r3, r4, r5, r6) := h
  clear h
  have HC2 := Aside0.mk H
  clear H
  go_enter Tryd.func40, Tryd.ntmps40
  go_upto_region 2 with (first | ((with_reducible refine zaL_ (N := 2) rfl ?_); (try (refine zaF_ (by rfl) ?_; dsimp only)); refine zaD_ ?hg (N := 2) ?hd (cs := #[.int .i64 0, .slice none 0 0, .slice none 0 0, .slice none 0 0]) (t := 37) ?hr ?_; (case hd => rfl); (case hg => rfl); (case hr => first | (go_simp; done) | (go_simp; rfl)); intro a5 hg w3 hbox hb; have b3 := Aside0.mk (zaj_ (HB.out) hb); have b4 := Aside0.mk (hbox); have b5 := Aside0.mk ((by rw [hg]; exact (zam_ (HB.out)) : w.heap.size ≤ a5)); have d3 := Aside0.mk ((by rw [hg]; exact (zam_ (HB.out)) : w.heap.size ≤ a5)); clear HB; have HB := b3; have a3 := b4; have K7 := b5; have b6 := d3; clear b3 b4 b5 d3; clear hb hbox hg) | ((with_reducible refine zaL_ (N := 5) rfl ?_); (try (refine zaF_ (by rfl) ?_; dsimp only)); refine zaD_ ?hg (N := 5) ?hd (cs := #[.int .i64 0, .slice none 0 0, .slice none 0 0, .slice none 0 0]) (t := 37) ?hr ?_; (case hd => rfl); (case hg => rfl); (case hr => first | (go_simp; done) | (go_simp; rfl)); intro a6 hg w4 hbox hb; have b3 := Aside0.mk (zan_ a3.out hb); have b4 := Aside0.mk (zaj_ (HB.out) hb); have b5 := Aside0.mk (hbox); have d3 := Aside0.mk ((by rw [hg]; exact (zam_ (HB.out)) : w.heap.size ≤ a6)); have g8 := Aside0.mk ((by rw [hg]; exact (zam_ (HB.out)) : w.heap.size ≤ a6)); have K8 := Aside0.mk ((by rw [hg]; exact Nat.ne_of_lt (blk_lt a3.out) : a5 ≠ a6)); have K9 := Aside0.mk ((by rw [hg]; exact Nat.ne_of_gt (blk_lt a3.out) : a6 ≠ a5)); clear a3; clear HB; have a3 := b3; have HB := b4; have a2 := b5; have L0 := d3; have b7 := g8; have a8 := K8; have a9 := K9; clear b3 b4 b5 d3 g8 K8 K9; clear hb hbox hg))
  (try simp only [Act.put, List.setIfInBounds_toArray, List.set_cons_zero, List.set_cons_succ])
  go_cut [27] (fun N3 wc => ∃ (kq : Nat) (e5 : Bool), N3 = .bool e5 ∧ Aside0 (zap_.j0 kq l0 e5 0 = some (r1, r2, r3, r4, r5, r6)) ∧ Aside0 (kq ≤ k) ∧ Aside0 (wc.heap[a5]? = some (.cells #[.int .i64 0, (.slice none 0 0), (.slice none 0 0), (.slice none 0 0)] 37 (0, 0))) ∧ Aside0 (wc.heap[a6]? = some (.cells #[.int .i64 0, (.slice none 0 0), (.slice none 0 0), (.slice none 0 0)] 37 (0, 0))) ∧ Aside0 (Below w.heap.size w wc))
  case first =>
    have H := HC2.out
    clear HC2
    by_cases c5 : (l0.length : Int) = 0
    · rw [if_pos c5] at H
      have g9 : ((l0.length : Int) == 0) = true := beq_iff_eq.mpr c5
      have I8 : ((l0.length : Int) != 0) = false := bne_eq_false_iff_eq.mpr c5
      clear c5
      (first | rw [g9] | (simp only [i64_w, i32_w]; rw [g9]) | skip)
      have H' := Aside0.mk H
      clear H
      go_wp2
      go_meet
      case rel => exact ⟨_, (true), (by first | rfl | (simp; done) | (simp [*]; done)), H', ⟨by first | omega | exact Nat.le_refl _⟩, ⟨a3.out⟩, ⟨a2.out⟩, ⟨HB.out⟩⟩
    rw [if_neg c5] at H
    have g9 : ((l0.length : Int) == 0) = false := beq_eq_false_iff_ne.mpr c5
    have I8 : ((l0.length : Int) != 0) = true := bne_iff_ne.mpr c5
    have N4 : ¬ (l0 = []) := fun h_ => c5 (by rw [h_]; rfl)
    (first | rw [g9] | (simp only [i64_w, i32_w]; rw [g9]) | skip)
    by_cases c6 : 0 < (l0.length : Int)
    rotate_left
    · rw [if_neg c6] at H
      exact absurd H (by simp)
    rw [if_pos c6] at H
    have N5 : decide (0 < (l0.length : Int)) = true := decide_eq_true c6
    have N6 : decide (0 < l0.length) = true := decide_eq_true (by omega)
    clear c6
    by_cases c7 : 0 < (((rd_T81 l0 0).f1).length : Int)
    rotate_left
    · rw [if_neg c7] at H
      exact absurd H (by simp)
    rw [if_pos c7] at H
    have N7 : decide (0 < (((rd_T81 l0 0).f1).length : Int)) = true := decide_eq_true c7
    have N8 : decide (0 < ((rd_T81 l0 0).f1).length) = true := decide_eq_true (by omega)
    clear c7
    by_cases c8 : (rdOf ByteArray.empty ((rd_T81 l0 0).f1) 0).toList = ([112, 114, 111, 116, 111, 99, 111, 108] : List UInt8)
    rotate_left
    · rw [if_neg c8] at H
      have I9 : ((rdOf ByteArray.empty ((rd_T81 l0 0).f1) 0).toList == ([112, 114, 111, 116, 111, 99, 111, 108] : List UInt8)) = false := beq_eq_false_iff_ne.mpr c8
      have J0 : ((rdOf ByteArray.empty ((rd_T81 l0 0).f1) 0).toList != ([112, 114, 111, 116, 111, 99, 111, 108] : List UInt8)) = true := bne_iff_ne.mpr c8
      have H' := Aside0.mk H
      clear H
      have d7 : 0 ≤ (0 : Int) := (by omega)
      have d8 : 0 < (l0.length : Int) := of_decide_eq_true (by first | (with_reducible assumption) | assumption)
      obtain ⟨ad280, k6, c280_1, e280, hx280_0, hx280_1, hl280_1, hi280_1⟩ := at_T81 g7.out 0 d7 d8
      cases e280
      have qi280 : (0 < l0.length) = True := eq_true (by omega)
      (try rw [show ((0 : Int)).toNat = 0 from rfl] at hx280_0)
      (try rw [show 0 * 2 = 0 from rfl] at hx280_0)
      (try rw [Addr.add_zero'] at hx280_0)
      (try rw [show ((0 : Int)).toNat = 0 from rfl] at hx280_1)
      (try rw [show 0 * 2 = 0 from rfl] at hx280_1)
      (try rw [Addr.add_zero'] at hx280_1)
      replace hx280_0 := (HB.out.cell (World.block_lt_of_cell? w _ hx280_0)).trans hx280_0
      replace hx280_1 := (HB.out.cell (World.block_lt_of_cell? w _ hx280_1)).trans hx280_1
      have HR280_1 := Aside0.mk hi280_1
      have HC280_1 := Aside0.mk hl280_1
      clear hi280_1 hl280_1
      replace d7 := eq_true d7
      replace d8 := eq_true d8
      have d9 : 0 ≤ (0 : Int) := (by omega)
      have e0 : 0 < (((rd_T81 l0 0).f1).length : Int) := of_decide_eq_true (by first | (with_reducible assumption) | assumption)
      obtain ⟨ad281, e281, hx281_0⟩ := Kd.zbj_ HR280_1.out 0 d9 e0
      cases e281
      have qi281 : (0 < ((rd_T81 l0 0).f1).length) = True := eq_true (by omega)
      (try rw [show ((0 : Int)).toNat = 0 from rfl] at hx281_0)
      (try rw [Addr.add_zero'] at hx281_0)
      replace hx281_0 := (HB.out.cell (World.block_lt_of_cell? w _ hx281_0)).trans hx281_0
      replace d9 := eq_true d9
      replace e0 := eq_true e0
      go_wp2
      go_meet
      case rel => exact ⟨_, (true), (by first | rfl | (simp; done) | (simp [*]; done)), H', ⟨by first | omega | exact Nat.le_refl _⟩, ⟨a3.out⟩, ⟨a2.out⟩, ⟨HB.out⟩⟩
    rw [if_pos c8] at H
    have I9 : ((rdOf ByteArray.empty ((rd_T81 l0 0).f1) 0).toList == ([112, 114, 111, 116, 111, 99, 111, 108] : List UInt8)) = true := beq_iff_eq.mpr c8
    have J0 : ((rdOf ByteArray.empty ((rd_T81 l0 0).f1) 0).toList != ([112, 114, 111, 116, 111, 99, 111, 108] : List UInt8)) = false := bne_eq_false_iff_eq.mpr c8
    clear c8
    have H' := Aside0.mk H
    clear H
    have d7 : 0 ≤ (0 : Int) := (by omega)
    have d8 : 0 < (l0.length : Int) := of_decide_eq_true (by first | (with_reducible assumption) | assumption)
    obtain ⟨ad280, k6, c280_1, e280, hx280_0, hx280_1, hl280_1, hi280_1⟩ := at_T81 g7.out 0 d7 d8
    cases e280
    have qi280 : (0 < l0.length) = True := eq_true (by omega)
    (try rw [show ((0 : Int)).toNat = 0 from rfl] at hx280_0)
    (try rw [show 0 * 2 = 0 from rfl] at hx280_0)
    (try rw [Addr.add_zero'] at hx280_0)
    (try rw [show ((0 : Int)).toNat = 0 from rfl] at hx280_1)
    (try rw [show 0 * 2 = 0 from rfl] at hx280_1)
    (try rw [Addr.add_zero'] at hx280_1)
    replace hx280_0 := (HB.out.cell (World.block_lt_of_cell? w _ hx280_0)).trans hx280_0
    replace hx280_1 := (HB.out.cell (World.block_lt_of_cell? w _ hx280_1)).trans hx280_1
    have HR280_1 := Aside0.mk hi280_1
    have HC280_1 := Aside0.mk hl280_1
    clear hi280_1 hl280_1
    replace d7 := eq_true d7
    replace d8 := eq_true d8
    have d9 : 0 ≤ (0 : Int) := (by omega)
    have e0 : 0 < (((rd_T81 l0 0).f1).length : Int) := of_decide_eq_true (by first | (with_reducible assumption) | assumption)
    obtain ⟨ad281, e281, hx281_0⟩ := Kd.zbj_ HR280_1.out 0 d9 e0
    cases e281
    have qi281 : (0 < ((rd_T81 l0 0).f1).length) = True := eq_true (by omega)
    (try rw [show ((0 : Int)).toNat = 0 from rfl] at hx281_0)
    (try rw [Addr.add_zero'] at hx281_0)
    replace hx281_0 := (HB.out.cell (World.block_lt_of_cell? w _ hx281_0)).trans hx281_0
    replace d9 := eq_true d9
    replace e0 := eq_true e0
    have k7 : 0 ≤ (0 : Int) := (by omega)
    have k8 : 0 < (l0.length : Int) := of_decide_eq_true (by first | (with_reducible assumption) | assumption)
    obtain ⟨ad282, J1, c282_1, e282, hx282_0, hx282_1, hl282_1, hi282_1⟩ := at_T81 g7.out 0 k7 k8
    obtain rfl : ad280 = ad282 := (by injection e282)
    have qi282 : (0 < l0.length) = True := eq_true (by omega)
    (try rw [show ((0 : Int)).toNat = 0 from rfl] at hx282_0)
    (try rw [show 0 * 2 = 0 from rfl] at hx282_0)
    (try rw [Addr.add_zero'] at hx282_0)
    (try rw [show ((0 : Int)).toNat = 0 from rfl] at hx282_1)
    (try rw [show 0 * 2 = 0 from rfl] at hx282_1)
    (try rw [Addr.add_zero'] at hx282_1)
    replace hx282_0 := (HB.out.cell (World.block_lt_of_cell? w _ hx282_0)).trans hx282_0
    replace hx282_1 := (HB.out.cell (World.block_lt_of_cell? w _ hx282_1)).trans hx282_1
    have HR282_1 := Aside0.mk hi282_1
    have HC282_1 := Aside0.mk hl282_1
    clear hi282_1 hl282_1
    replace k7 := eq_true k7
    replace k8 := eq_true k8
    have ea_ := Option.some.inj (hx280_1.symm.trans hx282_1)
    injection ea_ with ea_ en_ ec_
    subst ea_
    subst ec_
    clear en_
    go_wp2
    go_meet
    case rel => exact ⟨_, (((((rd_T81 l0 0).f1).length : Int) != 2)), (by first | rfl | (simp; done) | (simp [*]; done)), H', ⟨by first | omega | exact Nat.le_refl _⟩, ⟨a3.out⟩, ⟨a2.out⟩, ⟨HB.out⟩⟩
  clear HC2
  obtain ⟨kq, e5, rfl, HA, g5, a3, a2, HB⟩ := hcut
  cases kq with
  | zero => exact absurd HA.out (by simp [zap_.j0])
  | succ L1 => ?_
  have H := HA.out
  clear HA
  simp only [zap_.j0] at H
  by_cases c9 : e5 = true
  · subst c9
    rw [if_pos rfl] at H
    simp only [Option.some.injEq, Prod.mk.injEq] at H
    obtain ⟨rfl, rfl, rfl, rfl, rfl, rfl⟩ := H
    have hnb10 := a9.out
    have hnc10 := a8.out
    have p0 : wc.cell? ⟨a6, 0, none⟩ = some (.int .i64 0) := (zab_ a2.out 0).trans rfl
    have p1 : wc.cell? ⟨a6, 1, none⟩ = some (.slice none 0 0) := (zab_ a2.out 1).trans rfl
    have p2 : wc.cell? ⟨a6, 2, none⟩ = some (.slice none 0 0) := (zab_ a2.out 2).trans rfl
    have p3 : wc.cell? ⟨a6, 3, none⟩ = some (.slice none 0 0) := (zab_ a2.out 3).trans rfl
    have p4 := zaa_ a2.out 0
    have p5 := zaa_ a2.out 1
    have p6 := zaa_ a2.out 2
    have p7 := zaa_ a2.out 3
    have p8 : wc.cell? ⟨a5, 0, none⟩ = some (.int .i64 0) := (zab_ a3.out 0).trans rfl
    have p9 : wc.cell? ⟨a5, 1, none⟩ = some (.slice none 0 0) := (zab_ a3.out 1).trans rfl
    have q0 : wc.cell? ⟨a5, 2, none⟩ = some (.slice none 0 0) := (zab_ a3.out 2).trans rfl
    have q1 : wc.cell? ⟨a5, 3, none⟩ = some (.slice none 0 0) := (zab_ a3.out 3).trans rfl
    have q2 := zaa_ a3.out 0
    have q3 := zaa_ a3.out 1
    have q4 := zaa_ a3.out 2
    have q5 := zaa_ a3.out 3
    go_wp2
    refine bodyPost_ret (zbo_ rfl _ _ a5 37 #[.int .i64 0, .slice none 0 0, .slice none 0 0, .slice none 0 0] (0, 0) _ rfl (by (with_reducible repeat (first | refine zac_ ?_ _ | refine zaf_ ?_ | refine zad_ ?_ _)); refine zat_ (cs := #[.int .i64 0, .slice none 0 0, .slice none 0 0, .slice none 0 0]) ?_ 3 _ rfl; (with_reducible repeat (first | refine zac_ ?_ _ | refine zaf_ ?_ | refine zad_ ?_ _)); refine zat_ (cs := #[.int .i64 0, .slice none 0 0, .slice none 0 0, .slice none 0 0]) ?_ 2 _ rfl; (with_reducible repeat (first | refine zac_ ?_ _ | refine zaf_ ?_ | refine zad_ ?_ _)); refine zat_ (cs := #[.int .i64 0, .slice none 0 0, .slice none 0 0, .slice none 0 0]) ?_ 1 _ rfl; (with_reducible repeat (first | refine zac_ ?_ _ | refine zaf_ ?_ | refine zad_ ?_ _)); refine zat_ (cs := #[.int .i64 0, .slice none 0 0, .slice none 0 0, .slice none 0 0]) ?_ 0 _ rfl; (with_reducible repeat (first | refine zac_ ?_ _ | refine zaf_ ?_ | refine zad_ ?_ _)); exact a3.out) Tryd.underlying37 rfl (by kernel_rfl)) rfl ?_
    exact ⟨_, _, _, by first | rfl | (simp [zal_, zak_] <;> rfl) | (simp [*, zal_, zak_] <;> rfl), by first | exact Kd.R_nil _ _ _ _ _ | exact Kd.N_nil _ _ _ _ _ | exact Kd.V_nil _ _ _ _ _ | exact Kd.Q_nil _ _ _ _ _ | exact Kd.S_nil _ _ _ _ _, by first | exact Kd.R_nil _ _ _ _ _ | exact Kd.N_nil _ _ _ _ _ | exact Kd.V_nil _ _ _ _ _ | exact Kd.Q_nil _ _ _ _ _ | exact Kd.S_nil _ _ _ _ _, by first | exact Kd.S_nil _ _ _ _ _ | exact Kd.N_nil _ _ _ _ _ | exact Kd.V_nil _ _ _ _ _ | exact Kd.Q_nil _ _ _ _ _ | exact Kd.R_nil _ _ _ _ _, by repeat (first | (with_reducible first | exact HB.out | apply zah_ | apply zae_ | apply zag_ | refine zai_ ?_ b6.out | refine zai_ ?_ b7.out) | exact HB.out)⟩
  replace c9 := Bool.eq_false_iff.mpr c9
  subst c9
  rw [if_neg (show ¬ (false = true) by decide)] at H
  have H' := Aside0.mk H
  clear H
  go_wp2
  go_loopg [6] L1 (fun kq v6 w' => ∃ (b2 : Int) (a1 : Int), v6 = .int .i64 b2 ∧ Aside0 (zap_.l0 kq l0 b2 a1 = some (r1, r2, r3, r4, r5, r6)) ∧ Aside0 (kq ≤ L1) ∧ Aside0 (w'.heap[a5]? = some (.cells #[.int .i64 0, (.slice none 0 0), (.slice none 0 0), (.slice none 0 0)] 37 (0, 0))) ∧ Aside0 (w'.heap[a6]? = some (.cells #[.int .i64 a1, (.slice none 0 0), (.slice none 0 0), (.slice none 0 0)] 37 (0, 0))) ∧ Aside0 (Below w.heap.size w w'))
  case atStart => exact ⟨(1), (0), (by first | rfl | (simp; done) | (simp [*]; done)), H', ⟨Nat.le_refl _⟩, ⟨a3.out⟩, ⟨a2.out⟩, ⟨HB.out⟩⟩
  clear H'
  obtain ⟨b2, a1, rfl, HA, g6, a3, a2, HB⟩ := hrel
  cases gk with
  | zero => exact absurd HA.out (by simp [zap_.l0])
  | succ k2 => ?_
  have H := HA.out
  clear HA
  simp only [zap_.l0] at H
  by_cases m8 : b2 ≤ 3
  · rw [if_pos m8] at H
    have n0 : decide (b2 ≤ 3) = true := decide_eq_true m8
    clear m8
    by_cases q6 : 0 < (l0.length : Int)
    rotate_left
    · rw [if_neg q6] at H
      exact absurd H (by simp)
    rw [if_pos q6] at H
    have L2 : decide (0 < (l0.length : Int)) = true := decide_eq_true q6
    have L3 : decide (0 < l0.length) = true := decide_eq_true (by omega)
    clear q6
    by_cases q7 : 1 < (((rd_T81 l0 0).f1).length : Int)
    rotate_left
    · rw [if_neg q7] at H
      exact absurd H (by simp)
    rw [if_pos q7] at H
    have L4 : decide (1 < (((rd_T81 l0 0).f1).length : Int)) = true := decide_eq_true q7
    have L5 : decide (1 < ((rd_T81 l0 0).f1).length) = true := decide_eq_true (by omega)
    clear q7
    replace H := Option.bind_eq_some_iff.mp H
    obtain ⟨c3, n1, H⟩ := H
    replace H : (if (rdOf ByteArray.empty ((rd_T81 l0 0).f1) 1).toList = c3.toList then (zap_.l0 k2 l0 (wrap64 (b2 + 1)) b2) else (zap_.l0 k2 l0 (wrap64 (b2 + 1)) a1)) = some (r1, r2, r3, r4, r5, r6) := H
    have L6 := Aside0.mk n1
    clear n1
    by_cases k9 : (rdOf ByteArray.empty ((rd_T81 l0 0).f1) 1).toList = c3.toList
    rotate_left
    · rw [if_neg k9] at H
      have n2 : ((rdOf ByteArray.empty ((rd_T81 l0 0).f1) 1).toList == c3.toList) = false := beq_eq_false_iff_ne.mpr k9
      have n3 : ((rdOf ByteArray.empty ((rd_T81 l0 0).f1) 1).toList != c3.toList) = true := bne_iff_ne.mpr k9
      have H' := Aside0.mk H
      clear H
      try go_wp2
      have b3 := Aside0.mk (zaf_ a3.out)
      have b4 := Aside0.mk (zaf_ a2.out)
      have b5 := Aside0.mk (zag_ HB.out)
      clear a3
      clear a2
      clear HB
      have a3 := b3
      have a2 := b4
      have HB := b5
      clear b3 b4 b5
      have e1 : 0 ≤ (0 : Int) := (by omega)
      have e2 : 0 < (l0.length : Int) := of_decide_eq_true (by first | (with_reducible assumption) | assumption)
      obtain ⟨ad283, l1, c283_1, e283, hx283_0, hx283_1, hl283_1, hi283_1⟩ := at_T81 g7.out 0 e1 e2
      have hw283_1 := hx283_1
      (try rw [show ((0 : Int)).toNat = 0 from rfl] at hw283_1)
      (try rw [show 0 * 2 = 0 from rfl] at hw283_1)
      (try rw [Addr.add_zero'] at hw283_1)
      have hw283_0 := hx283_0
      (try rw [show ((0 : Int)).toNat = 0 from rfl] at hw283_0)
      (try rw [show 0 * 2 = 0 from rfl] at hw283_0)
      (try rw [Addr.add_zero'] at hw283_0)
      cases e283
      have qi283 : (0 < l0.length) = True := eq_true (by omega)
      (try rw [show ((0 : Int)).toNat = 0 from rfl] at hx283_0)
      (try rw [show 0 * 2 = 0 from rfl] at hx283_0)
      (try rw [Addr.add_zero'] at hx283_0)
      (try rw [show ((0 : Int)).toNat = 0 from rfl] at hx283_1)
      (try rw [show 0 * 2 = 0 from rfl] at hx283_1)
      (try rw [Addr.add_zero'] at hx283_1)
      replace hx283_0 := (HB.out.cell (World.block_lt_of_cell? w _ hx283_0)).trans hx283_0
      replace hx283_1 := (HB.out.cell (World.block_lt_of_cell? w _ hx283_1)).trans hx283_1
      have HR283_1 := Aside0.mk hi283_1
      have HC283_1 := Aside0.mk hl283_1
      clear hi283_1 hl283_1
      replace e1 := eq_true e1
      replace e2 := eq_true e2
      have e3 : 0 ≤ (1 : Int) := (by omega)
      have e4 : 1 < (((rd_T81 l0 0).f1).length : Int) := of_decide_eq_true (by first | (with_reducible assumption) | assumption)
      obtain ⟨ad284, e284, hx284_0⟩ := Kd.zbj_ HR283_1.out 1 e3 e4
      have hw284_0 := hx284_0
      (try rw [show ((1 : Int)).toNat = 1 from rfl] at hw284_0)
      (try rw [show 1 * 1 = 1 from rfl] at hw284_0)
      (try simp only [Nat.reduceMul, Nat.reduceEqDiff, Go.Addr.add, ↓reduceIte] at hw284_0)
      cases e284
      (try simp only [show (1 : Int).toNat = 1 from rfl, Nat.reduceMul, Nat.reduceEqDiff, Go.Addr.add, ↓reduceIte] at hx284_0)
      have qi284 : (1 < ((rd_T81 l0 0).f1).length) = True := eq_true (by omega)
      (try rw [show ((1 : Int)).toNat = 1 from rfl] at hx284_0)
      replace hx284_0 := (HB.out.cell (World.block_lt_of_cell? w _ hx284_0)).trans hx284_0
      replace e3 := eq_true e3
      replace e4 := eq_true e4
      refine start_ (n := 9) (S := fun w' => w'.cell? ad283 = some (.int .i64 ((rd_T81 l0 0).f0)) ∧ w'.cell? ⟨ad283.block, ad283.off + 1, none⟩ = some (.slice (some ad284) ((rd_T81 l0 0).f1).length c283_1) ∧ w'.cell? ⟨ad284.block, ad284.off + 1, none⟩ = some (.string (rdOf ByteArray.empty ((rd_T81 l0 0).f1) 1))) (ds := []) (bs 9 0) (by kernel_rfl) rfl rfl ⟨((HB.out.cell (World.block_lt_of_cell? w _ hw283_0)).trans hw283_0), ((HB.out.cell (World.block_lt_of_cell? w _ hw283_1)).trans hw283_1), ((HB.out.cell (World.block_lt_of_cell? w _ hw284_0)).trans hw284_0)⟩ (fun hHeld => ?_); refine zbv_ zap_.tab7 zap_.bits7 (fun HT_ HW_ => ?_)
      generalize wr.drew = P1 at a3 a2 HB HR283_1 hx283_0 hx283_1 hx284_0 hHeld ⊢
      refine pure_ (i := 0) (N := some 33) (v := ?_) (a' := ?_) (bs 9 1) rfl rfl (any_of HT_.out (by kernel_rfl)) (fun _ _ _ h => h) (Or.inl ⟨by rfl, ?_⟩) ?_ ?_
      rotate_left
      · intro w'
        go_simp
        with_reducible rfl
      rotate_left
      · simp only [Act.put, List.setIfInBounds_toArray, List.set_cons_zero, List.set_cons_succ, i64_w, i32_w]
        rfl
      refine pure_ (i := 1) (N := some 34) (v := ?_) (a' := ?_) (bs 9 3) rfl rfl (any_of HT_.out (by kernel_rfl)) (fun _ _ _ h => h) (Or.inl ⟨by rfl, ?_⟩) ?_ ?_
      rotate_left
      · intro w'
        go_simp
        with_reducible rfl
      rotate_left
      · simp only [Act.put, List.setIfInBounds_toArray, List.set_cons_zero, List.set_cons_succ, i64_w, i32_w]
        rfl
      refine pure_ (i := 2) (N := some 35) (v := ?_) (a' := ?_) (bs 9 7) rfl rfl (any_of HT_.out (by kernel_rfl)) (fun _ _ _ h => h) (Or.inl ⟨by rfl, ?_⟩) ?_ ?_
      rotate_left
      · intro w'
        go_simp
        with_reducible rfl
      rotate_left
      · simp only [Act.put, List.setIfInBounds_toArray, List.set_cons_zero, List.set_cons_succ, i64_w, i32_w]
        rfl
      refine pure_ (i := 6) (N := some 39) (v := ?_) (a' := ?_) (bs 9 71) rfl rfl (any_of HT_.out (by kernel_rfl)) (fun _ _ _ h => h) (Or.inl ⟨by rfl, ?_⟩) ?_ ?_
      rotate_left
      · intro w'
        go_simp
        with_reducible rfl
      rotate_left
      · simp only [Act.put, List.setIfInBounds_toArray, List.set_cons_zero, List.set_cons_succ, i64_w, i32_w]
        rfl
      refine take_ (i := 3) (N := some 36) (v := ?_) (a' := ?_) (bs 9 79) rfl rfl (zaT_ HT_.out HW_.out (by kernel_rfl)) (fun _ _ _ h => h) (Or.inl ⟨by rfl, ?_⟩) hHeld ?_ ?_
      rotate_left
      · rintro w' ⟨s0, s1, s2⟩
        go_simp
        with_reducible rfl
      rotate_left
      · simp only [Act.put, List.setIfInBounds_toArray, List.set_cons_zero, List.set_cons_succ, i64_w, i32_w]
        rfl
      refine pure_ (i := 4) (N := some 37) (v := ?_) (a' := ?_) (bs 9 95) rfl rfl (any_of HT_.out (by kernel_rfl)) (fun _ _ _ h => h) (Or.inl ⟨by rfl, ?_⟩) ?_ ?_
      rotate_left
      · intro w'
        go_simp
        with_reducible rfl
      rotate_left
      · simp only [Act.put, List.setIfInBounds_toArray, List.set_cons_zero, List.set_cons_succ, i64_w, i32_w]
        rfl
      refine take_ (i := 5) (N := some 38) (v := ?_) (a' := ?_) (bs 9 127) rfl rfl (zaT_ HT_.out HW_.out (by kernel_rfl)) (fun _ _ _ h => h) (Or.inl ⟨by rfl, ?_⟩) hHeld ?_ ?_
      rotate_left
      · rintro w' ⟨s0, s1, s2⟩
        go_simp
        with_reducible rfl
      rotate_left
      · simp only [Act.put, List.setIfInBounds_toArray, List.set_cons_zero, List.set_cons_succ, i64_w, i32_w]
        rfl
      refine one_ (i := 7) (N := some 40) (bs 9 255) rfl rfl (one_of HT_.out (by kernel_rfl)) (by decide) (fun K hK => ?_)
      refine goes_ Tryd.func35 (by kernel_rfl) rfl #[.int .i64 b2] (by rfl) rfl rfl (by (try simp only [List.map_toArray, List.map_cons, List.map_nil]); first | done | rfl | (simp only [List.length_drop, List.length_take]; rfl)) ?_
      with_reducible refine (zbt_.calls b2 c3 _ L6.out).mono ?_
      rintro e P2 ⟨rfl, hb⟩
      refine ⟨_, rfl, ?_⟩
      have b3 := Aside0.mk (zan_ a3.out hb)
      have b4 := Aside0.mk (zan_ a2.out hb)
      have b5 := Aside0.mk (zaj_ (HB.out) hb)
      clear a3
      clear a2
      clear HB
      have a3 := b3
      have a2 := b4
      have HB := b5
      clear b3 b4 b5
      refine hK.out _ _ ⟨((HB.out.cell (World.block_lt_of_cell? w _ hw283_0)).trans hw283_0), ((HB.out.cell (World.block_lt_of_cell? w _ hw283_1)).trans hw283_1), ((HB.out.cell (World.block_lt_of_cell? w _ hw284_0)).trans hw284_0)⟩ (fun hHeld => ?_)
      clear hK K
      refine norm_ (a' := ?_) ?_ ?_
      rotate_left
      · show Act.put _ (some 40) _ = _
        simp only [Act.put, List.setIfInBounds_toArray, List.set_cons_zero, List.set_cons_succ, i64_w, i32_w]
        rfl
      refine pure_ (i := 8) (N := some 41) (v := ?_) (a' := ?_) (bs 9 511) rfl rfl (any_of HT_.out (by kernel_rfl)) (fun _ _ _ h => h) (Or.inl ⟨by rfl, ?_⟩) ?_ ?_
      rotate_left
      · intro w'
        go_simp
        with_reducible rfl
      rotate_left
      · simp only [Act.put, List.setIfInBounds_toArray, List.set_cons_zero, List.set_cons_succ, i64_w, i32_w]
        rfl
      refine done_ (done_of HT_.out (by kernel_rfl)) ?_
      try go_wp2
      go_roundg k2
      case measure => have := g5.out; have := g6.out; omega
      case rel => exact ⟨(wrap64 (b2 + 1)), (a1), (by first | rfl | (simp; done) | (simp [*]; done)), H', ⟨by have := g5.out; have := g6.out; omega⟩, ⟨a3.out⟩, ⟨a2.out⟩, ⟨HB.out⟩⟩
    rw [if_pos k9] at H
    have n2 : ((rdOf ByteArray.empty ((rd_T81 l0 0).f1) 1).toList == c3.toList) = true := beq_iff_eq.mpr k9
    have n3 : ((rdOf ByteArray.empty ((rd_T81 l0 0).f1) 1).toList != c3.toList) = false := bne_eq_false_iff_eq.mpr k9
    clear k9
    have H' := Aside0.mk H
    clear H
    try go_wp2
    have b3 := Aside0.mk (zaf_ a3.out)
    have b4 := Aside0.mk (zaf_ a2.out)
    have b5 := Aside0.mk (zag_ HB.out)
    clear a3
    clear a2
    clear HB
    have a3 := b3
    have a2 := b4
    have HB := b5
    clear b3 b4 b5
    have e1 : 0 ≤ (0 : Int) := (by omega)
    have e2 : 0 < (l0.length : Int) := of_decide_eq_true (by first | (with_reducible assumption) | assumption)
    obtain ⟨ad283, l1, c283_1, e283, hx283_0, hx283_1, hl283_1, hi283_1⟩ := at_T81 g7.out 0 e1 e2
    have hw283_1 := hx283_1
    (try rw [show ((0 : Int)).toNat = 0 from rfl] at hw283_1)
    (try rw [show 0 * 2 = 0 from rfl] at hw283_1)
    (try rw [Addr.add_zero'] at hw283_1)
    have hw283_0 := hx283_0
    (try rw [show ((0 : Int)).toNat = 0 from rfl] at hw283_0)
    (try rw [show 0 * 2 = 0 from rfl] at hw283_0)
    (try rw [Addr.add_zero'] at hw283_0)
    cases e283
    have qi283 : (0 < l0.length) = True := eq_true (by omega)
    (try rw [show ((0 : Int)).toNat = 0 from rfl] at hx283_0)
    (try rw [show 0 * 2 = 0 from rfl] at hx283_0)
    (try rw [Addr.add_zero'] at hx283_0)
    (try rw [show ((0 : Int)).toNat = 0 from rfl] at hx283_1)
    (try rw [show 0 * 2 = 0 from rfl] at hx283_1)
    (try rw [Addr.add_zero'] at hx283_1)
    replace hx283_0 := (HB.out.cell (World.block_lt_of_cell? w _ hx283_0)).trans hx283_0
    replace hx283_1 := (HB.out.cell (World.block_lt_of_cell? w _ hx283_1)).trans hx283_1
    have HR283_1 := Aside0.mk hi283_1
    have HC283_1 := Aside0.mk hl283_1
    clear hi283_1 hl283_1
    replace e1 := eq_true e1
    replace e2 := eq_true e2
    have e3 : 0 ≤ (1 : Int) := (by omega)
    have e4 : 1 < (((rd_T81 l0 0).f1).length : Int) := of_decide_eq_true (by first | (with_reducible assumption) | assumption)
    obtain ⟨ad284, e284, hx284_0⟩ := Kd.zbj_ HR283_1.out 1 e3 e4
    have hw284_0 := hx284_0
    (try rw [show ((1 : Int)).toNat = 1 from rfl] at hw284_0)
    (try rw [show 1 * 1 = 1 from rfl] at hw284_0)
    (try simp only [Nat.reduceMul, Nat.reduceEqDiff, Go.Addr.add, ↓reduceIte] at hw284_0)
    cases e284
    (try simp only [show (1 : Int).toNat = 1 from rfl, Nat.reduceMul, Nat.reduceEqDiff, Go.Addr.add, ↓reduceIte] at hx284_0)
    have qi284 : (1 < ((rd_T81 l0 0).f1).length) = True := eq_true (by omega)
    (try rw [show ((1 : Int)).toNat = 1 from rfl] at hx284_0)
    replace hx284_0 := (HB.out.cell (World.block_lt_of_cell? w _ hx284_0)).trans hx284_0
    replace e3 := eq_true e3
    replace e4 := eq_true e4
    refine start_ (n := 9) (S := fun w' => w'.cell? ad283 = some (.int .i64 ((rd_T81 l0 0).f0)) ∧ w'.cell? ⟨ad283.block, ad283.off + 1, none⟩ = some (.slice (some ad284) ((rd_T81 l0 0).f1).length c283_1) ∧ w'.cell? ⟨ad284.block, ad284.off + 1, none⟩ = some (.string (rdOf ByteArray.empty ((rd_T81 l0 0).f1) 1))) (ds := []) (bs 9 0) (by kernel_rfl) rfl rfl ⟨((HB.out.cell (World.block_lt_of_cell? w _ hw283_0)).trans hw283_0), ((HB.out.cell (World.block_lt_of_cell? w _ hw283_1)).trans hw283_1), ((HB.out.cell (World.block_lt_of_cell? w _ hw284_0)).trans hw284_0)⟩ (fun hHeld => ?_); refine zbv_ zap_.tab7 zap_.bits7 (fun HT_ HW_ => ?_)
    generalize wr.drew = P3 at a3 a2 HB HR283_1 hx283_0 hx283_1 hx284_0 hHeld ⊢
    refine pure_ (i := 0) (N := some 33) (v := ?_) (a' := ?_) (bs 9 1) rfl rfl (any_of HT_.out (by kernel_rfl)) (fun _ _ _ h => h) (Or.inl ⟨by rfl, ?_⟩) ?_ ?_
    rotate_left
    · intro w'
      go_simp
      with_reducible rfl
    rotate_left
    · simp only [Act.put, List.setIfInBounds_toArray, List.set_cons_zero, List.set_cons_succ, i64_w, i32_w]
      rfl
    refine pure_ (i := 1) (N := some 34) (v := ?_) (a' := ?_) (bs 9 3) rfl rfl (any_of HT_.out (by kernel_rfl)) (fun _ _ _ h => h) (Or.inl ⟨by rfl, ?_⟩) ?_ ?_
    rotate_left
    · intro w'
      go_simp
      with_reducible rfl
    rotate_left
    · simp only [Act.put, List.setIfInBounds_toArray, List.set_cons_zero, List.set_cons_succ, i64_w, i32_w]
      rfl
    refine pure_ (i := 2) (N := some 35) (v := ?_) (a' := ?_) (bs 9 7) rfl rfl (any_of HT_.out (by kernel_rfl)) (fun _ _ _ h => h) (Or.inl ⟨by rfl, ?_⟩) ?_ ?_
    rotate_left
    · intro w'
      go_simp
      with_reducible rfl
    rotate_left
    · simp only [Act.put, List.setIfInBounds_toArray, List.set_cons_zero, List.set_cons_succ, i64_w, i32_w]
      rfl
    refine pure_ (i := 6) (N := some 39) (v := ?_) (a' := ?_) (bs 9 71) rfl rfl (any_of HT_.out (by kernel_rfl)) (fun _ _ _ h => h) (Or.inl ⟨by rfl, ?_⟩) ?_ ?_
    rotate_left
    · intro w'
      go_simp
      with_reducible rfl
    rotate_left
    · simp only [Act.put, List.setIfInBounds_toArray, List.set_cons_zero, List.set_cons_succ, i64_w, i32_w]
      rfl
    refine take_ (i := 3) (N := some 36) (v := ?_) (a' := ?_) (bs 9 79) rfl rfl (zaT_ HT_.out HW_.out (by kernel_rfl)) (fun _ _ _ h => h) (Or.inl ⟨by rfl, ?_⟩) hHeld ?_ ?_
    rotate_left
    · rintro w' ⟨s0, s1, s2⟩
      go_simp
      with_reducible rfl
    rotate_left
    · simp only [Act.put, List.setIfInBounds_toArray, List.set_cons_zero, List.set_cons_succ, i64_w, i32_w]
      rfl
    refine pure_ (i := 4) (N := some 37) (v := ?_) (a' := ?_) (bs 9 95) rfl rfl (any_of HT_.out (by kernel_rfl)) (fun _ _ _ h => h) (Or.inl ⟨by rfl, ?_⟩) ?_ ?_
    rotate_left
    · intro w'
      go_simp
      with_reducible rfl
    rotate_left
    · simp only [Act.put, List.setIfInBounds_toArray, List.set_cons_zero, List.set_cons_succ, i64_w, i32_w]
      rfl
    refine take_ (i := 5) (N := some 38) (v := ?_) (a' := ?_) (bs 9 127) rfl rfl (zaT_ HT_.out HW_.out (by kernel_rfl)) (fun _ _ _ h => h) (Or.inl ⟨by rfl, ?_⟩) hHeld ?_ ?_
    rotate_left
    · rintro w' ⟨s0, s1, s2⟩
      go_simp
      with_reducible rfl
    rotate_left
    · simp only [Act.put, List.setIfInBounds_toArray, List.set_cons_zero, List.set_cons_succ, i64_w, i32_w]
      rfl
    refine one_ (i := 7) (N := some 40) (bs 9 255) rfl rfl (one_of HT_.out (by kernel_rfl)) (by decide) (fun K hK => ?_)
    refine goes_ Tryd.func35 (by kernel_rfl) rfl #[.int .i64 b2] (by rfl) rfl rfl (by (try simp only [List.map_toArray, List.map_cons, List.map_nil]); first | done | rfl | (simp only [List.length_drop, List.length_take]; rfl)) ?_
    with_reducible refine (zbt_.calls b2 c3 _ L6.out).mono ?_
    rintro e q8 ⟨rfl, hb⟩
    refine ⟨_, rfl, ?_⟩
    have b3 := Aside0.mk (zan_ a3.out hb)
    have b4 := Aside0.mk (zan_ a2.out hb)
    have b5 := Aside0.mk (zaj_ (HB.out) hb)
    clear a3
    clear a2
    clear HB
    have a3 := b3
    have a2 := b4
    have HB := b5
    clear b3 b4 b5
    refine hK.out _ _ ⟨((HB.out.cell (World.block_lt_of_cell? w _ hw283_0)).trans hw283_0), ((HB.out.cell (World.block_lt_of_cell? w _ hw283_1)).trans hw283_1), ((HB.out.cell (World.block_lt_of_cell? w _ hw284_0)).trans hw284_0)⟩ (fun hHeld => ?_)
    clear hK K
    refine norm_ (a' := ?_) ?_ ?_
    rotate_left
    · show Act.put _ (some 40) _ = _
      simp only [Act.put, List.setIfInBounds_toArray, List.set_cons_zero, List.set_cons_succ, i64_w, i32_w]
      rfl
    refine pure_ (i := 8) (N := some 41) (v := ?_) (a' := ?_) (bs 9 511) rfl rfl (any_of HT_.out (by kernel_rfl)) (fun _ _ _ h => h) (Or.inl ⟨by rfl, ?_⟩) ?_ ?_
    rotate_left
    · intro w'
      go_simp
      with_reducible rfl
    rotate_left
    · simp only [Act.put, List.setIfInBounds_toArray, List.set_cons_zero, List.set_cons_succ, i64_w, i32_w]
      rfl
    refine done_ (done_of HT_.out (by kernel_rfl)) ?_
    have hnb22 := a9.out
    have hnc22 := a8.out
    have q9 : q8.cell? ⟨a6, 0, none⟩ = some (.int .i64 a1) := (zab_ a2.out 0).trans rfl
    have r0 : q8.cell? ⟨a6, 1, none⟩ = some (.slice none 0 0) := (zab_ a2.out 1).trans rfl
    have r7 : q8.cell? ⟨a6, 2, none⟩ = some (.slice none 0 0) := (zab_ a2.out 2).trans rfl
    have r8 : q8.cell? ⟨a6, 3, none⟩ = some (.slice none 0 0) := (zab_ a2.out 3).trans rfl
    have r9 := zaa_ a2.out 0
    have t0 := zaa_ a2.out 1
    have t1 := zaa_ a2.out 2
    have t2 := zaa_ a2.out 3
    try go_wp2
    go_roundg k2
    case measure => have := g5.out; have := g6.out; omega
    case rel => exact ⟨(wrap64 (b2 + 1)), (b2), (by first | rfl | (simp; done) | (simp [*]; done)), H', ⟨by have := g5.out; have := g6.out; omega⟩, ⟨by (with_reducible repeat (first | refine zac_ ?_ _ | refine zaf_ ?_ | refine zad_ ?_ _)); refine zaG_ ?_ a8.out _; (with_reducible repeat (first | refine zac_ ?_ _ | refine zaf_ ?_ | refine zad_ ?_ _)); exact a3.out⟩, ⟨by (with_reducible repeat (first | refine zac_ ?_ _ | refine zaf_ ?_ | refine zad_ ?_ _)); refine zat_ (cs := #[.int .i64 a1, .slice none 0 0, .slice none 0 0, .slice none 0 0]) ?_ 0 _ rfl; (with_reducible repeat (first | refine zac_ ?_ _ | refine zaf_ ?_ | refine zad_ ?_ _)); exact a2.out⟩, ⟨by repeat (first | (with_reducible first | exact HB.out | apply zah_ | apply zae_ | apply zag_ | refine zai_ ?_ b6.out | refine zai_ ?_ b7.out) | exact HB.out)⟩⟩
  rw [if_neg m8] at H
  have n0 : decide (b2 ≤ 3) = false := decide_eq_false m8
  clear m8
  by_cases l2 : a1 = 0
  · rw [if_pos l2] at H
    have n4 : (a1 == 0) = true := beq_iff_eq.mpr l2
    have n5 : (a1 != 0) = false := bne_eq_false_iff_eq.mpr l2
    clear l2
    simp only [Option.some.injEq, Prod.mk.injEq] at H
    obtain ⟨rfl, rfl, rfl, rfl, rfl, rfl⟩ := H
    have hnb25 := a9.out
    have hnc25 := a8.out
    have t3 : wr.cell? ⟨a6, 0, none⟩ = some (.int .i64 a1) := (zab_ a2.out 0).trans rfl
    have t4 : wr.cell? ⟨a6, 1, none⟩ = some (.slice none 0 0) := (zab_ a2.out 1).trans rfl
    have t5 : wr.cell? ⟨a6, 2, none⟩ = some (.slice none 0 0) := (zab_ a2.out 2).trans rfl
    have t6 : wr.cell? ⟨a6, 3, none⟩ = some (.slice none 0 0) := (zab_ a2.out 3).trans rfl
    have t7 := zaa_ a2.out 0
    have t8 := zaa_ a2.out 1
    have t9 := zaa_ a2.out 2
    have v0 := zaa_ a2.out 3
    have v1 : wr.cell? ⟨a5, 0, none⟩ = some (.int .i64 0) := (zab_ a3.out 0).trans rfl
    have v2 : wr.cell? ⟨a5, 1, none⟩ = some (.slice none 0 0) := (zab_ a3.out 1).trans rfl
    have v3 : wr.cell? ⟨a5, 2, none⟩ = some (.slice none 0 0) := (zab_ a3.out 2).trans rfl
    have v4 : wr.cell? ⟨a5, 3, none⟩ = some (.slice none 0 0) := (zab_ a3.out 3).trans rfl
    have v5 := zaa_ a3.out 0
    have v8 := zaa_ a3.out 1
    have v9 := zaa_ a3.out 2
    have w0 := zaa_ a3.out 3
    go_wp2
    refine bodyPost_ret (zbo_ rfl _ _ a5 37 #[.int .i64 a1, .slice none 0 0, .slice none 0 0, .slice none 0 0] (0, 0) _ rfl (by (with_reducible repeat (first | refine zac_ ?_ _ | refine zaf_ ?_ | refine zad_ ?_ _)); refine zat_ (cs := #[.int .i64 a1, .slice none 0 0, .slice none 0 0, .slice none 0 0]) ?_ 3 _ rfl; (with_reducible repeat (first | refine zac_ ?_ _ | refine zaf_ ?_ | refine zad_ ?_ _)); refine zat_ (cs := #[.int .i64 a1, .slice none 0 0, .slice none 0 0, .slice none 0 0]) ?_ 2 _ rfl; (with_reducible repeat (first | refine zac_ ?_ _ | refine zaf_ ?_ | refine zad_ ?_ _)); refine zat_ (cs := #[.int .i64 a1, .slice none 0 0, .slice none 0 0, .slice none 0 0]) ?_ 1 _ rfl; (with_reducible repeat (first | refine zac_ ?_ _ | refine zaf_ ?_ | refine zad_ ?_ _)); refine zat_ (cs := #[.int .i64 0, .slice none 0 0, .slice none 0 0, .slice none 0 0]) ?_ 0 _ rfl; (with_reducible repeat (first | refine zac_ ?_ _ | refine zaf_ ?_ | refine zad_ ?_ _)); exact a3.out) Tryd.underlying37 rfl (by kernel_rfl)) rfl ?_
    exact ⟨_, _, _, by first | rfl | (simp [zal_, zak_] <;> rfl) | (simp [*, zal_, zak_] <;> rfl), by first | exact Kd.R_nil _ _ _ _ _ | exact Kd.N_nil _ _ _ _ _ | exact Kd.V_nil _ _ _ _ _ | exact Kd.Q_nil _ _ _ _ _ | exact Kd.S_nil _ _ _ _ _, by first | exact Kd.R_nil _ _ _ _ _ | exact Kd.N_nil _ _ _ _ _ | exact Kd.V_nil _ _ _ _ _ | exact Kd.Q_nil _ _ _ _ _ | exact Kd.S_nil _ _ _ _ _, by first | exact Kd.S_nil _ _ _ _ _ | exact Kd.N_nil _ _ _ _ _ | exact Kd.V_nil _ _ _ _ _ | exact Kd.Q_nil _ _ _ _ _ | exact Kd.R_nil _ _ _ _ _, by repeat (first | (with_reducible first | exact HB.out | apply zah_ | apply zae_ | apply zag_ | refine zai_ ?_ b6.out | refine zai_ ?_ b7.out) | exact HB.out)⟩
  rw [if_neg l2] at H
  have n4 : (a1 == 0) = false := beq_eq_false_iff_ne.mpr l2
  have n5 : (a1 != 0) = true := bne_iff_ne.mpr l2
  have HC28 := Aside0.mk H
  clear H
  have hnb29 := a9.out
  have hnc29 := a8.out
  have w1 : wr.cell? ⟨a6, 0, none⟩ = some (.int .i64 a1) := (zab_ a2.out 0).trans rfl
  have w2 : wr.cell? ⟨a6, 1, none⟩ = some (.slice none 0 0) := (zab_ a2.out 1).trans rfl
  have w5 : wr.cell? ⟨a6, 2, none⟩ = some (.slice none 0 0) := (zab_ a2.out 2).trans rfl
  have w6 : wr.cell? ⟨a6, 3, none⟩ = some (.slice none 0 0) := (zab_ a2.out 3).trans rfl
  have w7 := zaa_ a2.out 0
  have w8 := zaa_ a2.out 1
  have w9 := zaa_ a2.out 2
  have x1 := zaa_ a2.out 3
  go_upto_region 12 with (fail)
  go_cut [59] (fun N9 wc => ∃ (kq : Nat) (c4 : Bool), N9 = .bool c4 ∧ Aside0 (zap_.j2 kq l0 false c4 a1 = some (r1, r2, r3, r4, r5, r6)) ∧ Aside0 (kq ≤ k2) ∧ Aside0 (wc.heap[a5]? = some (.cells #[.int .i64 0, (.slice none 0 0), (.slice none 0 0), (.slice none 0 0)] 37 (0, 0))) ∧ Aside0 (wc.heap[a6]? = some (.cells #[.int .i64 a1, (.slice none 0 0), (.slice none 0 0), (.slice none 0 0)] 37 (0, 0))) ∧ Aside0 (Below w.heap.size w wc))
  case first =>
    have H := HC28.out
    clear HC28
    by_cases m9 : (l0.length : Int) > 1
    rotate_left
    · rw [if_neg m9] at H
      have d4 : decide (1 < (l0.length : Int)) = false := decide_eq_false m9
      have n6 : decide (1 < l0.length) = false := decide_eq_false (by omega)
      clear m9
      (first | rw [d4] | (simp only [i64_w, i32_w]; rw [d4]) | skip)
      have H' := Aside0.mk H
      clear H
      go_wp2
      go_meet
      case rel => exact ⟨_, (false), (by first | rfl | (simp; done) | (simp [*]; done)), H', ⟨by have := g5.out; have := g6.out; first | omega | exact Nat.le_refl _⟩, ⟨a3.out⟩, ⟨a2.out⟩, ⟨HB.out⟩⟩
    rw [if_pos m9] at H
    have d4 : decide (1 < (l0.length : Int)) = true := decide_eq_true m9
    have n6 : decide (1 < l0.length) = true := decide_eq_true (by omega)
    clear m9
    (first | rw [d4] | (simp only [i64_w, i32_w]; rw [d4]) | skip)
    by_cases x2 : 1 < (l0.length : Int)
    rotate_left
    · rw [if_neg x2] at H
      exact absurd H (by simp)
    rw [if_pos x2] at H
    have L7 : decide (1 < (l0.length : Int)) = true := decide_eq_true x2
    have L8 : decide (1 < l0.length) = true := decide_eq_true (by omega)
    clear x2
    by_cases x3 : 0 < (((rd_T81 l0 1).f1).length : Int)
    rotate_left
    · rw [if_neg x3] at H
      exact absurd H (by simp)
    rw [if_pos x3] at H
    have L9 : decide (0 < (((rd_T81 l0 1).f1).length : Int)) = true := decide_eq_true x3
    have M0 : decide (0 < ((rd_T81 l0 1).f1).length) = true := decide_eq_true (by omega)
    clear x3
    have H' := Aside0.mk H
    clear H
    have l3 : 0 ≤ (1 : Int) := (by omega)
    have l4 : 1 < (l0.length : Int) := of_decide_eq_true (by first | (with_reducible assumption) | assumption)
    obtain ⟨ad286, J2, c286_1, e286, hx286_0, hx286_1, hl286_1, hi286_1⟩ := at_T81 g7.out 1 l3 l4
    cases e286
    (try simp only [show (1 : Int).toNat = 1 from rfl, Nat.reduceMul, Nat.reduceEqDiff, Go.Addr.add, ↓reduceIte] at hx286_0)
    (try simp only [show (1 : Int).toNat = 1 from rfl, Nat.reduceMul, Nat.reduceEqDiff, Go.Addr.add, ↓reduceIte] at hx286_1)
    have qi286 : (1 < l0.length) = True := eq_true (by omega)
    (try rw [show ((1 : Int)).toNat = 1 from rfl] at hx286_0)
    (try rw [show 1 * 2 = 2 from rfl] at hx286_0)
    (try rw [show ((1 : Int)).toNat = 1 from rfl] at hx286_1)
    (try rw [show 1 * 2 = 2 from rfl] at hx286_1)
    replace hx286_0 := (HB.out.cell (World.block_lt_of_cell? w _ hx286_0)).trans hx286_0
    replace hx286_1 := (HB.out.cell (World.block_lt_of_cell? w _ hx286_1)).trans hx286_1
    have HR286_1 := Aside0.mk hi286_1
    have HC286_1 := Aside0.mk hl286_1
    clear hi286_1 hl286_1
    replace l3 := eq_true l3
    replace l4 := eq_true l4
    have l5 : 0 ≤ (0 : Int) := (by omega)
    have l6 : 0 < (((rd_T81 l0 1).f1).length : Int) := of_decide_eq_true (by first | (with_reducible assumption) | assumption)
    obtain ⟨ad287, e287, hx287_0⟩ := Kd.zbj_ HR286_1.out 0 l5 l6
    cases e287
    have qi287 : (0 < ((rd_T81 l0 1).f1).length) = True := eq_true (by omega)
    (try rw [show ((0 : Int)).toNat = 0 from rfl] at hx287_0)
    (try rw [Addr.add_zero'] at hx287_0)
    replace hx287_0 := (HB.out.cell (World.block_lt_of_cell? w _ hx287_0)).trans hx287_0
    replace l5 := eq_true l5
    replace l6 := eq_true l6
    go_wp2
    go_meet
    case rel => exact ⟨_, (((rdOf ByteArray.empty ((rd_T81 l0 1).f1) 0).toList == ([99, 111, 114, 101, 115] : List UInt8))), (by first | rfl | (simp; done) | (simp [*]; done)), H', ⟨by have := g5.out; have := g6.out; first | omega | exact Nat.le_refl _⟩, ⟨a3.out⟩, ⟨a2.out⟩, ⟨HB.out⟩⟩
  clear HC28
  obtain ⟨kq, c4, rfl, HA, e8, a3, a2, HB⟩ := hcut
  cases kq with
  | zero => exact absurd HA.out (by simp [zap_.j2])
  | succ l7 => ?_
  have H := HA.out
  clear HA
  simp only [zap_.j2] at H
  have HC34 := Aside0.mk H
  clear H
  go_upto_if 59 with (fail)
  go_cut [7] (fun v7 wc => ∃ (kq : Nat) (e6 : Bool) (a4 : List Int) (u280001 : Value), v7 = .bool e6 ∧ Aside0 (zap_.j3 kq l0 e6 a1 a4 = some (r1, r2, r3, r4, r5, r6)) ∧ Aside0 (kq ≤ l7) ∧ Aside0 (Kd.R (Kd.int .i64) 3 wc w.heap.size (fun _ => True) u280001 a4) ∧ Aside0 (wc.heap[a5]? = some (.cells #[.int .i64 0, (.slice none 0 0), (.slice none 0 0), (.slice none 0 0)] 37 (0, 0))) ∧ Aside0 (wc.heap[a6]? = some (.cells #[.int .i64 a1, u280001, (.slice none 0 0), (.slice none 0 0)] 37 (0, 0))) ∧ Aside0 (Below w.heap.size w wc))
  case first =>
    have H := HC34.out
    clear HC34
    by_cases x4 : c4 = true
    rotate_left
    · replace x4 := Bool.eq_false_iff.mpr x4
      subst x4
      rw [if_neg (show ¬ (false = true) by decide)] at H
      have H' := Aside0.mk H
      clear H
      go_wp2
      go_meet
      case rel => exact ⟨_, (false), (([] : List Int)), (.slice none 0 0), (by first | rfl | (simp; done) | (simp [*]; done)), H', ⟨by have := g5.out; have := g6.out; have := e8.out; first | omega | exact Nat.le_refl _⟩, ⟨by first | exact Kd.R_nil _ _ _ _ _ | exact Kd.N_nil _ _ _ _ _ | exact Kd.V_nil _ _ _ _ _ | exact Kd.Q_nil _ _ _ _ _ | exact Kd.S_nil _ _ _ _ _⟩, ⟨a3.out⟩, ⟨a2.out⟩, ⟨HB.out⟩⟩
    subst x4
    rw [if_pos rfl] at H
    by_cases x5 : 1 < (l0.length : Int)
    rotate_left
    · rw [if_neg x5] at H
      exact absurd H (by simp)
    rw [if_pos x5] at H
    have j9 : decide (1 < (l0.length : Int)) = true := decide_eq_true x5
    have M1 : decide (1 < l0.length) = true := decide_eq_true (by omega)
    clear x5
    (first | rw [j9] | (simp only [i64_w, i32_w]; rw [j9]) | skip)
    by_cases n7 : 1 ≤ (((rd_T81 l0 1).f1).length : Int)
    rotate_left
    · rw [if_neg n7] at H
      exact absurd H (by simp)
    rw [if_pos n7] at H
    have M2 := eq_true n7
    have M3 : decide (1 ≤ (((rd_T81 l0 1).f1).length : Int)) = true := decide_eq_true n7
    clear n7
    replace H := Option.bind_eq_some_iff.mp H
    obtain ⟨⟨h0, l8⟩, n8, H⟩ := H
    replace H : (zap_.j3 l7 l0 l8 a1 h0) = some (r1, r2, r3, r4, r5, r6) := H
    have O0 := Aside0.mk n8
    clear n8
    have H' := Aside0.mk H
    clear H
    have l9 : 0 ≤ (1 : Int) := (by omega)
    have m0 : 1 < (l0.length : Int) := of_decide_eq_true (by first | (with_reducible assumption) | assumption)
    obtain ⟨ad288, m1, c288_1, e288, hx288_0, hx288_1, hl288_1, hi288_1⟩ := at_T81 g7.out 1 l9 m0
    cases e288
    (try simp only [show (1 : Int).toNat = 1 from rfl, Nat.reduceMul, Nat.reduceEqDiff, Go.Addr.add, ↓reduceIte] at hx288_0)
    (try simp only [show (1 : Int).toNat = 1 from rfl, Nat.reduceMul, Nat.reduceEqDiff, Go.Addr.add, ↓reduceIte] at hx288_1)
    have qi288 : (1 < l0.length) = True := eq_true (by omega)
    (try rw [show ((1 : Int)).toNat = 1 from rfl] at hx288_0)
    (try rw [show 1 * 2 = 2 from rfl] at hx288_0)
    (try rw [show ((1 : Int)).toNat = 1 from rfl] at hx288_1)
    (try rw [show 1 * 2 = 2 from rfl] at hx288_1)
    replace hx288_0 := (HB.out.cell (World.block_lt_of_cell? w _ hx288_0)).trans hx288_0
    replace hx288_1 := (HB.out.cell (World.block_lt_of_cell? w _ hx288_1)).trans hx288_1
    have HR288_1 := Aside0.mk hi288_1
    have HC288_1 := Aside0.mk hl288_1
    clear hi288_1 hl288_1
    replace l9 := eq_true l9
    replace m0 := eq_true m0
    obtain ⟨i039, hi039, _, hsz39, _⟩ := info_parts info9
    obtain ⟨O1, hcut39, hA39, hC39⟩ := zbF_ (P := Tryd.prog) Value.string (⟨#[]⟩ : ByteArray) 26 9 .i64 Tryd.underlying26 hi039 hsz39 m1 c288_1 ((rd_T81 l0 1).f1) 1 (by omega) (of_decide_eq_true (by first | (with_reducible assumption) | assumption)) HC288_1.out
    have n9 := Aside0.mk (Kd.C_of_reads (h1 := fun _ => rfl) (hA39 _ (Kd.zbC_ HR288_1.out)))
    have HC289 := Aside0.mk hC39
    clear hA39 hC39 hi039 hsz39
    go_wp2_with (first | ((with_reducible refine zar_ (f := 56) rfl ?_); refine goesL_ (some 66) rfl rfl Tryd.func56 (by kernel_rfl) rfl #[.slice O1 (((rd_T81 l0 1).f1).drop 1).length (c288_1 - 1)] rfl (by (try simp only [List.map_toArray, List.map_cons, List.map_nil]); first | done | (rw [show (((rd_T81 l0 1).f1).drop 1).length = (((rd_T81 l0 1).f1).length - 1) from List.length_drop] <;> rfl) | rfl | (simp only [List.length_drop, List.length_take]; rfl)) ?_; (with_reducible refine (zaq_.calls l7 _ _ (((rd_T81 l0 1).f1).drop 1) h0 l8 _ ?side1 ?side2 ?side3 O0.out).mono ?_); (case side1 => repeat (first | exact (Kd.zaB_ n9.out HB.out) | (with_reducible refine Kd.zaI_ ?_ _) | (with_reducible refine Kd.zaJ_ ?_ _) | (with_reducible refine Kd.C_drew ?_))); (case side2 => exact HC289.out); (case side3 => first | exact Glob.below HG.out (HB.out) | (repeat (first | exact Glob.below HG.out HB.out | (with_reducible refine Glob.alloc ?_ _) | (with_reducible refine Glob.drewN ?_ _) | (with_reducible refine Glob.drew ?_)))); rintro e x8 ⟨O2, rfl, e7, hb⟩; refine ⟨_, rfl, ?_⟩; have b3 := Aside0.mk (Kd.zbp_ e7 (zam_ (HB.out))); have b4 := Aside0.mk (zan_ a3.out hb); have b5 := Aside0.mk (zan_ a2.out hb); have d3 := Aside0.mk (zaj_ (HB.out) hb); clear a3; clear a2; clear HB; have k0 := b3; have a3 := b4; have a2 := b5; have HB := d3; clear b3 b4 b5 d3; (try clear hb); (try clear hb2); (try clear hk); (try clear hi); (try clear e7); obtain ⟨o0, o1, J3⟩ := Kd.zbf_ k0.out; subst J3; have hnb42 := a9.out; have hnc42 := a8.out; have x9 : x8.cell? ⟨a6, 0, none⟩ = some (.int .i64 a1) := (zab_ a2.out 0).trans rfl; have y4 : x8.cell? ⟨a6, 1, none⟩ = some (.slice none 0 0) := (zab_ a2.out 1).trans rfl; have y5 : x8.cell? ⟨a6, 2, none⟩ = some (.slice none 0 0) := (zab_ a2.out 2).trans rfl; have y6 : x8.cell? ⟨a6, 3, none⟩ = some (.slice none 0 0) := (zab_ a2.out 3).trans rfl; have y7 := zaa_ a2.out 0; have y8 := zaa_ a2.out 1; have y9 := zaa_ a2.out 2; have z0 := zaa_ a2.out 3))
    go_meet
    case rel => exact ⟨_, (l8), (h0), (.slice o0 h0.length o1), (by first | rfl | (simp; done) | (simp [*]; done)), H', ⟨by have := g5.out; have := g6.out; have := e8.out; first | omega | exact Nat.le_refl _⟩, ⟨by (with_reducible repeat (first | apply Kd.zav_ | apply Kd.zaw_ | apply Kd.R_drew)); exact Kd.R_mono (Kd.R_far (p := ⟨a6, 1, none⟩) (Kd.zaV_ k0.out a2.out (by decide)) (fun _ hk => hk.2) (.slice o0 h0.length o1)) (fun _ hk => trivial)⟩, ⟨by (with_reducible repeat (first | refine zac_ ?_ _ | refine zaf_ ?_ | refine zad_ ?_ _)); refine zaG_ ?_ a8.out _; (with_reducible repeat (first | refine zac_ ?_ _ | refine zaf_ ?_ | refine zad_ ?_ _)); exact a3.out⟩, ⟨by (with_reducible repeat (first | refine zac_ ?_ _ | refine zaf_ ?_ | refine zad_ ?_ _)); refine zat_ (cs := #[.int .i64 a1, .slice none 0 0, .slice none 0 0, .slice none 0 0]) ?_ 1 _ rfl; (with_reducible repeat (first | refine zac_ ?_ _ | refine zaf_ ?_ | refine zad_ ?_ _)); exact a2.out⟩, ⟨by repeat (first | (with_reducible first | exact HB.out | apply zah_ | apply zae_ | apply zag_ | refine zai_ ?_ b6.out | refine zai_ ?_ b7.out) | exact HB.out)⟩⟩
  clear HC34
  obtain ⟨kq, e6, a4, u280001, rfl, HA, h8, HO_280001, a3, a2, HB⟩ := hcut
  cases kq with
  | zero => exact absurd HA.out (by simp [zap_.j3])
  | succ J4 => ?_
  have H := HA.out
  clear HA
  simp only [zap_.j3] at H
  have HC44 := Aside0.mk H
  clear H
  go_upto_region 14 with (fail)
  go_cut [77] (fun O3 wc => ∃ (kq : Nat) (d0 : Bool), O3 = .bool d0 ∧ Aside0 (zap_.j4 kq l0 d0 a1 a4 = some (r1, r2, r3, r4, r5, r6)) ∧ Aside0 (kq ≤ J4) ∧ Aside0 (Kd.R (Kd.int .i64) 3 wc w.heap.size (fun _ => True) u280001 a4) ∧ Aside0 (wc.heap[a5]? = some (.cells #[.int .i64 0, (.slice none 0 0), (.slice none 0 0), (.slice none 0 0)] 37 (0, 0))) ∧ Aside0 (wc.heap[a6]? = some (.cells #[.int .i64 a1, u280001, (.slice none 0 0), (.slice none 0 0)] 37 (0, 0))) ∧ Aside0 (Below w.heap.size w wc))
  case first =>
    have H := HC44.out
    clear HC44
    by_cases z1 : e6 = true
    rotate_left
    · replace z1 := Bool.eq_false_iff.mpr z1
      subst z1
      rw [if_neg (show ¬ (false = true) by decide)] at H
      have H' := Aside0.mk H
      clear H
      go_wp2
      go_meet
      case rel => exact ⟨_, (true), (by first | rfl | (simp; done) | (simp [*]; done)), H', ⟨by have := g5.out; have := g6.out; have := e8.out; have := h8.out; first | omega | exact Nat.le_refl _⟩, ⟨by (with_reducible repeat (first | apply Kd.zav_ | apply Kd.zaw_ | apply Kd.R_drew)); exact HO_280001.out⟩, ⟨a3.out⟩, ⟨a2.out⟩, ⟨HB.out⟩⟩
    subst z1
    rw [if_pos rfl] at H
    have H' := Aside0.mk H
    clear H
    have hnb46 := a9.out
    have hnc46 := a8.out
    have z2 : wc.cell? ⟨a6, 0, none⟩ = some (.int .i64 a1) := (zab_ a2.out 0).trans rfl
    have z3 : wc.cell? ⟨a6, 1, none⟩ = some (u280001) := (zab_ a2.out 1).trans rfl
    have z4 : wc.cell? ⟨a6, 2, none⟩ = some (.slice none 0 0) := (zab_ a2.out 2).trans rfl
    have z5 : wc.cell? ⟨a6, 3, none⟩ = some (.slice none 0 0) := (zab_ a2.out 3).trans rfl
    have z6 := zaa_ a2.out 0
    have z7 := zaa_ a2.out 1
    have z8 := zaa_ a2.out 2
    have z9 := zaa_ a2.out 3
    obtain ⟨O4, O5, J5⟩ := Kd.zbf_ HO_280001.out
    subst J5
    go_wp2
    go_meet
    case rel => exact ⟨_, (((a4.length : Int) == 0)), (by first | rfl | (simp; done) | (simp [*]; done)), H', ⟨by have := g5.out; have := g6.out; have := e8.out; have := h8.out; first | omega | exact Nat.le_refl _⟩, ⟨by (with_reducible repeat (first | apply Kd.zav_ | apply Kd.zaw_ | apply Kd.R_drew)); exact HO_280001.out⟩, ⟨a3.out⟩, ⟨a2.out⟩, ⟨HB.out⟩⟩
  clear HC44
  obtain ⟨kq, d0, rfl, HA, o2, HO_280001, a3, a2, HB⟩ := hcut
  cases kq with
  | zero => exact absurd HA.out (by simp [zap_.j4])
  | succ J6 => ?_
  have H := HA.out
  clear HA
  simp only [zap_.j4] at H
  by_cases A1 : d0 = true
  · subst A1
    rw [if_pos rfl] at H
    simp only [Option.some.injEq, Prod.mk.injEq] at H
    obtain ⟨rfl, rfl, rfl, rfl, rfl, rfl⟩ := H
    have hnb50 := a9.out
    have hnc50 := a8.out
    have A2 : wc.cell? ⟨a6, 0, none⟩ = some (.int .i64 a1) := (zab_ a2.out 0).trans rfl
    have A3 : wc.cell? ⟨a6, 1, none⟩ = some (u280001) := (zab_ a2.out 1).trans rfl
    have A4 : wc.cell? ⟨a6, 2, none⟩ = some (.slice none 0 0) := (zab_ a2.out 2).trans rfl
    have A5 : wc.cell? ⟨a6, 3, none⟩ = some (.slice none 0 0) := (zab_ a2.out 3).trans rfl
    have A6 := zaa_ a2.out 0
    have A7 := zaa_ a2.out 1
    have A8 := zaa_ a2.out 2
    have A9 := zaa_ a2.out 3
    have B0 : wc.cell? ⟨a5, 0, none⟩ = some (.int .i64 0) := (zab_ a3.out 0).trans rfl
    have B1 : wc.cell? ⟨a5, 1, none⟩ = some (.slice none 0 0) := (zab_ a3.out 1).trans rfl
    have B2 : wc.cell? ⟨a5, 2, none⟩ = some (.slice none 0 0) := (zab_ a3.out 2).trans rfl
    have B3 : wc.cell? ⟨a5, 3, none⟩ = some (.slice none 0 0) := (zab_ a3.out 3).trans rfl
    have B4 := zaa_ a3.out 0
    have B5 := zaa_ a3.out 1
    have B6 := zaa_ a3.out 2
    have B8 := zaa_ a3.out 3
    obtain ⟨h9, j1, J7⟩ := Kd.zbf_ HO_280001.out
    subst J7
    go_wp2
    refine bodyPost_ret (zbo_ rfl _ _ a5 37 #[.int .i64 a1, .slice h9 a4.length j1, .slice none 0 0, .slice none 0 0] (0, 0) _ rfl (by (with_reducible repeat (first | refine zac_ ?_ _ | refine zaf_ ?_ | refine zad_ ?_ _)); refine zat_ (cs := #[.int .i64 a1, .slice h9 a4.length j1, .slice none 0 0, .slice none 0 0]) ?_ 3 _ rfl; (with_reducible repeat (first | refine zac_ ?_ _ | refine zaf_ ?_ | refine zad_ ?_ _)); refine zat_ (cs := #[.int .i64 a1, .slice h9 a4.length j1, .slice none 0 0, .slice none 0 0]) ?_ 2 _ rfl; (with_reducible repeat (first | refine zac_ ?_ _ | refine zaf_ ?_ | refine zad_ ?_ _)); refine zat_ (cs := #[.int .i64 a1, .slice none 0 0, .slice none 0 0, .slice none 0 0]) ?_ 1 _ rfl; (with_reducible repeat (first | refine zac_ ?_ _ | refine zaf_ ?_ | refine zad_ ?_ _)); refine zat_ (cs := #[.int .i64 0, .slice none 0 0, .slice none 0 0, .slice none 0 0]) ?_ 0 _ rfl; (with_reducible repeat (first | refine zac_ ?_ _ | refine zaf_ ?_ | refine zad_ ?_ _)); exact a3.out) Tryd.underlying37 rfl (by kernel_rfl)) rfl ?_
    exact ⟨_, _, _, by first | rfl | (simp [zal_, zak_] <;> rfl) | (simp [*, zal_, zak_] <;> rfl), by (with_reducible repeat (first | apply Kd.zav_ | apply Kd.zaw_ | apply Kd.R_drew)); exact Kd.R_mono (Kd.R_far (p := ⟨a5, 3, none⟩) (Kd.R_far (p := ⟨a5, 2, none⟩) (Kd.R_far (p := ⟨a5, 1, none⟩) (Kd.R_far (p := ⟨a5, 0, none⟩) (Kd.zaV_ HO_280001.out a3.out (by decide)) (fun _ hk => hk.2) (.int .i64 a1)) (fun _ hk => hk.2) (.slice h9 a4.length j1)) (fun _ hk => hk.2) (.slice none 0 0)) (fun _ hk => hk.2) (.slice none 0 0)) (fun _ hk => (by simp [Value.ownBlock])), by first | exact Kd.R_nil _ _ _ _ _ | exact Kd.N_nil _ _ _ _ _ | exact Kd.V_nil _ _ _ _ _ | exact Kd.Q_nil _ _ _ _ _ | exact Kd.S_nil _ _ _ _ _, by first | exact Kd.S_nil _ _ _ _ _ | exact Kd.N_nil _ _ _ _ _ | exact Kd.V_nil _ _ _ _ _ | exact Kd.Q_nil _ _ _ _ _ | exact Kd.R_nil _ _ _ _ _, by repeat (first | (with_reducible first | exact HB.out | apply zah_ | apply zae_ | apply zag_ | refine zai_ ?_ b6.out | refine zai_ ?_ b7.out) | exact HB.out)⟩
  replace A1 := Bool.eq_false_iff.mpr A1
  subst A1
  rw [if_neg (show ¬ (false = true) by decide)] at H
  have HC54 := Aside0.mk H
  clear H
  go_upto_region 16 with (fail)
  go_cut [90] (fun O6 wc => ∃ (kq : Nat) (d1 : Bool), O6 = .bool d1 ∧ Aside0 (zap_.j5 kq l0 d1 a1 a4 = some (r1, r2, r3, r4, r5, r6)) ∧ Aside0 (kq ≤ J6) ∧ Aside0 (Kd.R (Kd.int .i64) 3 wc w.heap.size (fun _ => True) u280001 a4) ∧ Aside0 (wc.heap[a5]? = some (.cells #[.int .i64 0, (.slice none 0 0), (.slice none 0 0), (.slice none 0 0)] 37 (0, 0))) ∧ Aside0 (wc.heap[a6]? = some (.cells #[.int .i64 a1, u280001, (.slice none 0 0), (.slice none 0 0)] 37 (0, 0))) ∧ Aside0 (Below w.heap.size w wc))
  case first =>
    have H := HC54.out
    clear HC54
    by_cases m2 : (l0.length : Int) = 2
    · rw [if_pos m2] at H
      have d5 : ((l0.length : Int) == 2) = true := beq_iff_eq.mpr m2
      have o3 : ((l0.length : Int) != 2) = false := bne_eq_false_iff_eq.mpr m2
      clear m2
      (first | rw [d5] | (simp only [i64_w, i32_w]; rw [d5]) | skip)
      have H' := Aside0.mk H
      clear H
      go_wp2
      go_meet
      case rel => exact ⟨_, (true), (by first | rfl | (simp; done) | (simp [*]; done)), H', ⟨by have := g5.out; have := g6.out; have := e8.out; have := h8.out; have := o2.out; first | omega | exact Nat.le_refl _⟩, ⟨by (with_reducible repeat (first | apply Kd.zav_ | apply Kd.zaw_ | apply Kd.R_drew)); exact HO_280001.out⟩, ⟨a3.out⟩, ⟨a2.out⟩, ⟨HB.out⟩⟩
    rw [if_neg m2] at H
    have d5 : ((l0.length : Int) == 2) = false := beq_eq_false_iff_ne.mpr m2
    have o3 : ((l0.length : Int) != 2) = true := bne_iff_ne.mpr m2
    (first | rw [d5] | (simp only [i64_w, i32_w]; rw [d5]) | skip)
    by_cases B9 : 2 < (l0.length : Int)
    rotate_left
    · rw [if_neg B9] at H
      exact absurd H (by simp)
    rw [if_pos B9] at H
    have M4 : decide (2 < (l0.length : Int)) = true := decide_eq_true B9
    have M5 : decide (2 < l0.length) = true := decide_eq_true (by omega)
    clear B9
    by_cases C0 : 0 < (((rd_T81 l0 2).f1).length : Int)
    rotate_left
    · rw [if_neg C0] at H
      exact absurd H (by simp)
    rw [if_pos C0] at H
    have M6 : decide (0 < (((rd_T81 l0 2).f1).length : Int)) = true := decide_eq_true C0
    have M7 : decide (0 < ((rd_T81 l0 2).f1).length) = true := decide_eq_true (by omega)
    clear C0
    have H' := Aside0.mk H
    clear H
    have m3 : 0 ≤ (2 : Int) := (by omega)
    have m4 : 2 < (l0.length : Int) := of_decide_eq_true (by first | (with_reducible assumption) | assumption)
    obtain ⟨ad294, J8, c294_1, e294, hx294_0, hx294_1, hl294_1, hi294_1⟩ := at_T81 g7.out 2 m3 m4
    cases e294
    (try simp only [show (2 : Int).toNat = 2 from rfl, Nat.reduceMul, Nat.reduceEqDiff, Go.Addr.add, ↓reduceIte] at hx294_0)
    (try simp only [show (2 : Int).toNat = 2 from rfl, Nat.reduceMul, Nat.reduceEqDiff, Go.Addr.add, ↓reduceIte] at hx294_1)
    have qi294 : (2 < l0.length) = True := eq_true (by omega)
    (try rw [show ((2 : Int)).toNat = 2 from rfl] at hx294_0)
    (try rw [show 2 * 2 = 4 from rfl] at hx294_0)
    (try rw [show ((2 : Int)).toNat = 2 from rfl] at hx294_1)
    (try rw [show 2 * 2 = 4 from rfl] at hx294_1)
    replace hx294_0 := (HB.out.cell (World.block_lt_of_cell? w _ hx294_0)).trans hx294_0
    replace hx294_1 := (HB.out.cell (World.block_lt_of_cell? w _ hx294_1)).trans hx294_1
    have HR294_1 := Aside0.mk hi294_1
    have HC294_1 := Aside0.mk hl294_1
    clear hi294_1 hl294_1
    replace m3 := eq_true m3
    replace m4 := eq_true m4
    have m5 : 0 ≤ (0 : Int) := (by omega)
    have m6 : 0 < (((rd_T81 l0 2).f1).length : Int) := of_decide_eq_true (by first | (with_reducible assumption) | assumption)
    obtain ⟨ad295, e295, hx295_0⟩ := Kd.zbj_ HR294_1.out 0 m5 m6
    cases e295
    have qi295 : (0 < ((rd_T81 l0 2).f1).length) = True := eq_true (by omega)
    (try rw [show ((0 : Int)).toNat = 0 from rfl] at hx295_0)
    (try rw [Addr.add_zero'] at hx295_0)
    replace hx295_0 := (HB.out.cell (World.block_lt_of_cell? w _ hx295_0)).trans hx295_0
    replace m5 := eq_true m5
    replace m6 := eq_true m6
    go_wp2
    go_meet
    case rel => exact ⟨_, (((rdOf ByteArray.empty ((rd_T81 l0 2).f1) 0).toList != ([104, 111, 109, 101, 115] : List UInt8))), (by first | rfl | (simp; done) | (simp [*]; done)), H', ⟨by have := g5.out; have := g6.out; have := e8.out; have := h8.out; have := o2.out; first | omega | exact Nat.le_refl _⟩, ⟨by (with_reducible repeat (first | apply Kd.zav_ | apply Kd.zaw_ | apply Kd.R_drew)); exact HO_280001.out⟩, ⟨a3.out⟩, ⟨a2.out⟩, ⟨HB.out⟩⟩
  clear HC54
  obtain ⟨kq, d1, rfl, HA, O7, HO_280001, a3, a2, HB⟩ := hcut
  cases kq with
  | zero => exact absurd HA.out (by simp [zap_.j5])
  | succ m7 => ?_
  have H := HA.out
  clear HA
  simp only [zap_.j5] at H
  by_cases C1 : d1 = true
  · subst C1
    rw [if_pos rfl] at H
    simp only [Option.some.injEq, Prod.mk.injEq] at H
    obtain ⟨rfl, rfl, rfl, rfl, rfl, rfl⟩ := H
    have hnb59 := a9.out
    have hnc59 := a8.out
    have C2 : wc.cell? ⟨a6, 0, none⟩ = some (.int .i64 a1) := (zab_ a2.out 0).trans rfl
    have C3 : wc.cell? ⟨a6, 1, none⟩ = some (u280001) := (zab_ a2.out 1).trans rfl
    have C4 : wc.cell? ⟨a6, 2, none⟩ = some (.slice none 0 0) := (zab_ a2.out 2).trans rfl
    have C5 : wc.cell? ⟨a6, 3, none⟩ = some (.slice none 0 0) := (zab_ a2.out 3).trans rfl
    have C6 := zaa_ a2.out 0
    have C7 := zaa_ a2.out 1
    have C8 := zaa_ a2.out 2
    have C9 := zaa_ a2.out 3
    have D0 : wc.cell? ⟨a5, 0, none⟩ = some (.int .i64 0) := (zab_ a3.out 0).trans rfl
    have D1 : wc.cell? ⟨a5, 1, none⟩ = some (.slice none 0 0) := (zab_ a3.out 1).trans rfl
    have D2 : wc.cell? ⟨a5, 2, none⟩ = some (.slice none 0 0) := (zab_ a3.out 2).trans rfl
    have D3 : wc.cell? ⟨a5, 3, none⟩ = some (.slice none 0 0) := (zab_ a3.out 3).trans rfl
    have D4 := zaa_ a3.out 0
    have D5 := zaa_ a3.out 1
    have D6 := zaa_ a3.out 2
    have D7 := zaa_ a3.out 3
    obtain ⟨j6, j7, J9⟩ := Kd.zbf_ HO_280001.out
    subst J9
    go_wp2
    refine bodyPost_ret (zbo_ rfl _ _ a5 37 #[.int .i64 a1, .slice j6 a4.length j7, .slice none 0 0, .slice none 0 0] (0, 0) _ rfl (by (with_reducible repeat (first | refine zac_ ?_ _ | refine zaf_ ?_ | refine zad_ ?_ _)); refine zat_ (cs := #[.int .i64 a1, .slice j6 a4.length j7, .slice none 0 0, .slice none 0 0]) ?_ 3 _ rfl; (with_reducible repeat (first | refine zac_ ?_ _ | refine zaf_ ?_ | refine zad_ ?_ _)); refine zat_ (cs := #[.int .i64 a1, .slice j6 a4.length j7, .slice none 0 0, .slice none 0 0]) ?_ 2 _ rfl; (with_reducible repeat (first | refine zac_ ?_ _ | refine zaf_ ?_ | refine zad_ ?_ _)); refine zat_ (cs := #[.int .i64 a1, .slice none 0 0, .slice none 0 0, .slice none 0 0]) ?_ 1 _ rfl; (with_reducible repeat (first | refine zac_ ?_ _ | refine zaf_ ?_ | refine zad_ ?_ _)); refine zat_ (cs := #[.int .i64 0, .slice none 0 0, .slice none 0 0, .slice none 0 0]) ?_ 0 _ rfl; (with_reducible repeat (first | refine zac_ ?_ _ | refine zaf_ ?_ | refine zad_ ?_ _)); exact a3.out) Tryd.underlying37 rfl (by kernel_rfl)) rfl ?_
    exact ⟨_, _, _, by first | rfl | (simp [zal_, zak_] <;> rfl) | (simp [*, zal_, zak_] <;> rfl), by (with_reducible repeat (first | apply Kd.zav_ | apply Kd.zaw_ | apply Kd.R_drew)); exact Kd.R_mono (Kd.R_far (p := ⟨a5, 3, none⟩) (Kd.R_far (p := ⟨a5, 2, none⟩) (Kd.R_far (p := ⟨a5, 1, none⟩) (Kd.R_far (p := ⟨a5, 0, none⟩) (Kd.zaV_ HO_280001.out a3.out (by decide)) (fun _ hk => hk.2) (.int .i64 a1)) (fun _ hk => hk.2) (.slice j6 a4.length j7)) (fun _ hk => hk.2) (.slice none 0 0)) (fun _ hk => hk.2) (.slice none 0 0)) (fun _ hk => (by simp [Value.ownBlock])), by first | exact Kd.R_nil _ _ _ _ _ | exact Kd.N_nil _ _ _ _ _ | exact Kd.V_nil _ _ _ _ _ | exact Kd.Q_nil _ _ _ _ _ | exact Kd.S_nil _ _ _ _ _, by first | exact Kd.S_nil _ _ _ _ _ | exact Kd.N_nil _ _ _ _ _ | exact Kd.V_nil _ _ _ _ _ | exact Kd.Q_nil _ _ _ _ _ | exact Kd.R_nil _ _ _ _ _, by repeat (first | (with_reducible first | exact HB.out | apply zah_ | apply zae_ | apply zag_ | refine zai_ ?_ b6.out | refine zai_ ?_ b7.out) | exact HB.out)⟩
  replace C1 := Bool.eq_false_iff.mpr C1
  subst C1
  rw [if_neg (show ¬ (false = true) by decide)] at H
  by_cases D8 : 2 < (l0.length : Int)
  rotate_left
  · rw [if_neg D8] at H
    exact absurd H (by simp)
  rw [if_pos D8] at H
  have M8 : decide (2 < (l0.length : Int)) = true := decide_eq_true D8
  have M9 : decide (2 < l0.length) = true := decide_eq_true (by omega)
  clear D8
  by_cases o4 : 1 ≤ (((rd_T81 l0 2).f1).length : Int)
  rotate_left
  · rw [if_neg o4] at H
    exact absurd H (by simp)
  rw [if_pos o4] at H
  have N0 := eq_true o4
  have N1 : decide (1 ≤ (((rd_T81 l0 2).f1).length : Int)) = true := decide_eq_true o4
  clear o4
  replace H := Option.bind_eq_some_iff.mp H
  obtain ⟨⟨b1, o5⟩, o6, H⟩ := H
  replace H : (if o5 = true then (if (b1.length : Int) = 0 then (some (a1, a4, b1, ([] : List (S53)), 2, false)) else (some (a1, a4, b1, ([] : List (S53)), 3, true))) else (some (a1, a4, b1, ([] : List (S53)), 2, false))) = some (r1, r2, r3, r4, r5, r6) := H
  have K0 := Aside0.mk o6
  clear o6
  by_cases D9 : o5 = true
  rotate_left
  · replace D9 := Bool.eq_false_iff.mpr D9
    subst D9
    rw [if_neg (show ¬ (false = true) by decide)] at H
    simp only [Option.some.injEq, Prod.mk.injEq] at H
    obtain ⟨rfl, rfl, rfl, rfl, rfl, rfl⟩ := H
    have b9 : 0 ≤ (2 : Int) := (by omega)
    have c1 : 2 < (l0.length : Int) := of_decide_eq_true (by first | (with_reducible assumption) | assumption)
    obtain ⟨ad296, c2, c296_1, e296, hx296_0, hx296_1, hl296_1, hi296_1⟩ := at_T81 g7.out 2 b9 c1
    cases e296
    (try simp only [show (2 : Int).toNat = 2 from rfl, Nat.reduceMul, Nat.reduceEqDiff, Go.Addr.add, ↓reduceIte] at hx296_0)
    (try simp only [show (2 : Int).toNat = 2 from rfl, Nat.reduceMul, Nat.reduceEqDiff, Go.Addr.add, ↓reduceIte] at hx296_1)
    have qi296 : (2 < l0.length) = True := eq_true (by omega)
    (try rw [show ((2 : Int)).toNat = 2 from rfl] at hx296_0)
    (try rw [show 2 * 2 = 4 from rfl] at hx296_0)
    (try rw [show ((2 : Int)).toNat = 2 from rfl] at hx296_1)
    (try rw [show 2 * 2 = 4 from rfl] at hx296_1)
    replace hx296_0 := (HB.out.cell (World.block_lt_of_cell? w _ hx296_0)).trans hx296_0
    replace hx296_1 := (HB.out.cell (World.block_lt_of_cell? w _ hx296_1)).trans hx296_1
    have HR296_1 := Aside0.mk hi296_1
    have HC296_1 := Aside0.mk hl296_1
    clear hi296_1 hl296_1
    replace b9 := eq_true b9
    replace c1 := eq_true c1
    obtain ⟨i067, hi067, _, hsz67, _⟩ := info_parts info9
    obtain ⟨O8, hcut67, hA67, hC67⟩ := zbF_ (P := Tryd.prog) Value.string (⟨#[]⟩ : ByteArray) 26 9 .i64 Tryd.underlying26 hi067 hsz67 c2 c296_1 ((rd_T81 l0 2).f1) 1 (by omega) (of_decide_eq_true (by first | (with_reducible assumption) | assumption)) HC296_1.out
    have d6 := Aside0.mk (Kd.C_of_reads (h1 := fun _ => rfl) (hA67 _ (Kd.zbC_ HR296_1.out)))
    have HC297 := Aside0.mk hC67
    clear hA67 hC67 hi067 hsz67
    go_wp2_with (first | ((with_reducible refine zar_ (f := 56) rfl ?_); refine goesL_ (some 98) rfl rfl Tryd.func56 (by kernel_rfl) rfl #[.slice O8 (((rd_T81 l0 2).f1).drop 1).length (c296_1 - 1)] rfl (by (try simp only [List.map_toArray, List.map_cons, List.map_nil]); first | done | (rw [show (((rd_T81 l0 2).f1).drop 1).length = (((rd_T81 l0 2).f1).length - 1) from List.length_drop] <;> rfl) | rfl | (simp only [List.length_drop, List.length_take]; rfl)) ?_; (with_reducible refine (zaq_.calls m7 _ _ (((rd_T81 l0 2).f1).drop 1) b1 false _ ?side1 ?side2 ?side3 K0.out).mono ?_); (case side1 => repeat (first | exact (Kd.zaB_ d6.out HB.out) | (with_reducible refine Kd.zaI_ ?_ _) | (with_reducible refine Kd.zaJ_ ?_ _) | (with_reducible refine Kd.C_drew ?_))); (case side2 => exact HC297.out); (case side3 => first | exact Glob.below HG.out (HB.out) | (repeat (first | exact Glob.below HG.out HB.out | (with_reducible refine Glob.alloc ?_ _) | (with_reducible refine Glob.drewN ?_ _) | (with_reducible refine Glob.drew ?_)))); rintro e k1 ⟨o7, rfl, e7, hb⟩; refine ⟨_, rfl, ?_⟩; have b3 := Aside0.mk (Kd.R_elder' (by (with_reducible repeat (first | apply Kd.zav_ | apply Kd.zaw_ | apply Kd.R_drew)); exact HO_280001.out) (Kd.R_base e7) hb); have b4 := Aside0.mk (Kd.zbp_ (Kd.R_new' e7 (Kd.R_lt (by (with_reducible repeat (first | apply Kd.zav_ | apply Kd.zaw_ | apply Kd.R_drew)); exact HO_280001.out))) (zam_ (HB.out))); have b5 := Aside0.mk (zan_ a3.out hb); have d3 := Aside0.mk (zan_ a2.out hb); have g8 := Aside0.mk (zaj_ (HB.out) hb); clear HO_280001; clear a3; clear a2; clear HB; have HO_280001 := b3; have b8 := b4; have a3 := b5; have a2 := d3; have HB := g8; clear b3 b4 b5 d3 g8; (try clear hb); (try clear hb2); (try clear hk); (try clear hi); (try clear e7); obtain ⟨e9, g0, K1⟩ := Kd.zbf_ b8.out; subst K1; have hnb70 := a9.out; have hnc70 := a8.out; have E0 : k1.cell? ⟨a6, 0, none⟩ = some (.int .i64 a1) := (zab_ a2.out 0).trans rfl; have E1 : k1.cell? ⟨a6, 1, none⟩ = some (u280001) := (zab_ a2.out 1).trans rfl; have E2 : k1.cell? ⟨a6, 2, none⟩ = some (.slice none 0 0) := (zab_ a2.out 2).trans rfl; have E3 : k1.cell? ⟨a6, 3, none⟩ = some (.slice none 0 0) := (zab_ a2.out 3).trans rfl; have E4 := zaa_ a2.out 0; have E5 := zaa_ a2.out 1; have E6 := zaa_ a2.out 2; have E7 := zaa_ a2.out 3; have E8 : k1.cell? ⟨a5, 0, none⟩ = some (.int .i64 0) := (zab_ a3.out 0).trans rfl; have E9 : k1.cell? ⟨a5, 1, none⟩ = some (.slice none 0 0) := (zab_ a3.out 1).trans rfl; have F0 : k1.cell? ⟨a5, 2, none⟩ = some (.slice none 0 0) := (zab_ a3.out 2).trans rfl; have F1 : k1.cell? ⟨a5, 3, none⟩ = some (.slice none 0 0) := (zab_ a3.out 3).trans rfl; have F2 := zaa_ a3.out 0; have F3 := zaa_ a3.out 1; have F4 := zaa_ a3.out 2; have F5 := zaa_ a3.out 3; obtain ⟨h2, h3, K2⟩ := Kd.zbf_ HO_280001.out; subst K2))
    refine bodyPost_ret (zbo_ rfl _ _ a5 37 #[.int .i64 a1, .slice h2 a4.length h3, .slice e9 b1.length g0, .slice none 0 0] (0, 0) _ rfl (by (with_reducible repeat (first | refine zac_ ?_ _ | refine zaf_ ?_ | refine zad_ ?_ _)); refine zat_ (cs := #[.int .i64 a1, .slice h2 a4.length h3, .slice e9 b1.length g0, .slice none 0 0]) ?_ 3 _ rfl; (with_reducible repeat (first | refine zac_ ?_ _ | refine zaf_ ?_ | refine zad_ ?_ _)); refine zat_ (cs := #[.int .i64 a1, .slice h2 a4.length h3, .slice none 0 0, .slice none 0 0]) ?_ 2 _ rfl; (with_reducible repeat (first | refine zac_ ?_ _ | refine zaf_ ?_ | refine zad_ ?_ _)); refine zat_ (cs := #[.int .i64 a1, .slice none 0 0, .slice none 0 0, .slice none 0 0]) ?_ 1 _ rfl; (with_reducible repeat (first | refine zac_ ?_ _ | refine zaf_ ?_ | refine zad_ ?_ _)); refine zat_ (cs := #[.int .i64 0, .slice none 0 0, .slice none 0 0, .slice none 0 0]) ?_ 0 _ rfl; (with_reducible repeat (first | refine zac_ ?_ _ | refine zaf_ ?_ | refine zad_ ?_ _)); refine zaG_ ?_ a8.out _; (with_reducible repeat (first | refine zac_ ?_ _ | refine zaf_ ?_ | refine zad_ ?_ _)); exact a3.out) Tryd.underlying37 rfl (by kernel_rfl)) rfl ?_
    exact ⟨_, _, _, by first | rfl | (simp [zal_, zak_] <;> rfl) | (simp [*, zal_, zak_] <;> rfl), by (with_reducible repeat (first | apply Kd.zav_ | apply Kd.zaw_ | apply Kd.R_drew)); exact Kd.R_mono (Kd.R_far (p := ⟨a5, 3, none⟩) (Kd.R_far (p := ⟨a5, 2, none⟩) (Kd.R_far (p := ⟨a5, 1, none⟩) (Kd.R_far (p := ⟨a5, 0, none⟩) (Kd.R_far (p := ⟨a6, 2, none⟩) (Kd.zaV_ (Kd.zaV_ HO_280001.out a2.out (by decide)) a3.out (by decide)) (fun _ hk => hk.1.2) (.slice e9 b1.length g0)) (fun _ hk => hk.2) (.int .i64 a1)) (fun _ hk => hk.2) (.slice h2 a4.length h3)) (fun _ hk => hk.2) (.slice e9 b1.length g0)) (fun _ hk => hk.2) (.slice none 0 0)) (fun _ hk => hk.1.1.2), by (with_reducible repeat (first | apply Kd.zav_ | apply Kd.zaw_ | apply Kd.R_drew)); exact Kd.R_mono (Kd.R_far (p := ⟨a5, 3, none⟩) (Kd.R_far (p := ⟨a5, 2, none⟩) (Kd.R_far (p := ⟨a5, 1, none⟩) (Kd.R_far (p := ⟨a5, 0, none⟩) (Kd.R_far (p := ⟨a6, 2, none⟩) (Kd.zaV_ (Kd.zaV_ b8.out a2.out (by decide)) a3.out (by decide)) (fun _ hk => hk.1.2) (.slice e9 b1.length g0)) (fun _ hk => hk.2) (.int .i64 a1)) (fun _ hk => hk.2) (.slice h2 a4.length h3)) (fun _ hk => hk.2) (.slice e9 b1.length g0)) (fun _ hk => hk.2) (.slice none 0 0)) (fun _ hk => hk.1.1.2), by first | exact Kd.S_nil _ _ _ _ _ | exact Kd.N_nil _ _ _ _ _ | exact Kd.V_nil _ _ _ _ _ | exact Kd.Q_nil _ _ _ _ _ | exact Kd.R_nil _ _ _ _ _, by repeat (first | (with_reducible first | exact HB.out | apply zah_ | apply zae_ | apply zag_ | refine zai_ ?_ b6.out | refine zai_ ?_ b7.out) | exact HB.out)⟩
  subst D9
  rw [if_pos rfl] at H
  by_cases k3 : (b1.length : Int) = 0
  rotate_left
  · rw [if_neg k3] at H
    have o8 : ((b1.length : Int) == 0) = false := beq_eq_false_iff_ne.mpr k3
    have o9 : ((b1.length : Int) != 0) = true := bne_iff_ne.mpr k3
    have N2 : ¬ (b1 = []) := fun h_ => k3 (by rw [h_]; rfl)
    simp only [Option.some.injEq, Prod.mk.injEq] at H
    obtain ⟨rfl, rfl, rfl, rfl, rfl, rfl⟩ := H
    have b9 : 0 ≤ (2 : Int) := (by omega)
    have c1 : 2 < (l0.length : Int) := of_decide_eq_true (by first | (with_reducible assumption) | assumption)
    obtain ⟨ad296, c2, c296_1, e296, hx296_0, hx296_1, hl296_1, hi296_1⟩ := at_T81 g7.out 2 b9 c1
    cases e296
    (try simp only [show (2 : Int).toNat = 2 from rfl, Nat.reduceMul, Nat.reduceEqDiff, Go.Addr.add, ↓reduceIte] at hx296_0)
    (try simp only [show (2 : Int).toNat = 2 from rfl, Nat.reduceMul, Nat.reduceEqDiff, Go.Addr.add, ↓reduceIte] at hx296_1)
    have qi296 : (2 < l0.length) = True := eq_true (by omega)
    (try rw [show ((2 : Int)).toNat = 2 from rfl] at hx296_0)
    (try rw [show 2 * 2 = 4 from rfl] at hx296_0)
    (try rw [show ((2 : Int)).toNat = 2 from rfl] at hx296_1)
    (try rw [show 2 * 2 = 4 from rfl] at hx296_1)
    replace hx296_0 := (HB.out.cell (World.block_lt_of_cell? w _ hx296_0)).trans hx296_0
    replace hx296_1 := (HB.out.cell (World.block_lt_of_cell? w _ hx296_1)).trans hx296_1
    have HR296_1 := Aside0.mk hi296_1
    have HC296_1 := Aside0.mk hl296_1
    clear hi296_1 hl296_1
    replace b9 := eq_true b9
    replace c1 := eq_true c1
    obtain ⟨i075, hi075, _, hsz75, _⟩ := info_parts info9
    obtain ⟨O9, hcut75, hA75, hC75⟩ := zbF_ (P := Tryd.prog) Value.string (⟨#[]⟩ : ByteArray) 26 9 .i64 Tryd.underlying26 hi075 hsz75 c2 c296_1 ((rd_T81 l0 2).f1) 1 (by omega) (of_decide_eq_true (by first | (with_reducible assumption) | assumption)) HC296_1.out
    have d6 := Aside0.mk (Kd.C_of_reads (h1 := fun _ => rfl) (hA75 _ (Kd.zbC_ HR296_1.out)))
    have HC297 := Aside0.mk hC75
    clear hA75 hC75 hi075 hsz75
    go_wp2_with (first | ((with_reducible refine zar_ (f := 56) rfl ?_); refine goesL_ (some 98) rfl rfl Tryd.func56 (by kernel_rfl) rfl #[.slice O9 (((rd_T81 l0 2).f1).drop 1).length (c296_1 - 1)] rfl (by (try simp only [List.map_toArray, List.map_cons, List.map_nil]); first | done | (rw [show (((rd_T81 l0 2).f1).drop 1).length = (((rd_T81 l0 2).f1).length - 1) from List.length_drop] <;> rfl) | rfl | (simp only [List.length_drop, List.length_take]; rfl)) ?_; (with_reducible refine (zaq_.calls m7 _ _ (((rd_T81 l0 2).f1).drop 1) b1 true _ ?side1 ?side2 ?side3 K0.out).mono ?_); (case side1 => repeat (first | exact (Kd.zaB_ d6.out HB.out) | (with_reducible refine Kd.zaI_ ?_ _) | (with_reducible refine Kd.zaJ_ ?_ _) | (with_reducible refine Kd.C_drew ?_))); (case side2 => exact HC297.out); (case side3 => first | exact Glob.below HG.out (HB.out) | (repeat (first | exact Glob.below HG.out HB.out | (with_reducible refine Glob.alloc ?_ _) | (with_reducible refine Glob.drewN ?_ _) | (with_reducible refine Glob.drew ?_)))); rintro e k4 ⟨o7, rfl, e7, hb⟩; refine ⟨_, rfl, ?_⟩; have b3 := Aside0.mk (Kd.R_elder' (by (with_reducible repeat (first | apply Kd.zav_ | apply Kd.zaw_ | apply Kd.R_drew)); exact HO_280001.out) (Kd.R_base e7) hb); have b4 := Aside0.mk (Kd.zbp_ (Kd.R_new' e7 (Kd.R_lt (by (with_reducible repeat (first | apply Kd.zav_ | apply Kd.zaw_ | apply Kd.R_drew)); exact HO_280001.out))) (zam_ (HB.out))); have b5 := Aside0.mk (zan_ a3.out hb); have d3 := Aside0.mk (zan_ a2.out hb); have g8 := Aside0.mk (zaj_ (HB.out) hb); clear HO_280001; clear a3; clear a2; clear HB; have HO_280001 := b3; have b8 := b4; have a3 := b5; have a2 := d3; have HB := g8; clear b3 b4 b5 d3 g8; (try clear hb); (try clear hb2); (try clear hk); (try clear hi); (try clear e7); obtain ⟨g1, g2, K3⟩ := Kd.zbf_ b8.out; subst K3; have hnb78 := a9.out; have hnc78 := a8.out; have F6 : k4.cell? ⟨a6, 0, none⟩ = some (.int .i64 a1) := (zab_ a2.out 0).trans rfl; have F7 : k4.cell? ⟨a6, 1, none⟩ = some (u280001) := (zab_ a2.out 1).trans rfl; have F8 : k4.cell? ⟨a6, 2, none⟩ = some (.slice none 0 0) := (zab_ a2.out 2).trans rfl; have F9 : k4.cell? ⟨a6, 3, none⟩ = some (.slice none 0 0) := (zab_ a2.out 3).trans rfl; have G0 := zaa_ a2.out 0; have G1 := zaa_ a2.out 1; have G2 := zaa_ a2.out 2; have G3 := zaa_ a2.out 3; have G4 : k4.cell? ⟨a5, 0, none⟩ = some (.int .i64 0) := (zab_ a3.out 0).trans rfl; have G5 : k4.cell? ⟨a5, 1, none⟩ = some (.slice none 0 0) := (zab_ a3.out 1).trans rfl; have G6 : k4.cell? ⟨a5, 2, none⟩ = some (.slice none 0 0) := (zab_ a3.out 2).trans rfl; have G7 : k4.cell? ⟨a5, 3, none⟩ = some (.slice none 0 0) := (zab_ a3.out 3).trans rfl; have G8 := zaa_ a3.out 0; have G9 := zaa_ a3.out 1; have H0 := zaa_ a3.out 2; have H1 := zaa_ a3.out 3; obtain ⟨h4, h5, K4⟩ := Kd.zbf_ HO_280001.out; subst K4))
    refine bodyPost_ret (zbo_ rfl _ _ a5 37 #[.int .i64 a1, .slice h4 a4.length h5, .slice g1 b1.length g2, .slice none 0 0] (0, 0) _ rfl (by (with_reducible repeat (first | refine zac_ ?_ _ | refine zaf_ ?_ | refine zad_ ?_ _)); refine zat_ (cs := #[.int .i64 a1, .slice h4 a4.length h5, .slice g1 b1.length g2, .slice none 0 0]) ?_ 3 _ rfl; (with_reducible repeat (first | refine zac_ ?_ _ | refine zaf_ ?_ | refine zad_ ?_ _)); refine zat_ (cs := #[.int .i64 a1, .slice h4 a4.length h5, .slice none 0 0, .slice none 0 0]) ?_ 2 _ rfl; (with_reducible repeat (first | refine zac_ ?_ _ | refine zaf_ ?_ | refine zad_ ?_ _)); refine zat_ (cs := #[.int .i64 a1, .slice none 0 0, .slice none 0 0, .slice none 0 0]) ?_ 1 _ rfl; (with_reducible repeat (first | refine zac_ ?_ _ | refine zaf_ ?_ | refine zad_ ?_ _)); refine zat_ (cs := #[.int .i64 0, .slice none 0 0, .slice none 0 0, .slice none 0 0]) ?_ 0 _ rfl; (with_reducible repeat (first | refine zac_ ?_ _ | refine zaf_ ?_ | refine zad_ ?_ _)); refine zaG_ ?_ a8.out _; (with_reducible repeat (first | refine zac_ ?_ _ | refine zaf_ ?_ | refine zad_ ?_ _)); exact a3.out) Tryd.underlying37 rfl (by kernel_rfl)) rfl ?_
    exact ⟨_, _, _, by first | rfl | (simp [zal_, zak_] <;> rfl) | (simp [*, zal_, zak_] <;> rfl), by (with_reducible repeat (first | apply Kd.zav_ | apply Kd.zaw_ | apply Kd.R_drew)); exact Kd.R_mono (Kd.R_far (p := ⟨a5, 3, none⟩) (Kd.R_far (p := ⟨a5, 2, none⟩) (Kd.R_far (p := ⟨a5, 1, none⟩) (Kd.R_far (p := ⟨a5, 0, none⟩) (Kd.R_far (p := ⟨a6, 2, none⟩) (Kd.zaV_ (Kd.zaV_ HO_280001.out a2.out (by decide)) a3.out (by decide)) (fun _ hk => hk.1.2) (.slice g1 b1.length g2)) (fun _ hk => hk.2) (.int .i64 a1)) (fun _ hk => hk.2) (.slice h4 a4.length h5)) (fun _ hk => hk.2) (.slice g1 b1.length g2)) (fun _ hk => hk.2) (.slice none 0 0)) (fun _ hk => hk.1.1.2), by (with_reducible repeat (first | apply Kd.zav_ | apply Kd.zaw_ | apply Kd.R_drew)); exact Kd.R_mono (Kd.R_far (p := ⟨a5, 3, none⟩) (Kd.R_far (p := ⟨a5, 2, none⟩) (Kd.R_far (p := ⟨a5, 1, none⟩) (Kd.R_far (p := ⟨a5, 0, none⟩) (Kd.R_far (p := ⟨a6, 2, none⟩) (Kd.zaV_ (Kd.zaV_ b8.out a2.out (by decide)) a3.out (by decide)) (fun _ hk => hk.1.2) (.slice g1 b1.length g2)) (fun _ hk => hk.2) (.int .i64 a1)) (fun _ hk => hk.2) (.slice h4 a4.length h5)) (fun _ hk => hk.2) (.slice g1 b1.length g2)) (fun _ hk => hk.2) (.slice none 0 0)) (fun _ hk => hk.1.1.2), by first | exact Kd.S_nil _ _ _ _ _ | exact Kd.N_nil _ _ _ _ _ | exact Kd.V_nil _ _ _ _ _ | exact Kd.Q_nil _ _ _ _ _ | exact Kd.R_nil _ _ _ _ _, by repeat (first | (with_reducible first | exact HB.out | apply zah_ | apply zae_ | apply zag_ | refine zai_ ?_ b6.out | refine zai_ ?_ b7.out) | exact HB.out)⟩
  rw [if_pos k3] at H
  have o8 : ((b1.length : Int) == 0) = true := beq_iff_eq.mpr k3
  have o9 : ((b1.length : Int) != 0) = false := bne_eq_false_iff_eq.mpr k3
  clear k3
  simp only [Option.some.injEq, Prod.mk.injEq] at H
  obtain ⟨rfl, rfl, rfl, rfl, rfl, rfl⟩ := H
  have b9 : 0 ≤ (2 : Int) := (by omega)
  have c1 : 2 < (l0.length : Int) := of_decide_eq_true (by first | (with_reducible assumption) | assumption)
  obtain ⟨ad296, c2, c296_1, e296, hx296_0, hx296_1, hl296_1, hi296_1⟩ := at_T81 g7.out 2 b9 c1
  cases e296
  (try simp only [show (2 : Int).toNat = 2 from rfl, Nat.reduceMul, Nat.reduceEqDiff, Go.Addr.add, ↓reduceIte] at hx296_0)
  (try simp only [show (2 : Int).toNat = 2 from rfl, Nat.reduceMul, Nat.reduceEqDiff, Go.Addr.add, ↓reduceIte] at hx296_1)
  have qi296 : (2 < l0.length) = True := eq_true (by omega)
  (try rw [show ((2 : Int)).toNat = 2 from rfl] at hx296_0)
  (try rw [show 2 * 2 = 4 from rfl] at hx296_0)
  (try rw [show ((2 : Int)).toNat = 2 from rfl] at hx296_1)
  (try rw [show 2 * 2 = 4 from rfl] at hx296_1)
  replace hx296_0 := (HB.out.cell (World.block_lt_of_cell? w _ hx296_0)).trans hx296_0
  replace hx296_1 := (HB.out.cell (World.block_lt_of_cell? w _ hx296_1)).trans hx296_1
  have HR296_1 := Aside0.mk hi296_1
  have HC296_1 := Aside0.mk hl296_1
  clear hi296_1 hl296_1
  replace b9 := eq_true b9
  replace c1 := eq_true c1
  obtain ⟨i082, hi082, _, hsz82, _⟩ := info_parts info9
  obtain ⟨P0, hcut82, hA82, hC82⟩ := zbF_ (P := Tryd.prog) Value.string (⟨#[]⟩ : ByteArray) 26 9 .i64 Tryd.underlying26 hi082 hsz82 c2 c296_1 ((rd_T81 l0 2).f1) 1 (by omega) (of_decide_eq_true (by first | (with_reducible assumption) | assumption)) HC296_1.out
  have d6 := Aside0.mk (Kd.C_of_reads (h1 := fun _ => rfl) (hA82 _ (Kd.zbC_ HR296_1.out)))
  have HC297 := Aside0.mk hC82
  clear hA82 hC82 hi082 hsz82
  go_wp2_with (first | ((with_reducible refine zar_ (f := 56) rfl ?_); refine goesL_ (some 98) rfl rfl Tryd.func56 (by kernel_rfl) rfl #[.slice P0 (((rd_T81 l0 2).f1).drop 1).length (c296_1 - 1)] rfl (by (try simp only [List.map_toArray, List.map_cons, List.map_nil]); first | done | (rw [show (((rd_T81 l0 2).f1).drop 1).length = (((rd_T81 l0 2).f1).length - 1) from List.length_drop] <;> rfl) | rfl | (simp only [List.length_drop, List.length_take]; rfl)) ?_; (with_reducible refine (zaq_.calls m7 _ _ (((rd_T81 l0 2).f1).drop 1) b1 true _ ?side1 ?side2 ?side3 K0.out).mono ?_); (case side1 => repeat (first | exact (Kd.zaB_ d6.out HB.out) | (with_reducible refine Kd.zaI_ ?_ _) | (with_reducible refine Kd.zaJ_ ?_ _) | (with_reducible refine Kd.C_drew ?_))); (case side2 => exact HC297.out); (case side3 => first | exact Glob.below HG.out (HB.out) | (repeat (first | exact Glob.below HG.out HB.out | (with_reducible refine Glob.alloc ?_ _) | (with_reducible refine Glob.drewN ?_ _) | (with_reducible refine Glob.drew ?_)))); rintro e k5 ⟨o7, rfl, e7, hb⟩; refine ⟨_, rfl, ?_⟩; have b3 := Aside0.mk (Kd.R_elder' (by (with_reducible repeat (first | apply Kd.zav_ | apply Kd.zaw_ | apply Kd.R_drew)); exact HO_280001.out) (Kd.R_base e7) hb); have b4 := Aside0.mk (Kd.zbp_ (Kd.R_new' e7 (Kd.R_lt (by (with_reducible repeat (first | apply Kd.zav_ | apply Kd.zaw_ | apply Kd.R_drew)); exact HO_280001.out))) (zam_ (HB.out))); have b5 := Aside0.mk (zan_ a3.out hb); have d3 := Aside0.mk (zan_ a2.out hb); have g8 := Aside0.mk (zaj_ (HB.out) hb); clear HO_280001; clear a3; clear a2; clear HB; have HO_280001 := b3; have b8 := b4; have a3 := b5; have a2 := d3; have HB := g8; clear b3 b4 b5 d3 g8; (try clear hb); (try clear hb2); (try clear hk); (try clear hi); (try clear e7); obtain ⟨g3, g4, K5⟩ := Kd.zbf_ b8.out; subst K5; have hnb85 := a9.out; have hnc85 := a8.out; have H2 : k5.cell? ⟨a6, 0, none⟩ = some (.int .i64 a1) := (zab_ a2.out 0).trans rfl; have H3 : k5.cell? ⟨a6, 1, none⟩ = some (u280001) := (zab_ a2.out 1).trans rfl; have H4 : k5.cell? ⟨a6, 2, none⟩ = some (.slice none 0 0) := (zab_ a2.out 2).trans rfl; have H5 : k5.cell? ⟨a6, 3, none⟩ = some (.slice none 0 0) := (zab_ a2.out 3).trans rfl; have H6 := zaa_ a2.out 0; have H7 := zaa_ a2.out 1; have H8 := zaa_ a2.out 2; have H9 := zaa_ a2.out 3; have I0 : k5.cell? ⟨a5, 0, none⟩ = some (.int .i64 0) := (zab_ a3.out 0).trans rfl; have I1 : k5.cell? ⟨a5, 1, none⟩ = some (.slice none 0 0) := (zab_ a3.out 1).trans rfl; have I2 : k5.cell? ⟨a5, 2, none⟩ = some (.slice none 0 0) := (zab_ a3.out 2).trans rfl; have I3 : k5.cell? ⟨a5, 3, none⟩ = some (.slice none 0 0) := (zab_ a3.out 3).trans rfl; have I4 := zaa_ a3.out 0; have I5 := zaa_ a3.out 1; have I6 := zaa_ a3.out 2; have I7 := zaa_ a3.out 3; obtain ⟨h6, h7, K6⟩ := Kd.zbf_ HO_280001.out; subst K6))
  refine bodyPost_ret (zbo_ rfl _ _ a5 37 #[.int .i64 a1, .slice h6 a4.length h7, .slice g3 b1.length g4, .slice none 0 0] (0, 0) _ rfl (by (with_reducible repeat (first | refine zac_ ?_ _ | refine zaf_ ?_ | refine zad_ ?_ _)); refine zat_ (cs := #[.int .i64 a1, .slice h6 a4.length h7, .slice g3 b1.length g4, .slice none 0 0]) ?_ 3 _ rfl; (with_reducible repeat (first | refine zac_ ?_ _ | refine zaf_ ?_ | refine zad_ ?_ _)); refine zat_ (cs := #[.int .i64 a1, .slice h6 a4.length h7, .slice none 0 0, .slice none 0 0]) ?_ 2 _ rfl; (with_reducible repeat (first | refine zac_ ?_ _ | refine zaf_ ?_ | refine zad_ ?_ _)); refine zat_ (cs := #[.int .i64 a1, .slice none 0 0, .slice none 0 0, .slice none 0 0]) ?_ 1 _ rfl; (with_reducible repeat (first | refine zac_ ?_ _ | refine zaf_ ?_ | refine zad_ ?_ _)); refine zat_ (cs := #[.int .i64 0, .slice none 0 0, .slice none 0 0, .slice none 0 0]) ?_ 0 _ rfl; (with_reducible repeat (first | refine zac_ ?_ _ | refine zaf_ ?_ | refine zad_ ?_ _)); refine zaG_ ?_ a8.out _; (with_reducible repeat (first | refine zac_ ?_ _ | refine zaf_ ?_ | refine zad_ ?_ _)); exact a3.out) Tryd.underlying37 rfl (by kernel_rfl)) rfl ?_
  exact ⟨_, _, _, by first | rfl | (simp [zal_, zak_] <;> rfl) | (simp [*, zal_, zak_] <;> rfl), by (with_reducible repeat (first | apply Kd.zav_ | apply Kd.zaw_ | apply Kd.R_drew)); exact Kd.R_mono (Kd.R_far (p := ⟨a5, 3, none⟩) (Kd.R_far (p := ⟨a5, 2, none⟩) (Kd.R_far (p := ⟨a5, 1, none⟩) (Kd.R_far (p := ⟨a5, 0, none⟩) (Kd.R_far (p := ⟨a6, 2, none⟩) (Kd.zaV_ (Kd.zaV_ HO_280001.out a2.out (by decide)) a3.out (by decide)) (fun _ hk => hk.1.2) (.slice g3 b1.length g4)) (fun _ hk => hk.2) (.int .i64 a1)) (fun _ hk => hk.2) (.slice h6 a4.length h7)) (fun _ hk => hk.2) (.slice g3 b1.length g4)) (fun _ hk => hk.2) (.slice none 0 0)) (fun _ hk => hk.1.1.2), by (with_reducible repeat (first | apply Kd.zav_ | apply Kd.zaw_ | apply Kd.R_drew)); exact Kd.R_mono (Kd.R_far (p := ⟨a5, 3, none⟩) (Kd.R_far (p := ⟨a5, 2, none⟩) (Kd.R_far (p := ⟨a5, 1, none⟩) (Kd.R_far (p := ⟨a5, 0, none⟩) (Kd.R_far (p := ⟨a6, 2, none⟩) (Kd.zaV_ (Kd.zaV_ b8.out a2.out (by decide)) a3.out (by decide)) (fun _ hk => hk.1.2) (.slice g3 b1.length g4)) (fun _ hk => hk.2) (.int .i64 a1)) (fun _ hk => hk.2) (.slice h6 a4.length h7)) (fun _ hk => hk.2) (.slice g3 b1.length g4)) (fun _ hk => hk.2) (.slice none 0 0)) (fun _ hk => hk.1.1.2), by first | exact Kd.S_nil _ _ _ _ _ | exact Kd.N_nil _ _ _ _ _ | exact Kd.V_nil _ _ _ _ _ | exact Kd.Q_nil _ _ _ _ _ | exact Kd.R_nil _ _ _ _ _, by repeat (first | (with_reducible first | exact HB.out | apply zah_ | apply zae_ | apply zag_ | refine zai_ ?_ b6.out | refine zai_ ?_ b7.out) | exact HB.out)⟩
end Go.Proofs.YtgkjoodlcojkkaaDoor.QD
end
section
namespace Go.Proofs.YtgkjoodlcojkkaaDoor.QD
open Go.RowKit Go.Proofs.YtgkjoodlcojkkaaDoorW.PrintWords Go.Proofs.YtgkjoodlcojkkaaDoorW.PrintLast Go.Proofs.YtgkjoodlcojkkaaDoorW.PrintMore
attribute [local go_sem] zbd_ zbe_ zbm_ zbl_ zaW_ zaX_ zbc_ zbb_
set_option linter.unusedVariables false
set_option linter.unusedSimpArgs false
def text_line.f (l0 : List (S81)) (a1 : Int) (a2 : Int) : Option (Int) := if a1 ≥ (l0.length : Int) then (some a2) else (if 0 ≤ a1 then (if a1 < (l0.length : Int) then (some ((rd_T81 l0 a1).f0)) else (none)) else (none))
set_option maxHeartbeats 8000000 in
set_option maxRecDepth 100000 in
theorem text_line.calls (A0 : Option Addr) (c0 : Nat) (l0 : List (S81)) (a1 : Int) (a2 : Int) (r : Int) (w : World) (hr0 : Kd.C k81 w A0 l0.length l0) (hc0 : l0.length ≤ c0) (h : text_line.f l0 a1 a2 = some r) :
    Calls Tryd.prog 41 #[.slice A0 l0.length c0, .int .i64 a1, .int .i64 a2] w fun e w' => e = .returned (.int .i64 r) ∧ Drawn0 w w' := by
  have a6 := Aside0.mk hr0
  have HC0 := Aside0.mk hc0
  clear hr0 hc0
  have H : (if a1 ≥ (l0.length : Int) then (some a2) else (if 0 ≤ a1 then (if a1 < (l0.length : Int) then (some ((rd_T81 l0 a1).f0)) else (none)) else (none))) = some r := h
  clear h
  by_cases c4 : a1 ≥ (l0.length : Int)
  · rw [if_pos c4] at H
    have a4 : decide ((l0.length : Int) ≤ a1) = true := decide_eq_true c4
    clear c4
    obtain rfl := Option.some.inj H
    go_enter Tryd.func41, Tryd.ntmps41
    go_wp2
    go_ret
    exact ⟨by first | rfl | (simp; done) | (simp [*]; done), by repeat (first | exact Drawn0.refl _ | apply Drawn0.step)⟩
  rw [if_neg c4] at H
  have a4 : decide ((l0.length : Int) ≤ a1) = false := decide_eq_false c4
  clear c4
  by_cases c5 : 0 ≤ a1
  rotate_left
  · rw [if_neg c5] at H
    exact absurd H (by simp)
  rw [if_pos c5] at H
  have a7 : decide (0 ≤ a1) = true := decide_eq_true c5
  clear c5
  by_cases c6 : a1 < (l0.length : Int)
  rotate_left
  · rw [if_neg c6] at H
    exact absurd H (by simp)
  rw [if_pos c6] at H
  have a8 : decide (a1 < (l0.length : Int)) = true := decide_eq_true c6
  clear c6
  obtain rfl := Option.some.inj H
  have a0 : 0 ≤ (a1 : Int) := of_decide_eq_true (by first | (with_reducible assumption) | assumption)
  have a3 : a1 < (l0.length : Int) := of_decide_eq_true (by first | (with_reducible assumption) | assumption)
  obtain ⟨ad302, a5, c302_1, e302, hx302_0, hx302_1, hl302_1, hi302_1⟩ := at_T81 a6.out a1 a0 a3
  cases e302
  have HR302_1 := Aside0.mk hi302_1
  have HC302_1 := Aside0.mk hl302_1
  clear hi302_1 hl302_1
  replace a0 := eq_true a0
  replace a3 := eq_true a3
  go_enter Tryd.func41, Tryd.ntmps41
  go_wp2
  go_ret
  exact ⟨by first | rfl | (simp; done) | (simp [*]; done), by repeat (first | exact Drawn0.refl _ | apply Drawn0.step)⟩
end Go.Proofs.YtgkjoodlcojkkaaDoor.QD
end
section
namespace Go.Proofs.YtgkjoodlcojkkaaDoor.Y
open Go.RowKit Go.Proofs.YtgkjoodlcojkkaaDoorW.PrintWords Go.Proofs.YtgkjoodlcojkkaaDoorW.PrintLast Go.Proofs.YtgkjoodlcojkkaaDoorW.PrintMore Go.Proofs.YtgkjoodlcojkkaaDoor.QD
set_option linter.unusedVariables false
set_option linter.unusedSimpArgs false
def numbersS : List Bs → Option (List Int)
  | [] => some []
  | w :: ws => if (numS w).2 = true then (numbersS ws).map ((numS w).1 :: ·) else none
def nR : Option (List Int) → List Int × Bool
  | some l => (l, true)
  | none => ([], false)
theorem zbE_ (w : Bs) (ws : List Bs) : numbersS (w :: ws) = if (numS w).2 = true then (numbersS ws).map ((numS w).1 :: ·) else none := rfl
theorem numbers_loop (ps : List Bs) (hs : ∀ p ∈ ps, p.length ≤ 281474976710656) (hl : ps.length < 17592186044416) : ∀ (n : Nat) (out : List Int) (i k : Nat), i + n = ps.length → n < k → out.length ≤ i →
    zaq_.l0 k out (ps.map B) (ps.length : Int) (i : Int) = some (match numbersS (ps.drop i) with | some l => (out ++ l, true) | none => ([], false))
  | n, out, i, 0, hn, hk, ho => by omega
  | 0, out, i, k + 1, hn, hk, ho => by
    unfold zaq_.l0
    rw [if_neg (by omega), List.drop_eq_nil_of_le (by omega)]
    simp [numbersS]
  | n + 1, out, i, k + 1, hn, hk, ho => by
    unfold zaq_.l0
    have hi : i < ps.length := by omega
    have e0 : ps.getD i [] = ps[i] := by simp [hi]
    rw [if_pos (by omega), if_pos (by omega), List.length_map, if_pos (by omega), rdOf_B, e0, words_Num_eq _ (hs _ (List.getElem_mem hi)), Option.bind_some, w64s i (by omega), List.drop_eq_getElem_cons hi, zbE_]
    by_cases h : (numS ps[i]).2 = true
    · rw [if_pos h, if_pos h, if_pos (by omega), numbers_loop ps hs hl n _ (i + 1) k (by omega) (by omega) (by simp; omega)]
      cases numbersS (ps.drop (i + 1)) <;> simp
    · rw [if_neg h, if_neg h]
theorem numbers_eq (ps : List Bs) (hs : ∀ p ∈ ps, p.length ≤ 281474976710656) (hl : ps.length < 17592186044416) (k : Nat) (hk : ps.length < k) : zaq_.f k (ps.map B) = some (nR (numbersS ps)) := by
  unfold zaq_.f
  rw [List.length_map]
  have := numbers_loop ps hs hl ps.length [] 0 k (by omega) hk (Nat.zero_le _)
  rw [List.drop_zero] at this
  refine Eq.trans this ?_
  cases numbersS ps <;> simp [nR]
def rowsS : Nat → List Bs → List (Nat × List Bs)
  | _, [] => []
  | i, s :: ss => if wordsL s = [] then rowsS (i + 1) ss else (i, wordsL s) :: rowsS (i + 1) ss
def R81 (r : Nat × List Bs) : S81 := ⟨((r.1 : Nat) : Int), r.2.map B⟩
theorem rowsS_cons (i : Nat) (s : Bs) (ss : List Bs) : rowsS i (s :: ss) = if wordsL s = [] then rowsS (i + 1) ss else (i, wordsL s) :: rowsS (i + 1) ss := rfl
theorem rowsS_len : ∀ (l : List Bs) (i : Nat), (rowsS i l).length ≤ l.length
  | [], i => by simp [rowsS]
  | s :: ss, i => by
    rw [rowsS_cons]
    have := rowsS_len ss (i + 1)
    split
    · simp; omega
    · simp; omega
theorem rows_loop (ps : List Bs) (m : Nat) (hs : ∀ p ∈ ps, p.length ≤ m) (hm : m < 4294967281) (hl : ps.length < 4398046511104) : ∀ (n : Nat) (out : List (Nat × List Bs)) (i k : Nat), i + n = ps.length → n + m + 1 < k → out.length ≤ i →
    zba_.l0 k (out.map R81) (ps.map B) (ps.length : Int) (i : Int) = some ((out ++ rowsS i (ps.drop i)).map R81)
  | n, out, i, 0, hn, hk, ho => by omega
  | 0, out, i, k + 1, hn, hk, ho => by
    unfold zba_.l0
    rw [if_neg (by omega), List.drop_eq_nil_of_le (by omega)]
    simp [rowsS]
  | n + 1, out, i, k + 1, hn, hk, ho => by
    unfold zba_.l0
    have hi : i < ps.length := by omega
    have e0 : ps.getD i [] = ps[i] := by simp [hi]
    have hp := hs _ (List.getElem_mem hi)
    rw [if_pos (by omega), if_pos (by omega), List.length_map, if_pos (by omega), rdOf_B, e0, words_Words_eq _ (by omega) k (by omega), Option.bind_some, w64s i (by omega), List.drop_eq_getElem_cons hi, rowsS_cons, List.length_map]
    by_cases h : wordsL ps[i] = []
    · rw [if_pos (by rw [h]; rfl), if_pos h, rows_loop ps m hs hm hl n out (i + 1) k (by omega) (by omega) (by omega)]
    · have hlen : (wordsL ps[i]).length ≠ 0 := fun e => h (List.length_eq_zero_iff.1 e)
      rw [if_neg (by omega), if_neg h, List.length_map, if_pos (by omega)]
      have := rows_loop ps m hs hm hl n (out ++ [(i, wordsL ps[i])]) (i + 1) k (by omega) (by omega) (by simp; omega)
      rw [List.map_append] at this
      rw [show List.map R81 [(i, wordsL ps[i])] = [(⟨(i : Int), (wordsL ps[i]).map B⟩ : S81)] from rfl] at this
      rw [this, List.append_assoc]
      rfl
theorem rows_eq (ps : List Bs) (m : Nat) (hs : ∀ p ∈ ps, p.length ≤ m) (hm : m < 4294967281) (hl : ps.length < 4398046511104) (k : Nat) (hk : ps.length + m + 1 < k) : zba_.f k (ps.map B) = some ((rowsS 0 ps).map R81) := by
  unfold zba_.f
  rw [List.length_map]
  have := rows_loop ps m hs hm hl ps.length [] 0 k (by omega) hk (Nat.zero_le _)
  simpa using this
def fairB : Bs := [102, 97, 105, 114]
def agentB : Bs := [97, 103, 101, 110, 116]
def tokenB : Bs := [116, 111, 107, 101, 110]
def protocolB : Bs := [112, 114, 111, 116, 111, 99, 111, 108]
def coresB : Bs := [99, 111, 114, 101, 115]
def homesB : Bs := [104, 111, 109, 101, 115]
def taskB : Bs := [116, 97, 115, 107]
def pWord (w : Bs) : Int := if w = tokenB then 3 else if w = agentB then 2 else if w = fairB then 1 else 0
theorem rd_R81 (rs : List (Nat × List Bs)) (i : Nat) : rd_T81 (rs.map R81) (i : Int) = R81 (rs.getD i (0, [])) := by
  unfold rd_T81
  simp only [Int.toNat_natCast, List.getD_eq_getElem?_getD, List.getElem?_map]
  cases rs[i]? <;> rfl
theorem rd_R81_0 (rs : List (Nat × List Bs)) : rd_T81 (rs.map R81) 0 = R81 (rs.getD 0 (0, [])) := rd_R81 rs 0
theorem rd_R81_1 (rs : List (Nat × List Bs)) : rd_T81 (rs.map R81) 1 = R81 (rs.getD 1 (0, [])) := rd_R81 rs 1
theorem rd_R81_2 (rs : List (Nat × List Bs)) : rd_T81 (rs.map R81) 2 = R81 (rs.getD 2 (0, [])) := rd_R81 rs 2
theorem rdw (ws : List Bs) (i : Nat) : (rdOf ByteArray.empty (ws.map B) (i : Int)).toList = ws.getD i [] := by rw [rdOf_B, toList_B]
theorem rdw0 (ws : List Bs) : (rdOf ByteArray.empty (ws.map B) 0).toList = ws.getD 0 [] := rdw ws 0
theorem rdw1 (ws : List Bs) : (rdOf ByteArray.empty (ws.map B) 1).toList = ws.getD 1 [] := rdw ws 1
theorem R81_f1 (r : Nat × List Bs) : (R81 r).f1 = r.2.map B := rfl
theorem R81_f0 (r : Nat × List Bs) : (R81 r).f0 = ((r.1 : Nat) : Int) := rfl
theorem line_eq (rs : List (Nat × List Bs)) (n : Nat) (all : Int) : text_line.f (rs.map R81) (n : Int) all = some (if n < rs.length then (((rs.getD n (0, [])).1 : Nat) : Int) else all) := by
  unfold text_line.f
  rw [List.length_map]
  by_cases h : n < rs.length
  · rw [if_neg (by omega), if_pos (by omega), if_pos (by omega), rd_R81, if_pos h]; rfl
  · rw [if_pos (by omega), if_neg h]
def headT (rs : List (Nat × List Bs)) (p : Int) : Int × List Int × List Int × Nat × Bool :=
  match rs with
  | [] => (p, [], [], 1, false)
  | [_] => (p, [], [], 1, false)
  | _ :: r1 :: rest =>
    if r1.2.getD 0 [] = coresB then
      match numbersS (r1.2.drop 1) with
      | none => (p, [], [], 1, false)
      | some [] => (p, [], [], 1, false)
      | some (c :: cs) => match rest with
        | [] => (p, c :: cs, [], 2, true)
        | r2 :: _ => if r2.2.getD 0 [] = homesB then
            match numbersS (r2.2.drop 1) with
            | none => (p, c :: cs, [], 2, false)
            | some [] => (p, c :: cs, [], 2, false)
            | some (h :: hs) => (p, c :: cs, h :: hs, 3, true)
          else (p, c :: cs, [], 2, true)
    else (p, [], [], 1, false)
def headS (rs : List (Nat × List Bs)) : Int × List Int × List Int × Nat × Bool :=
  match rs with
  | [] => (0, [], [], 0, false)
  | r0 :: rest =>
    if r0.2.getD 0 [] = protocolB then
      if r0.2.length = 2 then
        if pWord (r0.2.getD 1 []) = 0 then (0, [], [], 0, false) else headT (r0 :: rest) (pWord (r0.2.getD 1 []))
      else (0, [], [], 0, false)
    else (0, [], [], 0, false)
def hR (x : Int × List Int × List Int × Nat × Bool) : Int × List Int × List Int × List S53 × Int × Bool := (x.1, x.2.1, x.2.2.1, [], ((x.2.2.2.1 : Nat) : Int), x.2.2.2.2)
theorem head_step (rs : List (Nat × List Bs)) (h0 : 0 < rs.length) (h1 : 1 < (rs.getD 0 (0, [])).2.length) (n : Int) (hn : n ≤ 3) (b : Bs) (hb : zbt_.f n = some (B b)) (p : Int) (k : Nat) :
    zap_.l0 (k + 1) (rs.map R81) n p = zap_.l0 k (rs.map R81) (wrap64 (n + 1)) (if (rs.getD 0 (0, [])).2.getD 1 [] = b then n else p) := by
  rw [zap_.l0]
  rw [if_pos hn, List.length_map, if_pos (by omega), rd_R81_0, R81_f1, List.length_map, if_pos (by omega), hb, Option.bind_some, rdw1, toList_B]
  by_cases h : (rs.getD 0 (0, [])).2.getD 1 [] = b
  · rw [if_pos h, if_pos h]
  · rw [if_neg h, if_neg h]
theorem head_j3 (rs : List (Nat × List Bs)) (h2 : 1 < rs.length) (hne : ∀ r ∈ rs, r.2 ≠ []) (hs : ∀ r ∈ rs, ∀ p ∈ r.2, p.length ≤ 281474976710656) (m : Nat) (hl : ∀ r ∈ rs, r.2.length ≤ m) (hm : m < 17592186044416) (p : Int) (c : List Int) (ok : Bool) (k : Nat) (hk : m + 4 < k) :
    zap_.j3 k (rs.map R81) ok p c = some (hR (if ok = true ∧ c ≠ [] then
      (match rs.drop 2 with
        | [] => (p, c, [], 2, true)
        | r2 :: _ => if r2.2.getD 0 [] = homesB then
            match numbersS (r2.2.drop 1) with
            | none => (p, c, [], 2, false)
            | some [] => (p, c, [], 2, false)
            | some (h :: hs) => (p, c, h :: hs, 3, true)
          else (p, c, [], 2, true)) else (p, c, [], 1, false))) := by
  obtain ⟨k, rfl⟩ : ∃ j, k = j + 3 := ⟨k - 3, by omega⟩
  have hbad : zap_.j4 (k + 2) (rs.map R81) true p c = some (hR (p, c, [], 1, false)) := by
    rw [zap_.j4]; rw [if_pos rfl]; rfl
  rw [zap_.j3]
  by_cases h1 : ok = true
  · rw [if_pos h1]
    by_cases hc : c = []
    · rw [if_neg (fun h => h.2 hc), hc]
      rw [hc] at hbad
      exact hbad
    · rw [if_pos ⟨h1, hc⟩]
      have hcl : ((c.length : Int) == 0) = false := by
        have : c.length ≠ 0 := fun e => hc (List.length_eq_zero_iff.1 e)
        rw [beq_eq_false_iff_ne]; omega
      rw [hcl]
      rw [zap_.j4]
      rw [if_neg Bool.false_ne_true, List.length_map]
      have htrue : zap_.j5 (k + 1) (rs.map R81) true p c = some (hR (p, c, [], 2, true)) := by
        rw [zap_.j5]; rw [if_pos rfl]; rfl
      by_cases h3 : (rs.length : Int) = 2
      · rw [if_pos h3, htrue, List.drop_eq_nil_of_le (by omega)]
      · have hi : 2 < rs.length := by omega
        have e2 : rs.getD 2 (0, []) = rs[2] := by simp [hi]
        have hw : 0 < rs[2].2.length := List.length_pos_iff.2 (hne _ (List.getElem_mem hi))
        rw [if_neg h3, if_pos (by omega), rd_R81_2, e2, R81_f1, List.length_map, if_pos (by omega), rdw0, List.drop_eq_getElem_cons hi]
        by_cases hh : rs[2].2.getD 0 [] = homesB
        · have hb : (rs[2].2.getD 0 [] != ([104, 111, 109, 101, 115] : List UInt8)) = false := by rw [bne_eq_false_iff_eq]; exact hh
          rw [hb]
          rw [zap_.j5]
          rw [if_neg Bool.false_ne_true, List.length_map, if_pos (by omega), rd_R81_2, e2, R81_f1, List.length_map, if_pos (by omega), ← List.map_drop,
            numbers_eq _ (fun q hq => hs _ (List.getElem_mem hi) q (List.drop_subset _ _ hq)) (by have := hl _ (List.getElem_mem hi); rw [List.length_drop]; omega) k (by have := hl _ (List.getElem_mem hi); rw [List.length_drop]; omega), Option.bind_some]
          simp only [if_pos hh]
          rcases numbersS (rs[2].2.drop 1) with _ | _ | ⟨h, hs⟩
          · rfl
          · rfl
          · rfl
        · have hb : (rs[2].2.getD 0 [] != ([104, 111, 109, 101, 115] : List UInt8)) = true := by rw [bne_iff_ne]; exact hh
          rw [hb, htrue]
          simp only [if_neg hh]
  · rw [if_neg h1, if_neg (fun h => h1 h.1)]
    exact hbad
set_option maxRecDepth 10000 in
theorem head_eq (rs : List (Nat × List Bs)) (hne : ∀ r ∈ rs, r.2 ≠ []) (hs : ∀ r ∈ rs, ∀ p ∈ r.2, p.length ≤ 281474976710656) (m : Nat) (hl : ∀ r ∈ rs, r.2.length ≤ m) (hm : m < 17592186044416) (k : Nat) (hk : m + 20 < k) :
    zap_.f k (rs.map R81) = some (hR (headS rs)) := by
  obtain ⟨k, rfl⟩ : ∃ j, k = j + 6 := ⟨k - 6, by omega⟩
  have hbad : zap_.j0 (k + 6) (rs.map R81) true 0 = some (hR (0, [], [], 0, false)) := by
    rw [zap_.j0]; rw [if_pos rfl]; rfl
  unfold zap_.f
  rw [List.length_map]
  cases hrs : rs with
  | nil => rw [hrs] at hbad; rw [if_pos (by simp)]; exact hbad
  | cons r0 rest =>
    have hr0 : rs.getD 0 (0, []) = r0 := by rw [hrs]; rfl
    have hlen : 0 < rs.length := by rw [hrs]; simp
    rw [← hrs]
    have hsp : headS rs = if r0.2.getD 0 [] = protocolB then
      if r0.2.length = 2 then
        if pWord (r0.2.getD 1 []) = 0 then (0, [], [], 0, false) else headT rs (pWord (r0.2.getD 1 []))
      else (0, [], [], 0, false)
    else (0, [], [], 0, false) := by rw [hrs]; rfl
    have hw : 0 < r0.2.length := List.length_pos_iff.2 (hne _ (by rw [hrs]; simp))
    rw [if_neg (by omega), if_pos (by omega), rd_R81_0, hr0, R81_f1, List.length_map, if_pos (by omega), rdw0, hsp]
    by_cases h1 : r0.2.getD 0 [] = protocolB
    · have h1L : r0.2.getD 0 [] = ([112, 114, 111, 116, 111, 99, 111, 108] : List UInt8) := h1
      rw [if_pos h1L, if_pos h1]
      by_cases h2 : r0.2.length = 2
      · have hb : ((r0.2.length : Int) != 2) = false := by rw [bne_eq_false_iff_eq]; omega
        rw [if_pos h2, hb]
        rw [zap_.j0]
        have hl1 : 1 < (rs.getD 0 (0, [])).2.length := by rw [hr0]; omega
        rw [if_neg Bool.false_ne_true, head_step rs hlen hl1 1 (by decide) fairB rfl 0 (k + 4), show wrap64 (1 + 1) = 2 from by unfold wrap64; omega,
          head_step rs hlen hl1 2 (by decide) agentB rfl _ (k + 3), show wrap64 (2 + 1) = 3 from by unfold wrap64; omega, head_step rs hlen hl1 3 (by decide) tokenB rfl _ (k + 2), show wrap64 (3 + 1) = 4 from by unfold wrap64; omega, hr0]
        have hpw : (if r0.2.getD 1 [] = tokenB then (3 : Int) else if r0.2.getD 1 [] = agentB then 2 else if r0.2.getD 1 [] = fairB then 1 else 0) = pWord (r0.2.getD 1 []) := rfl
        rw [hpw]
        generalize pWord (r0.2.getD 1 []) = p
        rw [zap_.l0]
        rw [if_neg (by decide)]
        by_cases hp : p = 0
        · rw [if_pos hp, if_pos hp, hp]; rfl
        · rw [if_neg hp, if_neg hp, List.length_map]
          by_cases h3 : (rs.length : Int) > 1
          · have hi : 1 < rs.length := by omega
            have e1 : rs.getD 1 (0, []) = rs[1] := by simp [hi]
            have hw1 : 0 < rs[1].2.length := List.length_pos_iff.2 (hne _ (List.getElem_mem hi))
            have hT : headT rs p = if rs[1].2.getD 0 [] = coresB then
                (match numbersS (rs[1].2.drop 1) with
                | none => (p, [], [], 1, false)
                | some [] => (p, [], [], 1, false)
                | some (c :: cs) => match rs.drop 2 with
                  | [] => (p, c :: cs, [], 2, true)
                  | r2 :: _ => if r2.2.getD 0 [] = homesB then
                      match numbersS (r2.2.drop 1) with
                      | none => (p, c :: cs, [], 2, false)
                      | some [] => (p, c :: cs, [], 2, false)
                      | some (h :: hs) => (p, c :: cs, h :: hs, 3, true)
                    else (p, c :: cs, [], 2, true)) else (p, [], [], 1, false) := by
              subst hrs
              cases rest with
              | nil => simp at hi
              | cons r1 rest => rfl
            rw [if_pos h3, if_pos (by omega), rd_R81_1, e1, R81_f1, List.length_map, if_pos (by omega), rdw0, hT]
            rw [zap_.j2]
            by_cases hc : rs[1].2.getD 0 [] = coresB
            · have hb : (rs[1].2.getD 0 [] == ([99, 111, 114, 101, 115] : List UInt8)) = true := by rw [beq_iff_eq]; exact hc
              rw [if_pos hc, hb, if_pos rfl, List.length_map, if_pos (by omega), rd_R81_1, e1, R81_f1, List.length_map, if_pos (by omega), ← List.map_drop,
                numbers_eq _ (fun q hq => hs _ (List.getElem_mem hi) q (List.drop_subset _ _ hq)) (by have := hl _ (List.getElem_mem hi); rw [List.length_drop]; omega) k (by have := hl _ (List.getElem_mem hi); rw [List.length_drop]; omega), Option.bind_some]
              rw [head_j3 rs hi hne hs m hl hm p _ _ k (by omega)]
              rcases numbersS (rs[1].2.drop 1) with _ | _ | ⟨c, cs⟩
              · rfl
              · rfl
              · simp [nR]
            · have hb : (rs[1].2.getD 0 [] == ([99, 111, 114, 101, 115] : List UInt8)) = false := by rw [beq_eq_false_iff_ne]; exact hc
              rw [if_neg hc, hb, if_neg Bool.false_ne_true]
              rw [head_j3 rs hi hne hs m hl hm p _ _ k (by omega)]
              rfl
          · have hT : headT rs p = (p, [], [], 1, false) := by
              subst hrs
              cases rest with
              | nil => rfl
              | cons r1 rest => simp at h3; omega
            rw [if_neg h3, hT]
            rw [zap_.j2]
            rw [if_neg Bool.false_ne_true]
            obtain ⟨k, rfl⟩ : ∃ j, k = j + 2 := ⟨k - 2, by omega⟩
            rw [zap_.j3]
            rw [if_neg Bool.false_ne_true]
            rw [zap_.j4]
            rw [if_pos rfl]
            rfl
      · have hb : ((r0.2.length : Int) != 2) = true := by rw [bne_iff_ne]; omega
        rw [if_neg h2, hb]
        exact hbad
    · have h1L : ¬ r0.2.getD 0 [] = ([112, 114, 111, 116, 111, 99, 111, 108] : List UInt8) := h1
      rw [if_neg h1L, if_neg h1]
      exact hbad
def partOkS (nh : Nat) (p : S50) : Bool := btw p.f0 1 3 && btw p.f1 1 60 && (if p.f0 = 3 then btw p.f2 0 ((nh : Int) - 1) else decide (p.f2 = 0))
def partedS (nh : Nat) (l : List S50) : Bool := l.all (partOkS nh) && btw (l.length : Int) 1 6
theorem between_eq (a b c : Int) : zaQ_.f a b c = some (btw a b c) := by
  unfold zaQ_.f btw
  by_cases h : a ≥ b
  · rw [if_pos h]; have h' : b ≤ a := h; simp [h']
  · rw [if_neg h]; have h' : ¬ b ≤ a := h; simp [h']
theorem rd50 (l : List S50) (i : Nat) (h : i < l.length) : rd_T50 l (i : Int) = l[i] := by unfold rd_T50; simp [h]
theorem rd53 (l : List S53) (i : Nat) (h : i < l.length) : rd_T53 l (i : Int) = l[i] := by unfold rd_T53; simp [h]
theorem parted_loop (l : List S50) (hl : l.length < 9223372036854775807) (p : Int) (cs hs : List Int) (hh : hs.length < 9223372036854775807) (ts : List S53) : ∀ (n i k : Nat), i + n = l.length → 3 * n < k →
    zax_.l0 k l l (l.length : Int) (i : Int) p cs hs ts = some ((l.drop i).all (partOkS hs.length) && btw (l.length : Int) 1 6)
  | n, i, 0, hn, hk => by omega
  | 0, i, k + 1, hn, hk => by
    unfold zax_.l0
    rw [if_neg (by omega), between_eq, Option.bind_some, List.drop_eq_nil_of_le (by omega)]
    rfl
  | n + 1, i, k + 1, hn, hk => by
    have hi : i < l.length := by omega
    obtain ⟨k, rfl⟩ : ∃ j, k = j + 2 := ⟨k - 2, by omega⟩
    have ih := parted_loop l hl p cs hs hh ts n (i + 1) k (by omega) (by omega)
    unfold zax_.l0
    rw [if_pos (by omega), if_pos (by omega), if_pos (by omega), rd50 l i hi, between_eq, Option.bind_some, between_eq, Option.bind_some, List.drop_eq_getElem_cons hi, List.all_cons]
    have ew : wrap64 ((hs.length : Int) - 1) = (hs.length : Int) - 1 := w64 (by omega)
    have key : ∀ b : Bool, zax_.j2 (k + 1) l l (l.length : Int) (i : Int) b p cs hs ts l[i].f0 l[i].f1 l[i].f2 = some ((b || (l[i].f0 != 3 && decide (l[i].f2 = 0))) && ((l.drop (i + 1)).all (partOkS hs.length) && btw (l.length : Int) 1 6)) := by
      intro b
      unfold zax_.j2
      rw [w64s i (by omega), ih]
      cases b with
      | true => simp
      | false =>
        rw [if_neg Bool.false_ne_true]
        by_cases h3 : l[i].f0 = 3
        · rw [if_pos h3]; simp [h3]
        · rw [if_neg h3]
          by_cases h4 : l[i].f2 = 0
          · rw [if_pos h4]; simp [h3, h4]
          · rw [if_neg h4]; simp [h4]
    have key1 : ∀ b : Bool, zax_.j1 (k + 2) l l (l.length : Int) (i : Int) b p cs hs ts l[i].f0 l[i].f1 l[i].f2 = some (!b && (if l[i].f0 = 3 then btw l[i].f2 0 ((hs.length : Int) - 1) else decide (l[i].f2 = 0)) && ((l.drop (i + 1)).all (partOkS hs.length) && btw (l.length : Int) 1 6)) := by
      intro b
      unfold zax_.j1
      cases b with
      | true => simp
      | false =>
        rw [if_neg Bool.false_ne_true]
        by_cases h3 : l[i].f0 = 3
        · rw [if_pos h3, between_eq, Option.bind_some, key, ew, if_pos h3]; simp [h3]
        · have h3b : (l[i].f0 != 3) = true := by rw [bne_iff_ne]; exact h3
          rw [if_neg h3, key, if_neg h3, h3b]; simp
    generalize (List.drop (i + 1) l).all (partOkS hs.length) = R at key1 ⊢
    unfold partOkS
    by_cases b1 : btw l[i].f0 1 3 = true
    · rw [if_pos b1, key1, b1]; simp [Bool.and_assoc]
    · rw [if_neg b1, key1, Bool.eq_false_iff.2 b1]; simp
theorem parted_eq (l : List S50) (hl : l.length < 9223372036854775807) (p : Int) (cs hs : List Int) (hh : hs.length < 9223372036854775807) (ts : List S53) (k : Nat) (hk : 3 * l.length < k) :
    zax_.f k p cs hs ts l = some (partedS hs.length l) := by
  unfold zax_.f
  have := parted_loop l hl p cs hs hh ts l.length 0 k (by omega) hk
  simpa [partedS] using this
theorem len_data (s : ByteArray) : s.data.toList.length = s.size := by rw [Array.length_toList]; rfl
def oneS (cs hs : List Int) (ts : List S53) (t : S53) (i : Nat) : Int :=
  if badForm (nameS t.f0.data.toList) t = true then 10
  else if btw t.f4 0 ((cs.length : Int) - 1) = false then 16
  else if ((ts.take i).any fun o => twb o.f0 o.f3 t.f0 t.f3) = true then 17
  else if partedS hs.length t.f5 = true then 0 else 15
theorem one_eq (p : Int) (cs hs : List Int) (ts : List S53) (i : Nat) (hi : i < ts.length) (hc : cs.length ≤ 4611686018427387904) (hh : hs.length < 9223372036854775807) (ht : ts.length ≤ 4611686018427387904) (k : Nat) (hn : ts[i].f0.size < k) (hp : 3 * ts[i].f5.length < k) (hk : k < 9223372036854775807) :
    zbA_.f k p cs hs ts (i : Int) = some (oneS cs hs ts ts[i] i) := by
  have hnm : zaO_.f k ts[i].f0 = some (nameS ts[i].f0.data.toList) := by
    have := words_Name_eq ts[i].f0.data.toList (by rw [len_data]; omega) k (by rw [len_data]; omega)
    rwa [B_data] at this
  unfold zbA_.f oneS
  rw [if_pos hc, if_pos ht, if_pos (by omega), if_pos (by omega), rd53 ts i hi, hnm, Option.bind_some, Int.toNat_natCast]
  by_cases h1 : badForm (nameS ts[i].f0.data.toList) ts[i] = true
  · rw [if_pos h1, if_pos h1]
  · rw [if_neg h1, if_neg h1]
    by_cases h2 : btw ts[i].f4 0 ((cs.length : Int) - 1) = false
    · rw [if_pos h2, if_pos h2]
    · rw [if_neg h2, if_neg h2]
      by_cases h3 : ((ts.take i).any fun o => twb o.f0 o.f3 ts[i].f0 ts[i].f3) = true
      · rw [if_pos h3, if_pos h3]
      · rw [if_neg h3, if_neg h3, parted_eq _ (by omega) _ _ _ hh _ k hp, Option.bind_some]
        by_cases h4 : partedS hs.length ts[i].f5 = true
        · rw [if_pos h4, if_pos h4]
        · rw [if_neg h4, if_neg h4]
def checkGo (cs hs : List Int) (ts : List S53) : Nat → List S53 → Int × Int
  | _, [] => (-1, 0)
  | i, t :: r => if oneS cs hs ts t i = 0 then checkGo cs hs ts (i + 1) r else ((i : Int), oneS cs hs ts t i)
def checkS (p : Int) (cs hs : List Int) (ts : List S53) : Int × Int :=
  if btw p 1 3 = true then if plB cs hs = true then if ts.length > 6 then (-1, 11) else if ts.length = 0 then (-1, 14) else checkGo cs hs ts 0 ts else (-1, 16) else (-1, 10)
theorem check_loop (p : Int) (cs hs : List Int) (ts : List S53) (hc : cs.length ≤ 4611686018427387904) (hh : hs.length < 9223372036854775807) (ht : ts.length ≤ 4611686018427387904) (m : Nat) (hb : ∀ t ∈ ts, t.f0.size < m ∧ 3 * t.f5.length < m) : ∀ (n i k : Nat), i + n = ts.length → n + m < k → k < 9223372036854775807 →
    zaR_.l0 k (ts.length : Int) (i : Int) p cs hs ts = some (checkGo cs hs ts i (ts.drop i))
  | n, i, 0, hn, hk, _ => by omega
  | 0, i, k + 1, hn, hk, _ => by
    unfold zaR_.l0
    rw [if_neg (by omega), List.drop_eq_nil_of_le (by omega)]
    rfl
  | n + 1, i, k + 1, hn, hk, hk2 => by
    have hi : i < ts.length := by omega
    have := hb _ (List.getElem_mem hi)
    unfold zaR_.l0
    rw [if_pos (by omega), one_eq p cs hs ts i hi hc hh ht k (by omega) (by omega) (by omega), Option.bind_some, w64s i (by omega), check_loop p cs hs ts hc hh ht m hb n (i + 1) k (by omega) (by omega) (by omega), List.drop_eq_getElem_cons hi]
    conv => rhs; unfold checkGo
    by_cases h : oneS cs hs ts ts[i] i = 0
    · rw [if_pos h, if_pos h]
    · rw [if_neg h, if_neg h]
theorem check_eq (p : Int) (cs hs : List Int) (ts : List S53) (m : Nat) (hb : ∀ t ∈ ts, t.f0.size < m ∧ 3 * t.f5.length < m) (k : Nat) (hk : m + 10 < k) (hk2 : k < 9223372036854775807) :
    zaR_.f k p cs hs ts = some (checkS p cs hs ts) := by
  unfold zaR_.f checkS
  rw [between_eq, Option.bind_some]
  by_cases h1 : btw p 1 3 = true
  · rw [if_pos h1, if_pos h1]
    unfold zby_.f
    rw [Option.bind_some]
    by_cases h2 : plB cs hs = true
    · rw [if_pos h2, if_pos h2]
      by_cases h3 : ts.length > 6
      · rw [if_pos (by omega), if_pos h3]
      · rw [if_neg (by omega), if_neg h3]
        by_cases h4 : ts.length = 0
        · rw [if_pos (by omega), if_pos h4]
        · rw [if_neg (by omega), if_neg h4]
          have hp := h2
          unfold plB btw at hp
          simp only [Bool.and_eq_true, decide_eq_true_eq] at hp
          have := check_loop p cs hs ts (by omega) (by omega) (by omega) m hb ts.length 0 k (by omega) (by omega) hk2
          simpa using this
    · rw [if_neg h2, if_neg h2]
  · rw [if_neg h1, if_neg h1]
def numsS : List Int → Bs
  | [] => []
  | n :: ns => 32 :: textS n ++ numsS ns
theorem textS_len (n : Int) : (textS n).length ≤ 10 := by
  unfold textS
  split
  · simp
  · split
    · simp
    · rename_i h1 h2
      have h := nDig_le 7 n.toNat (by omega)
      rw [Lib.decDigits_length]
      omega
theorem nums_loop (l : List Int) (hl : l.length < 1000000000) : ∀ (n : Nat) (out : Bs) (i k : Nat), i + n = l.length → n < k → out.length ≤ 11 * i →
    zaZ_.l0 k (B out) l (l.length : Int) (i : Int) = some (B (out ++ numsS (l.drop i)))
  | n, out, i, 0, hn, hk, ho => by omega
  | 0, out, i, k + 1, hn, hk, ho => by
    unfold zaZ_.l0
    rw [if_neg (by omega), List.drop_eq_nil_of_le (by omega)]
    simp [numsS]
  | n + 1, out, i, k + 1, hn, hk, ho => by
    unfold zaZ_.l0
    have hi : i < l.length := by omega
    have e0 : rd l (i : Int) = l[i] := by simp [rd, hi]
    have ht := textS_len l[i]
    rw [if_pos (by omega), if_pos (by omega), if_pos (by omega), e0, words_Text_eq, Option.bind_some, show (⟨#[32]⟩ : ByteArray) = B [32] from rfl, zbs_, size_B, size_B, size_B, if_pos (by omega), if_pos (by simp; omega), zbs_, w64s i (by omega),
      nums_loop l hl n _ (i + 1) k (by omega) (by omega) (by simp; omega), List.drop_eq_getElem_cons hi]
    simp [numsS]
theorem nums_eq (l : List Int) (hl : l.length < 1000000000) (k : Nat) (hk : l.length < k) : zaZ_.f k l = some (B (numsS l)) := by
  unfold zaZ_.f
  have := nums_loop l hl l.length [] 0 k (by omega) hk (Nat.zero_le _)
  rw [List.drop_zero, List.nil_append] at this
  exact this
end Go.Proofs.YtgkjoodlcojkkaaDoor.Y
end
section
namespace Go.Proofs.YtgkjoodlcojkkaaDoor.Y
open Go.RowKit Go.Proofs.YtgkjoodlcojkkaaDoorW.PrintWords Go.Proofs.YtgkjoodlcojkkaaDoorW.PrintLast Go.Proofs.YtgkjoodlcojkkaaDoorW.PrintMore Go.Proofs.YtgkjoodlcojkkaaDoor.QD
set_option linter.unusedVariables false
set_option linter.unusedSimpArgs false
theorem splitL_cons (c x : UInt8) (xs : Bs) : splitL c (x :: xs) = if x = c then [] :: splitL c xs else match splitL c xs with
    | [] => [[x]]
    | p :: ps => (x :: p) :: ps := rfl
theorem splitL_app (c : UInt8) : ∀ (a b : Bs), splitL c (a ++ c :: b) = splitL c a ++ splitL c b
  | [], b => by rw [List.nil_append, splitL_cons, if_pos rfl]; rfl
  | x :: xs, b => by
    have ih := splitL_app c xs b
    rw [List.cons_append, splitL_cons, splitL_cons, ih]
    by_cases h : x = c
    · rw [if_pos h, if_pos h]; rfl
    · rw [if_neg h, if_neg h]
      have hne := splitL_ne c xs
      generalize splitL c xs = ps at hne ⊢
      cases ps with
      | nil => exact absurd rfl hne
      | cons p ps => rfl
def wordsW (l : Bs) : List Bs := (splitL 32 l).filter ne
theorem wordsW_app (a b : Bs) : wordsW (a ++ 32 :: b) = wordsW a ++ wordsW b := by unfold wordsW; rw [splitL_app, List.filter_append]
theorem wordsW_one {w : Bs} (h : w ≠ []) (h32 : 32 ∉ w) : wordsW w = [w] := by
  unfold wordsW
  rw [splitL_no 32 h32]
  cases w with
  | nil => exact absurd rfl h
  | cons x xs => rfl
theorem wordsW_nil : wordsW [] = [] := rfl
theorem wordsL_of {l : Bs} (h : 35 ∉ l) : wordsL l = wordsW l := by unfold wordsL wordsW upto; rw [takeWhile_none 35 h]
end Go.Proofs.YtgkjoodlcojkkaaDoor.Y
end
section
namespace Go.Proofs.YtgkjoodlcojkkaaDoor.Y
open Go.RowKit Go.Proofs.YtgkjoodlcojkkaaDoorW.PrintWords Go.Proofs.YtgkjoodlcojkkaaDoorW.PrintLast Go.Proofs.YtgkjoodlcojkkaaDoorW.PrintMore Go.Proofs.YtgkjoodlcojkkaaDoor.QD
set_option linter.unusedVariables false
set_option linter.unusedSimpArgs false
def runB : Bs := [114, 117, 110]
def sleepB : Bs := [115, 108, 101, 101, 112]
def lockW : Bs := [108, 111, 99, 107]
def lockB : Bs := [108, 111, 99, 107, 58]
def nestB (w : Bs) : Bool := Lib.hasPrefix w lockB && Lib.contains (w.drop 5) lockB
def partOf (hd : Bs) (n : List Int) : S50 × Int :=
  if hd = runB ∧ n.length = 1 then (⟨1, n.getD 0 0, 0⟩, 0)
  else if hd = sleepB ∧ n.length = 1 then (⟨2, n.getD 0 0, 0⟩, 0)
  else if hd = lockW ∧ n.length = 2 then (⟨3, n.getD 1 0, n.getD 0 0⟩, 0)
  else (z50, 10)
def readsS (w : Bs) : S50 × Int :=
  if nestB w = true then (z50, 18)
  else match numbersS ((splitL 58 w).drop 1) with
    | none => (z50, 10)
    | some n => partOf ((splitL 58 w).getD 0 []) n
def partsS : List Bs → Option (List S50)
  | [] => some []
  | w :: ws => if (readsS w).2 = 0 then (partsS ws).map ((readsS w).1 :: ·) else none
def badS (w : List Bs) : Int := if (w.drop 1).any nestB = true then 18 else 10
def taskedS (w : List Bs) : S53 × Int :=
  if w.length < 6 then (z53, badS w)
  else match numbersS ((w.take 6).drop 2) with
    | none => (z53, badS w)
    | some n => match partsS (w.drop 6) with
      | none => (z53, badS w)
      | some ps => (⟨B (w.getD 1 []), n.getD 0 0, n.getD 1 0, n.getD 2 0, n.getD 3 0, ps⟩, 0)
def tasksS : List (Nat × List Bs) → List S53 × Nat × Int
  | [] => ([], 0, 0)
  | r :: rs => if r.2.getD 0 [] = taskB then
      if (taskedS r.2).2 = 0 then ((taskedS r.2).1 :: (tasksS rs).1, (tasksS rs).2) else ([], r.1, (taskedS r.2).2)
    else ([], r.1, 10)
abbrev PR := Int × List Int × List Int × List S53 × Int × Int
def bad (n : Nat) (e : Int) : PR := (0, [], [], [], (n : Int), e)
def finS (rs : List (Nat × List Bs)) (all : Nat) (p : Int) (cs hs : List Int) (first : Nat) (ts : List S53) : PR :=
  if (checkS p cs hs ts).2 = 0 then (p, cs, hs, ts, (all : Int), 0)
  else if 0 ≤ (checkS p cs hs ts).1 then bad (rs.getD (first + (checkS p cs hs ts).1.toNat) (0, [])).1 (checkS p cs hs ts).2
  else if (checkS p cs hs ts).2 = 14 ∨ (checkS p cs hs ts).2 = 11 then bad all (checkS p cs hs ts).2
  else bad (rs.getD 1 (0, [])).1 (checkS p cs hs ts).2
def parseR (rs : List (Nat × List Bs)) (all : Nat) : PR :=
  if (headS rs).2.2.2.2 = true then
    if (tasksS (rs.drop (headS rs).2.2.2.1)).2.2 = 0 then finS rs all (headS rs).1 (headS rs).2.1 (headS rs).2.2.1 (headS rs).2.2.2.1 (tasksS (rs.drop (headS rs).2.2.2.1)).1
    else bad (tasksS (rs.drop (headS rs).2.2.2.1)).2.1 (tasksS (rs.drop (headS rs).2.2.2.1)).2.2
  else bad (if (headS rs).2.2.2.1 < rs.length then (rs.getD (headS rs).2.2.2.1 (0, [])).1 else all) 10
def parseS (l : Bs) : PR := if l.length > 2000 then bad 0 11 else parseR (rowsS 0 (cutL 10 l)) (cutL 10 l).length
def protoW (p : Int) : Bs := if p = 1 then fairB else if p = 2 then agentB else tokenB
def partW (p : S50) : Bs := if p.f0 = 1 then runB ++ 58 :: textS p.f1 else if p.f0 = 2 then sleepB ++ 58 :: textS p.f1 else lockW ++ 58 :: (textS p.f2 ++ 58 :: textS p.f1)
def taskWs (t : S53) : List Bs := taskB :: t.f0.data.toList :: ([t.f1, t.f2, t.f3, t.f4].map textS ++ t.f5.map partW)
def setWs (p : Int) (cs hs : List Int) (ts : List S53) : List (List Bs) :=
  [protocolB, protoW p] :: (coresB :: cs.map textS) :: ((if hs = [] then [] else [homesB :: hs.map textS]) ++ ts.map taskWs)
def joinW : List Bs → Bs
  | [] => []
  | w :: ws => w ++ ws.flatMap (32 :: ·)
def linesT (ls : List (List Bs)) : Bs := ls.flatMap fun ws => joinW ws ++ [10]
def printS (p : Int) (cs hs : List Int) (ts : List S53) : Bs := if (checkS p cs hs ts).2 = 0 then linesT (setWs p cs hs ts) else []
def wok (w : Bs) : Prop := w ≠ [] ∧ 32 ∉ w ∧ 35 ∉ w ∧ 10 ∉ w
theorem digits_ok {l : Bs} (h : l.all digit = true) (c : UInt8) (hc : c.toNat < 48 ∨ 57 < c.toNat) : c ∉ l := by
  intro hm
  have := List.all_eq_true.1 h c hm
  rw [digit_iff] at this
  omega
theorem textS_val {n : Int} (h0 : 0 ≤ n) (h1 : n ≤ 9999999) : textS n = Lib.decDigits n.toNat := by unfold textS; rw [if_neg (by omega), if_neg (by omega)]
theorem textS_digits (n : Int) : (textS n).all digit = true := by
  unfold textS
  split
  · rfl
  · split
    · rfl
    · exact (dec_facts _).1
theorem textS_ne {n : Int} (h0 : 0 ≤ n) (h1 : n ≤ 9999999) : textS n ≠ [] := by rw [textS_val h0 h1]; exact (dec_facts _).2.2.1
theorem dec_len7 {n : Nat} (h : n ≤ 9999999) : (Lib.decDigits n).length ≤ 7 := by
  have hf := dec_facts n
  rcases Nat.eq_zero_or_pos n with rfl | hp
  · rw [dec_small (by omega)]; simp
  · rw [Lib.decDigits_length]
    have key : ∀ (j n : Nat), 0 < j → n < 10 ^ j → Lib.nDigits n ≤ j := by
      intro j
      induction j with
      | zero => intro n h; omega
      | succ j ih =>
        intro n _ hn
        have e := Lib.decDigits_length n
        by_cases h10 : n < 10
        · rw [dec_small h10] at e; simp at e; omega
        · rw [dec_big h10, List.length_append, Lib.decDigits_length] at e
          rcases Nat.eq_zero_or_pos j with rfl | hj
          · simp at hn; omega
          · have := ih (n / 10) hj (by rw [Nat.pow_succ] at hn; omega)
            simp at e; omega
    exact key 7 n (by omega) (by omega)
theorem numS_textS {n : Int} (h0 : 0 ≤ n) (h1 : n ≤ 9999999) : numS (textS n) = (n, true) := by
  rw [textS_val h0 h1]
  unfold numS
  have h := dec_len7 (n := n.toNat) (by omega)
  rw [good_dec, if_pos (by simpa using h), (dec_facts _).2.1]
  congr 1
  omega
theorem textS_wok {n : Int} (h0 : 0 ≤ n) (h1 : n ≤ 9999999) : wok (textS n) :=
  ⟨textS_ne h0 h1, digits_ok (textS_digits n) _ (by decide), digits_ok (textS_digits n) _ (by decide), digits_ok (textS_digits n) _ (by decide)⟩
theorem numbersS_text : ∀ (l : List Int), (∀ n ∈ l, 0 ≤ n ∧ n ≤ 9999999) → numbersS (l.map textS) = some l
  | [], _ => rfl
  | n :: l, h => by
    have hn := h n (by simp)
    rw [List.map_cons, zbE_, numS_textS hn.1 hn.2, if_pos rfl, numbersS_text l (fun m hm => h m (by simp [hm]))]
    rfl
theorem splitL_lines : ∀ (ls : List Bs), (∀ l ∈ ls, (10 : UInt8) ∉ l) → splitL 10 (ls.flatMap (· ++ [10])) = ls ++ [[]]
  | [], _ => rfl
  | l :: ls, h => by
    have h1 := h l (by simp)
    have e : (l :: ls).flatMap (· ++ [10]) = l ++ 10 :: ls.flatMap (· ++ [10]) := by simp
    rw [e, splitL_hit 10 _ h1, splitL_lines ls (fun x hx => h x (by simp [hx]))]
    rfl
theorem cutL_lines (ls : List Bs) (h : ∀ l ∈ ls, (10 : UInt8) ∉ l) : cutL 10 (ls.flatMap (· ++ [10])) = ls := by
  unfold cutL dropLastE
  rw [splitL_lines ls h]
  simp
theorem wordsW_join : ∀ (ws : List Bs), (∀ w ∈ ws, wok w) → wordsW (joinW ws) = ws
  | [], _ => rfl
  | [w], h => by
    have hw := h w (by simp)
    simp only [joinW, List.flatMap_nil, List.append_nil]
    exact wordsW_one hw.1 hw.2.1
  | w :: v :: ws, h => by
    have hw := h w (by simp)
    have e : joinW (w :: v :: ws) = w ++ 32 :: joinW (v :: ws) := by simp [joinW]
    rw [e, wordsW_app, wordsW_one hw.1 hw.2.1, wordsW_join (v :: ws) (fun x hx => h x (by simp [hx]))]
    rfl
theorem join_no (c : UInt8) (hc : c ≠ 32) : ∀ (ws : List Bs), (∀ w ∈ ws, c ∉ w) → c ∉ joinW ws
  | [], _ => by simp [joinW]
  | w :: ws, h => by
    simp only [joinW, List.mem_append, List.mem_flatMap, List.mem_cons, not_or, not_exists, not_and]
    exact ⟨h w (by simp), fun x hx => ⟨hc, h x (by simp [hx])⟩⟩
theorem wordsL_join (ws : List Bs) (h : ∀ w ∈ ws, wok w) : wordsL (joinW ws) = ws := by
  rw [wordsL_of (join_no 35 (by decide) ws (fun w hw => (h w hw).2.2.1)), wordsW_join ws h]
theorem cutL_linesT (ls : List (List Bs)) (h : ∀ ws ∈ ls, ∀ w ∈ ws, wok w) : cutL 10 (linesT ls) = ls.map joinW := by
  unfold linesT
  have e : (ls.flatMap fun ws => joinW ws ++ [10]) = (ls.map joinW).flatMap (· ++ [10]) := by rw [List.flatMap_map]
  rw [e, cutL_lines]
  intro l hl
  obtain ⟨ws, hws, rfl⟩ := List.mem_map.1 hl
  exact join_no 10 (by decide) ws (fun w hw => (h ws hws w hw).2.2.2)
theorem rowsS_map : ∀ (l : List Bs) (i : Nat), (rowsS i l).map (·.2) = (l.map wordsL).filter (fun w => !w.isEmpty)
  | [], i => rfl
  | s :: ss, i => by
    rw [rowsS_cons, List.map_cons]
    by_cases h : wordsL s = []
    · rw [if_pos h, rowsS_map ss, List.filter_cons_of_neg (by simp [h])]
    · rw [if_neg h, List.map_cons, rowsS_map ss, List.filter_cons_of_pos (by simp [h])]
theorem pWord_proto {p : Int} (h : btw p 1 3 = true) : pWord (protoW p) = p := by
  unfold btw at h
  simp only [Bool.and_eq_true, decide_eq_true_eq] at h
  have : p = 1 ∨ p = 2 ∨ p = 3 := by omega
  rcases this with rfl | rfl | rfl <;> decide
theorem protoW_wok (p : Int) : wok (protoW p) := by
  unfold protoW wok
  split
  · decide
  · split <;> decide
theorem contains_mem {w : Bs} (h : Lib.contains w lockB = true) : (108 : UInt8) ∈ w := by
  unfold Lib.contains at h
  rcases Lib.index_spec w lockB with ⟨h1, _⟩ | ⟨i, h1, h2, h3, _⟩
  · rw [h1] at h; simp at h
  · unfold Lib.occAt at h3
    have hp : lockB <+: w.drop i := List.isPrefixOf_iff_prefix.1 h3
    exact List.drop_subset _ _ (hp.subset (by decide))
theorem nest_no {w : Bs} (h : (108 : UInt8) ∉ w.drop 5) : nestB w = false := by
  unfold nestB
  have : Lib.contains (w.drop 5) lockB = false := Bool.eq_false_iff.2 (fun e => h (contains_mem e))
  rw [this, Bool.and_false]
theorem digits_no58 {l : Bs} (h : l.all digit = true) : (58 : UInt8) ∉ l := digits_ok h _ (by decide)
theorem digits_no108 {l : Bs} (h : l.all digit = true) : (108 : UInt8) ∉ l := digits_ok h _ (by decide)
theorem partW_ok {nh : Nat} (hnh : nh ≤ 9999999) {p : S50} (h : partOkS nh p = true) : readsS (partW p) = (p, 0) ∧ wok (partW p) ∧ nestB (partW p) = false := by
  unfold partOkS btw at h
  simp only [Bool.and_eq_true, decide_eq_true_eq] at h
  obtain ⟨⟨⟨h1, h2⟩, h3, h4⟩, h5⟩ := h
  have d1 := textS_digits p.f1
  have d2 := textS_digits p.f2
  have w1 := textS_wok (n := p.f1) (by omega) (by omega)
  have n1 := numS_textS (n := p.f1) (by omega) (by omega)
  have hk : p.f0 = 1 ∨ p.f0 = 2 ∨ p.f0 = 3 := by omega
  rcases hk with hk | hk | hk
  · rw [hk, if_neg (by decide)] at h5
    have h5' : p.f2 = 0 := by simpa using h5
    have e : partW p = runB ++ 58 :: textS p.f1 := by unfold partW; rw [if_pos hk]
    have hn : nestB (partW p) = false := by
      rw [e]; refine nest_no (fun hm => ?_)
      exact digits_no108 d1 (List.drop_subset 1 _ (by simpa [runB] using hm))
    refine ⟨?_, ?_, hn⟩
    · unfold readsS
      rw [hn, if_neg Bool.false_ne_true, e, splitL_hit 58 _ (by decide), splitL_no 58 (digits_no58 d1)]
      simp only [List.drop_succ_cons, List.drop_zero, zbE_, n1, if_pos, numbersS, Option.map_some, List.getD_cons_zero]
      unfold partOf
      rw [if_pos ⟨rfl, rfl⟩]
      cases p
      simp_all
    · rw [e]; exact ⟨by simp [runB], by simp [runB, w1.2.1], by simp [runB, w1.2.2.1], by simp [runB, w1.2.2.2]⟩
  · rw [hk, if_neg (by decide)] at h5
    have h5' : p.f2 = 0 := by simpa using h5
    have e : partW p = sleepB ++ 58 :: textS p.f1 := by unfold partW; rw [if_neg (by omega), if_pos hk]
    have hn : nestB (partW p) = false := by
      rw [e]; refine nest_no (fun hm => ?_)
      have : (108 : UInt8) ∈ 58 :: textS p.f1 := by simpa [sleepB] using hm
      rcases List.mem_cons.1 this with h | h
      · exact absurd h (by decide)
      · exact digits_no108 d1 h
    refine ⟨?_, ?_, hn⟩
    · unfold readsS
      rw [hn, if_neg Bool.false_ne_true, e, splitL_hit 58 _ (by decide), splitL_no 58 (digits_no58 d1)]
      simp only [List.drop_succ_cons, List.drop_zero, zbE_, n1, if_pos, numbersS, Option.map_some, List.getD_cons_zero]
      unfold partOf
      rw [if_neg (fun h => absurd h.1 (by decide)), if_pos ⟨rfl, rfl⟩]
      cases p
      simp_all
    · rw [e]; exact ⟨by simp [sleepB], by simp [sleepB, w1.2.1], by simp [sleepB, w1.2.2.1], by simp [sleepB, w1.2.2.2]⟩
  · rw [hk, if_pos rfl] at h5
    simp only [Bool.and_eq_true, decide_eq_true_eq] at h5
    have w2 := textS_wok (n := p.f2) (by omega) (by omega)
    have n2 := numS_textS (n := p.f2) (by omega) (by omega)
    have e : partW p = lockW ++ 58 :: (textS p.f2 ++ 58 :: textS p.f1) := by unfold partW; rw [if_neg (by omega), if_neg (by omega)]
    have hn : nestB (partW p) = false := by
      rw [e]; refine nest_no (fun hm => ?_)
      have : (108 : UInt8) ∈ textS p.f2 ++ 58 :: textS p.f1 := by simpa [lockW] using hm
      rcases List.mem_append.1 this with h | h
      · exact digits_no108 d2 h
      · rcases List.mem_cons.1 h with h | h
        · exact absurd h (by decide)
        · exact digits_no108 d1 h
    refine ⟨?_, ?_, hn⟩
    · unfold readsS
      rw [hn, if_neg Bool.false_ne_true, e, splitL_hit 58 _ (by decide), splitL_hit 58 _ (digits_no58 d2), splitL_no 58 (digits_no58 d1)]
      simp only [List.drop_succ_cons, List.drop_zero, zbE_, n1, n2, if_pos, numbersS, Option.map_some, List.getD_cons_zero]
      unfold partOf
      rw [if_neg (fun h => absurd h.1 (by decide)), if_neg (fun h => absurd h.1 (by decide)), if_pos ⟨rfl, rfl⟩]
      cases p
      simp_all
    · rw [e]; exact ⟨by simp [lockW], by simp [lockW, w1.2.1, w2.2.1], by simp [lockW, w1.2.2.1, w2.2.2.1], by simp [lockW, w1.2.2.2, w2.2.2.2]⟩
theorem partsS_ok {nh : Nat} (hnh : nh ≤ 9999999) : ∀ (ps : List S50), ps.all (partOkS nh) = true → partsS (ps.map partW) = some ps
  | [], _ => rfl
  | p :: ps, h => by
    rw [List.all_cons, Bool.and_eq_true] at h
    have hp := (partW_ok hnh h.1).1
    rw [List.map_cons]
    unfold partsS
    rw [hp, if_pos rfl, partsS_ok hnh ps h.2]
    rfl
theorem nameGo_mem : ∀ {l : Bs} {b : Bool}, nameGo b l = true → ∀ x ∈ l, letter x = true ∨ digit x = true
  | [], _, _, x, hx => by simp at hx
  | y :: ys, b, h, x, hx => by
    rw [nameGo_cons, Bool.and_eq_true] at h
    rcases List.mem_cons.1 hx with rfl | hx
    · have := h.1
      simp only [Bool.or_eq_true, Bool.and_eq_true] at this
      rcases this with h | h
      · exact .inl h
      · exact .inr h.2
    · exact nameGo_mem h.2 x hx
theorem name_wok {l : Bs} (h : nameS l = true) : wok l ∧ (58 : UInt8) ∉ l := by
  unfold nameS at h
  simp only [Bool.and_eq_true] at h
  have key : ∀ c : UInt8, letter c = false → digit c = false → c ∉ l := by
    intro c h1 h2 hm
    rcases nameGo_mem h.1 c hm with h' | h'
    · rw [h1] at h'; cases h'
    · rw [h2] at h'; cases h'
  refine ⟨⟨?_, key _ (by decide) (by decide), key _ (by decide) (by decide), key _ (by decide) (by decide)⟩, key _ (by decide) (by decide)⟩
  intro e; rw [e] at h; simp at h
structure OkT (cs hs : List Int) (t : S53) : Prop where
  name : nameS t.f0.data.toList = true
  f1 : 1 ≤ t.f1 ∧ t.f1 ≤ 3000
  f2 : 1 ≤ t.f2 ∧ t.f2 ≤ t.f1
  f3 : 1 ≤ t.f3 ∧ t.f3 ≤ 1000
  f4 : 0 ≤ t.f4 ∧ t.f4 ≤ (cs.length : Int) - 1
  parts : t.f5.all (partOkS hs.length) = true
  np : 1 ≤ t.f5.length ∧ t.f5.length ≤ 6
structure OkS (p : Int) (cs hs : List Int) (ts : List S53) : Prop where
  kp : btw p 1 3 = true
  ncs : 1 ≤ cs.length ∧ cs.length ≤ 3
  nhs : hs.length ≤ 4
  core : ∀ n ∈ cs, 1 ≤ n ∧ n ≤ 3
  home : ∀ n ∈ hs, 0 ≤ n ∧ n ≤ (cs.length : Int) - 1
  nts : 1 ≤ ts.length ∧ ts.length ≤ 6
  each : ∀ t ∈ ts, OkT cs hs t
theorem okT_of {cs hs : List Int} {ts : List S53} {t : S53} {i : Nat} (h : oneS cs hs ts t i = 0) : OkT cs hs t := by
  unfold oneS at h
  by_cases h1 : badForm (nameS t.f0.data.toList) t = true
  · rw [if_pos h1] at h; exact absurd h (by decide)
  rw [if_neg h1] at h
  by_cases h2 : btw t.f4 0 ((cs.length : Int) - 1) = false
  · rw [if_pos h2] at h; exact absurd h (by decide)
  rw [if_neg h2] at h
  by_cases h3 : ((ts.take i).any fun o => twb o.f0 o.f3 t.f0 t.f3) = true
  · rw [if_pos h3] at h; exact absurd h (by decide)
  rw [if_neg h3] at h
  by_cases h4 : partedS hs.length t.f5 = true
  · unfold badForm at h1
    unfold partedS at h4
    simp only [btw, Bool.not_eq_true, Bool.or_eq_false_iff, Bool.not_eq_false', Bool.and_eq_true, decide_eq_true_eq, Bool.not_eq_false] at h1 h2 h4
    exact ⟨h1.1.1.1, by omega, by omega, by omega, by omega, h4.1, by omega⟩
  · rw [if_neg h4] at h; exact absurd h (by decide)
theorem checkGo_ok {cs hs : List Int} {ts : List S53} : ∀ (l : List S53) (i : Nat), (checkGo cs hs ts i l).2 = 0 → ∀ t ∈ l, OkT cs hs t
  | [], _, _, t, ht => by simp at ht
  | x :: l, i, h, t, ht => by
    unfold checkGo at h
    by_cases h1 : oneS cs hs ts x i = 0
    · rw [if_pos h1] at h
      rcases List.mem_cons.1 ht with rfl | ht
      · exact okT_of h1
      · exact checkGo_ok l _ h t ht
    · rw [if_neg h1] at h; exact absurd h h1
theorem okS_of {p : Int} {cs hs : List Int} {ts : List S53} (h : (checkS p cs hs ts).2 = 0) : OkS p cs hs ts := by
  unfold checkS at h
  by_cases h1 : btw p 1 3 = true
  · rw [if_pos h1] at h
    by_cases h2 : plB cs hs = true
    · rw [if_pos h2] at h
      by_cases h3 : ts.length > 6
      · rw [if_pos h3] at h; exact absurd h (by decide)
      · rw [if_neg h3] at h
        by_cases h4 : ts.length = 0
        · rw [if_pos h4] at h; exact absurd h (by decide)
        · rw [if_neg h4] at h
          unfold plB at h2
          simp only [Bool.and_eq_true, decide_eq_true_eq, Bool.not_eq_true', List.any_eq_false, Bool.not_eq_false, Bool.not_eq_true'] at h2
          obtain ⟨⟨⟨a, b⟩, c⟩, d⟩ := h2
          refine ⟨h1, ?_, b, fun n hn => ?_, fun n hn => ?_, by omega, checkGo_ok ts 0 h⟩
          · unfold btw at a; simp only [Bool.and_eq_true, decide_eq_true_eq] at a; omega
          · have := c n hn; unfold btw at this; simp at this; omega
          · have := d n hn; unfold btw at this; simp at this; omega
    · rw [if_neg h2] at h; exact absurd h (by decide)
  · rw [if_neg h1] at h; exact absurd h (by decide)
theorem taskWs_ok {cs hs : List Int} (hc : cs.length ≤ 3) (hh : hs.length ≤ 4) {t : S53} (h : OkT cs hs t) : taskedS (taskWs t) = (t, 0) ∧ ∀ w ∈ taskWs t, wok w := by
  have e4 : ∀ n ∈ [t.f1, t.f2, t.f3, t.f4], 0 ≤ n ∧ n ≤ 9999999 := by
    have h1 := h.f1; have h2 := h.f2; have h3 := h.f3; have h4 := h.f4
    intro n hn
    simp only [List.mem_cons, List.not_mem_nil, or_false] at hn
    rcases hn with rfl | rfl | rfl | rfl <;> omega
  constructor
  · unfold taskedS
    have hn := numbersS_text _ e4
    have hp := partsS_ok (by omega) _ h.parts
    have hlen : ¬ (taskWs t).length < 6 := by unfold taskWs; simp
    rw [if_neg hlen]
    have d1 : ((taskWs t).take 6).drop 2 = [t.f1, t.f2, t.f3, t.f4].map textS := by unfold taskWs; simp
    have d2 : (taskWs t).drop 6 = t.f5.map partW := by unfold taskWs; simp
    have d3 : (taskWs t).getD 1 [] = t.f0.data.toList := rfl
    rw [d1, d2, d3, hn, hp, B_data]
    cases t
    rfl
  · intro w hw
    unfold taskWs at hw
    rcases List.mem_cons.1 hw with rfl | hw
    · unfold wok; decide
    rcases List.mem_cons.1 hw with rfl | hw
    · exact (name_wok h.name).1
    rcases List.mem_append.1 hw with hw | hw
    · obtain ⟨n, hn, rfl⟩ := List.mem_map.1 hw
      exact textS_wok (e4 n hn).1 (e4 n hn).2
    · obtain ⟨q, hq, rfl⟩ := List.mem_map.1 hw
      exact (partW_ok (by omega) (List.all_eq_true.1 h.parts q hq)).2.1
theorem setWs_ok {p : Int} {cs hs : List Int} {ts : List S53} (h : OkS p cs hs ts) : ∀ ws ∈ setWs p cs hs ts, ws ≠ [] ∧ ∀ w ∈ ws, wok w := by
  intro ws hws
  unfold setWs at hws
  rcases List.mem_cons.1 hws with rfl | hws
  · refine ⟨by simp, fun w hw => ?_⟩
    simp only [List.mem_cons, List.not_mem_nil, or_false] at hw
    rcases hw with rfl | rfl
    · unfold wok; decide
    · exact protoW_wok p
  rcases List.mem_cons.1 hws with rfl | hws
  · refine ⟨by simp, fun w hw => ?_⟩
    rcases List.mem_cons.1 hw with rfl | hw
    · unfold wok; decide
    · obtain ⟨n, hn, rfl⟩ := List.mem_map.1 hw
      have := h.core n hn
      exact textS_wok (by omega) (by omega)
  rcases List.mem_append.1 hws with hws | hws
  · by_cases hh : hs = []
    · rw [if_pos hh] at hws; simp at hws
    · rw [if_neg hh] at hws
      obtain rfl : ws = homesB :: hs.map textS := by simpa using hws
      refine ⟨by simp, fun w hw => ?_⟩
      rcases List.mem_cons.1 hw with rfl | hw
      · unfold wok; decide
      · obtain ⟨n, hn, rfl⟩ := List.mem_map.1 hw
        have := h.home n hn
        have := h.ncs
        exact textS_wok (by omega) (by omega)
  · obtain ⟨t, ht, rfl⟩ := List.mem_map.1 hws
    exact ⟨by simp [taskWs], (taskWs_ok h.ncs.2 h.nhs (h.each t ht)).2⟩
theorem tasksS_ok {cs hs : List Int} (hc : cs.length ≤ 3) (hh : hs.length ≤ 4) : ∀ (ts : List S53) (rs : List (Nat × List Bs)), (∀ t ∈ ts, OkT cs hs t) → rs.map (·.2) = ts.map taskWs → tasksS rs = (ts, 0, 0)
  | [], [], _, _ => rfl
  | [], r :: rs, _, e => by simp at e
  | t :: ts, [], _, e => by simp at e
  | t :: ts, r :: rs, h, e => by
    rw [List.map_cons, List.map_cons, List.cons.injEq] at e
    have ht := (taskWs_ok hc hh (h t (by simp))).1
    unfold tasksS
    rw [e.1, ht, if_pos (show (taskWs t).getD 0 [] = taskB from rfl), if_pos (show ((t, (0 : Int)).2 = 0) from rfl), tasksS_ok hc hh ts rs (fun x hx => h x (by simp [hx])) e.2]
theorem parseR_ok {p : Int} {cs hs : List Int} {ts : List S53} (hck : (checkS p cs hs ts).2 = 0) (rs : List (Nat × List Bs)) (all : Nat) (e : rs.map (·.2) = setWs p cs hs ts) : parseR rs all = (p, cs, hs, ts, (all : Int), 0) := by
  have h := okS_of hck
  have hcs : numbersS (cs.map textS) = some cs := numbersS_text cs (fun n hn => by have := h.core n hn; omega)
  have hhs : numbersS (hs.map textS) = some hs := numbersS_text hs (fun n hn => by have := h.home n hn; have := h.ncs; omega)
  have hpw := pWord_proto h.kp
  have hp0 : p ≠ 0 := by intro e; rw [e] at h; exact absurd h.kp (by decide)
  obtain ⟨c, cs', rfl⟩ : ∃ c cs', cs = c :: cs' := by
    cases cs with
    | nil => exact absurd h.ncs.1 (by simp)
    | cons c cs' => exact ⟨c, cs', rfl⟩
  obtain ⟨t0, ts', rfl⟩ : ∃ t ts', ts = t :: ts' := by
    cases ts with
    | nil => exact absurd h.nts.1 (by simp)
    | cons t ts' => exact ⟨t, ts', rfl⟩
  match rs, e with
  | [], e => simp [setWs] at e
  | [r0], e => simp [setWs] at e
  | r0 :: r1 :: rest, e =>
    unfold setWs at e
    rw [List.map_cons, List.map_cons, List.cons.injEq, List.cons.injEq] at e
    obtain ⟨e0, e1, e⟩ := e
    have hh : headS (r0 :: r1 :: rest) = headT (r0 :: r1 :: rest) p := by
      simp only [headS, e0, List.getD_cons_zero, List.getD_cons_succ, hpw, if_neg hp0]
      rfl
    have key : ∀ (f : Nat), headS (r0 :: r1 :: rest) = (p, c :: cs', hs, f, true) → tasksS ((r0 :: r1 :: rest).drop f) = (t0 :: ts', 0, 0) → parseR (r0 :: r1 :: rest) all = (p, c :: cs', hs, t0 :: ts', (all : Int), 0) := by
      intro f h1 h2
      unfold parseR
      rw [h1]
      simp only [if_true]
      rw [h2]
      simp only [if_true]
      unfold finS
      rw [if_pos hck]
    by_cases hhe : hs = []
    · subst hhe
      rw [if_pos rfl, List.nil_append] at e
      refine key 2 ?_ (tasksS_ok h.ncs.2 h.nhs _ _ h.each e)
      rw [hh]
      cases rest with
      | nil => simp at e
      | cons r2 rest =>
        rw [List.map_cons, List.map_cons, List.cons.injEq] at e
        have d1 : List.drop 1 (coresB :: List.map textS (c :: cs')) = List.map textS (c :: cs') := rfl
        have ne1 : ¬ taskB = homesB := by decide
        simp only [headT, e1, e.1, taskWs, List.getD_cons_zero, d1, hcs, if_neg ne1]
        rfl
    · rw [if_neg hhe] at e
      obtain ⟨y, hs', rfl⟩ : ∃ y hs', hs = y :: hs' := by
        cases hs with
        | nil => exact absurd rfl hhe
        | cons y hs' => exact ⟨y, hs', rfl⟩
      cases rest with
      | nil => simp at e
      | cons r2 rest =>
        rw [List.map_cons, List.cons_append, List.nil_append, List.cons.injEq] at e
        refine key 3 ?_ (tasksS_ok h.ncs.2 h.nhs _ _ h.each e.2)
        rw [hh]
        have d1 : List.drop 1 (coresB :: List.map textS (c :: cs')) = List.map textS (c :: cs') := rfl
        have d2 : List.drop 1 (homesB :: List.map textS (y :: hs')) = List.map textS (y :: hs') := rfl
        simp only [headT, e1, e.1, List.getD_cons_zero, d1, d2, hcs, hhs]
        rfl
theorem rows_set {p : Int} {cs hs : List Int} {ts : List S53} (h : OkS p cs hs ts) : (rowsS 0 (cutL 10 (linesT (setWs p cs hs ts)))).map (·.2) = setWs p cs hs ts := by
  have hok := setWs_ok h
  rw [cutL_linesT _ (fun ws hws => (hok ws hws).2), rowsS_map, List.map_map]
  have e : List.map (wordsL ∘ joinW) (setWs p cs hs ts) = setWs p cs hs ts := by
    conv => rhs; rw [← List.map_id (setWs p cs hs ts)]
    exact List.map_congr_left (fun ws hws => wordsL_join ws (hok ws hws).2)
  rw [e, List.filter_eq_self]
  intro ws hws
  simp [(hok ws hws).1]
end Go.Proofs.YtgkjoodlcojkkaaDoor.Y
end
section
namespace Go.Proofs.YtgkjoodlcojkkaaDoor.Y
open Go.RowKit Go.Proofs.YtgkjoodlcojkkaaDoorW.PrintWords Go.Proofs.YtgkjoodlcojkkaaDoorW.PrintLast Go.Proofs.YtgkjoodlcojkkaaDoorW.PrintMore Go.Proofs.YtgkjoodlcojkkaaDoor.QD
set_option linter.unusedVariables false
set_option linter.unusedSimpArgs false
def nonE (w : List Bs) : Bool := !w.isEmpty
def WL (l : Bs) : List (List Bs) := ((splitL 10 l).map wordsL).filter nonE
theorem wordsL_nil : wordsL [] = [] := rfl
theorem filter_dropLastE' (ps : List Bs) : ((dropLastE ps).map wordsL).filter nonE = (ps.map wordsL).filter nonE := by
  unfold dropLastE
  split
  · rename_i h
    have hne : ps ≠ [] := by intro e; rw [e] at h; simp at h
    have hl : ps.getLast hne = [] := by rw [List.getLast?_eq_some_getLast hne] at h; exact Option.some.inj h
    conv => rhs; rw [← List.dropLast_concat_getLast hne, hl]
    rw [List.map_append, List.filter_append]
    simp [wordsL_nil, nonE]
  · rfl
theorem rows_WL (l : Bs) : (rowsS 0 (cutL 10 l)).map (·.2) = WL l := by
  rw [rowsS_map]
  exact filter_dropLastE' _
theorem WL_line {a : Bs} (b : Bs) (h : (10 : UInt8) ∉ a) : WL (a ++ 10 :: b) = (if wordsL a = [] then [] else [wordsL a]) ++ WL b := by
  unfold WL
  rw [splitL_hit 10 b h, List.map_cons]
  by_cases c : wordsL a = []
  · rw [if_pos c, List.filter_cons_of_neg (by simp [nonE, c])]; rfl
  · rw [if_neg c, List.filter_cons_of_pos (by simp [nonE, c])]; rfl
theorem WL_end {a : Bs} (h : (10 : UInt8) ∉ a) : WL a = (if wordsL a = [] then [] else [wordsL a]) := by
  unfold WL
  rw [splitL_no 10 h]
  by_cases c : wordsL a = []
  · rw [if_pos c]; simp [nonE, c]
  · rw [if_neg c]; simp [nonE, c]
def moreB : Bs := [32, 32, 35, 32, 109, 111, 114, 101]
def pieces (g : Nat → Bool) : Nat → Nat → Bs → Bs
  | _, _, [] => []
  | i, n, c :: cs =>
    if c = 10 then (if g (n + 1) = true then moreB else []) ++ 10 :: ((if g (n + 1 + 5) = true then [32, 32, 32, 10] else []) ++ pieces g (i + 1) (n + 1) cs)
    else if c = 32 then (if g i = true then [32] else []) ++ 32 :: pieces g (i + 1) n cs
    else c :: pieces g (i + 1) n cs
structure GapInv (x y : Bs) : Prop where
  z : ∀ z, wordsW (y ++ z) = wordsW (x ++ z)
  x10 : (10 : UInt8) ∉ x
  y10 : (10 : UInt8) ∉ y
  x35 : (35 : UInt8) ∉ x
  y35 : (35 : UInt8) ∉ y
theorem GapInv.nil : GapInv [] [] := ⟨fun _ => rfl, by simp, by simp, by simp, by simp⟩
theorem GapInv.snoc {x y : Bs} (h : GapInv x y) {c : UInt8} (h10 : c ≠ 10) (h35 : c ≠ 35) : GapInv (x ++ [c]) (y ++ [c]) :=
  ⟨fun z => by rw [List.append_assoc, List.append_assoc]; exact h.z _, by simp [h.x10, h10.symm], by simp [h.y10, h10.symm], by simp [h.x35, h35.symm], by simp [h.y35, h35.symm]⟩
theorem wordsW_blank (z : Bs) : wordsW (32 :: z) = wordsW z := by
  have := wordsW_app [] z
  simpa [wordsW_nil] using this
theorem GapInv.two {x y : Bs} (h : GapInv x y) : GapInv (x ++ [32]) (y ++ [32, 32]) :=
  ⟨fun z => by
    rw [List.append_assoc, List.append_assoc]
    have e1 : y ++ ([32, 32] ++ z) = y ++ 32 :: (32 :: z) := rfl
    have e2 : x ++ ([32] ++ z) = x ++ 32 :: z := rfl
    rw [e1, e2, wordsW_app, wordsW_app, wordsW_blank]
    have := h.z []
    rw [List.append_nil, List.append_nil] at this
    rw [this], by simp [h.x10], by simp [h.y10], by simp [h.x35], by simp [h.y35]⟩
theorem GapInv.line {x y : Bs} (h : GapInv x y) : wordsL y = wordsL x := by
  have := h.z []
  rw [List.append_nil, List.append_nil] at this
  rw [wordsL_of h.y35, wordsL_of h.x35, this]
theorem upto_app {y m : Bs} (h : (35 : UInt8) ∉ y) : upto (y ++ m) = y ++ upto m := by
  unfold upto
  rw [List.takeWhile_append_of_pos (by intro x hx; simp; intro e; exact h (e ▸ hx))]
theorem GapInv.more {x y : Bs} (h : GapInv x y) : wordsL (y ++ moreB) = wordsL x := by
  rw [← h.line]
  unfold wordsL
  rw [upto_app h.y35, show upto moreB = [32, 32] from by decide]
  have e1 : y ++ [32, 32] = y ++ 32 :: [32] := rfl
  have h2 := wordsW_app y [32]
  have h3 := wordsW_app [] []
  unfold wordsW at h2 h3
  rw [e1, h2]
  have hu : upto y = y := takeWhile_none 35 h.y35
  rw [hu]
  have : (splitL 32 [32]).filter ne = [] := by decide
  rw [this, List.append_nil]
theorem pieces_WL (g : Nat → Bool) : ∀ (cs : Bs) (i n : Nat) (x y : Bs), (35 : UInt8) ∉ cs → GapInv x y → WL (y ++ pieces g i n cs) = WL (x ++ cs)
  | [], i, n, x, y, _, h => by
    unfold pieces
    rw [List.append_nil, List.append_nil, WL_end h.y10, WL_end h.x10, h.line]
  | c :: cs, i, n, x, y, h35, h => by
    have hc : c ≠ 35 := fun e => h35 (by simp [e])
    have hcs : (35 : UInt8) ∉ cs := fun e => h35 (by simp [e])
    unfold pieces
    by_cases c10 : c = 10
    · rw [if_pos c10, c10]
      have ih := pieces_WL g cs (i + 1) (n + 1) [] [] hcs .nil
      rw [List.nil_append, List.nil_append] at ih
      have tail : WL ((if g (n + 1 + 5) = true then [32, 32, 32, 10] else []) ++ pieces g (i + 1) (n + 1) cs) = WL cs := by
        by_cases g5 : g (n + 1 + 5) = true
        · rw [if_pos g5]
          have e : [32, 32, 32, 10] ++ pieces g (i + 1) (n + 1) cs = [32, 32, 32] ++ 10 :: pieces g (i + 1) (n + 1) cs := rfl
          rw [e, WL_line _ (by decide), if_pos (by decide), ih]; rfl
        · rw [if_neg g5, List.nil_append, ih]
      rw [WL_line cs h.x10]
      by_cases g1 : g (n + 1) = true
      · rw [if_pos g1]
        have hm : (10 : UInt8) ∉ y ++ moreB := by
          intro hm
          rcases List.mem_append.1 hm with h' | h'
          · exact h.y10 h'
          · exact absurd h' (by decide)
        rw [← List.append_assoc, WL_line _ hm, h.more, tail]
      · rw [if_neg g1, List.nil_append, WL_line _ h.y10, h.line, tail]
    · rw [if_neg c10]
      by_cases c32 : c = 32
      · rw [if_pos c32, c32]
        by_cases gi : g i = true
        · rw [if_pos gi]
          have := pieces_WL g cs (i + 1) n (x ++ [32]) (y ++ [32, 32]) hcs h.two
          simpa using this
        · rw [if_neg gi, List.nil_append]
          have := pieces_WL g cs (i + 1) n (x ++ [32]) (y ++ [32]) hcs (h.snoc (by decide) (by decide))
          simpa using this
      · rw [if_neg c32]
        have := pieces_WL g cs (i + 1) n (x ++ [c]) (y ++ [c]) hcs (h.snoc c10 hc)
        simpa using this
theorem joinW_len (m : Nat) : ∀ (ws : List Bs), (∀ w ∈ ws, w.length ≤ m) → (joinW ws).length ≤ ws.length * (m + 1)
  | [], _ => by simp [joinW]
  | w :: ws, h => by
    have key : ∀ (l : List Bs), (∀ w ∈ l, w.length ≤ m) → (l.flatMap (32 :: ·)).length ≤ l.length * (m + 1) := by
      intro l
      induction l with
      | nil => intro _; simp
      | cons a l ih =>
        intro hl
        have h1 := hl a (by simp)
        have h2 := ih (fun x hx => hl x (by simp [hx]))
        rw [List.flatMap_cons, List.length_append, List.length_cons, List.length_cons, Nat.add_mul, Nat.one_mul]
        omega
    have h1 := h w (by simp)
    have h2 := key ws (fun x hx => h x (by simp [hx]))
    simp only [joinW, List.length_append, List.length_cons, Nat.add_mul, Nat.one_mul]
    omega
theorem textS_len7 {n : Int} (h1 : n ≤ 9999999) : (textS n).length ≤ 7 := by
  by_cases h0 : 0 ≤ n
  · rw [textS_val h0 h1]; exact dec_len7 (by omega)
  · unfold textS; rw [if_pos (by omega)]; simp
theorem lines_len (m : Nat) : ∀ (ls : List (List Bs)), (∀ ws ∈ ls, (joinW ws).length ≤ m) → (linesT ls).length ≤ ls.length * (m + 1)
  | [], _ => by simp [linesT]
  | ws :: ls, h => by
    have h1 := h ws (by simp)
    have h2 := lines_len m ls (fun x hx => h x (by simp [hx]))
    unfold linesT at h2 ⊢
    rw [List.flatMap_cons, List.length_append, List.length_append, List.length_cons (a := ws), Nat.add_mul, Nat.one_mul]
    simp only [List.length_cons, List.length_nil]
    omega
theorem set_len {p : Int} {cs hs : List Int} {ts : List S53} (h : OkS p cs hs ts) : (linesT (setWs p cs hs ts)).length ≤ 2000 := by
  have e : setWs p cs hs ts = ([[protocolB, protoW p], coresB :: cs.map textS] ++ (if hs = [] then [] else [homesB :: hs.map textS])) ++ ts.map taskWs := by
    unfold setWs; simp
  have hA : ∀ (a b : List (List Bs)), linesT (a ++ b) = linesT a ++ linesT b := by intro a b; unfold linesT; rw [List.flatMap_append]
  have h1 : (linesT ([[protocolB, protoW p], coresB :: cs.map textS] ++ (if hs = [] then [] else [homesB :: hs.map textS]))).length ≤ 3 * (45 + 1) := by
    refine Nat.le_trans (lines_len 45 _ ?_) ?_
    · intro ws hws
      rcases List.mem_append.1 hws with hws | hws
      · simp only [List.mem_cons, List.not_mem_nil, or_false] at hws
        rcases hws with rfl | rfl
        · refine Nat.le_trans (joinW_len 8 _ ?_) (by simp)
          intro w hw
          simp only [List.mem_cons, List.not_mem_nil, or_false] at hw
          rcases hw with rfl | rfl
          · decide
          · unfold protoW; split
            · decide
            · split <;> decide
        · refine Nat.le_trans (joinW_len 7 _ ?_) ?_
          · intro w hw
            rcases List.mem_cons.1 hw with rfl | hw
            · decide
            · obtain ⟨n, hn, rfl⟩ := List.mem_map.1 hw
              exact textS_len7 (by have := h.core n hn; omega)
          · have := h.ncs
            simp only [List.length_cons, List.length_map]; omega
      · by_cases hh : hs = []
        · rw [if_pos hh] at hws; simp at hws
        · rw [if_neg hh] at hws
          obtain rfl : ws = homesB :: hs.map textS := by simpa using hws
          refine Nat.le_trans (joinW_len 7 _ ?_) ?_
          · intro w hw
            rcases List.mem_cons.1 hw with rfl | hw
            · decide
            · obtain ⟨n, hn, rfl⟩ := List.mem_map.1 hw
              exact textS_len7 (by have := h.home n hn; have := h.ncs; omega)
          · have := h.nhs
            simp only [List.length_cons, List.length_map]; omega
    · have : (([[protocolB, protoW p], coresB :: cs.map textS] ++ (if hs = [] then [] else [homesB :: hs.map textS])) : List (List Bs)).length ≤ 3 := by
        split <;> simp
      exact Nat.mul_le_mul_right _ this
  have h2 : (linesT (ts.map taskWs)).length ≤ 6 * (252 + 1) := by
    refine Nat.le_trans (lines_len 252 _ ?_) ?_
    · intro ws hws
      obtain ⟨t, ht, rfl⟩ := List.mem_map.1 hws
      have ok := h.each t ht
      refine Nat.le_trans (joinW_len 20 _ ?_) ?_
      · intro w hw
        unfold taskWs at hw
        rcases List.mem_cons.1 hw with rfl | hw
        · decide
        rcases List.mem_cons.1 hw with rfl | hw
        · have := ok.name
          unfold nameS at this
          simp only [Bool.and_eq_true, decide_eq_true_eq] at this
          omega
        rcases List.mem_append.1 hw with hw | hw
        · obtain ⟨n, hn, rfl⟩ := List.mem_map.1 hw
          have := textS_len n
          omega
        · obtain ⟨q, hq, rfl⟩ := List.mem_map.1 hw
          have hq := List.all_eq_true.1 ok.parts q hq
          have hhs := h.nhs
          unfold partOkS btw at hq
          simp only [Bool.and_eq_true, decide_eq_true_eq] at hq
          obtain ⟨⟨⟨a1, a2⟩, a3, a4⟩, a5⟩ := hq
          have l1 := textS_len7 (n := q.f1) (by omega)
          have l2 : (textS q.f2).length ≤ 7 := by
            refine textS_len7 ?_
            by_cases c : q.f0 = 3
            · rw [if_pos c] at a5; simp only [Bool.and_eq_true, decide_eq_true_eq] at a5; omega
            · rw [if_neg c] at a5; have : q.f2 = 0 := by simpa using a5
              omega
          unfold partW
          split
          · simp [runB]; omega
          · split
            · simp [sleepB]; omega
            · simp [lockW]; omega
      · have := ok.np
        unfold taskWs
        simp only [List.length_cons, List.length_append, List.length_map, List.length_nil]
        omega
    · rw [List.length_map]
      exact Nat.mul_le_mul_right _ h.nts.2
  rw [e, hA, List.length_append]
  omega
theorem count_no {c : UInt8} {l : Bs} (h : c ∉ l) : l.count c = 0 := List.count_eq_zero.2 h
theorem lines_count : ∀ (ls : List (List Bs)), (∀ ws ∈ ls, ∀ w ∈ ws, wok w) → (linesT ls).count 10 = ls.length
  | [], _ => rfl
  | ws :: ls, h => by
    have h2 := lines_count ls (fun x hx => h x (by simp [hx]))
    have h1 := join_no 10 (by decide) ws (fun w hw => (h ws (by simp) w hw).2.2.2)
    unfold linesT at h2 ⊢
    rw [List.flatMap_cons, List.count_append, List.count_append, count_no h1, h2, List.length_cons]
    simp
    omega
theorem lines_35 (ls : List (List Bs)) (h : ∀ ws ∈ ls, ∀ w ∈ ws, wok w) : (35 : UInt8) ∉ linesT ls := by
  unfold linesT
  intro hm
  obtain ⟨ws, hws, hm⟩ := List.mem_flatMap.1 hm
  rcases List.mem_append.1 hm with hm | hm
  · exact join_no 35 (by decide) ws (fun w hw => (h ws hws w hw).2.2.1) hm
  · exact absurd hm (by decide)
theorem parse_print {p : Int} {cs hs : List Int} {ts : List S53} (hck : (checkS p cs hs ts).2 = 0) : parseS (linesT (setWs p cs hs ts)) = (p, cs, hs, ts, ((setWs p cs hs ts).length : Int), 0) := by
  have h := okS_of hck
  unfold parseS
  rw [if_neg (by have := set_len h; omega), parseR_ok hck _ _ (rows_set h), cutL_linesT _ (fun ws hws => (setWs_ok h ws hws).2), List.length_map]
theorem parse_gaps {p : Int} {cs hs : List Int} {ts : List S53} (hck : (checkS p cs hs ts).2 = 0) (g : Nat → Bool) (hl : (pieces g 0 0 (linesT (setWs p cs hs ts))).length ≤ 2000) :
    ∃ n, parseS (pieces g 0 0 (linesT (setWs p cs hs ts))) = (p, cs, hs, ts, n, 0) := by
  have h := okS_of hck
  have hok := fun ws hws => (setWs_ok h ws hws).2
  refine ⟨((cutL 10 (pieces g 0 0 (linesT (setWs p cs hs ts)))).length : Int), ?_⟩
  unfold parseS
  rw [if_neg (by omega), parseR_ok hck _ _ ?_]
  rw [rows_WL]
  have := pieces_WL g (linesT (setWs p cs hs ts)) 0 0 [] [] (lines_35 _ hok) .nil
  rw [List.nil_append, List.nil_append] at this
  rw [this, ← rows_WL, rows_set h]
end Go.Proofs.YtgkjoodlcojkkaaDoor.Y
end
section
namespace Go.Proofs.YtgkjoodlcojkkaaDoor.QD
open Go.RowKit Go.Proofs.YtgkjoodlcojkkaaDoorW.PrintWords Go.Proofs.YtgkjoodlcojkkaaDoorW.PrintLast Go.Proofs.YtgkjoodlcojkkaaDoorW.PrintMore
attribute [local go_sem] zbd_ zbe_ zbm_ zbl_ zaW_ zaX_ zbc_ zbb_
set_option linter.unusedVariables false
set_option linter.unusedSimpArgs false
mutual
def zas_.j0 : Nat → List ByteArray → Bool → Option (Int × Int × Int × Int)
  | 0, _, _ => none
  | k + 1, x4, x15 => if x15 = true then (some (0, 0, 0, 18)) else (if 1 ≤ (x4.length : Int) then ((zaq_.f k (x4.drop 1)).bind fun a8 => (if a8.2 = true then (if 0 < (x4.length : Int) then (if (rdOf ByteArray.empty x4 0).toList = ([114, 117, 110] : List UInt8) then (zas_.j1 k x4 a8.1 ((a8.1.length : Int) == 1)) else (zas_.j1 k x4 a8.1 false)) else (none)) else (some (0, 0, 0, 10)))) else (none))
def zas_.j1 : Nat → List ByteArray → List Int → Bool → Option (Int × Int × Int × Int)
  | 0, _, _, _ => none
  | k + 1, x4, x5, x26 => if x26 = true then (if 0 < (x5.length : Int) then (some (1, rd x5 0, 0, 0)) else (none)) else (if 0 < (x4.length : Int) then (if (rdOf ByteArray.empty x4 0).toList = ([115, 108, 101, 101, 112] : List UInt8) then (zas_.j2 k x4 x5 ((x5.length : Int) == 1)) else (zas_.j2 k x4 x5 false)) else (none))
def zas_.j2 : Nat → List ByteArray → List Int → Bool → Option (Int × Int × Int × Int)
  | 0, _, _, _ => none
  | k + 1, x4, x5, x40 => if x40 = true then (if 0 < (x5.length : Int) then (some (2, rd x5 0, 0, 0)) else (none)) else (if 0 < (x4.length : Int) then (if (rdOf ByteArray.empty x4 0).toList = ([108, 111, 99, 107] : List UInt8) then (if (x5.length : Int) = 2 then (if 0 < (x5.length : Int) then (if 1 < (x5.length : Int) then (some (3, rd x5 1, rd x5 0, 0)) else (none)) else (none)) else (some (0, 0, 0, 10))) else (some (0, 0, 0, 10))) else (none))
end
def zas_.f (k : Nat) (a0 : ByteArray) : Option (Int × Int × Int × Int) := (strings_Split.f a0 (⟨#[58]⟩ : ByteArray)).bind fun a2 => ((strings_HasPrefix.f a0 (⟨#[108, 111, 99, 107, 58]⟩ : ByteArray)).bind fun b8 => (if b8 = true then (if 5 ≤ (a0.size : Int) then ((strings_Contains.f (a0.extract 5 a0.size) (⟨#[108, 111, 99, 107, 58]⟩ : ByteArray)).bind fun a9 => (zas_.j0 k a2 a9)) else (none)) else (zas_.j0 k a2 false)))
theorem zas_.mono_l : ∀ k, (∀ y0 y1, LeO (zas_.j0 k y0 y1) (zas_.j0 (k + 1) y0 y1)) ∧ (∀ y0 y1 y2, LeO (zas_.j1 k y0 y1 y2) (zas_.j1 (k + 1) y0 y1 y2)) ∧ (∀ y0 y1 y2, LeO (zas_.j2 k y0 y1 y2) (zas_.j2 (k + 1) y0 y1 y2))
  | 0 => ⟨fun _ _ r h => by simp [zas_.j0] at h, fun _ _ _ r h => by simp [zas_.j1] at h, fun _ _ _ r h => by simp [zas_.j2] at h⟩
  | k + 1 => by
    obtain ⟨ih0, ih1, ih2⟩ := zas_.mono_l k
    refine ⟨?_, ?_, ?_⟩
    · intro y0 y1
      unfold zas_.j0
      repeat' first
      | (with_reducible exact ih0 _ _)
      | (with_reducible exact ih1 _ _ _)
      | (with_reducible exact ih2 _ _ _)
      | (with_reducible exact zaq_.mono _ _)
      | (with_reducible exact LeO.refl _)
      | (with_reducible exact LeO.none _)
      | (with_reducible refine LeO.ite ?_ ?_)
      | (with_reducible refine LeO.bind ?_ (fun _ => ?_))
      | exact ih0 _ _
      | exact ih1 _ _ _
      | exact ih2 _ _ _
      | exact zaq_.mono _ _
      | exact LeO.none _
      | refine LeO.ite ?_ ?_
      | refine LeO.bind ?_ (fun _ => ?_)
    · intro y0 y1 y2
      unfold zas_.j1
      repeat' first
      | (with_reducible exact ih0 _ _)
      | (with_reducible exact ih1 _ _ _)
      | (with_reducible exact ih2 _ _ _)
      | (with_reducible exact zaq_.mono _ _)
      | (with_reducible exact LeO.refl _)
      | (with_reducible exact LeO.none _)
      | (with_reducible refine LeO.ite ?_ ?_)
      | (with_reducible refine LeO.bind ?_ (fun _ => ?_))
      | exact ih0 _ _
      | exact ih1 _ _ _
      | exact ih2 _ _ _
      | exact zaq_.mono _ _
      | exact LeO.none _
      | refine LeO.ite ?_ ?_
      | refine LeO.bind ?_ (fun _ => ?_)
    · intro y0 y1 y2
      unfold zas_.j2
      repeat' first
      | (with_reducible exact ih0 _ _)
      | (with_reducible exact ih1 _ _ _)
      | (with_reducible exact ih2 _ _ _)
      | (with_reducible exact zaq_.mono _ _)
      | (with_reducible exact LeO.refl _)
      | (with_reducible exact LeO.none _)
      | (with_reducible refine LeO.ite ?_ ?_)
      | (with_reducible refine LeO.bind ?_ (fun _ => ?_))
      | exact ih0 _ _
      | exact ih1 _ _ _
      | exact ih2 _ _ _
      | exact zaq_.mono _ _
      | exact LeO.none _
      | refine LeO.ite ?_ ?_
      | refine LeO.bind ?_ (fun _ => ?_)
theorem zas_.mono : ∀ a0 k, LeO (zas_.f k a0) (zas_.f (k + 1) a0) := by
  intro a0 k
  obtain ⟨ih0, ih1, ih2⟩ := zas_.mono_l k
  unfold zas_.f
  repeat' first
      | (with_reducible exact ih0 _ _)
      | (with_reducible exact ih1 _ _ _)
      | (with_reducible exact ih2 _ _ _)
      | (with_reducible exact zaq_.mono _ _)
      | (with_reducible exact LeO.refl _)
      | (with_reducible exact LeO.none _)
      | (with_reducible refine LeO.ite ?_ ?_)
      | (with_reducible refine LeO.bind ?_ (fun _ => ?_))
      | exact ih0 _ _
      | exact ih1 _ _ _
      | exact ih2 _ _ _
      | exact zaq_.mono _ _
      | exact LeO.none _
      | refine LeO.ite ?_ ?_
      | refine LeO.bind ?_ (fun _ => ?_)
def zas_.T11 : Bool × List (List Nat × List Nat) := (true, [([], []), ([0], [0]), ([1], [1]), ([], []), ([3], [3]), ([4], [4]), ([2, 5], [2, 5]), ([6, 0, 1, 2, 3, 4, 5, 6], [6]), ([7, 0, 1, 2, 3, 4, 5, 6, 7], [])])
def zas_.B11 : List Nat := [0, 1, 3, 0, 8, 24, 63, 127, 255]
theorem zas_.tab11 : rtab .any (opsOf Tryd.f58 11) = zas_.T11 := by kernel_rfl
theorem zas_.bits11 : waitsOk zas_.T11.2 zas_.B11 = true := by kernel_rfl
set_option maxHeartbeats 8000000 in
set_option maxRecDepth 100000 in
theorem zas_.calls (k : Nat) (a0 : ByteArray) (r1 : Int) (r2 : Int) (r3 : Int) (r4 : Int) (w : World) (hG : Glob w) (h : zas_.f k a0 = some (r1, r2, r3, r4)) :
    Calls Tryd.prog 58 #[.string a0] w fun e w' => e = .returned (.tuple #[.agg #[.int .i64 r1, .int .i64 r2, .int .i64 r3], .int .i64 r4]) ∧ Below w.heap.size w w' := by
  have hu50 := Tryd.underlying50
  have HG := Aside0.mk hG
  clear hG
  have HB := Aside0.mk (Below.refl w.heap.size w)
  have H : ((strings_Split.f a0 (⟨#[58]⟩ : ByteArray)).bind fun a2 => ((strings_HasPrefix.f a0 (⟨#[108, 111, 99, 107, 58]⟩ : ByteArray)).bind fun b8 => (if b8 = true then (if 5 ≤ (a0.size : Int) then ((strings_Contains.f (a0.extract 5 a0.size) (⟨#[108, 111, 99, 107, 58]⟩ : ByteArray)).bind fun a9 => (zas_.j0 k a2 a9)) else (none)) else (zas_.j0 k a2 false)))) = some (r1, r2, r3, r4) := h
  clear h
  replace H := Option.bind_eq_some_iff.mp H
  obtain ⟨a2, p1, H⟩ := H
  replace H : ((strings_HasPrefix.f a0 (⟨#[108, 111, 99, 107, 58]⟩ : ByteArray)).bind fun b8 => (if b8 = true then (if 5 ≤ (a0.size : Int) then ((strings_Contains.f (a0.extract 5 a0.size) (⟨#[108, 111, 99, 107, 58]⟩ : ByteArray)).bind fun a9 => (zas_.j0 k a2 a9)) else (none)) else (zas_.j0 k a2 false))) = some (r1, r2, r3, r4) := H
  have A2 := Aside0.mk p1
  clear p1
  have HC3 := Aside0.mk H
  clear H
  go_enter Tryd.func58, Tryd.ntmps58
  go_upto_region 2 with (first | ((with_reducible refine zaL_ (N := 2) rfl ?_); (try (refine zaF_ (by rfl) ?_; dsimp only)); refine zaD_ ?hg (N := 2) ?hd (cs := #[.int .i64 0, .int .i64 0, .int .i64 0]) (t := 50) ?hr ?_; (case hd => rfl); (case hg => rfl); (case hr => first | (go_simp; done) | (go_simp; rfl)); intro a3 hg w4 hbox hb; have b0 := Aside0.mk (zaj_ (HB.out) hb); have b1 := Aside0.mk (hbox); have b2 := Aside0.mk ((by rw [hg]; exact (zam_ (HB.out)) : w.heap.size ≤ a3)); have d2 := Aside0.mk ((by rw [hg]; exact (zam_ (HB.out)) : w.heap.size ≤ a3)); clear HB; have HB := b0; have a1 := b1; have p2 := b2; have b3 := d2; clear b0 b1 b2 d2; clear hb hbox hg) | ((with_reducible refine zar_ (f := 29) rfl ?_); refine goesL_ (some 8) rfl rfl Tryd.func29 (by kernel_rfl) rfl #[.string a0, .string (⟨#[58]⟩ : ByteArray)] rfl (by (try simp only [List.map_toArray, List.map_cons, List.map_nil]); first | done | rfl | (simp only [List.length_drop, List.length_take]; rfl)) ?_; (with_reducible refine (strings_Split.calls a0 (⟨#[58]⟩ : ByteArray) a2 _ ?side1 A2.out).mono ?_); (case side1 => first | exact Glob.below HG.out (HB.out) | (repeat (first | exact Glob.below HG.out HB.out | (with_reducible refine Glob.alloc ?_ _) | (with_reducible refine Glob.drewN ?_ _) | (with_reducible refine Glob.drew ?_)))); rintro e w5 ⟨n7, rfl, d5, hb⟩; refine ⟨_, rfl, ?_⟩; have b0 := Aside0.mk (Kd.zbp_ d5 (zam_ (HB.out))); have b1 := Aside0.mk (zan_ a1.out hb); have b2 := Aside0.mk (zaj_ (HB.out) hb); clear a1; clear HB; have a6 := b0; have a1 := b1; have HB := b2; clear b0 b1 b2; (try clear hb); (try clear hb2); (try clear hk); (try clear hi); (try clear d5)))
  (try simp only [Act.put, List.setIfInBounds_toArray, List.set_cons_zero, List.set_cons_succ])
  go_cut [15] (fun r7 wc => ∃ (kq : Nat) (c6 : Bool), r7 = .bool c6 ∧ Aside0 (zas_.j0 kq a2 c6 = some (r1, r2, r3, r4)) ∧ Aside0 (kq ≤ k) ∧ Aside0 (Kd.R Kd.string 9 wc w.heap.size (fun _ => True) n7 a2) ∧ Aside0 (wc.heap[a3]? = some (.cells #[.int .i64 0, .int .i64 0, .int .i64 0] 50 (0, 0))) ∧ Aside0 (Below w.heap.size w wc))
  case first =>
    have H := HC3.out
    clear HC3
    replace H := Option.bind_eq_some_iff.mp H
    obtain ⟨b8, p3, H⟩ := H
    replace H : (if b8 = true then (if 5 ≤ (a0.size : Int) then ((strings_Contains.f (a0.extract 5 a0.size) (⟨#[108, 111, 99, 107, 58]⟩ : ByteArray)).bind fun a9 => (zas_.j0 k a2 a9)) else (none)) else (zas_.j0 k a2 false)) = some (r1, r2, r3, r4) := H
    have A6 := Aside0.mk p3
    clear p3
    by_cases c7 : b8 = true
    rotate_left
    · replace c7 := Bool.eq_false_iff.mpr c7
      subst c7
      rw [if_neg (show ¬ (false = true) by decide)] at H
      have H' := Aside0.mk H
      clear H
      go_wp2_with (first | ((with_reducible refine zar_ (f := 77) rfl ?_); refine goesL_ (some 10) rfl rfl Tryd.func77 (by kernel_rfl) rfl #[.string a0, .string (⟨#[108, 111, 99, 107, 58]⟩ : ByteArray)] rfl (by (try simp only [List.map_toArray, List.map_cons, List.map_nil]); first | done | rfl | (simp only [List.length_drop, List.length_take]; rfl)) ?_; (with_reducible refine (strings_HasPrefix.calls a0 (⟨#[108, 111, 99, 107, 58]⟩ : ByteArray) false _ A6.out).mono ?_); rintro e w8 ⟨rfl, hb⟩; refine ⟨_, rfl, ?_⟩; have b0 := Aside0.mk (Kd.zaU_ (by (with_reducible repeat (first | apply Kd.zav_ | apply Kd.zaw_ | apply Kd.R_drew)); exact a6.out) hb); have b1 := Aside0.mk (zan_ a1.out hb); have b2 := Aside0.mk (zaj_ (HB.out) hb); clear a6; clear a1; clear HB; have a6 := b0; have a1 := b1; have HB := b2; clear b0 b1 b2; (try clear hb); (try clear hb2); (try clear hk); (try clear hi)))
      go_meet
      case rel => exact ⟨_, (false), (by first | rfl | (simp; done) | (simp [*]; done)), H', ⟨by first | omega | exact Nat.le_refl _⟩, ⟨by (with_reducible repeat (first | apply Kd.zav_ | apply Kd.zaw_ | apply Kd.R_drew)); exact a6.out⟩, ⟨a1.out⟩, ⟨HB.out⟩⟩
    subst c7
    rw [if_pos rfl] at H
    by_cases c9 : 5 ≤ (a0.size : Int)
    rotate_left
    · rw [if_neg c9] at H
      exact absurd H (by simp)
    rw [if_pos c9] at H
    have r8 := eq_true c9
    have r9 : decide (5 ≤ (a0.size : Int)) = true := decide_eq_true c9
    clear c9
    replace H := Option.bind_eq_some_iff.mp H
    obtain ⟨a9, g2, H⟩ := H
    replace H : (zas_.j0 k a2 a9) = some (r1, r2, r3, r4) := H
    have t0 := Aside0.mk g2
    clear g2
    have H' := Aside0.mk H
    clear H
    go_wp2_with (first | ((with_reducible refine zar_ (f := 77) rfl ?_); refine goesL_ (some 10) rfl rfl Tryd.func77 (by kernel_rfl) rfl #[.string a0, .string (⟨#[108, 111, 99, 107, 58]⟩ : ByteArray)] rfl (by (try simp only [List.map_toArray, List.map_cons, List.map_nil]); first | done | rfl | (simp only [List.length_drop, List.length_take]; rfl)) ?_; (with_reducible refine (strings_HasPrefix.calls a0 (⟨#[108, 111, 99, 107, 58]⟩ : ByteArray) true _ A6.out).mono ?_); rintro e v7 ⟨rfl, hb⟩; refine ⟨_, rfl, ?_⟩; have b0 := Aside0.mk (Kd.zaU_ (by (with_reducible repeat (first | apply Kd.zav_ | apply Kd.zaw_ | apply Kd.R_drew)); exact a6.out) hb); have b1 := Aside0.mk (zan_ a1.out hb); have b2 := Aside0.mk (zaj_ (HB.out) hb); clear a6; clear a1; clear HB; have a6 := b0; have a1 := b1; have HB := b2; clear b0 b1 b2; (try clear hb); (try clear hb2); (try clear hk); (try clear hi)) | (go_at_call 78; (with_reducible refine (strings_Contains.calls (a0.extract 5 a0.size) (⟨#[108, 111, 99, 107, 58]⟩ : ByteArray) a9 _ ?side1 t0.out).mono ?_); (case side1 => first | exact Glob.below HG.out (HB.out) | (repeat (first | exact Glob.below HG.out HB.out | (with_reducible refine Glob.alloc ?_ _) | (with_reducible refine Glob.drewN ?_ _) | (with_reducible refine Glob.drew ?_)))); rintro e v8 ⟨rfl, hb⟩; have b0 := Aside0.mk (Kd.zaU_ (by (with_reducible repeat (first | apply Kd.zav_ | apply Kd.zaw_ | apply Kd.R_drew)); exact a6.out) hb); have b1 := Aside0.mk (zan_ a1.out hb); have b2 := Aside0.mk (zaj_ (HB.out) hb); clear a6; clear a1; clear HB; have a6 := b0; have a1 := b1; have HB := b2; clear b0 b1 b2; (try clear hb); (try clear hb2); (try clear hk); (try clear hi)))
    go_meet
    case rel => exact ⟨_, (a9), (by first | rfl | (simp; done) | (simp [*]; done)), H', ⟨by first | omega | exact Nat.le_refl _⟩, ⟨by (with_reducible repeat (first | apply Kd.zav_ | apply Kd.zaw_ | apply Kd.R_drew)); exact a6.out⟩, ⟨a1.out⟩, ⟨HB.out⟩⟩
  clear HC3
  obtain ⟨kq, c6, rfl, HA, h6, HO_4, a1, HB⟩ := hcut
  cases kq with
  | zero => exact absurd HA.out (by simp [zas_.j0])
  | succ d6 => ?_
  have H := HA.out
  clear HA
  simp only [zas_.j0] at H
  by_cases h7 : c6 = true
  · subst h7
    rw [if_pos rfl] at H
    simp only [Option.some.injEq, Prod.mk.injEq] at H
    obtain ⟨rfl, rfl, rfl, rfl⟩ := H
    have h8 : wc.cell? ⟨a3, 0, none⟩ = some (.int .i64 0) := (zab_ a1.out 0).trans rfl
    have h9 : wc.cell? ⟨a3, 1, none⟩ = some (.int .i64 0) := (zab_ a1.out 1).trans rfl
    have j3 : wc.cell? ⟨a3, 2, none⟩ = some (.int .i64 0) := (zab_ a1.out 2).trans rfl
    have j4 := zaa_ a1.out 0
    have j5 := zaa_ a1.out 1
    have j6 := zaa_ a1.out 2
    go_wp2
    refine bodyPost_ret (zbz_ rfl _ _ a3 50 #[.int .i64 0, .int .i64 0, .int .i64 0] (0, 0) _ rfl (by (with_reducible repeat (first | refine zac_ ?_ _ | refine zaf_ ?_ | refine zad_ ?_ _)); refine zat_ (cs := #[.int .i64 0, .int .i64 0, .int .i64 0]) ?_ 2 _ rfl; (with_reducible repeat (first | refine zac_ ?_ _ | refine zaf_ ?_ | refine zad_ ?_ _)); refine zat_ (cs := #[.int .i64 0, .int .i64 0, .int .i64 0]) ?_ 1 _ rfl; (with_reducible repeat (first | refine zac_ ?_ _ | refine zaf_ ?_ | refine zad_ ?_ _)); refine zat_ (cs := #[.int .i64 0, .int .i64 0, .int .i64 0]) ?_ 0 _ rfl; (with_reducible repeat (first | refine zac_ ?_ _ | refine zaf_ ?_ | refine zad_ ?_ _)); exact a1.out) Tryd.underlying50 rfl (by kernel_rfl)) rfl ?_
    exact ⟨by first | rfl | (simp [zal_, zak_] <;> rfl) | (simp [*, zal_, zak_] <;> rfl), by repeat (first | (with_reducible first | exact HB.out | apply zah_ | apply zae_ | apply zag_ | refine zai_ ?_ b3.out) | exact HB.out)⟩
  replace h7 := Bool.eq_false_iff.mpr h7
  subst h7
  rw [if_neg (show ¬ (false = true) by decide)] at H
  by_cases g3 : 1 ≤ (a2.length : Int)
  rotate_left
  · rw [if_neg g3] at H
    exact absurd H (by simp)
  rw [if_pos g3] at H
  have p4 := eq_true g3
  have p5 : decide (1 ≤ (a2.length : Int)) = true := decide_eq_true g3
  clear g3
  obtain ⟨a7, b9⟩ : ∃ y_ : List ByteArray, y_ = (a2.drop 1) := ⟨_, rfl⟩
  replace H : ((zaq_.f d6 a7).bind fun a8 => (if a8.2 = true then (if 0 < (a2.length : Int) then (if (rdOf ByteArray.empty a2 0).toList = ([114, 117, 110] : List UInt8) then (zas_.j1 d6 a2 a8.1 ((a8.1.length : Int) == 1)) else (zas_.j1 d6 a2 a8.1 false)) else (none)) else (some (0, 0, 0, 10)))) = some (r1, r2, r3, r4) := by first | (rw [b9]; with_reducible exact H) | (have H2_ := (Option.bind_some _ _).symm.trans H; rw [b9]; with_reducible exact H2_) | (have H2_ := (Option.bind_some _ _).symm.trans H; with_reducible exact H2_) | with_reducible exact H | (rw [b9]; exact H) | exact H
  have c8 := Aside0.mk b9
  clear b9
  replace H := Option.bind_eq_some_iff.mp H
  obtain ⟨⟨a4, g4⟩, g5, H⟩ := H
  replace H : (if g4 = true then (if 0 < (a2.length : Int) then (if (rdOf ByteArray.empty a2 0).toList = ([114, 117, 110] : List UInt8) then (zas_.j1 d6 a2 a4 ((a4.length : Int) == 1)) else (zas_.j1 d6 a2 a4 false)) else (none)) else (some (0, 0, 0, 10))) = some (r1, r2, r3, r4) := H
  have p6 := Aside0.mk g5
  clear g5
  by_cases j7 : g4 = true
  rotate_left
  · replace j7 := Bool.eq_false_iff.mpr j7
    subst j7
    rw [if_neg (show ¬ (false = true) by decide)] at H
    simp only [Option.some.injEq, Prod.mk.injEq] at H
    obtain ⟨rfl, rfl, rfl, rfl⟩ := H
    obtain ⟨d4, d3, n8⟩ := Kd.zbf_ HO_4.out
    subst n8
    have n9 : (1 : Int) ≤ ((a2.length : Int) : Int) := of_decide_eq_true (by first | (with_reducible assumption) | assumption)
    obtain ⟨i018, hi018, _, hsz18, _⟩ := info_parts info9
    have hroom18 : a2.length ≤ d3 := (Kd.zaS_ HO_4.out).2.1
    have hC18 : Kd.C Kd.string _ d4 a2.length a2 := (Kd.zaS_ HO_4.out).2.2
    have hcut18 := cut_from (P := Tryd.prog) 26 9 .i64 Tryd.underlying26 hi018 1 hsz18 d4 a2.length d3 1 (by omega) n9
    have hr18 := Kd.C_drop (m := (1 : Int).toNat) (c := d3) hC18 (by omega) hroom18
    obtain ⟨p7, hA18⟩ : ∃ A1, A1 = (if d3 = (1 : Int).toNat then d4 else (d4 : Option Addr).map (·.add ((1 : Int).toNat * 1))) := ⟨_, rfl⟩
    obtain ⟨p8, hc18⟩ : ∃ c1, c1 = d3 - (1 : Int).toNat := ⟨_, rfl⟩
    have hy18 : a7.length = a2.length - (1 : Int).toNat := (by rw [c8.out, List.length_drop] <;> omega)
    rw [show (a2).drop (1 : Int).toNat = a7 from c8.out.symm] at hr18
    replace hr18 : Kd.C Kd.string _ p7 a7.length a7 := (by rw [hA18]; exact hr18)
    rw [← hy18, ← hA18, ← hc18] at hcut18
    have a5 := Aside0.mk hr18
    have HC220 := Aside0.mk (show a7.length ≤ p8 from by rw [hy18, hc18]; exact Nat.sub_le_sub_right hroom18 _)
    clear hr18 hC18 hroom18 hi018 hsz18 hc18
    have KY18 := Aside0.mk hy18
    have KA18 := Aside0.mk hA18
    clear hy18 hA18
    have KL18 := Aside0.mk (show 1 ≤ a2.length from by omega)
    replace n9 := eq_true n9
    go_wp2_with (first | ((with_reducible refine zar_ (f := 56) rfl ?_); refine goesL_ (some 20) rfl rfl Tryd.func56 (by kernel_rfl) rfl #[.slice p7 a7.length p8] rfl (by (try simp only [List.map_toArray, List.map_cons, List.map_nil]); first | done | rfl | (simp only [List.length_drop, List.length_take]; rfl)) ?_; (with_reducible refine (zaq_.calls d6 _ _ a7 a4 false _ ?side1 ?side2 ?side3 p6.out).mono ?_); (case side1 => repeat (first | exact (by repeat (first | (with_reducible exact a5.out) | (with_reducible refine Kd.zaI_ ?_ _) | (with_reducible refine Kd.zaJ_ ?_ _) | (with_reducible refine Kd.C_drew ?_) | exact a5.out)) | (with_reducible refine Kd.zaI_ ?_ _) | (with_reducible refine Kd.zaJ_ ?_ _) | (with_reducible refine Kd.C_drew ?_))); (case side2 => exact HC220.out); (case side3 => first | exact Glob.below HG.out (HB.out) | (repeat (first | exact Glob.below HG.out HB.out | (with_reducible refine Glob.alloc ?_ _) | (with_reducible refine Glob.drewN ?_ _) | (with_reducible refine Glob.drew ?_)))); rintro e o0 ⟨d9, rfl, d5, hb⟩; refine ⟨_, rfl, ?_⟩; have b0 := Aside0.mk (Kd.zaU_ (by (with_reducible repeat (first | apply Kd.zav_ | apply Kd.zaw_ | apply Kd.R_drew)); exact HO_4.out) hb); have b1 := Aside0.mk (Kd.zbp_ d5 (zam_ (HB.out))); have b2 := Aside0.mk (zan_ a1.out hb); have d2 := Aside0.mk (Kd.zaB_ (by repeat (first | (with_reducible exact a5.out) | (with_reducible refine Kd.zaI_ ?_ _) | (with_reducible refine Kd.zaJ_ ?_ _) | (with_reducible refine Kd.C_drew ?_) | exact a5.out)) hb); have g6 := Aside0.mk (zaj_ (HB.out) hb); clear HO_4; clear a1; clear a5; clear HB; have HO_4 := b0; have d0 := b1; have a1 := b2; have a5 := d2; have HB := g6; clear b0 b1 b2 d2 g6; (try clear hb); (try clear hb2); (try clear hk); (try clear hi); (try clear d5); have j8 : o0.cell? ⟨a3, 0, none⟩ = some (.int .i64 0) := (zab_ a1.out 0).trans rfl; have j9 : o0.cell? ⟨a3, 1, none⟩ = some (.int .i64 0) := (zab_ a1.out 1).trans rfl; have k0 : o0.cell? ⟨a3, 2, none⟩ = some (.int .i64 0) := (zab_ a1.out 2).trans rfl; have k1 := zaa_ a1.out 0; have k2 := zaa_ a1.out 1; have k3 := zaa_ a1.out 2))
    refine bodyPost_ret (zbz_ rfl _ _ a3 50 #[.int .i64 0, .int .i64 0, .int .i64 0] (0, 0) _ rfl (by (with_reducible repeat (first | refine zac_ ?_ _ | refine zaf_ ?_ | refine zad_ ?_ _)); refine zat_ (cs := #[.int .i64 0, .int .i64 0, .int .i64 0]) ?_ 2 _ rfl; (with_reducible repeat (first | refine zac_ ?_ _ | refine zaf_ ?_ | refine zad_ ?_ _)); refine zat_ (cs := #[.int .i64 0, .int .i64 0, .int .i64 0]) ?_ 1 _ rfl; (with_reducible repeat (first | refine zac_ ?_ _ | refine zaf_ ?_ | refine zad_ ?_ _)); refine zat_ (cs := #[.int .i64 0, .int .i64 0, .int .i64 0]) ?_ 0 _ rfl; (with_reducible repeat (first | refine zac_ ?_ _ | refine zaf_ ?_ | refine zad_ ?_ _)); exact a1.out) Tryd.underlying50 rfl (by kernel_rfl)) rfl ?_
    exact ⟨by first | rfl | (simp [zal_, zak_] <;> rfl) | (simp [*, zal_, zak_] <;> rfl), by repeat (first | (with_reducible first | exact HB.out | apply zah_ | apply zae_ | apply zag_ | refine zai_ ?_ b3.out) | exact HB.out)⟩
  subst j7
  rw [if_pos rfl] at H
  have HC22 := Aside0.mk H
  clear H
  obtain ⟨d1, c0, o1⟩ := Kd.zbf_ HO_4.out
  subst o1
  have o2 : (1 : Int) ≤ ((a2.length : Int) : Int) := of_decide_eq_true (by first | (with_reducible assumption) | assumption)
  obtain ⟨i023, hi023, _, hsz23, _⟩ := info_parts info9
  have hroom23 : a2.length ≤ c0 := (Kd.zaS_ HO_4.out).2.1
  have hC23 : Kd.C Kd.string _ d1 a2.length a2 := (Kd.zaS_ HO_4.out).2.2
  have hcut23 := cut_from (P := Tryd.prog) 26 9 .i64 Tryd.underlying26 hi023 1 hsz23 d1 a2.length c0 1 (by omega) o2
  have hr23 := Kd.C_drop (m := (1 : Int).toNat) (c := c0) hC23 (by omega) hroom23
  obtain ⟨p9, hA23⟩ : ∃ A1, A1 = (if c0 = (1 : Int).toNat then d1 else (d1 : Option Addr).map (·.add ((1 : Int).toNat * 1))) := ⟨_, rfl⟩
  obtain ⟨q0, hc23⟩ : ∃ c1, c1 = c0 - (1 : Int).toNat := ⟨_, rfl⟩
  have hy23 : a7.length = a2.length - (1 : Int).toNat := (by rw [c8.out, List.length_drop] <;> omega)
  rw [show (a2).drop (1 : Int).toNat = a7 from c8.out.symm] at hr23
  replace hr23 : Kd.C Kd.string _ p9 a7.length a7 := (by rw [hA23]; exact hr23)
  rw [← hy23, ← hA23, ← hc23] at hcut23
  have a5 := Aside0.mk hr23
  have HC220 := Aside0.mk (show a7.length ≤ q0 from by rw [hy23, hc23]; exact Nat.sub_le_sub_right hroom23 _)
  clear hr23 hC23 hroom23 hi023 hsz23 hc23
  have KY23 := Aside0.mk hy23
  have KA23 := Aside0.mk hA23
  clear hy23 hA23
  have KL23 := Aside0.mk (show 1 ≤ a2.length from by omega)
  replace o2 := eq_true o2
  go_upto_region 6 with (first | ((with_reducible refine zar_ (f := 56) rfl ?_); refine goesL_ (some 20) rfl rfl Tryd.func56 (by kernel_rfl) rfl #[.slice p9 a7.length q0] rfl (by (try simp only [List.map_toArray, List.map_cons, List.map_nil]); first | done | rfl | (simp only [List.length_drop, List.length_take]; rfl)) ?_; (with_reducible refine (zaq_.calls d6 _ _ a7 a4 true _ ?side1 ?side2 ?side3 p6.out).mono ?_); (case side1 => repeat (first | exact (by repeat (first | (with_reducible exact a5.out) | (with_reducible refine Kd.zaI_ ?_ _) | (with_reducible refine Kd.zaJ_ ?_ _) | (with_reducible refine Kd.C_drew ?_) | exact a5.out)) | (with_reducible refine Kd.zaI_ ?_ _) | (with_reducible refine Kd.zaJ_ ?_ _) | (with_reducible refine Kd.C_drew ?_))); (case side2 => exact HC220.out); (case side3 => first | exact Glob.below HG.out (HB.out) | (repeat (first | exact Glob.below HG.out HB.out | (with_reducible refine Glob.alloc ?_ _) | (with_reducible refine Glob.drewN ?_ _) | (with_reducible refine Glob.drew ?_)))); rintro e v9 ⟨d9, rfl, d5, hb⟩; refine ⟨_, rfl, ?_⟩; have b0 := Aside0.mk (Kd.zaU_ (by (with_reducible repeat (first | apply Kd.zav_ | apply Kd.zaw_ | apply Kd.R_drew)); exact HO_4.out) hb); have b1 := Aside0.mk (Kd.zbp_ d5 (zam_ (HB.out))); have b2 := Aside0.mk (zan_ a1.out hb); have d2 := Aside0.mk (Kd.zaB_ (by repeat (first | (with_reducible exact a5.out) | (with_reducible refine Kd.zaI_ ?_ _) | (with_reducible refine Kd.zaJ_ ?_ _) | (with_reducible refine Kd.C_drew ?_) | exact a5.out)) hb); have g6 := Aside0.mk (zaj_ (HB.out) hb); clear HO_4; clear a1; clear a5; clear HB; have HO_4 := b0; have d0 := b1; have a1 := b2; have a5 := d2; have HB := g6; clear b0 b1 b2 d2 g6; (try clear hb); (try clear hb2); (try clear hk); (try clear hi); (try clear d5)))
  (try simp only [Act.put, List.setIfInBounds_toArray, List.set_cons_zero, List.set_cons_succ])
  go_cut [26] (fun t1 wc => ∃ (kq : Nat) (b6 : Bool), t1 = .bool b6 ∧ Aside0 (zas_.j1 kq a2 a4 b6 = some (r1, r2, r3, r4)) ∧ Aside0 (kq ≤ d6) ∧ Aside0 (Kd.R Kd.string 9 wc w.heap.size (fun _ => True) (.slice d1 a2.length c0) a2) ∧ Aside0 (Kd.R (Kd.int .i64) 3 wc w.heap.size (fun _ => True) d9 a4) ∧ Aside0 (wc.heap[a3]? = some (.cells #[.int .i64 0, .int .i64 0, .int .i64 0] 50 (0, 0))) ∧ Aside0 (Below w.heap.size w wc))
  case first =>
    have H := HC22.out
    clear HC22
    by_cases k4 : 0 < (a2.length : Int)
    rotate_left
    · rw [if_neg k4] at H
      exact absurd H (by simp)
    rw [if_pos k4] at H
    have d7 : decide (0 < (a2.length : Int)) = true := decide_eq_true k4
    have q1 : decide (0 < a2.length) = true := decide_eq_true (by omega)
    clear k4
    (first | rw [d7] | (simp only [i64_w, i32_w]; rw [d7]) | skip)
    by_cases e0 : (rdOf ByteArray.empty a2 0).toList = ([114, 117, 110] : List UInt8)
    rotate_left
    · rw [if_neg e0] at H
      have g7 : ((rdOf ByteArray.empty a2 0).toList == ([114, 117, 110] : List UInt8)) = false := beq_eq_false_iff_ne.mpr e0
      have g8 : ((rdOf ByteArray.empty a2 0).toList != ([114, 117, 110] : List UInt8)) = true := bne_iff_ne.mpr e0
      have H' := Aside0.mk H
      clear H
      have c2 : 0 ≤ (0 : Int) := (by omega)
      have c3 : 0 < (a2.length : Int) := of_decide_eq_true (by first | (with_reducible assumption) | assumption)
      obtain ⟨ad225, e225, hx225_0⟩ := Kd.zbj_ (Kd.zaS_ HO_4.out).2.2 0 c2 c3
      cases e225
      have qi225 : (0 < a2.length) = True := eq_true (by omega)
      (try rw [show ((0 : Int)).toNat = 0 from rfl] at hx225_0)
      (try rw [Addr.add_zero'] at hx225_0)
      replace c2 := eq_true c2
      replace c3 := eq_true c3
      go_wp2
      go_meet
      case rel => exact ⟨_, (false), (by first | rfl | (simp; done) | (simp [*]; done)), H', ⟨by have := h6.out; first | omega | exact Nat.le_refl _⟩, ⟨by (with_reducible repeat (first | apply Kd.zav_ | apply Kd.zaw_ | apply Kd.R_drew)); exact HO_4.out⟩, ⟨by (with_reducible repeat (first | apply Kd.zav_ | apply Kd.zaw_ | apply Kd.R_drew)); exact d0.out⟩, ⟨a1.out⟩, ⟨HB.out⟩⟩
    rw [if_pos e0] at H
    have g7 : ((rdOf ByteArray.empty a2 0).toList == ([114, 117, 110] : List UInt8)) = true := beq_iff_eq.mpr e0
    have g8 : ((rdOf ByteArray.empty a2 0).toList != ([114, 117, 110] : List UInt8)) = false := bne_eq_false_iff_eq.mpr e0
    clear e0
    have H' := Aside0.mk H
    clear H
    have c2 : 0 ≤ (0 : Int) := (by omega)
    have c3 : 0 < (a2.length : Int) := of_decide_eq_true (by first | (with_reducible assumption) | assumption)
    obtain ⟨ad225, e225, hx225_0⟩ := Kd.zbj_ (Kd.zaS_ HO_4.out).2.2 0 c2 c3
    cases e225
    have qi225 : (0 < a2.length) = True := eq_true (by omega)
    (try rw [show ((0 : Int)).toNat = 0 from rfl] at hx225_0)
    (try rw [Addr.add_zero'] at hx225_0)
    replace c2 := eq_true c2
    replace c3 := eq_true c3
    obtain ⟨t2, t3, o3⟩ := Kd.zbf_ d0.out
    subst o3
    go_wp2
    go_meet
    case rel => exact ⟨_, (((a4.length : Int) == 1)), (by first | rfl | (simp; done) | (simp [*]; done)), H', ⟨by have := h6.out; first | omega | exact Nat.le_refl _⟩, ⟨by (with_reducible repeat (first | apply Kd.zav_ | apply Kd.zaw_ | apply Kd.R_drew)); exact HO_4.out⟩, ⟨by (with_reducible repeat (first | apply Kd.zav_ | apply Kd.zaw_ | apply Kd.R_drew)); exact d0.out⟩, ⟨a1.out⟩, ⟨HB.out⟩⟩
  clear HC22
  obtain ⟨kq, b6, rfl, HA, g9, HO_4, HO_5, a1, HB⟩ := hcut
  cases kq with
  | zero => exact absurd HA.out (by simp [zas_.j1])
  | succ o4 => ?_
  have H := HA.out
  clear HA
  simp only [zas_.j1] at H
  by_cases k5 : b6 = true
  · subst k5
    rw [if_pos rfl] at H
    by_cases k6 : 0 < (a4.length : Int)
    rotate_left
    · rw [if_neg k6] at H
      exact absurd H (by simp)
    rw [if_pos k6] at H
    have q2 : decide (0 < (a4.length : Int)) = true := decide_eq_true k6
    have q3 : decide (0 < a4.length) = true := decide_eq_true (by omega)
    clear k6
    simp only [Option.some.injEq, Prod.mk.injEq] at H
    obtain ⟨rfl, rfl, rfl, rfl⟩ := H
    obtain ⟨t4, t5, o5⟩ := Kd.zbf_ HO_5.out
    subst o5
    have e1 : 0 ≤ (0 : Int) := (by omega)
    have e2 : 0 < (a4.length : Int) := of_decide_eq_true (by first | (with_reducible assumption) | assumption)
    obtain ⟨ad226, e226, hx226_0⟩ := Kd.at_int (Kd.zaS_ HO_5.out).2.2 0 e1 e2
    cases e226
    have qi226 : (0 < a4.length) = True := eq_true (by omega)
    (try rw [show ((0 : Int)).toNat = 0 from rfl] at hx226_0)
    (try rw [Addr.add_zero'] at hx226_0)
    replace e1 := eq_true e1
    replace e2 := eq_true e2
    have k7 : wc.cell? ⟨a3, 0, none⟩ = some (.int .i64 0) := (zab_ a1.out 0).trans rfl
    have k8 : wc.cell? ⟨a3, 1, none⟩ = some (.int .i64 0) := (zab_ a1.out 1).trans rfl
    have k9 : wc.cell? ⟨a3, 2, none⟩ = some (.int .i64 0) := (zab_ a1.out 2).trans rfl
    have l0 := zaa_ a1.out 0
    have l1 := zaa_ a1.out 1
    have l2 := zaa_ a1.out 2
    go_wp2
    refine bodyPost_ret (zbz_ rfl _ _ a3 50 #[.int .i64 1, .int .i64 (rd a4 0), .int .i64 0] (0, 0) _ rfl (by (with_reducible repeat (first | refine zac_ ?_ _ | refine zaf_ ?_ | refine zad_ ?_ _)); refine zat_ (cs := #[.int .i64 1, .int .i64 (rd a4 0), .int .i64 0]) ?_ 2 _ rfl; (with_reducible repeat (first | refine zac_ ?_ _ | refine zaf_ ?_ | refine zad_ ?_ _)); refine zat_ (cs := #[.int .i64 1, .int .i64 0, .int .i64 0]) ?_ 1 _ rfl; (with_reducible repeat (first | refine zac_ ?_ _ | refine zaf_ ?_ | refine zad_ ?_ _)); refine zat_ (cs := #[.int .i64 0, .int .i64 0, .int .i64 0]) ?_ 0 _ rfl; (with_reducible repeat (first | refine zac_ ?_ _ | refine zaf_ ?_ | refine zad_ ?_ _)); exact a1.out) Tryd.underlying50 rfl (by kernel_rfl)) rfl ?_
    exact ⟨by first | rfl | (simp [zal_, zak_] <;> rfl) | (simp [*, zal_, zak_] <;> rfl), by repeat (first | (with_reducible first | exact HB.out | apply zah_ | apply zae_ | apply zag_ | refine zai_ ?_ b3.out) | exact HB.out)⟩
  replace k5 := Bool.eq_false_iff.mpr k5
  subst k5
  rw [if_neg (show ¬ (false = true) by decide)] at H
  have HC33 := Aside0.mk H
  clear H
  go_upto_region 8 with (fail)
  go_cut [40] (fun t6 wc => ∃ (kq : Nat) (b7 : Bool), t6 = .bool b7 ∧ Aside0 (zas_.j2 kq a2 a4 b7 = some (r1, r2, r3, r4)) ∧ Aside0 (kq ≤ o4) ∧ Aside0 (Kd.R Kd.string 9 wc w.heap.size (fun _ => True) (.slice d1 a2.length c0) a2) ∧ Aside0 (Kd.R (Kd.int .i64) 3 wc w.heap.size (fun _ => True) d9 a4) ∧ Aside0 (wc.heap[a3]? = some (.cells #[.int .i64 0, .int .i64 0, .int .i64 0] 50 (0, 0))) ∧ Aside0 (Below w.heap.size w wc))
  case first =>
    have H := HC33.out
    clear HC33
    by_cases l3 : 0 < (a2.length : Int)
    rotate_left
    · rw [if_neg l3] at H
      exact absurd H (by simp)
    rw [if_pos l3] at H
    have d8 : decide (0 < (a2.length : Int)) = true := decide_eq_true l3
    have q4 : decide (0 < a2.length) = true := decide_eq_true (by omega)
    clear l3
    (first | rw [d8] | (simp only [i64_w, i32_w]; rw [d8]) | skip)
    by_cases e3 : (rdOf ByteArray.empty a2 0).toList = ([115, 108, 101, 101, 112] : List UInt8)
    rotate_left
    · rw [if_neg e3] at H
      have h0 : ((rdOf ByteArray.empty a2 0).toList == ([115, 108, 101, 101, 112] : List UInt8)) = false := beq_eq_false_iff_ne.mpr e3
      have h1 : ((rdOf ByteArray.empty a2 0).toList != ([115, 108, 101, 101, 112] : List UInt8)) = true := bne_iff_ne.mpr e3
      have H' := Aside0.mk H
      clear H
      have c4 : 0 ≤ (0 : Int) := (by omega)
      have c5 : 0 < (a2.length : Int) := of_decide_eq_true (by first | (with_reducible assumption) | assumption)
      obtain ⟨ad227, e227, hx227_0⟩ := Kd.zbj_ (Kd.zaS_ HO_4.out).2.2 0 c4 c5
      cases e227
      have qi227 : (0 < a2.length) = True := eq_true (by omega)
      (try rw [show ((0 : Int)).toNat = 0 from rfl] at hx227_0)
      (try rw [Addr.add_zero'] at hx227_0)
      replace c4 := eq_true c4
      replace c5 := eq_true c5
      go_wp2
      go_meet
      case rel => exact ⟨_, (false), (by first | rfl | (simp; done) | (simp [*]; done)), H', ⟨by have := h6.out; have := g9.out; first | omega | exact Nat.le_refl _⟩, ⟨by (with_reducible repeat (first | apply Kd.zav_ | apply Kd.zaw_ | apply Kd.R_drew)); exact HO_4.out⟩, ⟨by (with_reducible repeat (first | apply Kd.zav_ | apply Kd.zaw_ | apply Kd.R_drew)); exact HO_5.out⟩, ⟨a1.out⟩, ⟨HB.out⟩⟩
    rw [if_pos e3] at H
    have h0 : ((rdOf ByteArray.empty a2 0).toList == ([115, 108, 101, 101, 112] : List UInt8)) = true := beq_iff_eq.mpr e3
    have h1 : ((rdOf ByteArray.empty a2 0).toList != ([115, 108, 101, 101, 112] : List UInt8)) = false := bne_eq_false_iff_eq.mpr e3
    clear e3
    have H' := Aside0.mk H
    clear H
    have c4 : 0 ≤ (0 : Int) := (by omega)
    have c5 : 0 < (a2.length : Int) := of_decide_eq_true (by first | (with_reducible assumption) | assumption)
    obtain ⟨ad227, e227, hx227_0⟩ := Kd.zbj_ (Kd.zaS_ HO_4.out).2.2 0 c4 c5
    cases e227
    have qi227 : (0 < a2.length) = True := eq_true (by omega)
    (try rw [show ((0 : Int)).toNat = 0 from rfl] at hx227_0)
    (try rw [Addr.add_zero'] at hx227_0)
    replace c4 := eq_true c4
    replace c5 := eq_true c5
    obtain ⟨t7, t8, o6⟩ := Kd.zbf_ HO_5.out
    subst o6
    go_wp2
    go_meet
    case rel => exact ⟨_, (((a4.length : Int) == 1)), (by first | rfl | (simp; done) | (simp [*]; done)), H', ⟨by have := h6.out; have := g9.out; first | omega | exact Nat.le_refl _⟩, ⟨by (with_reducible repeat (first | apply Kd.zav_ | apply Kd.zaw_ | apply Kd.R_drew)); exact HO_4.out⟩, ⟨by (with_reducible repeat (first | apply Kd.zav_ | apply Kd.zaw_ | apply Kd.R_drew)); exact HO_5.out⟩, ⟨a1.out⟩, ⟨HB.out⟩⟩
  clear HC33
  obtain ⟨kq, b7, rfl, HA, t9, HO_4, HO_5, a1, HB⟩ := hcut
  cases kq with
  | zero => exact absurd HA.out (by simp [zas_.j2])
  | succ v0 => ?_
  have H := HA.out
  clear HA
  simp only [zas_.j2] at H
  by_cases l4 : b7 = true
  · subst l4
    rw [if_pos rfl] at H
    by_cases l5 : 0 < (a4.length : Int)
    rotate_left
    · rw [if_neg l5] at H
      exact absurd H (by simp)
    rw [if_pos l5] at H
    have q5 : decide (0 < (a4.length : Int)) = true := decide_eq_true l5
    have q6 : decide (0 < a4.length) = true := decide_eq_true (by omega)
    clear l5
    simp only [Option.some.injEq, Prod.mk.injEq] at H
    obtain ⟨rfl, rfl, rfl, rfl⟩ := H
    obtain ⟨v1, v2, o7⟩ := Kd.zbf_ HO_5.out
    subst o7
    have e4 : 0 ≤ (0 : Int) := (by omega)
    have e5 : 0 < (a4.length : Int) := of_decide_eq_true (by first | (with_reducible assumption) | assumption)
    obtain ⟨ad228, e228, hx228_0⟩ := Kd.at_int (Kd.zaS_ HO_5.out).2.2 0 e4 e5
    cases e228
    have qi228 : (0 < a4.length) = True := eq_true (by omega)
    (try rw [show ((0 : Int)).toNat = 0 from rfl] at hx228_0)
    (try rw [Addr.add_zero'] at hx228_0)
    replace e4 := eq_true e4
    replace e5 := eq_true e5
    have l6 : wc.cell? ⟨a3, 0, none⟩ = some (.int .i64 0) := (zab_ a1.out 0).trans rfl
    have l7 : wc.cell? ⟨a3, 1, none⟩ = some (.int .i64 0) := (zab_ a1.out 1).trans rfl
    have l8 : wc.cell? ⟨a3, 2, none⟩ = some (.int .i64 0) := (zab_ a1.out 2).trans rfl
    have l9 := zaa_ a1.out 0
    have m0 := zaa_ a1.out 1
    have m1 := zaa_ a1.out 2
    go_wp2
    refine bodyPost_ret (zbz_ rfl _ _ a3 50 #[.int .i64 2, .int .i64 (rd a4 0), .int .i64 0] (0, 0) _ rfl (by (with_reducible repeat (first | refine zac_ ?_ _ | refine zaf_ ?_ | refine zad_ ?_ _)); refine zat_ (cs := #[.int .i64 2, .int .i64 (rd a4 0), .int .i64 0]) ?_ 2 _ rfl; (with_reducible repeat (first | refine zac_ ?_ _ | refine zaf_ ?_ | refine zad_ ?_ _)); refine zat_ (cs := #[.int .i64 2, .int .i64 0, .int .i64 0]) ?_ 1 _ rfl; (with_reducible repeat (first | refine zac_ ?_ _ | refine zaf_ ?_ | refine zad_ ?_ _)); refine zat_ (cs := #[.int .i64 0, .int .i64 0, .int .i64 0]) ?_ 0 _ rfl; (with_reducible repeat (first | refine zac_ ?_ _ | refine zaf_ ?_ | refine zad_ ?_ _)); exact a1.out) Tryd.underlying50 rfl (by kernel_rfl)) rfl ?_
    exact ⟨by first | rfl | (simp [zal_, zak_] <;> rfl) | (simp [*, zal_, zak_] <;> rfl), by repeat (first | (with_reducible first | exact HB.out | apply zah_ | apply zae_ | apply zag_ | refine zai_ ?_ b3.out) | exact HB.out)⟩
  replace l4 := Bool.eq_false_iff.mpr l4
  subst l4
  rw [if_neg (show ¬ (false = true) by decide)] at H
  by_cases m2 : 0 < (a2.length : Int)
  rotate_left
  · rw [if_neg m2] at H
    exact absurd H (by simp)
  rw [if_pos m2] at H
  have q7 : decide (0 < (a2.length : Int)) = true := decide_eq_true m2
  have q8 : decide (0 < a2.length) = true := decide_eq_true (by omega)
  clear m2
  by_cases e6 : (rdOf ByteArray.empty a2 0).toList = ([108, 111, 99, 107] : List UInt8)
  rotate_left
  · rw [if_neg e6] at H
    have h2 : ((rdOf ByteArray.empty a2 0).toList == ([108, 111, 99, 107] : List UInt8)) = false := beq_eq_false_iff_ne.mpr e6
    have h3 : ((rdOf ByteArray.empty a2 0).toList != ([108, 111, 99, 107] : List UInt8)) = true := bne_iff_ne.mpr e6
    simp only [Option.some.injEq, Prod.mk.injEq] at H
    obtain ⟨rfl, rfl, rfl, rfl⟩ := H
    have b4 : 0 ≤ (0 : Int) := (by omega)
    have b5 : 0 < (a2.length : Int) := of_decide_eq_true (by first | (with_reducible assumption) | assumption)
    obtain ⟨ad229, e229, hx229_0⟩ := Kd.zbj_ (Kd.zaS_ HO_4.out).2.2 0 b4 b5
    cases e229
    have qi229 : (0 < a2.length) = True := eq_true (by omega)
    (try rw [show ((0 : Int)).toNat = 0 from rfl] at hx229_0)
    (try rw [Addr.add_zero'] at hx229_0)
    replace b4 := eq_true b4
    replace b5 := eq_true b5
    have m3 : wc.cell? ⟨a3, 0, none⟩ = some (.int .i64 0) := (zab_ a1.out 0).trans rfl
    have m4 : wc.cell? ⟨a3, 1, none⟩ = some (.int .i64 0) := (zab_ a1.out 1).trans rfl
    have m5 : wc.cell? ⟨a3, 2, none⟩ = some (.int .i64 0) := (zab_ a1.out 2).trans rfl
    have m6 := zaa_ a1.out 0
    have m7 := zaa_ a1.out 1
    have m8 := zaa_ a1.out 2
    go_wp2
    refine bodyPost_ret (zbz_ rfl _ _ a3 50 #[.int .i64 0, .int .i64 0, .int .i64 0] (0, 0) _ rfl (by (with_reducible repeat (first | refine zac_ ?_ _ | refine zaf_ ?_ | refine zad_ ?_ _)); refine zat_ (cs := #[.int .i64 0, .int .i64 0, .int .i64 0]) ?_ 2 _ rfl; (with_reducible repeat (first | refine zac_ ?_ _ | refine zaf_ ?_ | refine zad_ ?_ _)); refine zat_ (cs := #[.int .i64 0, .int .i64 0, .int .i64 0]) ?_ 1 _ rfl; (with_reducible repeat (first | refine zac_ ?_ _ | refine zaf_ ?_ | refine zad_ ?_ _)); refine zat_ (cs := #[.int .i64 0, .int .i64 0, .int .i64 0]) ?_ 0 _ rfl; (with_reducible repeat (first | refine zac_ ?_ _ | refine zaf_ ?_ | refine zad_ ?_ _)); exact a1.out) Tryd.underlying50 rfl (by kernel_rfl)) rfl ?_
    exact ⟨by first | rfl | (simp [zal_, zak_] <;> rfl) | (simp [*, zal_, zak_] <;> rfl), by repeat (first | (with_reducible first | exact HB.out | apply zah_ | apply zae_ | apply zag_ | refine zai_ ?_ b3.out) | exact HB.out)⟩
  rw [if_pos e6] at H
  have h2 : ((rdOf ByteArray.empty a2 0).toList == ([108, 111, 99, 107] : List UInt8)) = true := beq_iff_eq.mpr e6
  have h3 : ((rdOf ByteArray.empty a2 0).toList != ([108, 111, 99, 107] : List UInt8)) = false := bne_eq_false_iff_eq.mpr e6
  clear e6
  by_cases e7 : (a4.length : Int) = 2
  rotate_left
  · rw [if_neg e7] at H
    have h4 : ((a4.length : Int) == 2) = false := beq_eq_false_iff_ne.mpr e7
    have h5 : ((a4.length : Int) != 2) = true := bne_iff_ne.mpr e7
    simp only [Option.some.injEq, Prod.mk.injEq] at H
    obtain ⟨rfl, rfl, rfl, rfl⟩ := H
    have b4 : 0 ≤ (0 : Int) := (by omega)
    have b5 : 0 < (a2.length : Int) := of_decide_eq_true (by first | (with_reducible assumption) | assumption)
    obtain ⟨ad229, e229, hx229_0⟩ := Kd.zbj_ (Kd.zaS_ HO_4.out).2.2 0 b4 b5
    cases e229
    have qi229 : (0 < a2.length) = True := eq_true (by omega)
    (try rw [show ((0 : Int)).toNat = 0 from rfl] at hx229_0)
    (try rw [Addr.add_zero'] at hx229_0)
    replace b4 := eq_true b4
    replace b5 := eq_true b5
    obtain ⟨v3, v4, o8⟩ := Kd.zbf_ HO_5.out
    subst o8
    have m9 : wc.cell? ⟨a3, 0, none⟩ = some (.int .i64 0) := (zab_ a1.out 0).trans rfl
    have n0 : wc.cell? ⟨a3, 1, none⟩ = some (.int .i64 0) := (zab_ a1.out 1).trans rfl
    have n1 : wc.cell? ⟨a3, 2, none⟩ = some (.int .i64 0) := (zab_ a1.out 2).trans rfl
    have n2 := zaa_ a1.out 0
    have n3 := zaa_ a1.out 1
    have n4 := zaa_ a1.out 2
    go_wp2
    refine bodyPost_ret (zbz_ rfl _ _ a3 50 #[.int .i64 0, .int .i64 0, .int .i64 0] (0, 0) _ rfl (by (with_reducible repeat (first | refine zac_ ?_ _ | refine zaf_ ?_ | refine zad_ ?_ _)); refine zat_ (cs := #[.int .i64 0, .int .i64 0, .int .i64 0]) ?_ 2 _ rfl; (with_reducible repeat (first | refine zac_ ?_ _ | refine zaf_ ?_ | refine zad_ ?_ _)); refine zat_ (cs := #[.int .i64 0, .int .i64 0, .int .i64 0]) ?_ 1 _ rfl; (with_reducible repeat (first | refine zac_ ?_ _ | refine zaf_ ?_ | refine zad_ ?_ _)); refine zat_ (cs := #[.int .i64 0, .int .i64 0, .int .i64 0]) ?_ 0 _ rfl; (with_reducible repeat (first | refine zac_ ?_ _ | refine zaf_ ?_ | refine zad_ ?_ _)); exact a1.out) Tryd.underlying50 rfl (by kernel_rfl)) rfl ?_
    exact ⟨by first | rfl | (simp [zal_, zak_] <;> rfl) | (simp [*, zal_, zak_] <;> rfl), by repeat (first | (with_reducible first | exact HB.out | apply zah_ | apply zae_ | apply zag_ | refine zai_ ?_ b3.out) | exact HB.out)⟩
  rw [if_pos e7] at H
  have h4 : ((a4.length : Int) == 2) = true := beq_iff_eq.mpr e7
  have h5 : ((a4.length : Int) != 2) = false := bne_eq_false_iff_eq.mpr e7
  clear e7
  by_cases n5 : 0 < (a4.length : Int)
  rotate_left
  · rw [if_neg n5] at H
    exact absurd H (by simp)
  rw [if_pos n5] at H
  have q9 : decide (0 < (a4.length : Int)) = true := decide_eq_true n5
  have r0 : decide (0 < a4.length) = true := decide_eq_true (by omega)
  clear n5
  by_cases n6 : 1 < (a4.length : Int)
  rotate_left
  · rw [if_neg n6] at H
    exact absurd H (by simp)
  rw [if_pos n6] at H
  have r5 : decide (1 < (a4.length : Int)) = true := decide_eq_true n6
  have r6 : decide (1 < a4.length) = true := decide_eq_true (by omega)
  clear n6
  simp only [Option.some.injEq, Prod.mk.injEq] at H
  obtain ⟨rfl, rfl, rfl, rfl⟩ := H
  have b4 : 0 ≤ (0 : Int) := (by omega)
  have b5 : 0 < (a2.length : Int) := of_decide_eq_true (by first | (with_reducible assumption) | assumption)
  obtain ⟨ad229, e229, hx229_0⟩ := Kd.zbj_ (Kd.zaS_ HO_4.out).2.2 0 b4 b5
  cases e229
  have qi229 : (0 < a2.length) = True := eq_true (by omega)
  (try rw [show ((0 : Int)).toNat = 0 from rfl] at hx229_0)
  (try rw [Addr.add_zero'] at hx229_0)
  replace b4 := eq_true b4
  replace b5 := eq_true b5
  obtain ⟨v5, v6, o9⟩ := Kd.zbf_ HO_5.out
  subst o9
  try go_wp2
  have b0 := Aside0.mk (Kd.R_drew HO_4.out)
  have b1 := Aside0.mk (Kd.R_drew HO_5.out)
  have b2 := Aside0.mk (zaf_ a1.out)
  have d2 := Aside0.mk (zag_ HB.out)
  clear HO_4
  clear HO_5
  clear a1
  clear HB
  have HO_4 := b0
  have HO_5 := b1
  have a1 := b2
  have HB := d2
  clear b0 b1 b2 d2
  have e8 : 0 ≤ (0 : Int) := (by omega)
  have e9 : 0 < (a4.length : Int) := of_decide_eq_true (by first | (with_reducible assumption) | assumption)
  obtain ⟨ad230, e230, hx230_0⟩ := Kd.at_int (Kd.zaS_ HO_5.out).2.2 0 e8 e9
  cases e230
  have qi230 : (0 < a4.length) = True := eq_true (by omega)
  (try rw [show ((0 : Int)).toNat = 0 from rfl] at hx230_0)
  (try rw [Addr.add_zero'] at hx230_0)
  replace e8 := eq_true e8
  replace e9 := eq_true e9
  have g0 : 0 ≤ (1 : Int) := (by omega)
  have g1 : 1 < (a4.length : Int) := of_decide_eq_true (by first | (with_reducible assumption) | assumption)
  obtain ⟨ad231, e231, hx231_0⟩ := Kd.at_int (Kd.zaS_ HO_5.out).2.2 1 g0 g1
  obtain rfl : ad230 = ad231 := (by injection e231)
  (try simp only [show (1 : Int).toNat = 1 from rfl, Nat.reduceMul, Nat.reduceEqDiff, Go.Addr.add, ↓reduceIte] at hx231_0)
  have qi231 : (1 < a4.length) = True := eq_true (by omega)
  (try rw [show ((1 : Int)).toNat = 1 from rfl] at hx231_0)
  replace g0 := eq_true g0
  replace g1 := eq_true g1
  refine start_ (n := 9) (S := fun w' => w'.cell? ad230 = some (.int .i64 (rd a4 0)) ∧ w'.cell? ⟨ad230.block, ad230.off + 1, none⟩ = some (.int .i64 (rd a4 1))) (ds := []) (bs 9 0) (by kernel_rfl) rfl rfl ⟨hx230_0, hx231_0⟩ (fun hHeld => ?_); refine zbv_ zas_.tab11 zas_.bits11 (fun HT_ HW_ => ?_)
  generalize wc.drew = p0 at HO_4 HO_5 a1 HB hx230_0 hx231_0 hHeld ⊢
  refine pure_ (i := 0) (N := some 64) (v := ?_) (a' := ?_) (bs 9 1) rfl rfl (any_of HT_.out (by kernel_rfl)) (fun _ _ _ h => h) (Or.inl ⟨by rfl, ?_⟩) ?_ ?_
  rotate_left
  · intro w'
    go_simp
    with_reducible rfl
  rotate_left
  · simp only [Act.put, List.setIfInBounds_toArray, List.set_cons_zero, List.set_cons_succ, i64_w, i32_w]
    rfl
  refine pure_ (i := 1) (N := some 65) (v := ?_) (a' := ?_) (bs 9 3) rfl rfl (any_of HT_.out (by kernel_rfl)) (fun _ _ _ h => h) (Or.inl ⟨by rfl, ?_⟩) ?_ ?_
  rotate_left
  · intro w'
    go_simp
    with_reducible rfl
  rotate_left
  · simp only [Act.put, List.setIfInBounds_toArray, List.set_cons_zero, List.set_cons_succ, i64_w, i32_w]
    rfl
  refine pure_ (i := 3) (N := some 67) (v := ?_) (a' := ?_) (bs 9 11) rfl rfl (any_of HT_.out (by kernel_rfl)) (fun _ _ _ h => h) (Or.inl ⟨by rfl, ?_⟩) ?_ ?_
  rotate_left
  · intro w'
    go_simp
    with_reducible rfl
  rotate_left
  · simp only [Act.put, List.setIfInBounds_toArray, List.set_cons_zero, List.set_cons_succ, i64_w, i32_w]
    rfl
  refine pure_ (i := 4) (N := some 68) (v := ?_) (a' := ?_) (bs 9 27) rfl rfl (any_of HT_.out (by kernel_rfl)) (fun _ _ _ h => h) (Or.inl ⟨by rfl, ?_⟩) ?_ ?_
  rotate_left
  · intro w'
    go_simp
    with_reducible rfl
  rotate_left
  · simp only [Act.put, List.setIfInBounds_toArray, List.set_cons_zero, List.set_cons_succ, i64_w, i32_w]
    rfl
  refine take_ (i := 2) (N := some 66) (v := ?_) (a' := ?_) (bs 9 31) rfl rfl (zaT_ HT_.out HW_.out (by kernel_rfl)) (fun _ _ _ h => h) (Or.inl ⟨by rfl, ?_⟩) hHeld ?_ ?_
  rotate_left
  · rintro w' ⟨s0, s1⟩
    go_simp
    with_reducible rfl
  rotate_left
  · simp only [Act.put, List.setIfInBounds_toArray, List.set_cons_zero, List.set_cons_succ, i64_w, i32_w]
    rfl
  refine take_ (i := 5) (N := some 69) (v := ?_) (a' := ?_) (bs 9 63) rfl rfl (zaT_ HT_.out HW_.out (by kernel_rfl)) (fun _ _ _ h => h) (Or.inl ⟨by rfl, ?_⟩) hHeld ?_ ?_
  rotate_left
  · rintro w' ⟨s0, s1⟩
    go_simp
    with_reducible rfl
  rotate_left
  · simp only [Act.put, List.setIfInBounds_toArray, List.set_cons_zero, List.set_cons_succ, i64_w, i32_w]
    rfl
  refine pure_ (i := 6) (N := some 70) (v := ?_) (a' := ?_) (bs 9 127) rfl rfl (any_of HT_.out (by kernel_rfl)) (fun _ _ _ h => h) (Or.inl ⟨by rfl, ?_⟩) ?_ ?_
  rotate_left
  · intro w'
    go_simp
    with_reducible rfl
  rotate_left
  · simp only [Act.put, List.setIfInBounds_toArray, List.set_cons_zero, List.set_cons_succ, i64_w, i32_w]
    rfl
  refine one_ (i := 7) (N := none) (bs 9 255) rfl rfl (one_of HT_.out (by kernel_rfl)) (by decide) (fun K hK => ?_)
  have hs51 : p0.cell? ⟨a3, 0, none⟩ = some (.int .i64 0) := (zab_ a1.out 0).trans rfl
  have hfs51 := zaa_ a1.out 0
  have hs52 : p0.cell? ⟨a3, 1, none⟩ = some (.int .i64 0) := (zab_ a1.out 1).trans rfl
  have hfs52 := zaa_ a1.out 1
  have hs53 : p0.cell? ⟨a3, 2, none⟩ = some (.int .i64 0) := (zab_ a1.out 2).trans rfl
  have hfs53 := zaa_ a1.out 2
  refine skip_ (w1 := ?_) (by rfl) rfl ?_ ?_
  rotate_left
  · go_simp
    rfl
  refine hK.out _ _ ⟨((cell_far (p := ⟨a3, _, none⟩) (by first | exact Kd.zaC_ (Kd.R_ne HO_5.out a1.out (by decide)) | (rw [add_block]; exact Kd.zaC_ (Kd.R_ne HO_5.out a1.out (by decide))) | (show (Addr.add _ _).block ≠ _; rw [add_block]; exact Kd.zaC_ (Kd.R_ne HO_5.out a1.out (by decide))) | (dsimp only; exact Kd.zaC_ (Kd.R_ne HO_5.out a1.out (by decide)))) _).trans (((cell_far (p := ⟨a3, _, none⟩) (by first | exact Kd.zaC_ (Kd.R_ne HO_5.out a1.out (by decide)) | (rw [add_block]; exact Kd.zaC_ (Kd.R_ne HO_5.out a1.out (by decide))) | (show (Addr.add _ _).block ≠ _; rw [add_block]; exact Kd.zaC_ (Kd.R_ne HO_5.out a1.out (by decide))) | (dsimp only; exact Kd.zaC_ (Kd.R_ne HO_5.out a1.out (by decide)))) _).trans (((cell_far (p := ⟨a3, _, none⟩) (by first | exact Kd.zaC_ (Kd.R_ne HO_5.out a1.out (by decide)) | (rw [add_block]; exact Kd.zaC_ (Kd.R_ne HO_5.out a1.out (by decide))) | (show (Addr.add _ _).block ≠ _; rw [add_block]; exact Kd.zaC_ (Kd.R_ne HO_5.out a1.out (by decide))) | (dsimp only; exact Kd.zaC_ (Kd.R_ne HO_5.out a1.out (by decide)))) _).trans (hHeld.1)))))), ((cell_far (p := ⟨a3, _, none⟩) (by first | exact Kd.zaC_ (Kd.R_ne HO_5.out a1.out (by decide)) | (rw [add_block]; exact Kd.zaC_ (Kd.R_ne HO_5.out a1.out (by decide))) | (show (Addr.add _ _).block ≠ _; rw [add_block]; exact Kd.zaC_ (Kd.R_ne HO_5.out a1.out (by decide))) | (dsimp only; exact Kd.zaC_ (Kd.R_ne HO_5.out a1.out (by decide)))) _).trans (((cell_far (p := ⟨a3, _, none⟩) (by first | exact Kd.zaC_ (Kd.R_ne HO_5.out a1.out (by decide)) | (rw [add_block]; exact Kd.zaC_ (Kd.R_ne HO_5.out a1.out (by decide))) | (show (Addr.add _ _).block ≠ _; rw [add_block]; exact Kd.zaC_ (Kd.R_ne HO_5.out a1.out (by decide))) | (dsimp only; exact Kd.zaC_ (Kd.R_ne HO_5.out a1.out (by decide)))) _).trans (((cell_far (p := ⟨a3, _, none⟩) (by first | exact Kd.zaC_ (Kd.R_ne HO_5.out a1.out (by decide)) | (rw [add_block]; exact Kd.zaC_ (Kd.R_ne HO_5.out a1.out (by decide))) | (show (Addr.add _ _).block ≠ _; rw [add_block]; exact Kd.zaC_ (Kd.R_ne HO_5.out a1.out (by decide))) | (dsimp only; exact Kd.zaC_ (Kd.R_ne HO_5.out a1.out (by decide)))) _).trans (hHeld.2))))))⟩ (fun hHeld => ?_)
  clear hK K
  refine pure_ (i := 8) (N := some 3) (v := ?_) (a' := ?_) (bs 9 511) rfl rfl (any_of HT_.out (by kernel_rfl)) (fun _ _ _ h => h) (Or.inl ⟨by rfl, ?_⟩) ?_ ?_
  rotate_left
  · intro w'
    go_simp
    with_reducible rfl
  rotate_left
  · simp only [Act.put, List.setIfInBounds_toArray, List.set_cons_zero, List.set_cons_succ, i64_w, i32_w]
    rfl
  refine done_ (done_of HT_.out (by kernel_rfl)) ?_
  try go_wp2
  refine bodyPost_ret (zbz_ rfl _ _ a3 50 #[.int .i64 3, .int .i64 (rd a4 1), .int .i64 (rd a4 0)] (0, 0) _ rfl (by (with_reducible repeat (first | refine zac_ ?_ _ | refine zaf_ ?_ | refine zad_ ?_ _)); refine zat_ (cs := #[.int .i64 3, .int .i64 (rd a4 1), .int .i64 0]) ?_ 2 _ rfl; (with_reducible repeat (first | refine zac_ ?_ _ | refine zaf_ ?_ | refine zad_ ?_ _)); refine zat_ (cs := #[.int .i64 3, .int .i64 0, .int .i64 0]) ?_ 1 _ rfl; (with_reducible repeat (first | refine zac_ ?_ _ | refine zaf_ ?_ | refine zad_ ?_ _)); refine zat_ (cs := #[.int .i64 0, .int .i64 0, .int .i64 0]) ?_ 0 _ rfl; (with_reducible repeat (first | refine zac_ ?_ _ | refine zaf_ ?_ | refine zad_ ?_ _)); exact a1.out) Tryd.underlying50 rfl (by kernel_rfl)) rfl ?_
  exact ⟨by first | rfl | (simp [zal_, zak_] <;> rfl) | (simp [*, zal_, zak_] <;> rfl), by repeat (first | (with_reducible first | exact HB.out | apply zah_ | apply zae_ | apply zag_ | refine zai_ ?_ b3.out) | exact HB.out)⟩
end Go.Proofs.YtgkjoodlcojkkaaDoor.QD
end
section
namespace Go.Proofs.YtgkjoodlcojkkaaDoor.QD
open Go.RowKit Go.Proofs.YtgkjoodlcojkkaaDoorW.PrintWords Go.Proofs.YtgkjoodlcojkkaaDoorW.PrintLast Go.Proofs.YtgkjoodlcojkkaaDoorW.PrintMore
attribute [local go_sem] zbd_ zbe_ zbm_ zbl_ zaW_ zaX_ zbc_ zbb_
set_option linter.unusedVariables false
set_option linter.unusedSimpArgs false
def zaN_.l0 : Nat → List ByteArray → Int → Int → Option (Bool)
  | 0, _, _, _ => none
  | k + 1, x7, x8, x9 => if x9 < x8 then (if 0 ≤ x9 then (if x9 < (x7.length : Int) then ((zas_.f k (rdOf ByteArray.empty x7 x9)).bind fun a9 => (if a9.2.2.2 = 18 then (some true) else (zaN_.l0 k x7 x8 (wrap64 (x9 + 1))))) else (none)) else (none)) else (some false)
def zaN_.f (k : Nat) (l0 : List ByteArray) : Option (Bool) := zaN_.l0 k l0 (l0.length : Int) 0
theorem zaN_.mono_l : ∀ k, (∀ y0 y1 y2, LeO (zaN_.l0 k y0 y1 y2) (zaN_.l0 (k + 1) y0 y1 y2))
  | 0 => fun _ _ _ r h => by simp [zaN_.l0] at h
  | k + 1 => by
    have ih0 := zaN_.mono_l k
    · intro y0 y1 y2
      unfold zaN_.l0
      repeat' first
      | (with_reducible exact ih0 _ _ _)
      | (with_reducible exact zas_.mono _ _)
      | (with_reducible exact LeO.refl _)
      | (with_reducible exact LeO.none _)
      | (with_reducible refine LeO.ite ?_ ?_)
      | (with_reducible refine LeO.bind ?_ (fun _ => ?_))
      | exact ih0 _ _ _
      | exact zas_.mono _ _
      | exact LeO.none _
      | refine LeO.ite ?_ ?_
      | refine LeO.bind ?_ (fun _ => ?_)
theorem zaN_.mono : ∀ a0 k, LeO (zaN_.f k a0) (zaN_.f (k + 1) a0) := by
  intro a0 k
  have ih0 := zaN_.mono_l k
  unfold zaN_.f
  repeat' first
      | (with_reducible exact ih0 _ _ _)
      | (with_reducible exact zas_.mono _ _)
      | (with_reducible exact LeO.refl _)
      | (with_reducible exact LeO.none _)
      | (with_reducible refine LeO.ite ?_ ?_)
      | (with_reducible refine LeO.bind ?_ (fun _ => ?_))
      | exact ih0 _ _ _
      | exact zas_.mono _ _
      | exact LeO.none _
      | refine LeO.ite ?_ ?_
      | refine LeO.bind ?_ (fun _ => ?_)
set_option maxHeartbeats 8000000 in
set_option maxRecDepth 100000 in
theorem zaN_.calls (k : Nat) (A0 : Option Addr) (c0 : Nat) (l0 : List ByteArray) (r : Bool) (w : World) (hr0 : Kd.C Kd.string w A0 l0.length l0) (hc0 : l0.length ≤ c0) (hG : Glob w) (h : zaN_.f k l0 = some r) :
    Calls Tryd.prog 57 #[.slice A0 l0.length c0] w fun e w' => e = .returned (.bool r) ∧ Below w.heap.size w w' := by
  have hu50 := Tryd.underlying50
  have d8 := Aside0.mk hr0
  have HC0 := Aside0.mk hc0
  clear hr0 hc0
  have HG := Aside0.mk hG
  clear hG
  have HB := Aside0.mk (Below.refl w.heap.size w)
  have H : (zaN_.l0 k l0 (l0.length : Int) 0) = some r := h
  clear h
  have H' := Aside0.mk H
  clear H
  go_enter Tryd.func57, Tryd.ntmps57
  go_wp2
  go_loopg [9] k (fun kq v9 w' => ∃ (a1 : Int), v9 = .int .i64 a1 ∧ Aside0 (zaN_.l0 kq l0 (l0.length : Int) a1 = some r) ∧ Aside0 (kq ≤ k) ∧ Aside0 (Below w.heap.size w w'))
  case atStart => exact ⟨(0), (by first | rfl | (simp; done) | (simp [*]; done)), H', ⟨Nat.le_refl _⟩, ⟨HB.out⟩⟩
  clear H'
  obtain ⟨a1, rfl, HA, d9, HB⟩ := hrel
  cases gk with
  | zero => exact absurd HA.out (by simp [zaN_.l0])
  | succ k1 => ?_
  have H := HA.out
  clear HA
  simp only [zaN_.l0] at H
  by_cases c2 : a1 < (l0.length : Int)
  rotate_left
  · rw [if_neg c2] at H
    have c8 : decide (a1 < (l0.length : Int)) = false := decide_eq_false c2
    clear c2
    obtain rfl := Option.some.inj H
    go_wp2
    go_ret
    exact ⟨by first | rfl | (simp [zal_, zak_] <;> rfl) | (simp [*, zal_, zak_] <;> rfl), HB.out⟩
  rw [if_pos c2] at H
  have c8 : decide (a1 < (l0.length : Int)) = true := decide_eq_true c2
  clear c2
  by_cases c3 : 0 ≤ a1
  rotate_left
  · rw [if_neg c3] at H
    exact absurd H (by simp)
  rw [if_pos c3] at H
  have e1 : decide (0 ≤ a1) = true := decide_eq_true c3
  clear c3
  by_cases c4 : a1 < (l0.length : Int)
  rotate_left
  · rw [if_neg c4] at H
    exact absurd H (by simp)
  rw [if_pos c4] at H
  have e2 : decide (a1 < (l0.length : Int)) = true := decide_eq_true c4
  clear c4
  replace H := Option.bind_eq_some_iff.mp H
  obtain ⟨⟨b0, b1, b2, a4⟩, e0, H⟩ := H
  replace H : (if a4 = 18 then (some true) else (zaN_.l0 k1 l0 (l0.length : Int) (wrap64 (a1 + 1)))) = some r := H
  have A5 := Aside0.mk e0
  clear e0
  by_cases c6 : a4 = 18
  rotate_left
  · rw [if_neg c6] at H
    have c9 : (a4 == 18) = false := beq_eq_false_iff_ne.mpr c6
    have d0 : (a4 != 18) = true := bne_iff_ne.mpr c6
    have H' := Aside0.mk H
    clear H
    have a5 : 0 ≤ (a1 : Int) := of_decide_eq_true (by first | (with_reducible assumption) | assumption)
    have a6 : a1 < (l0.length : Int) := of_decide_eq_true (by first | (with_reducible assumption) | assumption)
    obtain ⟨ad232, e232, hx232_0⟩ := Kd.zbj_ d8.out a1 a5 a6
    cases e232
    replace hx232_0 := (HB.out.cell (World.block_lt_of_cell? w _ hx232_0)).trans hx232_0
    replace a5 := eq_true a5
    replace a6 := eq_true a6
    go_wp2_with (first | ((with_reducible refine zar_ (f := 58) rfl ?_); refine goesL_ (some 15) rfl rfl Tryd.func58 (by kernel_rfl) rfl #[.string (rdOf ByteArray.empty l0 a1)] rfl (by (try simp only [List.map_toArray, List.map_cons, List.map_nil]); first | done | rfl | (simp only [List.length_drop, List.length_take]; rfl)) ?_; (with_reducible refine (zas_.calls k1 (rdOf ByteArray.empty l0 a1) b0 b1 b2 a4 _ ?side1 A5.out).mono ?_); (case side1 => first | exact Glob.below HG.out (HB.out) | (repeat (first | exact Glob.below HG.out HB.out | (with_reducible refine Glob.alloc ?_ _) | (with_reducible refine Glob.drewN ?_ _) | (with_reducible refine Glob.drew ?_)))); rintro e w7 ⟨rfl, hb⟩; refine ⟨_, rfl, ?_⟩; have a7 := Aside0.mk (zaj_ (HB.out) hb); clear HB; have HB := a7; clear a7; (try clear hb); (try clear hb2); (try clear hk); (try clear hi)) | ((with_reducible refine zaL_ (N := 5) rfl ?_); refine zaD_ ?hg (N := 5) ?hd (cs := #[.int .i64 0, .int .i64 0, .int .i64 0]) (t := 50) ?hr ?_; (case hd => rfl); (case hg => rfl); (case hr => first | (go_simp; done) | (go_simp; rfl)); intro a3 hg w8 hbox hb; have a7 := Aside0.mk (zaj_ (HB.out) hb); have b3 := Aside0.mk (hbox); have b4 := Aside0.mk ((by rw [hg]; exact (zam_ (HB.out)) : w.heap.size ≤ a3)); have b5 := Aside0.mk ((by rw [hg]; exact (zam_ (HB.out)) : w.heap.size ≤ a3)); clear HB; have HB := a7; have a2 := b3; have b6 := b4; have a8 := b5; clear a7 b3 b4 b5; clear hb hbox hg; have d1 : w8.cell? ⟨a3, 0, none⟩ = some (.int .i64 0) := (zab_ a2.out 0).trans rfl; have d2 : w8.cell? ⟨a3, 1, none⟩ = some (.int .i64 0) := (zab_ a2.out 1).trans rfl; have d3 : w8.cell? ⟨a3, 2, none⟩ = some (.int .i64 0) := (zab_ a2.out 2).trans rfl; have d4 := zaa_ a2.out 0; have d5 := zaa_ a2.out 1; have d6 := zaa_ a2.out 2))
    go_roundg k1
    case measure => have := d9.out; omega
    case rel => exact ⟨(wrap64 (a1 + 1)), (by first | rfl | (simp; done) | (simp [*]; done)), H', ⟨by have := d9.out; omega⟩, ⟨by repeat (first | (with_reducible first | exact HB.out | apply zah_ | apply zae_ | apply zag_ | refine zai_ ?_ a8.out) | exact HB.out)⟩⟩
  rw [if_pos c6] at H
  have c9 : (a4 == 18) = true := beq_iff_eq.mpr c6
  have d0 : (a4 != 18) = false := bne_eq_false_iff_eq.mpr c6
  clear c6
  obtain rfl := Option.some.inj H
  have a5 : 0 ≤ (a1 : Int) := of_decide_eq_true (by first | (with_reducible assumption) | assumption)
  have a6 : a1 < (l0.length : Int) := of_decide_eq_true (by first | (with_reducible assumption) | assumption)
  obtain ⟨ad232, e232, hx232_0⟩ := Kd.zbj_ d8.out a1 a5 a6
  cases e232
  replace hx232_0 := (HB.out.cell (World.block_lt_of_cell? w _ hx232_0)).trans hx232_0
  replace a5 := eq_true a5
  replace a6 := eq_true a6
  go_wp2_with (first | ((with_reducible refine zar_ (f := 58) rfl ?_); refine goesL_ (some 15) rfl rfl Tryd.func58 (by kernel_rfl) rfl #[.string (rdOf ByteArray.empty l0 a1)] rfl (by (try simp only [List.map_toArray, List.map_cons, List.map_nil]); first | done | rfl | (simp only [List.length_drop, List.length_take]; rfl)) ?_; (with_reducible refine (zas_.calls k1 (rdOf ByteArray.empty l0 a1) b0 b1 b2 a4 _ ?side1 A5.out).mono ?_); (case side1 => first | exact Glob.below HG.out (HB.out) | (repeat (first | exact Glob.below HG.out HB.out | (with_reducible refine Glob.alloc ?_ _) | (with_reducible refine Glob.drewN ?_ _) | (with_reducible refine Glob.drew ?_)))); rintro e e3 ⟨rfl, hb⟩; refine ⟨_, rfl, ?_⟩; have a7 := Aside0.mk (zaj_ (HB.out) hb); clear HB; have HB := a7; clear a7; (try clear hb); (try clear hb2); (try clear hk); (try clear hi)) | ((with_reducible refine zaL_ (N := 5) rfl ?_); refine zaD_ ?hg (N := 5) ?hd (cs := #[.int .i64 0, .int .i64 0, .int .i64 0]) (t := 50) ?hr ?_; (case hd => rfl); (case hg => rfl); (case hr => first | (go_simp; done) | (go_simp; rfl)); intro a3 hg d7 hbox hb; have a7 := Aside0.mk (zaj_ (HB.out) hb); have b3 := Aside0.mk (hbox); have b4 := Aside0.mk ((by rw [hg]; exact (zam_ (HB.out)) : w.heap.size ≤ a3)); have b5 := Aside0.mk ((by rw [hg]; exact (zam_ (HB.out)) : w.heap.size ≤ a3)); clear HB; have HB := a7; have a2 := b3; have b6 := b4; have a8 := b5; clear a7 b3 b4 b5; clear hb hbox hg; have b7 : d7.cell? ⟨a3, 0, none⟩ = some (.int .i64 0) := (zab_ a2.out 0).trans rfl; have b8 : d7.cell? ⟨a3, 1, none⟩ = some (.int .i64 0) := (zab_ a2.out 1).trans rfl; have b9 : d7.cell? ⟨a3, 2, none⟩ = some (.int .i64 0) := (zab_ a2.out 2).trans rfl; have c1 := zaa_ a2.out 0; have c5 := zaa_ a2.out 1; have c7 := zaa_ a2.out 2))
  go_ret
  exact ⟨by first | rfl | (simp [zal_, zak_] <;> rfl) | (simp [*, zal_, zak_] <;> rfl), by repeat (first | (with_reducible first | exact HB.out | apply zah_ | apply zae_ | apply zag_ | refine zai_ ?_ a8.out) | exact HB.out)⟩
end Go.Proofs.YtgkjoodlcojkkaaDoor.QD
end
