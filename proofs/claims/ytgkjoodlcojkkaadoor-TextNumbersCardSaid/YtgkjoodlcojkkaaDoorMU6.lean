import Derived.Test.YtgkjoodlcojkkaaDoorMU2
import Derived.Test.YtgkjoodlcojkkaaDoorMU5
import Derived.Test.YtgkjoodlcojkkaaDoorMU4
section
namespace Go.Proofs.YtgkjoodlcojkkaaDoor.QD
open Go.RowKit Go.Proofs.YtgkjoodlcojkkaaDoorW.PrintWords Go.Proofs.YtgkjoodlcojkkaaDoorW.PrintLast Go.Proofs.YtgkjoodlcojkkaaDoorW.PrintMore
attribute [local go_sem] max2_int min2_int max_two min_two max_three min_three max_four min_four
set_option linter.unusedVariables false
set_option linter.unusedSimpArgs false
mutual
def sr_Same.j0 : Nat → Bool → Int → List Int → List Int → List (S53) → Int → List Int → List Int → List (S53) → Option (Bool)
  | 0, _, _, _, _, _, _, _, _, _ => none
  | k + 1, x35, x336000, x336001, x336002, x336003, x337000, x337001, x337002, x337003 => if x35 = true then (some false) else (sr_Same.l0 k 0 x336000 x336001 x336002 x336003 x337000 x337001 x337002 x337003)
def sr_Same.l0 : Nat → Int → Int → List Int → List Int → List (S53) → Int → List Int → List Int → List (S53) → Option (Bool)
  | 0, _, _, _, _, _, _, _, _, _ => none
  | k + 1, x5, x336000, x336001, x336002, x336003, x337000, x337001, x337002, x337003 => if x5 < (x336003.length : Int) then (if 0 ≤ x5 then (if x5 < (x337003.length : Int) then ((sr_SameTask.f k ((rd_T53 x336003 x5).f0) ((rd_T53 x336003 x5).f1) ((rd_T53 x336003 x5).f2) ((rd_T53 x336003 x5).f3) ((rd_T53 x336003 x5).f4) ((rd_T53 x336003 x5).f5) ((rd_T53 x337003 x5).f0) ((rd_T53 x337003 x5).f1) ((rd_T53 x337003 x5).f2) ((rd_T53 x337003 x5).f3) ((rd_T53 x337003 x5).f4) ((rd_T53 x337003 x5).f5)).bind fun t341 => (if t341 = true then (sr_Same.l0 k (wrap64 (x5 + 1)) x336000 x336001 x336002 x336003 x337000 x337001 x337002 x337003) else (some false))) else (none)) else (none)) else (some true)
end
def sr_Same.f (k : Nat) (a0_0 : Int) (l0_1 : List Int) (l0_2 : List Int) (l0_3 : List (S53)) (a1_0 : Int) (l1_1 : List Int) (l1_2 : List Int) (l1_3 : List (S53)) : Option (Bool) := if a0_0 = a1_0 then ((sr_sameInts.f k l0_1 l1_1).bind fun t337 => (if t337 = true then ((sr_sameInts.f k l0_2 l1_2).bind fun t338 => (if t338 = true then (sr_Same.j0 k ((l0_3.length : Int) != (l1_3.length : Int)) a0_0 l0_1 l0_2 l0_3 a1_0 l1_1 l1_2 l1_3) else (sr_Same.j0 k true a0_0 l0_1 l0_2 l0_3 a1_0 l1_1 l1_2 l1_3))) else (sr_Same.j0 k true a0_0 l0_1 l0_2 l0_3 a1_0 l1_1 l1_2 l1_3))) else (sr_Same.j0 k true a0_0 l0_1 l0_2 l0_3 a1_0 l1_1 l1_2 l1_3)
theorem sr_Same.mono_l : ∀ k, (∀ y0 y1 y2 y3 y4 y5 y6 y7 y8, LeO (sr_Same.j0 k y0 y1 y2 y3 y4 y5 y6 y7 y8) (sr_Same.j0 (k + 1) y0 y1 y2 y3 y4 y5 y6 y7 y8)) ∧ (∀ y0 y1 y2 y3 y4 y5 y6 y7 y8, LeO (sr_Same.l0 k y0 y1 y2 y3 y4 y5 y6 y7 y8) (sr_Same.l0 (k + 1) y0 y1 y2 y3 y4 y5 y6 y7 y8))
  | 0 => ⟨fun _ _ _ _ _ _ _ _ _ r h => by simp [sr_Same.j0] at h, fun _ _ _ _ _ _ _ _ _ r h => by simp [sr_Same.l0] at h⟩
  | k + 1 => by
    obtain ⟨ih0, ih1⟩ := sr_Same.mono_l k
    refine ⟨?_, ?_⟩
    · intro y0 y1 y2 y3 y4 y5 y6 y7 y8
      unfold sr_Same.j0
      repeat' first
      | (with_reducible exact ih0 _ _ _ _ _ _ _ _ _)
      | (with_reducible exact ih1 _ _ _ _ _ _ _ _ _)
      | (with_reducible exact sr_SameTask.mono _ _ _ _ _ _ _ _ _ _ _ _ _)
      | (with_reducible exact sr_sameInts.mono _ _ _)
      | (with_reducible exact LeO.refl _)
      | (with_reducible exact LeO.none _)
      | (with_reducible refine LeO.ite ?_ ?_)
      | (with_reducible refine LeO.bind ?_ (fun _ => ?_))
      | exact ih0 _ _ _ _ _ _ _ _ _
      | exact ih1 _ _ _ _ _ _ _ _ _
      | exact sr_SameTask.mono _ _ _ _ _ _ _ _ _ _ _ _ _
      | exact sr_sameInts.mono _ _ _
      | exact LeO.none _
      | refine LeO.ite ?_ ?_
      | refine LeO.bind ?_ (fun _ => ?_)
    · intro y0 y1 y2 y3 y4 y5 y6 y7 y8
      unfold sr_Same.l0
      repeat' first
      | (with_reducible exact ih0 _ _ _ _ _ _ _ _ _)
      | (with_reducible exact ih1 _ _ _ _ _ _ _ _ _)
      | (with_reducible exact sr_SameTask.mono _ _ _ _ _ _ _ _ _ _ _ _ _)
      | (with_reducible exact sr_sameInts.mono _ _ _)
      | (with_reducible exact LeO.refl _)
      | (with_reducible exact LeO.none _)
      | (with_reducible refine LeO.ite ?_ ?_)
      | (with_reducible refine LeO.bind ?_ (fun _ => ?_))
      | exact ih0 _ _ _ _ _ _ _ _ _
      | exact ih1 _ _ _ _ _ _ _ _ _
      | exact sr_SameTask.mono _ _ _ _ _ _ _ _ _ _ _ _ _
      | exact sr_sameInts.mono _ _ _
      | exact LeO.none _
      | refine LeO.ite ?_ ?_
      | refine LeO.bind ?_ (fun _ => ?_)
theorem sr_Same.mono : ∀ a0 a1 a2 a3 a4 a5 a6 a7 k, LeO (sr_Same.f k a0 a1 a2 a3 a4 a5 a6 a7) (sr_Same.f (k + 1) a0 a1 a2 a3 a4 a5 a6 a7) := by
  intro a0 a1 a2 a3 a4 a5 a6 a7 k
  obtain ⟨ih0, ih1⟩ := sr_Same.mono_l k
  unfold sr_Same.f
  repeat' first
      | (with_reducible exact ih0 _ _ _ _ _ _ _ _ _)
      | (with_reducible exact ih1 _ _ _ _ _ _ _ _ _)
      | (with_reducible exact sr_SameTask.mono _ _ _ _ _ _ _ _ _ _ _ _ _)
      | (with_reducible exact sr_sameInts.mono _ _ _)
      | (with_reducible exact LeO.refl _)
      | (with_reducible exact LeO.none _)
      | (with_reducible refine LeO.ite ?_ ?_)
      | (with_reducible refine LeO.bind ?_ (fun _ => ?_))
      | exact ih0 _ _ _ _ _ _ _ _ _
      | exact ih1 _ _ _ _ _ _ _ _ _
      | exact sr_SameTask.mono _ _ _ _ _ _ _ _ _ _ _ _ _
      | exact sr_sameInts.mono _ _ _
      | exact LeO.none _
      | refine LeO.ite ?_ ?_
      | refine LeO.bind ?_ (fun _ => ?_)
def sr_Same.T6 : Bool × List (List Nat × List Nat) := (true, [([], []), ([0], [0]), ([], []), ([1, 2], [1, 2]), ([3], [3]), ([], []), ([5], [5]), ([], []), ([6, 7], [6, 7]), ([8], [8]), ([4, 9], [4, 9]), ([10], [10])])
def sr_Same.B6 : List Nat := [0, 1, 0, 7, 15, 0, 32, 0, 224, 480, 1023, 2047]
theorem sr_Same.tab6 : rtab .any (opsOf Tryd.f26 6) = sr_Same.T6 := by kernel_rfl
theorem sr_Same.bits6 : waitsOk sr_Same.T6.2 sr_Same.B6 = true := by kernel_rfl
set_option maxHeartbeats 8000000 in
set_option maxRecDepth 100000 in
theorem sr_Same.calls (k : Nat) (a0_0 : Int) (A0_1 : Option Addr) (c0_1 : Nat) (l0_1 : List Int) (A0_2 : Option Addr) (c0_2 : Nat) (l0_2 : List Int) (A0_3 : Option Addr) (c0_3 : Nat) (l0_3 : List (S53)) (a1_0 : Int) (A1_1 : Option Addr) (c1_1 : Nat) (l1_1 : List Int) (A1_2 : Option Addr) (c1_2 : Nat) (l1_2 : List Int) (A1_3 : Option Addr) (c1_3 : Nat) (l1_3 : List (S53)) (r : Bool) (w : World) (hr0_1 : Kd.C (Kd.int .i64) w A0_1 l0_1.length l0_1) (hc0_1 : l0_1.length ≤ c0_1) (hr0_2 : Kd.C (Kd.int .i64) w A0_2 l0_2.length l0_2) (hc0_2 : l0_2.length ≤ c0_2) (hr0_3 : Kd.C k53 w A0_3 l0_3.length l0_3) (hc0_3 : l0_3.length ≤ c0_3) (hr1_1 : Kd.C (Kd.int .i64) w A1_1 l1_1.length l1_1) (hc1_1 : l1_1.length ≤ c1_1) (hr1_2 : Kd.C (Kd.int .i64) w A1_2 l1_2.length l1_2) (hc1_2 : l1_2.length ≤ c1_2) (hr1_3 : Kd.C k53 w A1_3 l1_3.length l1_3) (hc1_3 : l1_3.length ≤ c1_3) (h : sr_Same.f k a0_0 l0_1 l0_2 l0_3 a1_0 l1_1 l1_2 l1_3 = some r) :
    Calls Tryd.prog 26 #[.agg #[.int .i64 a0_0, .slice A0_1 l0_1.length c0_1, .slice A0_2 l0_2.length c0_2, .slice A0_3 l0_3.length c0_3], .agg #[.int .i64 a1_0, .slice A1_1 l1_1.length c1_1, .slice A1_2 l1_2.length c1_2, .slice A1_3 l1_3.length c1_3]] w fun e w' => e = .returned (.bool r) ∧ Below w.heap.size w w' := by
  have hu37 := Tryd.underlying37
  have hu53 := Tryd.underlying53
  have HR0_1 := Aside0.mk hr0_1
  have HC0_1 := Aside0.mk hc0_1
  clear hr0_1 hc0_1
  have HR0_2 := Aside0.mk hr0_2
  have HC0_2 := Aside0.mk hc0_2
  clear hr0_2 hc0_2
  have HR0_3 := Aside0.mk hr0_3
  have HC0_3 := Aside0.mk hc0_3
  clear hr0_3 hc0_3
  have HR1_1 := Aside0.mk hr1_1
  have HC1_1 := Aside0.mk hc1_1
  clear hr1_1 hc1_1
  have HR1_2 := Aside0.mk hr1_2
  have HC1_2 := Aside0.mk hc1_2
  clear hr1_2 hc1_2
  have HR1_3 := Aside0.mk hr1_3
  have HC1_3 := Aside0.mk hc1_3
  clear hr1_3 hc1_3
  have HB := Aside0.mk (Below.refl w.heap.size w)
  have H : (if a0_0 = a1_0 then ((sr_sameInts.f k l0_1 l1_1).bind fun t337 => (if t337 = true then ((sr_sameInts.f k l0_2 l1_2).bind fun t338 => (if t338 = true then (sr_Same.j0 k ((l0_3.length : Int) != (l1_3.length : Int)) a0_0 l0_1 l0_2 l0_3 a1_0 l1_1 l1_2 l1_3) else (sr_Same.j0 k true a0_0 l0_1 l0_2 l0_3 a1_0 l1_1 l1_2 l1_3))) else (sr_Same.j0 k true a0_0 l0_1 l0_2 l0_3 a1_0 l1_1 l1_2 l1_3))) else (sr_Same.j0 k true a0_0 l0_1 l0_2 l0_3 a1_0 l1_1 l1_2 l1_3)) = some r := h
  clear h
  have HC3 := Aside0.mk H
  clear H
  go_enter Tryd.func26, Tryd.ntmps26
  go_upto_region 1 with (first | ((with_reducible refine gate_dst (N := 2) rfl ?_); (try (refine gate_guard (by rfl) ?_; dsimp only)); refine box_event ?hg (N := 2) ?hd (cs := #[.int .i64 a0_0, .slice A0_1 l0_1.length c0_1, .slice A0_2 l0_2.length c0_2, .slice A0_3 l0_3.length c0_3]) (t := 37) ?hr ?_; (case hd => rfl); (case hg => rfl); (case hr => first | (go_simp; done) | (go_simp; rfl)); intro gb335 hg w4 hbox hb; have n0_ := Aside0.mk (below_step (HB.out) hb); have n1_ := Aside0.mk (hbox); have n2_ := Aside0.mk ((by rw [hg]; exact (below_size (HB.out)) : w.heap.size ≤ gb335)); have n3_ := Aside0.mk ((by rw [hg]; exact (below_size (HB.out)) : w.heap.size ≤ gb335)); clear HB; have HB := n0_; have BK335 := n1_; have GW335 := n2_; have GE335 := n3_; clear n0_ n1_ n2_ n3_; clear hb hbox hg) | ((with_reducible refine gate_dst (N := 3) rfl ?_); (try (refine gate_guard (by rfl) ?_; dsimp only)); refine box_event ?hg (N := 3) ?hd (cs := #[.int .i64 a1_0, .slice A1_1 l1_1.length c1_1, .slice A1_2 l1_2.length c1_2, .slice A1_3 l1_3.length c1_3]) (t := 37) ?hr ?_; (case hd => rfl); (case hg => rfl); (case hr => first | (go_simp; done) | (go_simp; rfl)); intro gb336 hg w5 hbox hb; have n0_ := Aside0.mk (blk_below BK335.out hb); have n1_ := Aside0.mk (below_step (HB.out) hb); have n2_ := Aside0.mk (hbox); have n3_ := Aside0.mk ((by rw [hg]; exact (below_size (HB.out)) : w.heap.size ≤ gb336)); have n4_ := Aside0.mk ((by rw [hg]; exact (below_size (HB.out)) : w.heap.size ≤ gb336)); have n5_ := Aside0.mk ((by rw [hg]; exact Nat.ne_of_lt (blk_lt BK335.out) : gb335 ≠ gb336)); have n6_ := Aside0.mk ((by rw [hg]; exact Nat.ne_of_gt (blk_lt BK335.out) : gb336 ≠ gb335)); clear BK335; clear HB; have BK335 := n0_; have HB := n1_; have BK336 := n2_; have GW336 := n3_; have GE336 := n4_; have NB335_336 := n5_; have NB336_335 := n6_; clear n0_ n1_ n2_ n3_ n4_ n5_ n6_; clear hb hbox hg))
  (try simp only [Act.put, List.setIfInBounds_toArray, List.set_cons_zero, List.set_cons_succ])
  go_cut [35] (fun v35 wc => ∃ (kq : Nat) (x35_2 : Bool), v35 = .bool x35_2 ∧ Aside0 (sr_Same.j0 kq x35_2 a0_0 l0_1 l0_2 l0_3 a1_0 l1_1 l1_2 l1_3 = some r) ∧ Aside0 (kq ≤ k) ∧ Aside0 (wc.heap[gb335]? = some (.cells #[.int .i64 a0_0, (.slice A0_1 l0_1.length c0_1), (.slice A0_2 l0_2.length c0_2), (.slice A0_3 l0_3.length c0_3)] 37 (0, 0))) ∧ Aside0 (wc.heap[gb336]? = some (.cells #[.int .i64 a1_0, (.slice A1_1 l1_1.length c1_1), (.slice A1_2 l1_2.length c1_2), (.slice A1_3 l1_3.length c1_3)] 37 (0, 0))) ∧ Aside0 (Below w.heap.size w wc))
  case first =>
    have H := HC3.out
    clear HC3
    by_cases c6 : a0_0 = a1_0
    rotate_left
    · rw [if_neg c6] at H
      have c6b0 : (a0_0 == a1_0) = false := beq_eq_false_iff_ne.mpr c6
      have c6b1 : (a0_0 != a1_0) = true := bne_iff_ne.mpr c6
      (first | rw [c6b0] | (simp only [i64_w, i32_w]; rw [c6b0]) | skip)
      have H' := Aside0.mk H
      clear H
      have hnb7 := NB335_336.out
      have hnc7 := NB336_335.out
      have hcz8_0 : w5.cell? ⟨gb335, 0, none⟩ = some (.int .i64 a0_0) := (blk_cell BK335.out 0).trans rfl
      have hcz8_1 : w5.cell? ⟨gb335, 1, none⟩ = some (.slice A0_1 l0_1.length c0_1) := (blk_cell BK335.out 1).trans rfl
      have hcz8_2 : w5.cell? ⟨gb335, 2, none⟩ = some (.slice A0_2 l0_2.length c0_2) := (blk_cell BK335.out 2).trans rfl
      have hcz8_3 : w5.cell? ⟨gb335, 3, none⟩ = some (.slice A0_3 l0_3.length c0_3) := (blk_cell BK335.out 3).trans rfl
      have hfz8_0 := blk_frozen BK335.out 0
      have hfz8_1 := blk_frozen BK335.out 1
      have hfz8_2 := blk_frozen BK335.out 2
      have hfz8_3 := blk_frozen BK335.out 3
      have hcz9_0 : w5.cell? ⟨gb336, 0, none⟩ = some (.int .i64 a1_0) := (blk_cell BK336.out 0).trans rfl
      have hcz9_1 : w5.cell? ⟨gb336, 1, none⟩ = some (.slice A1_1 l1_1.length c1_1) := (blk_cell BK336.out 1).trans rfl
      have hcz9_2 : w5.cell? ⟨gb336, 2, none⟩ = some (.slice A1_2 l1_2.length c1_2) := (blk_cell BK336.out 2).trans rfl
      have hcz9_3 : w5.cell? ⟨gb336, 3, none⟩ = some (.slice A1_3 l1_3.length c1_3) := (blk_cell BK336.out 3).trans rfl
      have hfz9_0 := blk_frozen BK336.out 0
      have hfz9_1 := blk_frozen BK336.out 1
      have hfz9_2 := blk_frozen BK336.out 2
      have hfz9_3 := blk_frozen BK336.out 3
      go_wp2
      go_meet
      case rel => exact ⟨_, (true), (by first | rfl | (simp; done) | (simp [*]; done)), H', ⟨by first | omega | exact Nat.le_refl _⟩, ⟨BK335.out⟩, ⟨BK336.out⟩, ⟨HB.out⟩⟩
    rw [if_pos c6] at H
    have c6b0 : (a0_0 == a1_0) = true := beq_iff_eq.mpr c6
    have c6b1 : (a0_0 != a1_0) = false := bne_eq_false_iff_eq.mpr c6
    clear c6
    (first | rw [c6b0] | (simp only [i64_w, i32_w]; rw [c6b0]) | skip)
    replace H := Option.bind_eq_some_iff.mp H
    obtain ⟨t337, A100, H⟩ := H
    replace H : (if t337 = true then ((sr_sameInts.f k l0_2 l1_2).bind fun t338 => (if t338 = true then (sr_Same.j0 k ((l0_3.length : Int) != (l1_3.length : Int)) a0_0 l0_1 l0_2 l0_3 a1_0 l1_1 l1_2 l1_3) else (sr_Same.j0 k true a0_0 l0_1 l0_2 l0_3 a1_0 l1_1 l1_2 l1_3))) else (sr_Same.j0 k true a0_0 l0_1 l0_2 l0_3 a1_0 l1_1 l1_2 l1_3)) = some r := H
    have A10 := Aside0.mk A100
    clear A100
    by_cases c11 : t337 = true
    rotate_left
    · replace c11 := Bool.eq_false_iff.mpr c11
      subst c11
      have H1 : (sr_Same.j0 k true a0_0 l0_1 l0_2 l0_3 a1_0 l1_1 l1_2 l1_3) = some r := by rw [if_neg (show ¬ (false = true) by decide)] at H; exact H
      clear H
      have H := H1
      clear H1
      have H' := Aside0.mk H
      clear H
      have hnb12 := NB335_336.out
      have hnc12 := NB336_335.out
      have hcz13_0 : w5.cell? ⟨gb335, 0, none⟩ = some (.int .i64 a0_0) := (blk_cell BK335.out 0).trans rfl
      have hcz13_1 : w5.cell? ⟨gb335, 1, none⟩ = some (.slice A0_1 l0_1.length c0_1) := (blk_cell BK335.out 1).trans rfl
      have hcz13_2 : w5.cell? ⟨gb335, 2, none⟩ = some (.slice A0_2 l0_2.length c0_2) := (blk_cell BK335.out 2).trans rfl
      have hcz13_3 : w5.cell? ⟨gb335, 3, none⟩ = some (.slice A0_3 l0_3.length c0_3) := (blk_cell BK335.out 3).trans rfl
      have hfz13_0 := blk_frozen BK335.out 0
      have hfz13_1 := blk_frozen BK335.out 1
      have hfz13_2 := blk_frozen BK335.out 2
      have hfz13_3 := blk_frozen BK335.out 3
      have hcz14_0 : w5.cell? ⟨gb336, 0, none⟩ = some (.int .i64 a1_0) := (blk_cell BK336.out 0).trans rfl
      have hcz14_1 : w5.cell? ⟨gb336, 1, none⟩ = some (.slice A1_1 l1_1.length c1_1) := (blk_cell BK336.out 1).trans rfl
      have hcz14_2 : w5.cell? ⟨gb336, 2, none⟩ = some (.slice A1_2 l1_2.length c1_2) := (blk_cell BK336.out 2).trans rfl
      have hcz14_3 : w5.cell? ⟨gb336, 3, none⟩ = some (.slice A1_3 l1_3.length c1_3) := (blk_cell BK336.out 3).trans rfl
      have hfz14_0 := blk_frozen BK336.out 0
      have hfz14_1 := blk_frozen BK336.out 1
      have hfz14_2 := blk_frozen BK336.out 2
      have hfz14_3 := blk_frozen BK336.out 3
      go_wp2_with (first | (go_at_call 43; (with_reducible refine (sr_sameInts.calls k _ _ l0_1 _ _ l1_1 false _ ?side1 ?side2 ?side3 ?side4 A10.out).mono ?_); (case side1 => repeat (first | exact (Kd.C_below HR0_1.out HB.out) | (with_reducible refine Kd.C_alloc ?_ _) | (with_reducible refine Kd.C_drewN ?_ _) | (with_reducible refine Kd.C_drew ?_))); (case side2 => exact HC0_1.out); (case side3 => repeat (first | exact (Kd.C_below HR1_1.out HB.out) | (with_reducible refine Kd.C_alloc ?_ _) | (with_reducible refine Kd.C_drewN ?_ _) | (with_reducible refine Kd.C_drew ?_))); (case side4 => exact HC1_1.out); rintro e w' ⟨rfl, ⟨nd, rfl⟩⟩))
      go_meet
      case rel => exact ⟨_, (true), (by first | rfl | (simp; done) | (simp [*]; done)), H', ⟨by first | omega | exact Nat.le_refl _⟩, ⟨by (with_reducible repeat (first | refine blk_drewN ?_ _ | refine blk_drew ?_ | refine blk_alloc ?_ _)); exact BK335.out⟩, ⟨by (with_reducible repeat (first | refine blk_drewN ?_ _ | refine blk_drew ?_ | refine blk_alloc ?_ _)); exact BK336.out⟩, ⟨by repeat (first | (with_reducible first | exact HB.out | apply below_alloc | apply pw_below_drewN | apply below_drew1 | refine below_set ?_ GE335.out | refine below_set ?_ GE336.out) | exact HB.out)⟩⟩
    subst c11
    have H1 : ((sr_sameInts.f k l0_2 l1_2).bind fun t338 => (if t338 = true then (sr_Same.j0 k ((l0_3.length : Int) != (l1_3.length : Int)) a0_0 l0_1 l0_2 l0_3 a1_0 l1_1 l1_2 l1_3) else (sr_Same.j0 k true a0_0 l0_1 l0_2 l0_3 a1_0 l1_1 l1_2 l1_3))) = some r := by rw [if_pos rfl] at H; exact H
    clear H
    have H := H1
    clear H1
    replace H := Option.bind_eq_some_iff.mp H
    obtain ⟨t338, A150, H⟩ := H
    replace H : (if t338 = true then (sr_Same.j0 k ((l0_3.length : Int) != (l1_3.length : Int)) a0_0 l0_1 l0_2 l0_3 a1_0 l1_1 l1_2 l1_3) else (sr_Same.j0 k true a0_0 l0_1 l0_2 l0_3 a1_0 l1_1 l1_2 l1_3)) = some r := H
    have A15 := Aside0.mk A150
    clear A150
    by_cases c16 : t338 = true
    rotate_left
    · replace c16 := Bool.eq_false_iff.mpr c16
      subst c16
      have H1 : (sr_Same.j0 k true a0_0 l0_1 l0_2 l0_3 a1_0 l1_1 l1_2 l1_3) = some r := by rw [if_neg (show ¬ (false = true) by decide)] at H; exact H
      clear H
      have H := H1
      clear H1
      have H' := Aside0.mk H
      clear H
      have hnb17 := NB335_336.out
      have hnc17 := NB336_335.out
      have hcz18_0 : w5.cell? ⟨gb335, 0, none⟩ = some (.int .i64 a0_0) := (blk_cell BK335.out 0).trans rfl
      have hcz18_1 : w5.cell? ⟨gb335, 1, none⟩ = some (.slice A0_1 l0_1.length c0_1) := (blk_cell BK335.out 1).trans rfl
      have hcz18_2 : w5.cell? ⟨gb335, 2, none⟩ = some (.slice A0_2 l0_2.length c0_2) := (blk_cell BK335.out 2).trans rfl
      have hcz18_3 : w5.cell? ⟨gb335, 3, none⟩ = some (.slice A0_3 l0_3.length c0_3) := (blk_cell BK335.out 3).trans rfl
      have hfz18_0 := blk_frozen BK335.out 0
      have hfz18_1 := blk_frozen BK335.out 1
      have hfz18_2 := blk_frozen BK335.out 2
      have hfz18_3 := blk_frozen BK335.out 3
      have hcz19_0 : w5.cell? ⟨gb336, 0, none⟩ = some (.int .i64 a1_0) := (blk_cell BK336.out 0).trans rfl
      have hcz19_1 : w5.cell? ⟨gb336, 1, none⟩ = some (.slice A1_1 l1_1.length c1_1) := (blk_cell BK336.out 1).trans rfl
      have hcz19_2 : w5.cell? ⟨gb336, 2, none⟩ = some (.slice A1_2 l1_2.length c1_2) := (blk_cell BK336.out 2).trans rfl
      have hcz19_3 : w5.cell? ⟨gb336, 3, none⟩ = some (.slice A1_3 l1_3.length c1_3) := (blk_cell BK336.out 3).trans rfl
      have hfz19_0 := blk_frozen BK336.out 0
      have hfz19_1 := blk_frozen BK336.out 1
      have hfz19_2 := blk_frozen BK336.out 2
      have hfz19_3 := blk_frozen BK336.out 3
      go_wp2_with (first | (go_at_call 43; (with_reducible refine (sr_sameInts.calls k _ _ l0_1 _ _ l1_1 true _ ?side1 ?side2 ?side3 ?side4 A10.out).mono ?_); (case side1 => repeat (first | exact (Kd.C_below HR0_1.out HB.out) | (with_reducible refine Kd.C_alloc ?_ _) | (with_reducible refine Kd.C_drewN ?_ _) | (with_reducible refine Kd.C_drew ?_))); (case side2 => exact HC0_1.out); (case side3 => repeat (first | exact (Kd.C_below HR1_1.out HB.out) | (with_reducible refine Kd.C_alloc ?_ _) | (with_reducible refine Kd.C_drewN ?_ _) | (with_reducible refine Kd.C_drew ?_))); (case side4 => exact HC1_1.out); rintro e w' ⟨rfl, ⟨nd, rfl⟩⟩) | (go_at_call 43; (with_reducible refine (sr_sameInts.calls k _ _ l0_2 _ _ l1_2 false _ ?side1 ?side2 ?side3 ?side4 A15.out).mono ?_); (case side1 => repeat (first | exact (Kd.C_below HR0_2.out (by repeat (first | (with_reducible first | exact HB.out | apply below_alloc | apply pw_below_drewN | apply below_drew1 | refine below_set ?_ GE335.out | refine below_set ?_ GE336.out) | exact HB.out))) | (with_reducible refine Kd.C_alloc ?_ _) | (with_reducible refine Kd.C_drewN ?_ _) | (with_reducible refine Kd.C_drew ?_))); (case side2 => exact HC0_2.out); (case side3 => repeat (first | exact (Kd.C_below HR1_2.out (by repeat (first | (with_reducible first | exact HB.out | apply below_alloc | apply pw_below_drewN | apply below_drew1 | refine below_set ?_ GE335.out | refine below_set ?_ GE336.out) | exact HB.out))) | (with_reducible refine Kd.C_alloc ?_ _) | (with_reducible refine Kd.C_drewN ?_ _) | (with_reducible refine Kd.C_drew ?_))); (case side4 => exact HC1_2.out); rintro e w' ⟨rfl, ⟨nd, rfl⟩⟩))
      go_meet
      case rel => exact ⟨_, (true), (by first | rfl | (simp; done) | (simp [*]; done)), H', ⟨by first | omega | exact Nat.le_refl _⟩, ⟨by (with_reducible repeat (first | refine blk_drewN ?_ _ | refine blk_drew ?_ | refine blk_alloc ?_ _)); exact BK335.out⟩, ⟨by (with_reducible repeat (first | refine blk_drewN ?_ _ | refine blk_drew ?_ | refine blk_alloc ?_ _)); exact BK336.out⟩, ⟨by repeat (first | (with_reducible first | exact HB.out | apply below_alloc | apply pw_below_drewN | apply below_drew1 | refine below_set ?_ GE335.out | refine below_set ?_ GE336.out) | exact HB.out)⟩⟩
    subst c16
    have H1 : (sr_Same.j0 k ((l0_3.length : Int) != (l1_3.length : Int)) a0_0 l0_1 l0_2 l0_3 a1_0 l1_1 l1_2 l1_3) = some r := by rw [if_pos rfl] at H; exact H
    clear H
    have H := H1
    clear H1
    have H' := Aside0.mk H
    clear H
    have hnb20 := NB335_336.out
    have hnc20 := NB336_335.out
    have hcz21_0 : w5.cell? ⟨gb335, 0, none⟩ = some (.int .i64 a0_0) := (blk_cell BK335.out 0).trans rfl
    have hcz21_1 : w5.cell? ⟨gb335, 1, none⟩ = some (.slice A0_1 l0_1.length c0_1) := (blk_cell BK335.out 1).trans rfl
    have hcz21_2 : w5.cell? ⟨gb335, 2, none⟩ = some (.slice A0_2 l0_2.length c0_2) := (blk_cell BK335.out 2).trans rfl
    have hcz21_3 : w5.cell? ⟨gb335, 3, none⟩ = some (.slice A0_3 l0_3.length c0_3) := (blk_cell BK335.out 3).trans rfl
    have hfz21_0 := blk_frozen BK335.out 0
    have hfz21_1 := blk_frozen BK335.out 1
    have hfz21_2 := blk_frozen BK335.out 2
    have hfz21_3 := blk_frozen BK335.out 3
    have hcz22_0 : w5.cell? ⟨gb336, 0, none⟩ = some (.int .i64 a1_0) := (blk_cell BK336.out 0).trans rfl
    have hcz22_1 : w5.cell? ⟨gb336, 1, none⟩ = some (.slice A1_1 l1_1.length c1_1) := (blk_cell BK336.out 1).trans rfl
    have hcz22_2 : w5.cell? ⟨gb336, 2, none⟩ = some (.slice A1_2 l1_2.length c1_2) := (blk_cell BK336.out 2).trans rfl
    have hcz22_3 : w5.cell? ⟨gb336, 3, none⟩ = some (.slice A1_3 l1_3.length c1_3) := (blk_cell BK336.out 3).trans rfl
    have hfz22_0 := blk_frozen BK336.out 0
    have hfz22_1 := blk_frozen BK336.out 1
    have hfz22_2 := blk_frozen BK336.out 2
    have hfz22_3 := blk_frozen BK336.out 3
    go_wp2_with (first | (go_at_call 43; (with_reducible refine (sr_sameInts.calls k _ _ l0_1 _ _ l1_1 true _ ?side1 ?side2 ?side3 ?side4 A10.out).mono ?_); (case side1 => repeat (first | exact (Kd.C_below HR0_1.out HB.out) | (with_reducible refine Kd.C_alloc ?_ _) | (with_reducible refine Kd.C_drewN ?_ _) | (with_reducible refine Kd.C_drew ?_))); (case side2 => exact HC0_1.out); (case side3 => repeat (first | exact (Kd.C_below HR1_1.out HB.out) | (with_reducible refine Kd.C_alloc ?_ _) | (with_reducible refine Kd.C_drewN ?_ _) | (with_reducible refine Kd.C_drew ?_))); (case side4 => exact HC1_1.out); rintro e w' ⟨rfl, ⟨nd, rfl⟩⟩) | (go_at_call 43; (with_reducible refine (sr_sameInts.calls k _ _ l0_2 _ _ l1_2 true _ ?side1 ?side2 ?side3 ?side4 A15.out).mono ?_); (case side1 => repeat (first | exact (Kd.C_below HR0_2.out (by repeat (first | (with_reducible first | exact HB.out | apply below_alloc | apply pw_below_drewN | apply below_drew1 | refine below_set ?_ GE335.out | refine below_set ?_ GE336.out) | exact HB.out))) | (with_reducible refine Kd.C_alloc ?_ _) | (with_reducible refine Kd.C_drewN ?_ _) | (with_reducible refine Kd.C_drew ?_))); (case side2 => exact HC0_2.out); (case side3 => repeat (first | exact (Kd.C_below HR1_2.out (by repeat (first | (with_reducible first | exact HB.out | apply below_alloc | apply pw_below_drewN | apply below_drew1 | refine below_set ?_ GE335.out | refine below_set ?_ GE336.out) | exact HB.out))) | (with_reducible refine Kd.C_alloc ?_ _) | (with_reducible refine Kd.C_drewN ?_ _) | (with_reducible refine Kd.C_drew ?_))); (case side4 => exact HC1_2.out); rintro e w' ⟨rfl, ⟨nd, rfl⟩⟩))
    go_meet
    case rel => exact ⟨_, (((l0_3.length : Int) != (l1_3.length : Int))), (by first | rfl | (simp; done) | (simp [*]; done)), H', ⟨by first | omega | exact Nat.le_refl _⟩, ⟨by (with_reducible repeat (first | refine blk_drewN ?_ _ | refine blk_drew ?_ | refine blk_alloc ?_ _)); exact BK335.out⟩, ⟨by (with_reducible repeat (first | refine blk_drewN ?_ _ | refine blk_drew ?_ | refine blk_alloc ?_ _)); exact BK336.out⟩, ⟨by repeat (first | (with_reducible first | exact HB.out | apply below_alloc | apply pw_below_drewN | apply below_drew1 | refine below_set ?_ GE335.out | refine below_set ?_ GE336.out) | exact HB.out)⟩⟩
  clear HC3
  (try clear c1); (try clear c2); (try clear p2); (try clear c6); (try clear c6b0); (try clear c6b1); (try clear c7); (try clear c11); (try clear c12); (try clear c16); (try clear c17); (try clear c20); (try clear hcz13_0); (try clear hcz13_1); (try clear hcz13_2); (try clear hcz13_3); (try clear hcz14_0); (try clear hcz14_1); (try clear hcz14_2); (try clear hcz14_3); (try clear hcz18_0); (try clear hcz18_1); (try clear hcz18_2); (try clear hcz18_3); (try clear hcz19_0); (try clear hcz19_1); (try clear hcz19_2); (try clear hcz19_3); (try clear hcz21_0); (try clear hcz21_1); (try clear hcz21_2); (try clear hcz21_3); (try clear hcz22_0); (try clear hcz22_1); (try clear hcz22_2); (try clear hcz22_3); (try clear hcz8_0); (try clear hcz8_1); (try clear hcz8_2); (try clear hcz8_3); (try clear hcz9_0); (try clear hcz9_1); (try clear hcz9_2); (try clear hcz9_3); (try clear hfz13_0); (try clear hfz13_1); (try clear hfz13_2); (try clear hfz13_3); (try clear hfz14_0); (try clear hfz14_1); (try clear hfz14_2); (try clear hfz14_3); (try clear hfz18_0); (try clear hfz18_1); (try clear hfz18_2); (try clear hfz18_3); (try clear hfz19_0); (try clear hfz19_1); (try clear hfz19_2); (try clear hfz19_3); (try clear hfz21_0); (try clear hfz21_1); (try clear hfz21_2); (try clear hfz21_3); (try clear hfz22_0); (try clear hfz22_1); (try clear hfz22_2); (try clear hfz22_3); (try clear hfz8_0); (try clear hfz8_1); (try clear hfz8_2); (try clear hfz8_3); (try clear hfz9_0); (try clear hfz9_1); (try clear hfz9_2); (try clear hfz9_3)
  obtain ⟨kq, x35_2, rfl, HA, HJ2, BK335, BK336, HB⟩ := hcut
  cases kq with
  | zero => exact absurd HA.out (by simp [sr_Same.j0])
  | succ kj2 => ?_
  have H := HA.out
  clear HA
  simp only [sr_Same.j0] at H
  by_cases c23 : x35_2 = true
  · subst c23
    have H1 : (some false) = some r := by rw [if_pos rfl] at H; exact H
    clear H
    have H := H1
    clear H1
    obtain rfl := Option.some.inj H
    go_wp2
    go_ret
    exact ⟨by first | rfl | (simp [errW_none, errW_some] <;> rfl) | (simp [*, errW_none, errW_some] <;> rfl), HB.out⟩
  replace c23 := Bool.eq_false_iff.mpr c23
  subst c23
  have H1 : (sr_Same.l0 kj2 0 a0_0 l0_1 l0_2 l0_3 a1_0 l1_1 l1_2 l1_3) = some r := by rw [if_neg (show ¬ (false = true) by decide)] at H; exact H
  clear H
  have H := H1
  clear H1
  have H' := Aside0.mk H
  clear H
  go_wp2
  go_loopg [5] kj2 (fun kq v5 w' => ∃ (x5_2 : Int), v5 = .int .i64 x5_2 ∧ Aside0 (sr_Same.l0 kq x5_2 a0_0 l0_1 l0_2 l0_3 a1_0 l1_1 l1_2 l1_3 = some r) ∧ Aside0 (kq ≤ kj2) ∧ Aside0 (w'.heap[gb335]? = some (.cells #[.int .i64 a0_0, (.slice A0_1 l0_1.length c0_1), (.slice A0_2 l0_2.length c0_2), (.slice A0_3 l0_3.length c0_3)] 37 (0, 0))) ∧ Aside0 (w'.heap[gb336]? = some (.cells #[.int .i64 a1_0, (.slice A1_1 l1_1.length c1_1), (.slice A1_2 l1_2.length c1_2), (.slice A1_3 l1_3.length c1_3)] 37 (0, 0))) ∧ Aside0 (Below w.heap.size w w'))
  case atStart => exact ⟨(0), (by first | rfl | (simp; done) | (simp [*]; done)), H', ⟨Nat.le_refl _⟩, ⟨BK335.out⟩, ⟨BK336.out⟩, ⟨HB.out⟩⟩
  clear H'
  (try clear c1); (try clear c2); (try clear p2); (try clear c6); (try clear c6b0); (try clear c6b1); (try clear c7); (try clear c11); (try clear c12); (try clear c16); (try clear c17); (try clear c20); (try clear c23); (try clear hcz13_0); (try clear hcz13_1); (try clear hcz13_2); (try clear hcz13_3); (try clear hcz14_0); (try clear hcz14_1); (try clear hcz14_2); (try clear hcz14_3); (try clear hcz18_0); (try clear hcz18_1); (try clear hcz18_2); (try clear hcz18_3); (try clear hcz19_0); (try clear hcz19_1); (try clear hcz19_2); (try clear hcz19_3); (try clear hcz21_0); (try clear hcz21_1); (try clear hcz21_2); (try clear hcz21_3); (try clear hcz22_0); (try clear hcz22_1); (try clear hcz22_2); (try clear hcz22_3); (try clear hcz8_0); (try clear hcz8_1); (try clear hcz8_2); (try clear hcz8_3); (try clear hcz9_0); (try clear hcz9_1); (try clear hcz9_2); (try clear hcz9_3); (try clear hfz13_0); (try clear hfz13_1); (try clear hfz13_2); (try clear hfz13_3); (try clear hfz14_0); (try clear hfz14_1); (try clear hfz14_2); (try clear hfz14_3); (try clear hfz18_0); (try clear hfz18_1); (try clear hfz18_2); (try clear hfz18_3); (try clear hfz19_0); (try clear hfz19_1); (try clear hfz19_2); (try clear hfz19_3); (try clear hfz21_0); (try clear hfz21_1); (try clear hfz21_2); (try clear hfz21_3); (try clear hfz22_0); (try clear hfz22_1); (try clear hfz22_2); (try clear hfz22_3); (try clear hfz8_0); (try clear hfz8_1); (try clear hfz8_2); (try clear hfz8_3); (try clear hfz9_0); (try clear hfz9_1); (try clear hfz9_2); (try clear hfz9_3); (try clear p2)
  obtain ⟨x5_2, rfl, HA, HK2, BK335, BK336, HB⟩ := hrel
  cases gk with
  | zero => exact absurd HA.out (by simp [sr_Same.l0])
  | succ k2 => ?_
  have H := HA.out
  clear HA
  simp only [sr_Same.l0] at H
  by_cases c24 : x5_2 < (l0_3.length : Int)
  rotate_left
  · rw [if_neg c24] at H
    have c24b0 : decide (x5_2 < (l0_3.length : Int)) = false := decide_eq_false c24
    clear c24
    obtain rfl := Option.some.inj H
    have hnb25 := NB335_336.out
    have hnc25 := NB336_335.out
    have hcz26_0 : wr.cell? ⟨gb335, 0, none⟩ = some (.int .i64 a0_0) := (blk_cell BK335.out 0).trans rfl
    have hcz26_1 : wr.cell? ⟨gb335, 1, none⟩ = some (.slice A0_1 l0_1.length c0_1) := (blk_cell BK335.out 1).trans rfl
    have hcz26_2 : wr.cell? ⟨gb335, 2, none⟩ = some (.slice A0_2 l0_2.length c0_2) := (blk_cell BK335.out 2).trans rfl
    have hcz26_3 : wr.cell? ⟨gb335, 3, none⟩ = some (.slice A0_3 l0_3.length c0_3) := (blk_cell BK335.out 3).trans rfl
    have hfz26_0 := blk_frozen BK335.out 0
    have hfz26_1 := blk_frozen BK335.out 1
    have hfz26_2 := blk_frozen BK335.out 2
    have hfz26_3 := blk_frozen BK335.out 3
    go_wp2
    go_ret
    exact ⟨by first | rfl | (simp [errW_none, errW_some] <;> rfl) | (simp [*, errW_none, errW_some] <;> rfl), HB.out⟩
  rw [if_pos c24] at H
  have c24b0 : decide (x5_2 < (l0_3.length : Int)) = true := decide_eq_true c24
  clear c24
  by_cases c27 : 0 ≤ x5_2
  rotate_left
  · rw [if_neg c27] at H
    exact absurd H (by simp)
  rw [if_pos c27] at H
  have c27b0 : decide (0 ≤ x5_2) = true := decide_eq_true c27
  clear c27
  by_cases c28 : x5_2 < (l1_3.length : Int)
  rotate_left
  · rw [if_neg c28] at H
    exact absurd H (by simp)
  rw [if_pos c28] at H
  have c28b0 : decide (x5_2 < (l1_3.length : Int)) = true := decide_eq_true c28
  clear c28
  replace H := Option.bind_eq_some_iff.mp H
  obtain ⟨t341, A290, H⟩ := H
  replace H : (if t341 = true then (sr_Same.l0 k2 (wrap64 (x5_2 + 1)) a0_0 l0_1 l0_2 l0_3 a1_0 l1_1 l1_2 l1_3) else (some false)) = some r := H
  have A29 := Aside0.mk A290
  clear A290
  by_cases c30 : t341 = true
  rotate_left
  · replace c30 := Bool.eq_false_iff.mpr c30
    subst c30
    have H1 : (some false) = some r := by rw [if_neg (show ¬ (false = true) by decide)] at H; exact H
    clear H
    have H := H1
    clear H1
    obtain rfl := Option.some.inj H
    have hnb31 := NB335_336.out
    have hnc31 := NB336_335.out
    have hcz32_0 : wr.cell? ⟨gb335, 0, none⟩ = some (.int .i64 a0_0) := (blk_cell BK335.out 0).trans rfl
    have hcz32_1 : wr.cell? ⟨gb335, 1, none⟩ = some (.slice A0_1 l0_1.length c0_1) := (blk_cell BK335.out 1).trans rfl
    have hcz32_2 : wr.cell? ⟨gb335, 2, none⟩ = some (.slice A0_2 l0_2.length c0_2) := (blk_cell BK335.out 2).trans rfl
    have hcz32_3 : wr.cell? ⟨gb335, 3, none⟩ = some (.slice A0_3 l0_3.length c0_3) := (blk_cell BK335.out 3).trans rfl
    have hfz32_0 := blk_frozen BK335.out 0
    have hfz32_1 := blk_frozen BK335.out 1
    have hfz32_2 := blk_frozen BK335.out 2
    have hfz32_3 := blk_frozen BK335.out 3
    try go_wp2
    have n0_ := Aside0.mk (blk_drew BK335.out)
    have n1_ := Aside0.mk (blk_drew BK336.out)
    have n2_ := Aside0.mk (below_drew1 HB.out)
    clear BK335
    clear BK336
    clear HB
    have BK335 := n0_
    have BK336 := n1_
    have HB := n2_
    clear n0_ n1_ n2_
    have p339 : 0 ≤ (x5_2 : Int) := of_decide_eq_true (by first | (with_reducible assumption) | assumption)
    have q339 : x5_2 < (l0_3.length : Int) := of_decide_eq_true (by first | (with_reducible assumption) | assumption)
    obtain ⟨ad339, A339_5, c339_5, e339, hx339_0, hx339_1, hx339_2, hx339_3, hx339_4, hx339_5, hl339_5, hi339_5⟩ := at_T53 HR0_3.out x5_2 p339 q339
    have hw339_5 := hx339_5
    have hw339_4 := hx339_4
    have hw339_3 := hx339_3
    have hw339_2 := hx339_2
    have hw339_1 := hx339_1
    have hw339_0 := hx339_0
    cases e339
    replace hx339_0 := (HB.out.cell (World.block_lt_of_cell? w _ hx339_0)).trans hx339_0
    replace hx339_1 := (HB.out.cell (World.block_lt_of_cell? w _ hx339_1)).trans hx339_1
    replace hx339_2 := (HB.out.cell (World.block_lt_of_cell? w _ hx339_2)).trans hx339_2
    replace hx339_3 := (HB.out.cell (World.block_lt_of_cell? w _ hx339_3)).trans hx339_3
    replace hx339_4 := (HB.out.cell (World.block_lt_of_cell? w _ hx339_4)).trans hx339_4
    replace hx339_5 := (HB.out.cell (World.block_lt_of_cell? w _ hx339_5)).trans hx339_5
    have HR339_5 := Aside0.mk hi339_5
    have HC339_5 := Aside0.mk hl339_5
    clear hi339_5 hl339_5
    replace p339 := eq_true p339
    replace q339 := eq_true q339
    have p340 : 0 ≤ (x5_2 : Int) := of_decide_eq_true (by first | (with_reducible assumption) | assumption)
    have q340 : x5_2 < (l1_3.length : Int) := of_decide_eq_true (by first | (with_reducible assumption) | assumption)
    obtain ⟨ad340, A340_5, c340_5, e340, hx340_0, hx340_1, hx340_2, hx340_3, hx340_4, hx340_5, hl340_5, hi340_5⟩ := at_T53 HR1_3.out x5_2 p340 q340
    have hw340_5 := hx340_5
    have hw340_4 := hx340_4
    have hw340_3 := hx340_3
    have hw340_2 := hx340_2
    have hw340_1 := hx340_1
    have hw340_0 := hx340_0
    cases e340
    replace hx340_0 := (HB.out.cell (World.block_lt_of_cell? w _ hx340_0)).trans hx340_0
    replace hx340_1 := (HB.out.cell (World.block_lt_of_cell? w _ hx340_1)).trans hx340_1
    replace hx340_2 := (HB.out.cell (World.block_lt_of_cell? w _ hx340_2)).trans hx340_2
    replace hx340_3 := (HB.out.cell (World.block_lt_of_cell? w _ hx340_3)).trans hx340_3
    replace hx340_4 := (HB.out.cell (World.block_lt_of_cell? w _ hx340_4)).trans hx340_4
    replace hx340_5 := (HB.out.cell (World.block_lt_of_cell? w _ hx340_5)).trans hx340_5
    have HR340_5 := Aside0.mk hi340_5
    have HC340_5 := Aside0.mk hl340_5
    clear hi340_5 hl340_5
    replace p340 := eq_true p340
    replace q340 := eq_true q340
    refine start_ (n := 12) (S := fun w' => w'.cell? ⟨gb335, 0, none⟩ = some (.int .i64 a0_0) ∧ w'.cell? ⟨gb335, 1, none⟩ = some (.slice A0_1 l0_1.length c0_1) ∧ w'.cell? ⟨gb335, 2, none⟩ = some (.slice A0_2 l0_2.length c0_2) ∧ w'.cell? ⟨gb335, 3, none⟩ = some (.slice (some ad339) l0_3.length c0_3) ∧ w'.cell? ⟨gb336, 0, none⟩ = some (.int .i64 a1_0) ∧ w'.cell? ⟨gb336, 1, none⟩ = some (.slice A1_1 l1_1.length c1_1) ∧ w'.cell? ⟨gb336, 2, none⟩ = some (.slice A1_2 l1_2.length c1_2) ∧ w'.cell? ⟨gb336, 3, none⟩ = some (.slice (some ad340) l1_3.length c1_3) ∧ w'.cell? (ad339.add ((x5_2).toNat * 6)) = some (.string ((rd_T53 l0_3 x5_2).f0)) ∧ w'.cell? ⟨(ad339.add ((x5_2).toNat * 6)).block, (ad339.add ((x5_2).toNat * 6)).off + 1, none⟩ = some (.int .i64 ((rd_T53 l0_3 x5_2).f1)) ∧ w'.cell? ⟨(ad339.add ((x5_2).toNat * 6)).block, (ad339.add ((x5_2).toNat * 6)).off + 2, none⟩ = some (.int .i64 ((rd_T53 l0_3 x5_2).f2)) ∧ w'.cell? ⟨(ad339.add ((x5_2).toNat * 6)).block, (ad339.add ((x5_2).toNat * 6)).off + 3, none⟩ = some (.int .i64 ((rd_T53 l0_3 x5_2).f3)) ∧ w'.cell? ⟨(ad339.add ((x5_2).toNat * 6)).block, (ad339.add ((x5_2).toNat * 6)).off + 4, none⟩ = some (.int .i64 ((rd_T53 l0_3 x5_2).f4)) ∧ w'.cell? ⟨(ad339.add ((x5_2).toNat * 6)).block, (ad339.add ((x5_2).toNat * 6)).off + 5, none⟩ = some (.slice A339_5 ((rd_T53 l0_3 x5_2).f5).length c339_5) ∧ w'.cell? (ad340.add ((x5_2).toNat * 6)) = some (.string ((rd_T53 l1_3 x5_2).f0)) ∧ w'.cell? ⟨(ad340.add ((x5_2).toNat * 6)).block, (ad340.add ((x5_2).toNat * 6)).off + 1, none⟩ = some (.int .i64 ((rd_T53 l1_3 x5_2).f1)) ∧ w'.cell? ⟨(ad340.add ((x5_2).toNat * 6)).block, (ad340.add ((x5_2).toNat * 6)).off + 2, none⟩ = some (.int .i64 ((rd_T53 l1_3 x5_2).f2)) ∧ w'.cell? ⟨(ad340.add ((x5_2).toNat * 6)).block, (ad340.add ((x5_2).toNat * 6)).off + 3, none⟩ = some (.int .i64 ((rd_T53 l1_3 x5_2).f3)) ∧ w'.cell? ⟨(ad340.add ((x5_2).toNat * 6)).block, (ad340.add ((x5_2).toNat * 6)).off + 4, none⟩ = some (.int .i64 ((rd_T53 l1_3 x5_2).f4)) ∧ w'.cell? ⟨(ad340.add ((x5_2).toNat * 6)).block, (ad340.add ((x5_2).toNat * 6)).off + 5, none⟩ = some (.slice A340_5 ((rd_T53 l1_3 x5_2).f5).length c340_5)) (ds := []) (bs 12 0) (by kernel_rfl) rfl rfl ⟨(blk_cell BK335.out 0).trans rfl, (blk_cell BK335.out 1).trans rfl, (blk_cell BK335.out 2).trans rfl, (blk_cell BK335.out 3).trans rfl, (blk_cell BK336.out 0).trans rfl, (blk_cell BK336.out 1).trans rfl, (blk_cell BK336.out 2).trans rfl, (blk_cell BK336.out 3).trans rfl, ((HB.out.cell (World.block_lt_of_cell? w _ hw339_0)).trans hw339_0), ((HB.out.cell (World.block_lt_of_cell? w _ hw339_1)).trans hw339_1), ((HB.out.cell (World.block_lt_of_cell? w _ hw339_2)).trans hw339_2), ((HB.out.cell (World.block_lt_of_cell? w _ hw339_3)).trans hw339_3), ((HB.out.cell (World.block_lt_of_cell? w _ hw339_4)).trans hw339_4), ((HB.out.cell (World.block_lt_of_cell? w _ hw339_5)).trans hw339_5), ((HB.out.cell (World.block_lt_of_cell? w _ hw340_0)).trans hw340_0), ((HB.out.cell (World.block_lt_of_cell? w _ hw340_1)).trans hw340_1), ((HB.out.cell (World.block_lt_of_cell? w _ hw340_2)).trans hw340_2), ((HB.out.cell (World.block_lt_of_cell? w _ hw340_3)).trans hw340_3), ((HB.out.cell (World.block_lt_of_cell? w _ hw340_4)).trans hw340_4), ((HB.out.cell (World.block_lt_of_cell? w _ hw340_5)).trans hw340_5)⟩ (fun hHeld => ?_); refine with_tabW sr_Same.tab6 sr_Same.bits6 (fun HT_ HW_ => ?_)
    generalize wr.drew = w33 at BK335 BK336 HB HR339_5 HR340_5 hx339_0 hx339_1 hx339_2 hx339_3 hx339_4 hx339_5 hx340_0 hx340_1 hx340_2 hx340_3 hx340_4 hx340_5 hHeld ⊢
    refine pure_ (i := 0) (N := some 43) (v := ?_) (a' := ?_) (bs 12 1) rfl rfl (any_of HT_.out (by kernel_rfl)) (fun _ _ _ h => h) (Or.inl ⟨by rfl, ?_⟩) ?_ ?_
    rotate_left
    · intro w'
      go_simp
      with_reducible rfl
    rotate_left
    · simp only [Act.put, List.setIfInBounds_toArray, List.set_cons_zero, List.set_cons_succ, i64_w, i32_w]
      rfl
    refine pure_ (i := 2) (N := some 45) (v := ?_) (a' := ?_) (bs 12 5) rfl rfl (any_of HT_.out (by kernel_rfl)) (fun _ _ _ h => h) (Or.inl ⟨by rfl, ?_⟩) ?_ ?_
    rotate_left
    · intro w'
      go_simp
      with_reducible rfl
    rotate_left
    · simp only [Act.put, List.setIfInBounds_toArray, List.set_cons_zero, List.set_cons_succ, i64_w, i32_w]
      rfl
    refine pure_ (i := 5) (N := some 48) (v := ?_) (a' := ?_) (bs 12 37) rfl rfl (any_of HT_.out (by kernel_rfl)) (fun _ _ _ h => h) (Or.inl ⟨by rfl, ?_⟩) ?_ ?_
    rotate_left
    · intro w'
      go_simp
      with_reducible rfl
    rotate_left
    · simp only [Act.put, List.setIfInBounds_toArray, List.set_cons_zero, List.set_cons_succ, i64_w, i32_w]
      rfl
    refine pure_ (i := 7) (N := some 50) (v := ?_) (a' := ?_) (bs 12 165) rfl rfl (any_of HT_.out (by kernel_rfl)) (fun _ _ _ h => h) (Or.inl ⟨by rfl, ?_⟩) ?_ ?_
    rotate_left
    · intro w'
      go_simp
      with_reducible rfl
    rotate_left
    · simp only [Act.put, List.setIfInBounds_toArray, List.set_cons_zero, List.set_cons_succ, i64_w, i32_w]
      rfl
    refine take_ (i := 1) (N := some 44) (v := ?_) (a' := ?_) (bs 12 167) rfl rfl (take_ofW HT_.out HW_.out (by kernel_rfl)) (fun _ _ _ h => h) (Or.inl ⟨by rfl, ?_⟩) hHeld ?_ ?_
    rotate_left
    · rintro w' ⟨s0, s1, s2, s3, s4, s5, s6, s7, s8, s9, s10, s11, s12, s13, s14, s15, s16, s17, s18, s19⟩
      go_simp
      with_reducible rfl
    rotate_left
    · simp only [Act.put, List.setIfInBounds_toArray, List.set_cons_zero, List.set_cons_succ, i64_w, i32_w]
      rfl
    refine pure_ (i := 3) (N := some 46) (v := ?_) (a' := ?_) (bs 12 175) rfl rfl (any_of HT_.out (by kernel_rfl)) (fun _ _ _ h => h) (Or.inl ⟨by rfl, ?_⟩) ?_ ?_
    rotate_left
    · intro w'
      go_simp
      with_reducible rfl
    rotate_left
    · simp only [Act.put, List.setIfInBounds_toArray, List.set_cons_zero, List.set_cons_succ, i64_w, i32_w]
      rfl
    refine take_ (i := 4) (N := some 47) (v := ?_) (a' := ?_) (bs 12 191) rfl rfl (take_ofW HT_.out HW_.out (by kernel_rfl)) (fun _ _ _ h => h) (Or.inl ⟨by rfl, ?_⟩) hHeld ?_ ?_
    rotate_left
    · rintro w' ⟨s0, s1, s2, s3, s4, s5, s6, s7, s8, s9, s10, s11, s12, s13, s14, s15, s16, s17, s18, s19⟩
      go_simp
      with_reducible rfl
    rotate_left
    · simp only [Act.put, List.setIfInBounds_toArray, List.set_cons_zero, List.set_cons_succ, i64_w, i32_w]
      rfl
    refine take_ (i := 6) (N := some 49) (v := ?_) (a' := ?_) (bs 12 255) rfl rfl (take_ofW HT_.out HW_.out (by kernel_rfl)) (fun _ _ _ h => h) (Or.inl ⟨by rfl, ?_⟩) hHeld ?_ ?_
    rotate_left
    · rintro w' ⟨s0, s1, s2, s3, s4, s5, s6, s7, s8, s9, s10, s11, s12, s13, s14, s15, s16, s17, s18, s19⟩
      go_simp
      with_reducible rfl
    rotate_left
    · simp only [Act.put, List.setIfInBounds_toArray, List.set_cons_zero, List.set_cons_succ, i64_w, i32_w]
      rfl
    refine pure_ (i := 8) (N := some 51) (v := ?_) (a' := ?_) (bs 12 511) rfl rfl (any_of HT_.out (by kernel_rfl)) (fun _ _ _ h => h) (Or.inl ⟨by rfl, ?_⟩) ?_ ?_
    rotate_left
    · intro w'
      go_simp
      with_reducible rfl
    rotate_left
    · simp only [Act.put, List.setIfInBounds_toArray, List.set_cons_zero, List.set_cons_succ, i64_w, i32_w]
      rfl
    refine take_ (i := 9) (N := some 52) (v := ?_) (a' := ?_) (bs 12 1023) rfl rfl (take_ofW HT_.out HW_.out (by kernel_rfl)) (fun _ _ _ h => h) (Or.inl ⟨by rfl, ?_⟩) hHeld ?_ ?_
    rotate_left
    · rintro w' ⟨s0, s1, s2, s3, s4, s5, s6, s7, s8, s9, s10, s11, s12, s13, s14, s15, s16, s17, s18, s19⟩
      go_simp
      with_reducible rfl
    rotate_left
    · simp only [Act.put, List.setIfInBounds_toArray, List.set_cons_zero, List.set_cons_succ, i64_w, i32_w]
      rfl
    refine one_ (i := 10) (N := some 53) (bs 12 2047) rfl rfl (one_of HT_.out (by kernel_rfl)) (by decide) (fun K hK => ?_)
    refine goes_ Tryd.func44 (by kernel_rfl) rfl #[.agg #[.string ((rd_T53 l0_3 x5_2).f0), .int .i64 ((rd_T53 l0_3 x5_2).f1), .int .i64 ((rd_T53 l0_3 x5_2).f2), .int .i64 ((rd_T53 l0_3 x5_2).f3), .int .i64 ((rd_T53 l0_3 x5_2).f4), .slice A339_5 ((rd_T53 l0_3 x5_2).f5).length c339_5], .agg #[.string ((rd_T53 l1_3 x5_2).f0), .int .i64 ((rd_T53 l1_3 x5_2).f1), .int .i64 ((rd_T53 l1_3 x5_2).f2), .int .i64 ((rd_T53 l1_3 x5_2).f3), .int .i64 ((rd_T53 l1_3 x5_2).f4), .slice A340_5 ((rd_T53 l1_3 x5_2).f5).length c340_5]] (by rfl) rfl rfl (by (try simp only [List.map_toArray, List.map_cons, List.map_nil]); first | done | rfl | (simp only [List.length_drop, List.length_take]; rfl)) ?_
    with_reducible refine (sr_SameTask.calls k2 ((rd_T53 l0_3 x5_2).f0) ((rd_T53 l0_3 x5_2).f1) ((rd_T53 l0_3 x5_2).f2) ((rd_T53 l0_3 x5_2).f3) ((rd_T53 l0_3 x5_2).f4) _ _ ((rd_T53 l0_3 x5_2).f5) ((rd_T53 l1_3 x5_2).f0) ((rd_T53 l1_3 x5_2).f1) ((rd_T53 l1_3 x5_2).f2) ((rd_T53 l1_3 x5_2).f3) ((rd_T53 l1_3 x5_2).f4) _ _ ((rd_T53 l1_3 x5_2).f5) false _ ?side1 ?side2 ?side3 ?side4 A29.out).mono ?_
    (case side1 => repeat (first | exact (Kd.C_below HR339_5.out HB.out) | (with_reducible refine Kd.C_alloc ?_ _) | (with_reducible refine Kd.C_drewN ?_ _) | (with_reducible refine Kd.C_drew ?_)))
    (case side2 => exact HC339_5.out)
    (case side3 => repeat (first | exact (Kd.C_below HR340_5.out HB.out) | (with_reducible refine Kd.C_alloc ?_ _) | (with_reducible refine Kd.C_drewN ?_ _) | (with_reducible refine Kd.C_drew ?_)))
    (case side4 => exact HC340_5.out)
    rintro e w34 ⟨rfl, hb⟩
    refine ⟨_, rfl, ?_⟩
    have n0_ := Aside0.mk (blk_below BK335.out hb)
    have n1_ := Aside0.mk (blk_below BK336.out hb)
    have n2_ := Aside0.mk (below_step (HB.out) hb)
    clear BK335
    clear BK336
    clear HB
    have BK335 := n0_
    have BK336 := n1_
    have HB := n2_
    clear n0_ n1_ n2_
    (try clear hb)
    (try clear hb2)
    (try clear hk)
    (try clear hi)
    refine hK.out _ _ ⟨(blk_cell BK335.out 0).trans rfl, (blk_cell BK335.out 1).trans rfl, (blk_cell BK335.out 2).trans rfl, (blk_cell BK335.out 3).trans rfl, (blk_cell BK336.out 0).trans rfl, (blk_cell BK336.out 1).trans rfl, (blk_cell BK336.out 2).trans rfl, (blk_cell BK336.out 3).trans rfl, ((HB.out.cell (World.block_lt_of_cell? w _ hw339_0)).trans hw339_0), ((HB.out.cell (World.block_lt_of_cell? w _ hw339_1)).trans hw339_1), ((HB.out.cell (World.block_lt_of_cell? w _ hw339_2)).trans hw339_2), ((HB.out.cell (World.block_lt_of_cell? w _ hw339_3)).trans hw339_3), ((HB.out.cell (World.block_lt_of_cell? w _ hw339_4)).trans hw339_4), ((HB.out.cell (World.block_lt_of_cell? w _ hw339_5)).trans hw339_5), ((HB.out.cell (World.block_lt_of_cell? w _ hw340_0)).trans hw340_0), ((HB.out.cell (World.block_lt_of_cell? w _ hw340_1)).trans hw340_1), ((HB.out.cell (World.block_lt_of_cell? w _ hw340_2)).trans hw340_2), ((HB.out.cell (World.block_lt_of_cell? w _ hw340_3)).trans hw340_3), ((HB.out.cell (World.block_lt_of_cell? w _ hw340_4)).trans hw340_4), ((HB.out.cell (World.block_lt_of_cell? w _ hw340_5)).trans hw340_5)⟩ (fun hHeld => ?_)
    clear hK K
    refine norm_ (a' := ?_) ?_ ?_
    rotate_left
    · show Act.put _ (some 53) _ = _
      simp only [Act.put, List.setIfInBounds_toArray, List.set_cons_zero, List.set_cons_succ, i64_w, i32_w]
      rfl
    refine pure_ (i := 11) (N := some 54) (v := ?_) (a' := ?_) (bs 12 4095) rfl rfl (any_of HT_.out (by kernel_rfl)) (fun _ _ _ h => h) (Or.inl ⟨by rfl, ?_⟩) ?_ ?_
    rotate_left
    · intro w'
      go_simp
      with_reducible rfl
    rotate_left
    · simp only [Act.put, List.setIfInBounds_toArray, List.set_cons_zero, List.set_cons_succ, i64_w, i32_w]
      rfl
    refine done_ (done_of HT_.out (by kernel_rfl)) ?_
    try go_wp2
    go_ret
    exact ⟨by first | rfl | (simp [errW_none, errW_some] <;> rfl) | (simp [*, errW_none, errW_some] <;> rfl), HB.out⟩
  subst c30
  have H1 : (sr_Same.l0 k2 (wrap64 (x5_2 + 1)) a0_0 l0_1 l0_2 l0_3 a1_0 l1_1 l1_2 l1_3) = some r := by rw [if_pos rfl] at H; exact H
  clear H
  have H := H1
  clear H1
  have H' := Aside0.mk H
  clear H
  have hnb35 := NB335_336.out
  have hnc35 := NB336_335.out
  have hcz36_0 : wr.cell? ⟨gb335, 0, none⟩ = some (.int .i64 a0_0) := (blk_cell BK335.out 0).trans rfl
  have hcz36_1 : wr.cell? ⟨gb335, 1, none⟩ = some (.slice A0_1 l0_1.length c0_1) := (blk_cell BK335.out 1).trans rfl
  have hcz36_2 : wr.cell? ⟨gb335, 2, none⟩ = some (.slice A0_2 l0_2.length c0_2) := (blk_cell BK335.out 2).trans rfl
  have hcz36_3 : wr.cell? ⟨gb335, 3, none⟩ = some (.slice A0_3 l0_3.length c0_3) := (blk_cell BK335.out 3).trans rfl
  have hfz36_0 := blk_frozen BK335.out 0
  have hfz36_1 := blk_frozen BK335.out 1
  have hfz36_2 := blk_frozen BK335.out 2
  have hfz36_3 := blk_frozen BK335.out 3
  try go_wp2
  have n0_ := Aside0.mk (blk_drew BK335.out)
  have n1_ := Aside0.mk (blk_drew BK336.out)
  have n2_ := Aside0.mk (below_drew1 HB.out)
  clear BK335
  clear BK336
  clear HB
  have BK335 := n0_
  have BK336 := n1_
  have HB := n2_
  clear n0_ n1_ n2_
  have p339 : 0 ≤ (x5_2 : Int) := of_decide_eq_true (by first | (with_reducible assumption) | assumption)
  have q339 : x5_2 < (l0_3.length : Int) := of_decide_eq_true (by first | (with_reducible assumption) | assumption)
  obtain ⟨ad339, A339_5, c339_5, e339, hx339_0, hx339_1, hx339_2, hx339_3, hx339_4, hx339_5, hl339_5, hi339_5⟩ := at_T53 HR0_3.out x5_2 p339 q339
  have hw339_5 := hx339_5
  have hw339_4 := hx339_4
  have hw339_3 := hx339_3
  have hw339_2 := hx339_2
  have hw339_1 := hx339_1
  have hw339_0 := hx339_0
  cases e339
  replace hx339_0 := (HB.out.cell (World.block_lt_of_cell? w _ hx339_0)).trans hx339_0
  replace hx339_1 := (HB.out.cell (World.block_lt_of_cell? w _ hx339_1)).trans hx339_1
  replace hx339_2 := (HB.out.cell (World.block_lt_of_cell? w _ hx339_2)).trans hx339_2
  replace hx339_3 := (HB.out.cell (World.block_lt_of_cell? w _ hx339_3)).trans hx339_3
  replace hx339_4 := (HB.out.cell (World.block_lt_of_cell? w _ hx339_4)).trans hx339_4
  replace hx339_5 := (HB.out.cell (World.block_lt_of_cell? w _ hx339_5)).trans hx339_5
  have HR339_5 := Aside0.mk hi339_5
  have HC339_5 := Aside0.mk hl339_5
  clear hi339_5 hl339_5
  replace p339 := eq_true p339
  replace q339 := eq_true q339
  have p340 : 0 ≤ (x5_2 : Int) := of_decide_eq_true (by first | (with_reducible assumption) | assumption)
  have q340 : x5_2 < (l1_3.length : Int) := of_decide_eq_true (by first | (with_reducible assumption) | assumption)
  obtain ⟨ad340, A340_5, c340_5, e340, hx340_0, hx340_1, hx340_2, hx340_3, hx340_4, hx340_5, hl340_5, hi340_5⟩ := at_T53 HR1_3.out x5_2 p340 q340
  have hw340_5 := hx340_5
  have hw340_4 := hx340_4
  have hw340_3 := hx340_3
  have hw340_2 := hx340_2
  have hw340_1 := hx340_1
  have hw340_0 := hx340_0
  cases e340
  replace hx340_0 := (HB.out.cell (World.block_lt_of_cell? w _ hx340_0)).trans hx340_0
  replace hx340_1 := (HB.out.cell (World.block_lt_of_cell? w _ hx340_1)).trans hx340_1
  replace hx340_2 := (HB.out.cell (World.block_lt_of_cell? w _ hx340_2)).trans hx340_2
  replace hx340_3 := (HB.out.cell (World.block_lt_of_cell? w _ hx340_3)).trans hx340_3
  replace hx340_4 := (HB.out.cell (World.block_lt_of_cell? w _ hx340_4)).trans hx340_4
  replace hx340_5 := (HB.out.cell (World.block_lt_of_cell? w _ hx340_5)).trans hx340_5
  have HR340_5 := Aside0.mk hi340_5
  have HC340_5 := Aside0.mk hl340_5
  clear hi340_5 hl340_5
  replace p340 := eq_true p340
  replace q340 := eq_true q340
  refine start_ (n := 12) (S := fun w' => w'.cell? ⟨gb335, 0, none⟩ = some (.int .i64 a0_0) ∧ w'.cell? ⟨gb335, 1, none⟩ = some (.slice A0_1 l0_1.length c0_1) ∧ w'.cell? ⟨gb335, 2, none⟩ = some (.slice A0_2 l0_2.length c0_2) ∧ w'.cell? ⟨gb335, 3, none⟩ = some (.slice (some ad339) l0_3.length c0_3) ∧ w'.cell? ⟨gb336, 0, none⟩ = some (.int .i64 a1_0) ∧ w'.cell? ⟨gb336, 1, none⟩ = some (.slice A1_1 l1_1.length c1_1) ∧ w'.cell? ⟨gb336, 2, none⟩ = some (.slice A1_2 l1_2.length c1_2) ∧ w'.cell? ⟨gb336, 3, none⟩ = some (.slice (some ad340) l1_3.length c1_3) ∧ w'.cell? (ad339.add ((x5_2).toNat * 6)) = some (.string ((rd_T53 l0_3 x5_2).f0)) ∧ w'.cell? ⟨(ad339.add ((x5_2).toNat * 6)).block, (ad339.add ((x5_2).toNat * 6)).off + 1, none⟩ = some (.int .i64 ((rd_T53 l0_3 x5_2).f1)) ∧ w'.cell? ⟨(ad339.add ((x5_2).toNat * 6)).block, (ad339.add ((x5_2).toNat * 6)).off + 2, none⟩ = some (.int .i64 ((rd_T53 l0_3 x5_2).f2)) ∧ w'.cell? ⟨(ad339.add ((x5_2).toNat * 6)).block, (ad339.add ((x5_2).toNat * 6)).off + 3, none⟩ = some (.int .i64 ((rd_T53 l0_3 x5_2).f3)) ∧ w'.cell? ⟨(ad339.add ((x5_2).toNat * 6)).block, (ad339.add ((x5_2).toNat * 6)).off + 4, none⟩ = some (.int .i64 ((rd_T53 l0_3 x5_2).f4)) ∧ w'.cell? ⟨(ad339.add ((x5_2).toNat * 6)).block, (ad339.add ((x5_2).toNat * 6)).off + 5, none⟩ = some (.slice A339_5 ((rd_T53 l0_3 x5_2).f5).length c339_5) ∧ w'.cell? (ad340.add ((x5_2).toNat * 6)) = some (.string ((rd_T53 l1_3 x5_2).f0)) ∧ w'.cell? ⟨(ad340.add ((x5_2).toNat * 6)).block, (ad340.add ((x5_2).toNat * 6)).off + 1, none⟩ = some (.int .i64 ((rd_T53 l1_3 x5_2).f1)) ∧ w'.cell? ⟨(ad340.add ((x5_2).toNat * 6)).block, (ad340.add ((x5_2).toNat * 6)).off + 2, none⟩ = some (.int .i64 ((rd_T53 l1_3 x5_2).f2)) ∧ w'.cell? ⟨(ad340.add ((x5_2).toNat * 6)).block, (ad340.add ((x5_2).toNat * 6)).off + 3, none⟩ = some (.int .i64 ((rd_T53 l1_3 x5_2).f3)) ∧ w'.cell? ⟨(ad340.add ((x5_2).toNat * 6)).block, (ad340.add ((x5_2).toNat * 6)).off + 4, none⟩ = some (.int .i64 ((rd_T53 l1_3 x5_2).f4)) ∧ w'.cell? ⟨(ad340.add ((x5_2).toNat * 6)).block, (ad340.add ((x5_2).toNat * 6)).off + 5, none⟩ = some (.slice A340_5 ((rd_T53 l1_3 x5_2).f5).length c340_5)) (ds := []) (bs 12 0) (by kernel_rfl) rfl rfl ⟨(blk_cell BK335.out 0).trans rfl, (blk_cell BK335.out 1).trans rfl, (blk_cell BK335.out 2).trans rfl, (blk_cell BK335.out 3).trans rfl, (blk_cell BK336.out 0).trans rfl, (blk_cell BK336.out 1).trans rfl, (blk_cell BK336.out 2).trans rfl, (blk_cell BK336.out 3).trans rfl, ((HB.out.cell (World.block_lt_of_cell? w _ hw339_0)).trans hw339_0), ((HB.out.cell (World.block_lt_of_cell? w _ hw339_1)).trans hw339_1), ((HB.out.cell (World.block_lt_of_cell? w _ hw339_2)).trans hw339_2), ((HB.out.cell (World.block_lt_of_cell? w _ hw339_3)).trans hw339_3), ((HB.out.cell (World.block_lt_of_cell? w _ hw339_4)).trans hw339_4), ((HB.out.cell (World.block_lt_of_cell? w _ hw339_5)).trans hw339_5), ((HB.out.cell (World.block_lt_of_cell? w _ hw340_0)).trans hw340_0), ((HB.out.cell (World.block_lt_of_cell? w _ hw340_1)).trans hw340_1), ((HB.out.cell (World.block_lt_of_cell? w _ hw340_2)).trans hw340_2), ((HB.out.cell (World.block_lt_of_cell? w _ hw340_3)).trans hw340_3), ((HB.out.cell (World.block_lt_of_cell? w _ hw340_4)).trans hw340_4), ((HB.out.cell (World.block_lt_of_cell? w _ hw340_5)).trans hw340_5)⟩ (fun hHeld => ?_); refine with_tabW sr_Same.tab6 sr_Same.bits6 (fun HT_ HW_ => ?_)
  generalize wr.drew = w37 at BK335 BK336 HB HR339_5 HR340_5 hx339_0 hx339_1 hx339_2 hx339_3 hx339_4 hx339_5 hx340_0 hx340_1 hx340_2 hx340_3 hx340_4 hx340_5 hHeld ⊢
  refine pure_ (i := 0) (N := some 43) (v := ?_) (a' := ?_) (bs 12 1) rfl rfl (any_of HT_.out (by kernel_rfl)) (fun _ _ _ h => h) (Or.inl ⟨by rfl, ?_⟩) ?_ ?_
  rotate_left
  · intro w'
    go_simp
    with_reducible rfl
  rotate_left
  · simp only [Act.put, List.setIfInBounds_toArray, List.set_cons_zero, List.set_cons_succ, i64_w, i32_w]
    rfl
  refine pure_ (i := 2) (N := some 45) (v := ?_) (a' := ?_) (bs 12 5) rfl rfl (any_of HT_.out (by kernel_rfl)) (fun _ _ _ h => h) (Or.inl ⟨by rfl, ?_⟩) ?_ ?_
  rotate_left
  · intro w'
    go_simp
    with_reducible rfl
  rotate_left
  · simp only [Act.put, List.setIfInBounds_toArray, List.set_cons_zero, List.set_cons_succ, i64_w, i32_w]
    rfl
  refine pure_ (i := 5) (N := some 48) (v := ?_) (a' := ?_) (bs 12 37) rfl rfl (any_of HT_.out (by kernel_rfl)) (fun _ _ _ h => h) (Or.inl ⟨by rfl, ?_⟩) ?_ ?_
  rotate_left
  · intro w'
    go_simp
    with_reducible rfl
  rotate_left
  · simp only [Act.put, List.setIfInBounds_toArray, List.set_cons_zero, List.set_cons_succ, i64_w, i32_w]
    rfl
  refine pure_ (i := 7) (N := some 50) (v := ?_) (a' := ?_) (bs 12 165) rfl rfl (any_of HT_.out (by kernel_rfl)) (fun _ _ _ h => h) (Or.inl ⟨by rfl, ?_⟩) ?_ ?_
  rotate_left
  · intro w'
    go_simp
    with_reducible rfl
  rotate_left
  · simp only [Act.put, List.setIfInBounds_toArray, List.set_cons_zero, List.set_cons_succ, i64_w, i32_w]
    rfl
  refine take_ (i := 1) (N := some 44) (v := ?_) (a' := ?_) (bs 12 167) rfl rfl (take_ofW HT_.out HW_.out (by kernel_rfl)) (fun _ _ _ h => h) (Or.inl ⟨by rfl, ?_⟩) hHeld ?_ ?_
  rotate_left
  · rintro w' ⟨s0, s1, s2, s3, s4, s5, s6, s7, s8, s9, s10, s11, s12, s13, s14, s15, s16, s17, s18, s19⟩
    go_simp
    with_reducible rfl
  rotate_left
  · simp only [Act.put, List.setIfInBounds_toArray, List.set_cons_zero, List.set_cons_succ, i64_w, i32_w]
    rfl
  refine pure_ (i := 3) (N := some 46) (v := ?_) (a' := ?_) (bs 12 175) rfl rfl (any_of HT_.out (by kernel_rfl)) (fun _ _ _ h => h) (Or.inl ⟨by rfl, ?_⟩) ?_ ?_
  rotate_left
  · intro w'
    go_simp
    with_reducible rfl
  rotate_left
  · simp only [Act.put, List.setIfInBounds_toArray, List.set_cons_zero, List.set_cons_succ, i64_w, i32_w]
    rfl
  refine take_ (i := 4) (N := some 47) (v := ?_) (a' := ?_) (bs 12 191) rfl rfl (take_ofW HT_.out HW_.out (by kernel_rfl)) (fun _ _ _ h => h) (Or.inl ⟨by rfl, ?_⟩) hHeld ?_ ?_
  rotate_left
  · rintro w' ⟨s0, s1, s2, s3, s4, s5, s6, s7, s8, s9, s10, s11, s12, s13, s14, s15, s16, s17, s18, s19⟩
    go_simp
    with_reducible rfl
  rotate_left
  · simp only [Act.put, List.setIfInBounds_toArray, List.set_cons_zero, List.set_cons_succ, i64_w, i32_w]
    rfl
  refine take_ (i := 6) (N := some 49) (v := ?_) (a' := ?_) (bs 12 255) rfl rfl (take_ofW HT_.out HW_.out (by kernel_rfl)) (fun _ _ _ h => h) (Or.inl ⟨by rfl, ?_⟩) hHeld ?_ ?_
  rotate_left
  · rintro w' ⟨s0, s1, s2, s3, s4, s5, s6, s7, s8, s9, s10, s11, s12, s13, s14, s15, s16, s17, s18, s19⟩
    go_simp
    with_reducible rfl
  rotate_left
  · simp only [Act.put, List.setIfInBounds_toArray, List.set_cons_zero, List.set_cons_succ, i64_w, i32_w]
    rfl
  refine pure_ (i := 8) (N := some 51) (v := ?_) (a' := ?_) (bs 12 511) rfl rfl (any_of HT_.out (by kernel_rfl)) (fun _ _ _ h => h) (Or.inl ⟨by rfl, ?_⟩) ?_ ?_
  rotate_left
  · intro w'
    go_simp
    with_reducible rfl
  rotate_left
  · simp only [Act.put, List.setIfInBounds_toArray, List.set_cons_zero, List.set_cons_succ, i64_w, i32_w]
    rfl
  refine take_ (i := 9) (N := some 52) (v := ?_) (a' := ?_) (bs 12 1023) rfl rfl (take_ofW HT_.out HW_.out (by kernel_rfl)) (fun _ _ _ h => h) (Or.inl ⟨by rfl, ?_⟩) hHeld ?_ ?_
  rotate_left
  · rintro w' ⟨s0, s1, s2, s3, s4, s5, s6, s7, s8, s9, s10, s11, s12, s13, s14, s15, s16, s17, s18, s19⟩
    go_simp
    with_reducible rfl
  rotate_left
  · simp only [Act.put, List.setIfInBounds_toArray, List.set_cons_zero, List.set_cons_succ, i64_w, i32_w]
    rfl
  refine one_ (i := 10) (N := some 53) (bs 12 2047) rfl rfl (one_of HT_.out (by kernel_rfl)) (by decide) (fun K hK => ?_)
  refine goes_ Tryd.func44 (by kernel_rfl) rfl #[.agg #[.string ((rd_T53 l0_3 x5_2).f0), .int .i64 ((rd_T53 l0_3 x5_2).f1), .int .i64 ((rd_T53 l0_3 x5_2).f2), .int .i64 ((rd_T53 l0_3 x5_2).f3), .int .i64 ((rd_T53 l0_3 x5_2).f4), .slice A339_5 ((rd_T53 l0_3 x5_2).f5).length c339_5], .agg #[.string ((rd_T53 l1_3 x5_2).f0), .int .i64 ((rd_T53 l1_3 x5_2).f1), .int .i64 ((rd_T53 l1_3 x5_2).f2), .int .i64 ((rd_T53 l1_3 x5_2).f3), .int .i64 ((rd_T53 l1_3 x5_2).f4), .slice A340_5 ((rd_T53 l1_3 x5_2).f5).length c340_5]] (by rfl) rfl rfl (by (try simp only [List.map_toArray, List.map_cons, List.map_nil]); first | done | rfl | (simp only [List.length_drop, List.length_take]; rfl)) ?_
  with_reducible refine (sr_SameTask.calls k2 ((rd_T53 l0_3 x5_2).f0) ((rd_T53 l0_3 x5_2).f1) ((rd_T53 l0_3 x5_2).f2) ((rd_T53 l0_3 x5_2).f3) ((rd_T53 l0_3 x5_2).f4) _ _ ((rd_T53 l0_3 x5_2).f5) ((rd_T53 l1_3 x5_2).f0) ((rd_T53 l1_3 x5_2).f1) ((rd_T53 l1_3 x5_2).f2) ((rd_T53 l1_3 x5_2).f3) ((rd_T53 l1_3 x5_2).f4) _ _ ((rd_T53 l1_3 x5_2).f5) true _ ?side1 ?side2 ?side3 ?side4 A29.out).mono ?_
  (case side1 => repeat (first | exact (Kd.C_below HR339_5.out HB.out) | (with_reducible refine Kd.C_alloc ?_ _) | (with_reducible refine Kd.C_drewN ?_ _) | (with_reducible refine Kd.C_drew ?_)))
  (case side2 => exact HC339_5.out)
  (case side3 => repeat (first | exact (Kd.C_below HR340_5.out HB.out) | (with_reducible refine Kd.C_alloc ?_ _) | (with_reducible refine Kd.C_drewN ?_ _) | (with_reducible refine Kd.C_drew ?_)))
  (case side4 => exact HC340_5.out)
  rintro e w38 ⟨rfl, hb⟩
  refine ⟨_, rfl, ?_⟩
  have n0_ := Aside0.mk (blk_below BK335.out hb)
  have n1_ := Aside0.mk (blk_below BK336.out hb)
  have n2_ := Aside0.mk (below_step (HB.out) hb)
  clear BK335
  clear BK336
  clear HB
  have BK335 := n0_
  have BK336 := n1_
  have HB := n2_
  clear n0_ n1_ n2_
  (try clear hb)
  (try clear hb2)
  (try clear hk)
  (try clear hi)
  refine hK.out _ _ ⟨(blk_cell BK335.out 0).trans rfl, (blk_cell BK335.out 1).trans rfl, (blk_cell BK335.out 2).trans rfl, (blk_cell BK335.out 3).trans rfl, (blk_cell BK336.out 0).trans rfl, (blk_cell BK336.out 1).trans rfl, (blk_cell BK336.out 2).trans rfl, (blk_cell BK336.out 3).trans rfl, ((HB.out.cell (World.block_lt_of_cell? w _ hw339_0)).trans hw339_0), ((HB.out.cell (World.block_lt_of_cell? w _ hw339_1)).trans hw339_1), ((HB.out.cell (World.block_lt_of_cell? w _ hw339_2)).trans hw339_2), ((HB.out.cell (World.block_lt_of_cell? w _ hw339_3)).trans hw339_3), ((HB.out.cell (World.block_lt_of_cell? w _ hw339_4)).trans hw339_4), ((HB.out.cell (World.block_lt_of_cell? w _ hw339_5)).trans hw339_5), ((HB.out.cell (World.block_lt_of_cell? w _ hw340_0)).trans hw340_0), ((HB.out.cell (World.block_lt_of_cell? w _ hw340_1)).trans hw340_1), ((HB.out.cell (World.block_lt_of_cell? w _ hw340_2)).trans hw340_2), ((HB.out.cell (World.block_lt_of_cell? w _ hw340_3)).trans hw340_3), ((HB.out.cell (World.block_lt_of_cell? w _ hw340_4)).trans hw340_4), ((HB.out.cell (World.block_lt_of_cell? w _ hw340_5)).trans hw340_5)⟩ (fun hHeld => ?_)
  clear hK K
  refine norm_ (a' := ?_) ?_ ?_
  rotate_left
  · show Act.put _ (some 53) _ = _
    simp only [Act.put, List.setIfInBounds_toArray, List.set_cons_zero, List.set_cons_succ, i64_w, i32_w]
    rfl
  refine pure_ (i := 11) (N := some 54) (v := ?_) (a' := ?_) (bs 12 4095) rfl rfl (any_of HT_.out (by kernel_rfl)) (fun _ _ _ h => h) (Or.inl ⟨by rfl, ?_⟩) ?_ ?_
  rotate_left
  · intro w'
    go_simp
    with_reducible rfl
  rotate_left
  · simp only [Act.put, List.setIfInBounds_toArray, List.set_cons_zero, List.set_cons_succ, i64_w, i32_w]
    rfl
  refine done_ (done_of HT_.out (by kernel_rfl)) ?_
  try go_wp2
  go_roundg k2
  case measure => have := HJ2.out; have := HK2.out; omega
  case rel => exact ⟨(wrap64 (x5_2 + 1)), (by first | rfl | (simp; done) | (simp [*]; done)), H', ⟨by have := HJ2.out; have := HK2.out; omega⟩, ⟨BK335.out⟩, ⟨BK336.out⟩, ⟨HB.out⟩⟩
end Go.Proofs.YtgkjoodlcojkkaaDoor.QD
end
section
namespace Go.Proofs.YtgkjoodlcojkkaaDoor.Y
open Go.RowKit Go.Proofs.YtgkjoodlcojkkaaDoorW.PrintWords Go.Proofs.YtgkjoodlcojkkaaDoorW.PrintLast Go.Proofs.YtgkjoodlcojkkaaDoorW.PrintMore Go.Proofs.YtgkjoodlcojkkaaDoor.QD
set_option linter.unusedVariables false
set_option linter.unusedSimpArgs false
theorem sameInts_loop (l : List Int) (hl : l.length < 1000000) : ∀ (d i k : Nat), i + d = l.length → d < k → sr_sameInts.l0 k l l (i : Int) = some true
  | _, _, 0, _, hk => by omega
  | 0, i, k + 1, h, _ => by
    unfold sr_sameInts.l0
    rw [if_neg (by omega)]
  | d + 1, i, k + 1, h, hk => by
    unfold sr_sameInts.l0
    rw [if_pos (by omega), if_pos (by omega), if_pos (by omega), if_pos rfl, w64s i (by omega)]
    exact sameInts_loop l hl d (i + 1) k (by omega) (by omega)
theorem sameInts_refl (l : List Int) (hl : l.length < 1000000) (k : Nat) (hk : l.length < k) : sr_sameInts.f k l l = some true := by
  unfold sr_sameInts.f
  rw [if_pos rfl]
  exact sameInts_loop l hl l.length 0 k (by omega) hk
theorem sameTask_loop (t : S53) (hl : t.f5.length < 1000000) : ∀ (d i k : Nat), i + d = t.f5.length → d < k → sr_SameTask.l0 k (i : Int) t.f0 t.f1 t.f2 t.f3 t.f4 t.f5 t.f0 t.f1 t.f2 t.f3 t.f4 t.f5 = some true
  | _, _, 0, _, hk => by omega
  | 0, i, k + 1, h, _ => by
    unfold sr_SameTask.l0
    rw [if_neg (by omega)]
  | d + 1, i, k + 1, h, hk => by
    unfold sr_SameTask.l0
    rw [if_pos (by omega), if_pos (by omega), if_pos (by omega), if_neg (by simp), w64s i (by omega)]
    exact sameTask_loop t hl d (i + 1) k (by omega) (by omega)
theorem sameTask_refl (t : S53) (hl : t.f5.length < 1000000) (k : Nat) (hk : t.f5.length + 1 < k) : sr_SameTask.f k t.f0 t.f1 t.f2 t.f3 t.f4 t.f5 t.f0 t.f1 t.f2 t.f3 t.f4 t.f5 = some true := by
  unfold sr_SameTask.f
  rw [if_pos rfl, if_pos rfl, if_pos rfl, if_pos rfl, if_pos rfl]
  obtain ⟨k', rfl⟩ : ∃ k', k = k' + 1 := ⟨k - 1, by omega⟩
  rw [sr_SameTask.j0, if_neg (by simp)]
  exact sameTask_loop t hl t.f5.length 0 k' (by omega) (by omega)
theorem sameS_loop (p : Int) (cs hs : List Int) (ts : List S53) (hl : ts.length < 1000000) (m : Nat) (hm : m < 1000000) (hb : ∀ t ∈ ts, t.f5.length + 1 < m) : ∀ (d i k : Nat), i + d = ts.length → d + m < k → sr_Same.l0 k (i : Int) p cs hs ts p cs hs ts = some true
  | _, _, 0, _, hk => by omega
  | 0, i, k + 1, h, _ => by
    unfold sr_Same.l0
    rw [if_neg (by omega)]
  | d + 1, i, k + 1, h, hk => by
    have hi : i < ts.length := by omega
    have hb' := hb _ (List.getElem_mem hi)
    unfold sr_Same.l0
    rw [if_pos (by omega), if_pos (by omega), if_pos (by omega), rd53 ts i hi, sameTask_refl ts[i] (by omega) k (by omega), Option.bind_some, if_pos rfl, w64s i (by omega)]
    exact sameS_loop p cs hs ts hl m hm hb d (i + 1) k (by omega) (by omega)
theorem same_refl (p : Int) (cs hs : List Int) (ts : List S53) (hc : cs.length < 1000) (hh : hs.length < 1000) (hl : ts.length < 1000) (hb : ∀ t ∈ ts, t.f5.length < 1000) (k : Nat) (hk : 3000 < k) : sr_Same.f k p cs hs ts p cs hs ts = some true := by
  unfold sr_Same.f
  rw [if_pos rfl, sameInts_refl cs (by omega) k (by omega), Option.bind_some, if_pos rfl, sameInts_refl hs (by omega) k (by omega), Option.bind_some, if_pos rfl]
  obtain ⟨k', rfl⟩ : ∃ k', k = k' + 1 := ⟨k - 1, by omega⟩
  rw [sr_Same.j0, if_neg (by simp)]
  exact sameS_loop p cs hs ts (by omega) 1002 (by omega) (fun t ht => by have := hb t ht; omega) ts.length 0 k' (by omega) (by omega)
end Go.Proofs.YtgkjoodlcojkkaaDoor.Y
end
section
namespace Go.Proofs.YtgkjoodlcojkkaaDoor.QD
open Go.RowKit Go.Proofs.YtgkjoodlcojkkaaDoorW.PrintWords Go.Proofs.YtgkjoodlcojkkaaDoorW.PrintLast Go.Proofs.YtgkjoodlcojkkaaDoorW.PrintMore
attribute [local go_sem] max2_int min2_int max_two min_two max_three min_three max_four min_four
set_option linter.unusedVariables false
set_option linter.unusedSimpArgs false
def sl_TxNu.f (k : Nat) (a0 : Int) (a1 : Int) (a2 : Int) (a3 : Int) (a4 : Int) (a5 : Int) : Option (Bool) := (sl_known.f k).bind fun t325 => (if t325 = true then (if (wrap64 ((wrap64 (Int.tmod a0 3000)) + 1)) = 0 then (none) else ((sr_Text.f k (wrap64 ((wrap64 (Int.tmod a0 3000)) + 1))).bind fun t326 => (if 45 + t326.size ≤ 9223372036854775807 then (if ((⟨#[112, 114, 111, 116, 111, 99, 111, 108, 32, 116, 111, 107, 101, 110, 10, 99, 111, 114, 101, 115, 32, 50, 32, 49, 32, 51, 10, 104, 111, 109, 101, 115, 32, 50, 32, 48, 10, 116, 97, 115, 107, 32, 122, 122, 32]⟩ : ByteArray) ++ t326).size + 1 ≤ 9223372036854775807 then ((sr_Text.f k (wrap64 ((Int.tmod (wrap64 (a1)) (wrap64 ((wrap64 (Int.tmod a0 3000)) + 1))) + 1))).bind fun t327 => (if (((⟨#[112, 114, 111, 116, 111, 99, 111, 108, 32, 116, 111, 107, 101, 110, 10, 99, 111, 114, 101, 115, 32, 50, 32, 49, 32, 51, 10, 104, 111, 109, 101, 115, 32, 50, 32, 48, 10, 116, 97, 115, 107, 32, 122, 122, 32]⟩ : ByteArray) ++ t326) ++ (⟨#[32]⟩ : ByteArray)).size + t327.size ≤ 9223372036854775807 then (if ((((⟨#[112, 114, 111, 116, 111, 99, 111, 108, 32, 116, 111, 107, 101, 110, 10, 99, 111, 114, 101, 115, 32, 50, 32, 49, 32, 51, 10, 104, 111, 109, 101, 115, 32, 50, 32, 48, 10, 116, 97, 115, 107, 32, 122, 122, 32]⟩ : ByteArray) ++ t326) ++ (⟨#[32]⟩ : ByteArray)) ++ t327).size + 1 ≤ 9223372036854775807 then ((sr_Text.f k (wrap64 ((wrap64 (Int.tmod a2 1000)) + 1))).bind fun t328 => (if (((((⟨#[112, 114, 111, 116, 111, 99, 111, 108, 32, 116, 111, 107, 101, 110, 10, 99, 111, 114, 101, 115, 32, 50, 32, 49, 32, 51, 10, 104, 111, 109, 101, 115, 32, 50, 32, 48, 10, 116, 97, 115, 107, 32, 122, 122, 32]⟩ : ByteArray) ++ t326) ++ (⟨#[32]⟩ : ByteArray)) ++ t327) ++ (⟨#[32]⟩ : ByteArray)).size + t328.size ≤ 9223372036854775807 then (if ((((((⟨#[112, 114, 111, 116, 111, 99, 111, 108, 32, 116, 111, 107, 101, 110, 10, 99, 111, 114, 101, 115, 32, 50, 32, 49, 32, 51, 10, 104, 111, 109, 101, 115, 32, 50, 32, 48, 10, 116, 97, 115, 107, 32, 122, 122, 32]⟩ : ByteArray) ++ t326) ++ (⟨#[32]⟩ : ByteArray)) ++ t327) ++ (⟨#[32]⟩ : ByteArray)) ++ t328).size + 1 ≤ 9223372036854775807 then ((sr_Text.f k (wrap64 (Int.tmod a3 3))).bind fun t329 => (if (((((((⟨#[112, 114, 111, 116, 111, 99, 111, 108, 32, 116, 111, 107, 101, 110, 10, 99, 111, 114, 101, 115, 32, 50, 32, 49, 32, 51, 10, 104, 111, 109, 101, 115, 32, 50, 32, 48, 10, 116, 97, 115, 107, 32, 122, 122, 32]⟩ : ByteArray) ++ t326) ++ (⟨#[32]⟩ : ByteArray)) ++ t327) ++ (⟨#[32]⟩ : ByteArray)) ++ t328) ++ (⟨#[32]⟩ : ByteArray)).size + t329.size ≤ 9223372036854775807 then (if ((((((((⟨#[112, 114, 111, 116, 111, 99, 111, 108, 32, 116, 111, 107, 101, 110, 10, 99, 111, 114, 101, 115, 32, 50, 32, 49, 32, 51, 10, 104, 111, 109, 101, 115, 32, 50, 32, 48, 10, 116, 97, 115, 107, 32, 122, 122, 32]⟩ : ByteArray) ++ t326) ++ (⟨#[32]⟩ : ByteArray)) ++ t327) ++ (⟨#[32]⟩ : ByteArray)) ++ t328) ++ (⟨#[32]⟩ : ByteArray)) ++ t329).size + 7 ≤ 9223372036854775807 then ((sr_Text.f k (wrap64 ((wrap64 (Int.tmod a5 60)) + 1))).bind fun t330 => (if (((((((((⟨#[112, 114, 111, 116, 111, 99, 111, 108, 32, 116, 111, 107, 101, 110, 10, 99, 111, 114, 101, 115, 32, 50, 32, 49, 32, 51, 10, 104, 111, 109, 101, 115, 32, 50, 32, 48, 10, 116, 97, 115, 107, 32, 122, 122, 32]⟩ : ByteArray) ++ t326) ++ (⟨#[32]⟩ : ByteArray)) ++ t327) ++ (⟨#[32]⟩ : ByteArray)) ++ t328) ++ (⟨#[32]⟩ : ByteArray)) ++ t329) ++ (⟨#[32, 115, 108, 101, 101, 112, 58]⟩ : ByteArray)).size + t330.size ≤ 9223372036854775807 then (if ((((((((((⟨#[112, 114, 111, 116, 111, 99, 111, 108, 32, 116, 111, 107, 101, 110, 10, 99, 111, 114, 101, 115, 32, 50, 32, 49, 32, 51, 10, 104, 111, 109, 101, 115, 32, 50, 32, 48, 10, 116, 97, 115, 107, 32, 122, 122, 32]⟩ : ByteArray) ++ t326) ++ (⟨#[32]⟩ : ByteArray)) ++ t327) ++ (⟨#[32]⟩ : ByteArray)) ++ t328) ++ (⟨#[32]⟩ : ByteArray)) ++ t329) ++ (⟨#[32, 115, 108, 101, 101, 112, 58]⟩ : ByteArray)) ++ t330).size + 6 ≤ 9223372036854775807 then ((sr_Text.f k (wrap64 (Int.tmod a4 2))).bind fun t331 => (if (((((((((((⟨#[112, 114, 111, 116, 111, 99, 111, 108, 32, 116, 111, 107, 101, 110, 10, 99, 111, 114, 101, 115, 32, 50, 32, 49, 32, 51, 10, 104, 111, 109, 101, 115, 32, 50, 32, 48, 10, 116, 97, 115, 107, 32, 122, 122, 32]⟩ : ByteArray) ++ t326) ++ (⟨#[32]⟩ : ByteArray)) ++ t327) ++ (⟨#[32]⟩ : ByteArray)) ++ t328) ++ (⟨#[32]⟩ : ByteArray)) ++ t329) ++ (⟨#[32, 115, 108, 101, 101, 112, 58]⟩ : ByteArray)) ++ t330) ++ (⟨#[32, 108, 111, 99, 107, 58]⟩ : ByteArray)).size + t331.size ≤ 9223372036854775807 then (if ((((((((((((⟨#[112, 114, 111, 116, 111, 99, 111, 108, 32, 116, 111, 107, 101, 110, 10, 99, 111, 114, 101, 115, 32, 50, 32, 49, 32, 51, 10, 104, 111, 109, 101, 115, 32, 50, 32, 48, 10, 116, 97, 115, 107, 32, 122, 122, 32]⟩ : ByteArray) ++ t326) ++ (⟨#[32]⟩ : ByteArray)) ++ t327) ++ (⟨#[32]⟩ : ByteArray)) ++ t328) ++ (⟨#[32]⟩ : ByteArray)) ++ t329) ++ (⟨#[32, 115, 108, 101, 101, 112, 58]⟩ : ByteArray)) ++ t330) ++ (⟨#[32, 108, 111, 99, 107, 58]⟩ : ByteArray)) ++ t331).size + 1 ≤ 9223372036854775807 then ((sr_Text.f k (wrap64 ((wrap64 (Int.tmod a5 60)) + 1))).bind fun t332 => (if (((((((((((((⟨#[112, 114, 111, 116, 111, 99, 111, 108, 32, 116, 111, 107, 101, 110, 10, 99, 111, 114, 101, 115, 32, 50, 32, 49, 32, 51, 10, 104, 111, 109, 101, 115, 32, 50, 32, 48, 10, 116, 97, 115, 107, 32, 122, 122, 32]⟩ : ByteArray) ++ t326) ++ (⟨#[32]⟩ : ByteArray)) ++ t327) ++ (⟨#[32]⟩ : ByteArray)) ++ t328) ++ (⟨#[32]⟩ : ByteArray)) ++ t329) ++ (⟨#[32, 115, 108, 101, 101, 112, 58]⟩ : ByteArray)) ++ t330) ++ (⟨#[32, 108, 111, 99, 107, 58]⟩ : ByteArray)) ++ t331) ++ (⟨#[58]⟩ : ByteArray)).size + t332.size ≤ 9223372036854775807 then (if ((((((((((((((⟨#[112, 114, 111, 116, 111, 99, 111, 108, 32, 116, 111, 107, 101, 110, 10, 99, 111, 114, 101, 115, 32, 50, 32, 49, 32, 51, 10, 104, 111, 109, 101, 115, 32, 50, 32, 48, 10, 116, 97, 115, 107, 32, 122, 122, 32]⟩ : ByteArray) ++ t326) ++ (⟨#[32]⟩ : ByteArray)) ++ t327) ++ (⟨#[32]⟩ : ByteArray)) ++ t328) ++ (⟨#[32]⟩ : ByteArray)) ++ t329) ++ (⟨#[32, 115, 108, 101, 101, 112, 58]⟩ : ByteArray)) ++ t330) ++ (⟨#[32, 108, 111, 99, 107, 58]⟩ : ByteArray)) ++ t331) ++ (⟨#[58]⟩ : ByteArray)) ++ t332).size + 1 ≤ 9223372036854775807 then ((text_Parse.f k (((((((((((((((⟨#[112, 114, 111, 116, 111, 99, 111, 108, 32, 116, 111, 107, 101, 110, 10, 99, 111, 114, 101, 115, 32, 50, 32, 49, 32, 51, 10, 104, 111, 109, 101, 115, 32, 50, 32, 48, 10, 116, 97, 115, 107, 32, 122, 122, 32]⟩ : ByteArray) ++ t326) ++ (⟨#[32]⟩ : ByteArray)) ++ t327) ++ (⟨#[32]⟩ : ByteArray)) ++ t328) ++ (⟨#[32]⟩ : ByteArray)) ++ t329) ++ (⟨#[32, 115, 108, 101, 101, 112, 58]⟩ : ByteArray)) ++ t330) ++ (⟨#[32, 108, 111, 99, 107, 58]⟩ : ByteArray)) ++ t331) ++ (⟨#[58]⟩ : ByteArray)) ++ t332) ++ (⟨#[10]⟩ : ByteArray))).bind fun bt333 => (if bt333.2.2.2.2.2 = 0 then (if bt333.2.2.2.2.1 = 4 then ((sr_Same.f k bt333.1 bt333.2.1 bt333.2.2.1 bt333.2.2.2.1 3 (([2, 1, 3] : List Int)) (([2, 0] : List Int)) (([(⟨(⟨#[122, 122]⟩ : ByteArray), wrap64 ((wrap64 (Int.tmod a0 3000)) + 1), wrap64 ((Int.tmod (wrap64 (a1)) (wrap64 ((wrap64 (Int.tmod a0 3000)) + 1))) + 1), wrap64 ((wrap64 (Int.tmod a2 1000)) + 1), wrap64 (Int.tmod a3 3), (([(⟨2, wrap64 ((wrap64 (Int.tmod a5 60)) + 1), 0⟩ : S50), (⟨3, wrap64 ((wrap64 (Int.tmod a5 60)) + 1), wrap64 (Int.tmod a4 2)⟩ : S50)] : List (S50)))⟩ : S53)] : List (S53)))).bind fun t359 => (if t359 = true then ((text_Print.f k bt333.1 bt333.2.1 bt333.2.2.1 bt333.2.2.2.1).bind fun t360 => (some (t360.toList == (((((((((((((((⟨#[112, 114, 111, 116, 111, 99, 111, 108, 32, 116, 111, 107, 101, 110, 10, 99, 111, 114, 101, 115, 32, 50, 32, 49, 32, 51, 10, 104, 111, 109, 101, 115, 32, 50, 32, 48, 10, 116, 97, 115, 107, 32, 122, 122, 32]⟩ : ByteArray) ++ t326) ++ (⟨#[32]⟩ : ByteArray)) ++ t327) ++ (⟨#[32]⟩ : ByteArray)) ++ t328) ++ (⟨#[32]⟩ : ByteArray)) ++ t329) ++ (⟨#[32, 115, 108, 101, 101, 112, 58]⟩ : ByteArray)) ++ t330) ++ (⟨#[32, 108, 111, 99, 107, 58]⟩ : ByteArray)) ++ t331) ++ (⟨#[58]⟩ : ByteArray)) ++ t332) ++ (⟨#[10]⟩ : ByteArray)).toList))) else (some false))) else (some false)) else (some false))) else (none)) else (none))) else (none)) else (none))) else (none)) else (none))) else (none)) else (none))) else (none)) else (none))) else (none)) else (none))) else (none)) else (none)))) else (some false))
theorem sl_TxNu.mono : ∀ a0 a1 a2 a3 a4 a5 k, LeO (sl_TxNu.f k a0 a1 a2 a3 a4 a5) (sl_TxNu.f (k + 1) a0 a1 a2 a3 a4 a5) := by
  intro a0 a1 a2 a3 a4 a5 k
  unfold sl_TxNu.f
  repeat' first
      | (with_reducible exact sl_known.mono _)
      | (with_reducible exact sr_Same.mono _ _ _ _ _ _ _ _ _)
      | (with_reducible exact sr_Text.mono _ _)
      | (with_reducible exact text_Parse.mono _ _)
      | (with_reducible exact text_Print.mono _ _ _ _ _)
      | (with_reducible exact LeO.refl _)
      | (with_reducible exact LeO.none _)
      | (with_reducible refine LeO.ite ?_ ?_)
      | (with_reducible refine LeO.bind ?_ (fun _ => ?_))
      | exact sl_known.mono _
      | exact sr_Same.mono _ _ _ _ _ _ _ _ _
      | exact sr_Text.mono _ _
      | exact text_Parse.mono _ _
      | exact text_Print.mono _ _ _ _ _
      | exact LeO.none _
      | refine LeO.ite ?_ ?_
      | refine LeO.bind ?_ (fun _ => ?_)
set_option maxHeartbeats 8000000 in
set_option maxRecDepth 100000 in
theorem sl_TxNu.calls (k : Nat) (a0 : Int) (a1 : Int) (a2 : Int) (a3 : Int) (a4 : Int) (a5 : Int) (r : Bool) [hT_ : IsTrue r] (w : World) (hG : Glob w) (h : sl_TxNu.f k a0 a1 a2 a3 a4 a5 = some r) :
    Calls Tryd.prog 7 #[.int .u16 a0, .int .u16 a1, .int .u16 a2, .int .u8 a3, .int .u8 a4, .int .u8 a5] w fun e w' => e = .returned (.bool r) ∧ Below w.heap.size w w' := by
  have hu37 := Tryd.underlying37
  have hu50 := Tryd.underlying50
  have hu53 := Tryd.underlying53
  have HG := Aside0.mk hG
  clear hG
  have HB := Aside0.mk (Below.refl w.heap.size w)
  have H : ((sl_known.f k).bind fun t325 => (if t325 = true then (if (wrap64 ((wrap64 (Int.tmod a0 3000)) + 1)) = 0 then (none) else ((sr_Text.f k (wrap64 ((wrap64 (Int.tmod a0 3000)) + 1))).bind fun t326 => (if 45 + t326.size ≤ 9223372036854775807 then (if ((⟨#[112, 114, 111, 116, 111, 99, 111, 108, 32, 116, 111, 107, 101, 110, 10, 99, 111, 114, 101, 115, 32, 50, 32, 49, 32, 51, 10, 104, 111, 109, 101, 115, 32, 50, 32, 48, 10, 116, 97, 115, 107, 32, 122, 122, 32]⟩ : ByteArray) ++ t326).size + 1 ≤ 9223372036854775807 then ((sr_Text.f k (wrap64 ((Int.tmod (wrap64 (a1)) (wrap64 ((wrap64 (Int.tmod a0 3000)) + 1))) + 1))).bind fun t327 => (if (((⟨#[112, 114, 111, 116, 111, 99, 111, 108, 32, 116, 111, 107, 101, 110, 10, 99, 111, 114, 101, 115, 32, 50, 32, 49, 32, 51, 10, 104, 111, 109, 101, 115, 32, 50, 32, 48, 10, 116, 97, 115, 107, 32, 122, 122, 32]⟩ : ByteArray) ++ t326) ++ (⟨#[32]⟩ : ByteArray)).size + t327.size ≤ 9223372036854775807 then (if ((((⟨#[112, 114, 111, 116, 111, 99, 111, 108, 32, 116, 111, 107, 101, 110, 10, 99, 111, 114, 101, 115, 32, 50, 32, 49, 32, 51, 10, 104, 111, 109, 101, 115, 32, 50, 32, 48, 10, 116, 97, 115, 107, 32, 122, 122, 32]⟩ : ByteArray) ++ t326) ++ (⟨#[32]⟩ : ByteArray)) ++ t327).size + 1 ≤ 9223372036854775807 then ((sr_Text.f k (wrap64 ((wrap64 (Int.tmod a2 1000)) + 1))).bind fun t328 => (if (((((⟨#[112, 114, 111, 116, 111, 99, 111, 108, 32, 116, 111, 107, 101, 110, 10, 99, 111, 114, 101, 115, 32, 50, 32, 49, 32, 51, 10, 104, 111, 109, 101, 115, 32, 50, 32, 48, 10, 116, 97, 115, 107, 32, 122, 122, 32]⟩ : ByteArray) ++ t326) ++ (⟨#[32]⟩ : ByteArray)) ++ t327) ++ (⟨#[32]⟩ : ByteArray)).size + t328.size ≤ 9223372036854775807 then (if ((((((⟨#[112, 114, 111, 116, 111, 99, 111, 108, 32, 116, 111, 107, 101, 110, 10, 99, 111, 114, 101, 115, 32, 50, 32, 49, 32, 51, 10, 104, 111, 109, 101, 115, 32, 50, 32, 48, 10, 116, 97, 115, 107, 32, 122, 122, 32]⟩ : ByteArray) ++ t326) ++ (⟨#[32]⟩ : ByteArray)) ++ t327) ++ (⟨#[32]⟩ : ByteArray)) ++ t328).size + 1 ≤ 9223372036854775807 then ((sr_Text.f k (wrap64 (Int.tmod a3 3))).bind fun t329 => (if (((((((⟨#[112, 114, 111, 116, 111, 99, 111, 108, 32, 116, 111, 107, 101, 110, 10, 99, 111, 114, 101, 115, 32, 50, 32, 49, 32, 51, 10, 104, 111, 109, 101, 115, 32, 50, 32, 48, 10, 116, 97, 115, 107, 32, 122, 122, 32]⟩ : ByteArray) ++ t326) ++ (⟨#[32]⟩ : ByteArray)) ++ t327) ++ (⟨#[32]⟩ : ByteArray)) ++ t328) ++ (⟨#[32]⟩ : ByteArray)).size + t329.size ≤ 9223372036854775807 then (if ((((((((⟨#[112, 114, 111, 116, 111, 99, 111, 108, 32, 116, 111, 107, 101, 110, 10, 99, 111, 114, 101, 115, 32, 50, 32, 49, 32, 51, 10, 104, 111, 109, 101, 115, 32, 50, 32, 48, 10, 116, 97, 115, 107, 32, 122, 122, 32]⟩ : ByteArray) ++ t326) ++ (⟨#[32]⟩ : ByteArray)) ++ t327) ++ (⟨#[32]⟩ : ByteArray)) ++ t328) ++ (⟨#[32]⟩ : ByteArray)) ++ t329).size + 7 ≤ 9223372036854775807 then ((sr_Text.f k (wrap64 ((wrap64 (Int.tmod a5 60)) + 1))).bind fun t330 => (if (((((((((⟨#[112, 114, 111, 116, 111, 99, 111, 108, 32, 116, 111, 107, 101, 110, 10, 99, 111, 114, 101, 115, 32, 50, 32, 49, 32, 51, 10, 104, 111, 109, 101, 115, 32, 50, 32, 48, 10, 116, 97, 115, 107, 32, 122, 122, 32]⟩ : ByteArray) ++ t326) ++ (⟨#[32]⟩ : ByteArray)) ++ t327) ++ (⟨#[32]⟩ : ByteArray)) ++ t328) ++ (⟨#[32]⟩ : ByteArray)) ++ t329) ++ (⟨#[32, 115, 108, 101, 101, 112, 58]⟩ : ByteArray)).size + t330.size ≤ 9223372036854775807 then (if ((((((((((⟨#[112, 114, 111, 116, 111, 99, 111, 108, 32, 116, 111, 107, 101, 110, 10, 99, 111, 114, 101, 115, 32, 50, 32, 49, 32, 51, 10, 104, 111, 109, 101, 115, 32, 50, 32, 48, 10, 116, 97, 115, 107, 32, 122, 122, 32]⟩ : ByteArray) ++ t326) ++ (⟨#[32]⟩ : ByteArray)) ++ t327) ++ (⟨#[32]⟩ : ByteArray)) ++ t328) ++ (⟨#[32]⟩ : ByteArray)) ++ t329) ++ (⟨#[32, 115, 108, 101, 101, 112, 58]⟩ : ByteArray)) ++ t330).size + 6 ≤ 9223372036854775807 then ((sr_Text.f k (wrap64 (Int.tmod a4 2))).bind fun t331 => (if (((((((((((⟨#[112, 114, 111, 116, 111, 99, 111, 108, 32, 116, 111, 107, 101, 110, 10, 99, 111, 114, 101, 115, 32, 50, 32, 49, 32, 51, 10, 104, 111, 109, 101, 115, 32, 50, 32, 48, 10, 116, 97, 115, 107, 32, 122, 122, 32]⟩ : ByteArray) ++ t326) ++ (⟨#[32]⟩ : ByteArray)) ++ t327) ++ (⟨#[32]⟩ : ByteArray)) ++ t328) ++ (⟨#[32]⟩ : ByteArray)) ++ t329) ++ (⟨#[32, 115, 108, 101, 101, 112, 58]⟩ : ByteArray)) ++ t330) ++ (⟨#[32, 108, 111, 99, 107, 58]⟩ : ByteArray)).size + t331.size ≤ 9223372036854775807 then (if ((((((((((((⟨#[112, 114, 111, 116, 111, 99, 111, 108, 32, 116, 111, 107, 101, 110, 10, 99, 111, 114, 101, 115, 32, 50, 32, 49, 32, 51, 10, 104, 111, 109, 101, 115, 32, 50, 32, 48, 10, 116, 97, 115, 107, 32, 122, 122, 32]⟩ : ByteArray) ++ t326) ++ (⟨#[32]⟩ : ByteArray)) ++ t327) ++ (⟨#[32]⟩ : ByteArray)) ++ t328) ++ (⟨#[32]⟩ : ByteArray)) ++ t329) ++ (⟨#[32, 115, 108, 101, 101, 112, 58]⟩ : ByteArray)) ++ t330) ++ (⟨#[32, 108, 111, 99, 107, 58]⟩ : ByteArray)) ++ t331).size + 1 ≤ 9223372036854775807 then ((sr_Text.f k (wrap64 ((wrap64 (Int.tmod a5 60)) + 1))).bind fun t332 => (if (((((((((((((⟨#[112, 114, 111, 116, 111, 99, 111, 108, 32, 116, 111, 107, 101, 110, 10, 99, 111, 114, 101, 115, 32, 50, 32, 49, 32, 51, 10, 104, 111, 109, 101, 115, 32, 50, 32, 48, 10, 116, 97, 115, 107, 32, 122, 122, 32]⟩ : ByteArray) ++ t326) ++ (⟨#[32]⟩ : ByteArray)) ++ t327) ++ (⟨#[32]⟩ : ByteArray)) ++ t328) ++ (⟨#[32]⟩ : ByteArray)) ++ t329) ++ (⟨#[32, 115, 108, 101, 101, 112, 58]⟩ : ByteArray)) ++ t330) ++ (⟨#[32, 108, 111, 99, 107, 58]⟩ : ByteArray)) ++ t331) ++ (⟨#[58]⟩ : ByteArray)).size + t332.size ≤ 9223372036854775807 then (if ((((((((((((((⟨#[112, 114, 111, 116, 111, 99, 111, 108, 32, 116, 111, 107, 101, 110, 10, 99, 111, 114, 101, 115, 32, 50, 32, 49, 32, 51, 10, 104, 111, 109, 101, 115, 32, 50, 32, 48, 10, 116, 97, 115, 107, 32, 122, 122, 32]⟩ : ByteArray) ++ t326) ++ (⟨#[32]⟩ : ByteArray)) ++ t327) ++ (⟨#[32]⟩ : ByteArray)) ++ t328) ++ (⟨#[32]⟩ : ByteArray)) ++ t329) ++ (⟨#[32, 115, 108, 101, 101, 112, 58]⟩ : ByteArray)) ++ t330) ++ (⟨#[32, 108, 111, 99, 107, 58]⟩ : ByteArray)) ++ t331) ++ (⟨#[58]⟩ : ByteArray)) ++ t332).size + 1 ≤ 9223372036854775807 then ((text_Parse.f k (((((((((((((((⟨#[112, 114, 111, 116, 111, 99, 111, 108, 32, 116, 111, 107, 101, 110, 10, 99, 111, 114, 101, 115, 32, 50, 32, 49, 32, 51, 10, 104, 111, 109, 101, 115, 32, 50, 32, 48, 10, 116, 97, 115, 107, 32, 122, 122, 32]⟩ : ByteArray) ++ t326) ++ (⟨#[32]⟩ : ByteArray)) ++ t327) ++ (⟨#[32]⟩ : ByteArray)) ++ t328) ++ (⟨#[32]⟩ : ByteArray)) ++ t329) ++ (⟨#[32, 115, 108, 101, 101, 112, 58]⟩ : ByteArray)) ++ t330) ++ (⟨#[32, 108, 111, 99, 107, 58]⟩ : ByteArray)) ++ t331) ++ (⟨#[58]⟩ : ByteArray)) ++ t332) ++ (⟨#[10]⟩ : ByteArray))).bind fun bt333 => (if bt333.2.2.2.2.2 = 0 then (if bt333.2.2.2.2.1 = 4 then ((sr_Same.f k bt333.1 bt333.2.1 bt333.2.2.1 bt333.2.2.2.1 3 (([2, 1, 3] : List Int)) (([2, 0] : List Int)) (([(⟨(⟨#[122, 122]⟩ : ByteArray), wrap64 ((wrap64 (Int.tmod a0 3000)) + 1), wrap64 ((Int.tmod (wrap64 (a1)) (wrap64 ((wrap64 (Int.tmod a0 3000)) + 1))) + 1), wrap64 ((wrap64 (Int.tmod a2 1000)) + 1), wrap64 (Int.tmod a3 3), (([(⟨2, wrap64 ((wrap64 (Int.tmod a5 60)) + 1), 0⟩ : S50), (⟨3, wrap64 ((wrap64 (Int.tmod a5 60)) + 1), wrap64 (Int.tmod a4 2)⟩ : S50)] : List (S50)))⟩ : S53)] : List (S53)))).bind fun t359 => (if t359 = true then ((text_Print.f k bt333.1 bt333.2.1 bt333.2.2.1 bt333.2.2.2.1).bind fun t360 => (some (t360.toList == (((((((((((((((⟨#[112, 114, 111, 116, 111, 99, 111, 108, 32, 116, 111, 107, 101, 110, 10, 99, 111, 114, 101, 115, 32, 50, 32, 49, 32, 51, 10, 104, 111, 109, 101, 115, 32, 50, 32, 48, 10, 116, 97, 115, 107, 32, 122, 122, 32]⟩ : ByteArray) ++ t326) ++ (⟨#[32]⟩ : ByteArray)) ++ t327) ++ (⟨#[32]⟩ : ByteArray)) ++ t328) ++ (⟨#[32]⟩ : ByteArray)) ++ t329) ++ (⟨#[32, 115, 108, 101, 101, 112, 58]⟩ : ByteArray)) ++ t330) ++ (⟨#[32, 108, 111, 99, 107, 58]⟩ : ByteArray)) ++ t331) ++ (⟨#[58]⟩ : ByteArray)) ++ t332) ++ (⟨#[10]⟩ : ByteArray)).toList))) else (some false))) else (some false)) else (some false))) else (none)) else (none))) else (none)) else (none))) else (none)) else (none))) else (none)) else (none))) else (none)) else (none))) else (none)) else (none))) else (none)) else (none)))) else (some false))) = some r := h
  clear h
  replace H := Option.bind_eq_some_iff.mp H
  obtain ⟨t325, A70, H⟩ := H
  replace H : (if t325 = true then (if (wrap64 ((wrap64 (Int.tmod a0 3000)) + 1)) = 0 then (none) else ((sr_Text.f k (wrap64 ((wrap64 (Int.tmod a0 3000)) + 1))).bind fun t326 => (if 45 + t326.size ≤ 9223372036854775807 then (if ((⟨#[112, 114, 111, 116, 111, 99, 111, 108, 32, 116, 111, 107, 101, 110, 10, 99, 111, 114, 101, 115, 32, 50, 32, 49, 32, 51, 10, 104, 111, 109, 101, 115, 32, 50, 32, 48, 10, 116, 97, 115, 107, 32, 122, 122, 32]⟩ : ByteArray) ++ t326).size + 1 ≤ 9223372036854775807 then ((sr_Text.f k (wrap64 ((Int.tmod (wrap64 (a1)) (wrap64 ((wrap64 (Int.tmod a0 3000)) + 1))) + 1))).bind fun t327 => (if (((⟨#[112, 114, 111, 116, 111, 99, 111, 108, 32, 116, 111, 107, 101, 110, 10, 99, 111, 114, 101, 115, 32, 50, 32, 49, 32, 51, 10, 104, 111, 109, 101, 115, 32, 50, 32, 48, 10, 116, 97, 115, 107, 32, 122, 122, 32]⟩ : ByteArray) ++ t326) ++ (⟨#[32]⟩ : ByteArray)).size + t327.size ≤ 9223372036854775807 then (if ((((⟨#[112, 114, 111, 116, 111, 99, 111, 108, 32, 116, 111, 107, 101, 110, 10, 99, 111, 114, 101, 115, 32, 50, 32, 49, 32, 51, 10, 104, 111, 109, 101, 115, 32, 50, 32, 48, 10, 116, 97, 115, 107, 32, 122, 122, 32]⟩ : ByteArray) ++ t326) ++ (⟨#[32]⟩ : ByteArray)) ++ t327).size + 1 ≤ 9223372036854775807 then ((sr_Text.f k (wrap64 ((wrap64 (Int.tmod a2 1000)) + 1))).bind fun t328 => (if (((((⟨#[112, 114, 111, 116, 111, 99, 111, 108, 32, 116, 111, 107, 101, 110, 10, 99, 111, 114, 101, 115, 32, 50, 32, 49, 32, 51, 10, 104, 111, 109, 101, 115, 32, 50, 32, 48, 10, 116, 97, 115, 107, 32, 122, 122, 32]⟩ : ByteArray) ++ t326) ++ (⟨#[32]⟩ : ByteArray)) ++ t327) ++ (⟨#[32]⟩ : ByteArray)).size + t328.size ≤ 9223372036854775807 then (if ((((((⟨#[112, 114, 111, 116, 111, 99, 111, 108, 32, 116, 111, 107, 101, 110, 10, 99, 111, 114, 101, 115, 32, 50, 32, 49, 32, 51, 10, 104, 111, 109, 101, 115, 32, 50, 32, 48, 10, 116, 97, 115, 107, 32, 122, 122, 32]⟩ : ByteArray) ++ t326) ++ (⟨#[32]⟩ : ByteArray)) ++ t327) ++ (⟨#[32]⟩ : ByteArray)) ++ t328).size + 1 ≤ 9223372036854775807 then ((sr_Text.f k (wrap64 (Int.tmod a3 3))).bind fun t329 => (if (((((((⟨#[112, 114, 111, 116, 111, 99, 111, 108, 32, 116, 111, 107, 101, 110, 10, 99, 111, 114, 101, 115, 32, 50, 32, 49, 32, 51, 10, 104, 111, 109, 101, 115, 32, 50, 32, 48, 10, 116, 97, 115, 107, 32, 122, 122, 32]⟩ : ByteArray) ++ t326) ++ (⟨#[32]⟩ : ByteArray)) ++ t327) ++ (⟨#[32]⟩ : ByteArray)) ++ t328) ++ (⟨#[32]⟩ : ByteArray)).size + t329.size ≤ 9223372036854775807 then (if ((((((((⟨#[112, 114, 111, 116, 111, 99, 111, 108, 32, 116, 111, 107, 101, 110, 10, 99, 111, 114, 101, 115, 32, 50, 32, 49, 32, 51, 10, 104, 111, 109, 101, 115, 32, 50, 32, 48, 10, 116, 97, 115, 107, 32, 122, 122, 32]⟩ : ByteArray) ++ t326) ++ (⟨#[32]⟩ : ByteArray)) ++ t327) ++ (⟨#[32]⟩ : ByteArray)) ++ t328) ++ (⟨#[32]⟩ : ByteArray)) ++ t329).size + 7 ≤ 9223372036854775807 then ((sr_Text.f k (wrap64 ((wrap64 (Int.tmod a5 60)) + 1))).bind fun t330 => (if (((((((((⟨#[112, 114, 111, 116, 111, 99, 111, 108, 32, 116, 111, 107, 101, 110, 10, 99, 111, 114, 101, 115, 32, 50, 32, 49, 32, 51, 10, 104, 111, 109, 101, 115, 32, 50, 32, 48, 10, 116, 97, 115, 107, 32, 122, 122, 32]⟩ : ByteArray) ++ t326) ++ (⟨#[32]⟩ : ByteArray)) ++ t327) ++ (⟨#[32]⟩ : ByteArray)) ++ t328) ++ (⟨#[32]⟩ : ByteArray)) ++ t329) ++ (⟨#[32, 115, 108, 101, 101, 112, 58]⟩ : ByteArray)).size + t330.size ≤ 9223372036854775807 then (if ((((((((((⟨#[112, 114, 111, 116, 111, 99, 111, 108, 32, 116, 111, 107, 101, 110, 10, 99, 111, 114, 101, 115, 32, 50, 32, 49, 32, 51, 10, 104, 111, 109, 101, 115, 32, 50, 32, 48, 10, 116, 97, 115, 107, 32, 122, 122, 32]⟩ : ByteArray) ++ t326) ++ (⟨#[32]⟩ : ByteArray)) ++ t327) ++ (⟨#[32]⟩ : ByteArray)) ++ t328) ++ (⟨#[32]⟩ : ByteArray)) ++ t329) ++ (⟨#[32, 115, 108, 101, 101, 112, 58]⟩ : ByteArray)) ++ t330).size + 6 ≤ 9223372036854775807 then ((sr_Text.f k (wrap64 (Int.tmod a4 2))).bind fun t331 => (if (((((((((((⟨#[112, 114, 111, 116, 111, 99, 111, 108, 32, 116, 111, 107, 101, 110, 10, 99, 111, 114, 101, 115, 32, 50, 32, 49, 32, 51, 10, 104, 111, 109, 101, 115, 32, 50, 32, 48, 10, 116, 97, 115, 107, 32, 122, 122, 32]⟩ : ByteArray) ++ t326) ++ (⟨#[32]⟩ : ByteArray)) ++ t327) ++ (⟨#[32]⟩ : ByteArray)) ++ t328) ++ (⟨#[32]⟩ : ByteArray)) ++ t329) ++ (⟨#[32, 115, 108, 101, 101, 112, 58]⟩ : ByteArray)) ++ t330) ++ (⟨#[32, 108, 111, 99, 107, 58]⟩ : ByteArray)).size + t331.size ≤ 9223372036854775807 then (if ((((((((((((⟨#[112, 114, 111, 116, 111, 99, 111, 108, 32, 116, 111, 107, 101, 110, 10, 99, 111, 114, 101, 115, 32, 50, 32, 49, 32, 51, 10, 104, 111, 109, 101, 115, 32, 50, 32, 48, 10, 116, 97, 115, 107, 32, 122, 122, 32]⟩ : ByteArray) ++ t326) ++ (⟨#[32]⟩ : ByteArray)) ++ t327) ++ (⟨#[32]⟩ : ByteArray)) ++ t328) ++ (⟨#[32]⟩ : ByteArray)) ++ t329) ++ (⟨#[32, 115, 108, 101, 101, 112, 58]⟩ : ByteArray)) ++ t330) ++ (⟨#[32, 108, 111, 99, 107, 58]⟩ : ByteArray)) ++ t331).size + 1 ≤ 9223372036854775807 then ((sr_Text.f k (wrap64 ((wrap64 (Int.tmod a5 60)) + 1))).bind fun t332 => (if (((((((((((((⟨#[112, 114, 111, 116, 111, 99, 111, 108, 32, 116, 111, 107, 101, 110, 10, 99, 111, 114, 101, 115, 32, 50, 32, 49, 32, 51, 10, 104, 111, 109, 101, 115, 32, 50, 32, 48, 10, 116, 97, 115, 107, 32, 122, 122, 32]⟩ : ByteArray) ++ t326) ++ (⟨#[32]⟩ : ByteArray)) ++ t327) ++ (⟨#[32]⟩ : ByteArray)) ++ t328) ++ (⟨#[32]⟩ : ByteArray)) ++ t329) ++ (⟨#[32, 115, 108, 101, 101, 112, 58]⟩ : ByteArray)) ++ t330) ++ (⟨#[32, 108, 111, 99, 107, 58]⟩ : ByteArray)) ++ t331) ++ (⟨#[58]⟩ : ByteArray)).size + t332.size ≤ 9223372036854775807 then (if ((((((((((((((⟨#[112, 114, 111, 116, 111, 99, 111, 108, 32, 116, 111, 107, 101, 110, 10, 99, 111, 114, 101, 115, 32, 50, 32, 49, 32, 51, 10, 104, 111, 109, 101, 115, 32, 50, 32, 48, 10, 116, 97, 115, 107, 32, 122, 122, 32]⟩ : ByteArray) ++ t326) ++ (⟨#[32]⟩ : ByteArray)) ++ t327) ++ (⟨#[32]⟩ : ByteArray)) ++ t328) ++ (⟨#[32]⟩ : ByteArray)) ++ t329) ++ (⟨#[32, 115, 108, 101, 101, 112, 58]⟩ : ByteArray)) ++ t330) ++ (⟨#[32, 108, 111, 99, 107, 58]⟩ : ByteArray)) ++ t331) ++ (⟨#[58]⟩ : ByteArray)) ++ t332).size + 1 ≤ 9223372036854775807 then ((text_Parse.f k (((((((((((((((⟨#[112, 114, 111, 116, 111, 99, 111, 108, 32, 116, 111, 107, 101, 110, 10, 99, 111, 114, 101, 115, 32, 50, 32, 49, 32, 51, 10, 104, 111, 109, 101, 115, 32, 50, 32, 48, 10, 116, 97, 115, 107, 32, 122, 122, 32]⟩ : ByteArray) ++ t326) ++ (⟨#[32]⟩ : ByteArray)) ++ t327) ++ (⟨#[32]⟩ : ByteArray)) ++ t328) ++ (⟨#[32]⟩ : ByteArray)) ++ t329) ++ (⟨#[32, 115, 108, 101, 101, 112, 58]⟩ : ByteArray)) ++ t330) ++ (⟨#[32, 108, 111, 99, 107, 58]⟩ : ByteArray)) ++ t331) ++ (⟨#[58]⟩ : ByteArray)) ++ t332) ++ (⟨#[10]⟩ : ByteArray))).bind fun bt333 => (if bt333.2.2.2.2.2 = 0 then (if bt333.2.2.2.2.1 = 4 then ((sr_Same.f k bt333.1 bt333.2.1 bt333.2.2.1 bt333.2.2.2.1 3 (([2, 1, 3] : List Int)) (([2, 0] : List Int)) (([(⟨(⟨#[122, 122]⟩ : ByteArray), wrap64 ((wrap64 (Int.tmod a0 3000)) + 1), wrap64 ((Int.tmod (wrap64 (a1)) (wrap64 ((wrap64 (Int.tmod a0 3000)) + 1))) + 1), wrap64 ((wrap64 (Int.tmod a2 1000)) + 1), wrap64 (Int.tmod a3 3), (([(⟨2, wrap64 ((wrap64 (Int.tmod a5 60)) + 1), 0⟩ : S50), (⟨3, wrap64 ((wrap64 (Int.tmod a5 60)) + 1), wrap64 (Int.tmod a4 2)⟩ : S50)] : List (S50)))⟩ : S53)] : List (S53)))).bind fun t359 => (if t359 = true then ((text_Print.f k bt333.1 bt333.2.1 bt333.2.2.1 bt333.2.2.2.1).bind fun t360 => (some (t360.toList == (((((((((((((((⟨#[112, 114, 111, 116, 111, 99, 111, 108, 32, 116, 111, 107, 101, 110, 10, 99, 111, 114, 101, 115, 32, 50, 32, 49, 32, 51, 10, 104, 111, 109, 101, 115, 32, 50, 32, 48, 10, 116, 97, 115, 107, 32, 122, 122, 32]⟩ : ByteArray) ++ t326) ++ (⟨#[32]⟩ : ByteArray)) ++ t327) ++ (⟨#[32]⟩ : ByteArray)) ++ t328) ++ (⟨#[32]⟩ : ByteArray)) ++ t329) ++ (⟨#[32, 115, 108, 101, 101, 112, 58]⟩ : ByteArray)) ++ t330) ++ (⟨#[32, 108, 111, 99, 107, 58]⟩ : ByteArray)) ++ t331) ++ (⟨#[58]⟩ : ByteArray)) ++ t332) ++ (⟨#[10]⟩ : ByteArray)).toList))) else (some false))) else (some false)) else (some false))) else (none)) else (none))) else (none)) else (none))) else (none)) else (none))) else (none)) else (none))) else (none)) else (none))) else (none)) else (none))) else (none)) else (none)))) else (some false)) = some r := H
  have A7 := Aside0.mk A70
  clear A70
  by_cases c8 : t325 = true
  rotate_left
  · replace c8 := Bool.eq_false_iff.mpr c8
    subst c8
    have H1 : (some false) = some r := by rw [if_neg (show ¬ (false = true) by decide)] at H; exact H
    clear H
    have H := H1
    clear H1
    exact absurd ((Option.some.inj H).trans hT_.out) (by simp)
  subst c8
  have H1 : (if (wrap64 ((wrap64 (Int.tmod a0 3000)) + 1)) = 0 then (none) else ((sr_Text.f k (wrap64 ((wrap64 (Int.tmod a0 3000)) + 1))).bind fun t326 => (if 45 + t326.size ≤ 9223372036854775807 then (if ((⟨#[112, 114, 111, 116, 111, 99, 111, 108, 32, 116, 111, 107, 101, 110, 10, 99, 111, 114, 101, 115, 32, 50, 32, 49, 32, 51, 10, 104, 111, 109, 101, 115, 32, 50, 32, 48, 10, 116, 97, 115, 107, 32, 122, 122, 32]⟩ : ByteArray) ++ t326).size + 1 ≤ 9223372036854775807 then ((sr_Text.f k (wrap64 ((Int.tmod (wrap64 (a1)) (wrap64 ((wrap64 (Int.tmod a0 3000)) + 1))) + 1))).bind fun t327 => (if (((⟨#[112, 114, 111, 116, 111, 99, 111, 108, 32, 116, 111, 107, 101, 110, 10, 99, 111, 114, 101, 115, 32, 50, 32, 49, 32, 51, 10, 104, 111, 109, 101, 115, 32, 50, 32, 48, 10, 116, 97, 115, 107, 32, 122, 122, 32]⟩ : ByteArray) ++ t326) ++ (⟨#[32]⟩ : ByteArray)).size + t327.size ≤ 9223372036854775807 then (if ((((⟨#[112, 114, 111, 116, 111, 99, 111, 108, 32, 116, 111, 107, 101, 110, 10, 99, 111, 114, 101, 115, 32, 50, 32, 49, 32, 51, 10, 104, 111, 109, 101, 115, 32, 50, 32, 48, 10, 116, 97, 115, 107, 32, 122, 122, 32]⟩ : ByteArray) ++ t326) ++ (⟨#[32]⟩ : ByteArray)) ++ t327).size + 1 ≤ 9223372036854775807 then ((sr_Text.f k (wrap64 ((wrap64 (Int.tmod a2 1000)) + 1))).bind fun t328 => (if (((((⟨#[112, 114, 111, 116, 111, 99, 111, 108, 32, 116, 111, 107, 101, 110, 10, 99, 111, 114, 101, 115, 32, 50, 32, 49, 32, 51, 10, 104, 111, 109, 101, 115, 32, 50, 32, 48, 10, 116, 97, 115, 107, 32, 122, 122, 32]⟩ : ByteArray) ++ t326) ++ (⟨#[32]⟩ : ByteArray)) ++ t327) ++ (⟨#[32]⟩ : ByteArray)).size + t328.size ≤ 9223372036854775807 then (if ((((((⟨#[112, 114, 111, 116, 111, 99, 111, 108, 32, 116, 111, 107, 101, 110, 10, 99, 111, 114, 101, 115, 32, 50, 32, 49, 32, 51, 10, 104, 111, 109, 101, 115, 32, 50, 32, 48, 10, 116, 97, 115, 107, 32, 122, 122, 32]⟩ : ByteArray) ++ t326) ++ (⟨#[32]⟩ : ByteArray)) ++ t327) ++ (⟨#[32]⟩ : ByteArray)) ++ t328).size + 1 ≤ 9223372036854775807 then ((sr_Text.f k (wrap64 (Int.tmod a3 3))).bind fun t329 => (if (((((((⟨#[112, 114, 111, 116, 111, 99, 111, 108, 32, 116, 111, 107, 101, 110, 10, 99, 111, 114, 101, 115, 32, 50, 32, 49, 32, 51, 10, 104, 111, 109, 101, 115, 32, 50, 32, 48, 10, 116, 97, 115, 107, 32, 122, 122, 32]⟩ : ByteArray) ++ t326) ++ (⟨#[32]⟩ : ByteArray)) ++ t327) ++ (⟨#[32]⟩ : ByteArray)) ++ t328) ++ (⟨#[32]⟩ : ByteArray)).size + t329.size ≤ 9223372036854775807 then (if ((((((((⟨#[112, 114, 111, 116, 111, 99, 111, 108, 32, 116, 111, 107, 101, 110, 10, 99, 111, 114, 101, 115, 32, 50, 32, 49, 32, 51, 10, 104, 111, 109, 101, 115, 32, 50, 32, 48, 10, 116, 97, 115, 107, 32, 122, 122, 32]⟩ : ByteArray) ++ t326) ++ (⟨#[32]⟩ : ByteArray)) ++ t327) ++ (⟨#[32]⟩ : ByteArray)) ++ t328) ++ (⟨#[32]⟩ : ByteArray)) ++ t329).size + 7 ≤ 9223372036854775807 then ((sr_Text.f k (wrap64 ((wrap64 (Int.tmod a5 60)) + 1))).bind fun t330 => (if (((((((((⟨#[112, 114, 111, 116, 111, 99, 111, 108, 32, 116, 111, 107, 101, 110, 10, 99, 111, 114, 101, 115, 32, 50, 32, 49, 32, 51, 10, 104, 111, 109, 101, 115, 32, 50, 32, 48, 10, 116, 97, 115, 107, 32, 122, 122, 32]⟩ : ByteArray) ++ t326) ++ (⟨#[32]⟩ : ByteArray)) ++ t327) ++ (⟨#[32]⟩ : ByteArray)) ++ t328) ++ (⟨#[32]⟩ : ByteArray)) ++ t329) ++ (⟨#[32, 115, 108, 101, 101, 112, 58]⟩ : ByteArray)).size + t330.size ≤ 9223372036854775807 then (if ((((((((((⟨#[112, 114, 111, 116, 111, 99, 111, 108, 32, 116, 111, 107, 101, 110, 10, 99, 111, 114, 101, 115, 32, 50, 32, 49, 32, 51, 10, 104, 111, 109, 101, 115, 32, 50, 32, 48, 10, 116, 97, 115, 107, 32, 122, 122, 32]⟩ : ByteArray) ++ t326) ++ (⟨#[32]⟩ : ByteArray)) ++ t327) ++ (⟨#[32]⟩ : ByteArray)) ++ t328) ++ (⟨#[32]⟩ : ByteArray)) ++ t329) ++ (⟨#[32, 115, 108, 101, 101, 112, 58]⟩ : ByteArray)) ++ t330).size + 6 ≤ 9223372036854775807 then ((sr_Text.f k (wrap64 (Int.tmod a4 2))).bind fun t331 => (if (((((((((((⟨#[112, 114, 111, 116, 111, 99, 111, 108, 32, 116, 111, 107, 101, 110, 10, 99, 111, 114, 101, 115, 32, 50, 32, 49, 32, 51, 10, 104, 111, 109, 101, 115, 32, 50, 32, 48, 10, 116, 97, 115, 107, 32, 122, 122, 32]⟩ : ByteArray) ++ t326) ++ (⟨#[32]⟩ : ByteArray)) ++ t327) ++ (⟨#[32]⟩ : ByteArray)) ++ t328) ++ (⟨#[32]⟩ : ByteArray)) ++ t329) ++ (⟨#[32, 115, 108, 101, 101, 112, 58]⟩ : ByteArray)) ++ t330) ++ (⟨#[32, 108, 111, 99, 107, 58]⟩ : ByteArray)).size + t331.size ≤ 9223372036854775807 then (if ((((((((((((⟨#[112, 114, 111, 116, 111, 99, 111, 108, 32, 116, 111, 107, 101, 110, 10, 99, 111, 114, 101, 115, 32, 50, 32, 49, 32, 51, 10, 104, 111, 109, 101, 115, 32, 50, 32, 48, 10, 116, 97, 115, 107, 32, 122, 122, 32]⟩ : ByteArray) ++ t326) ++ (⟨#[32]⟩ : ByteArray)) ++ t327) ++ (⟨#[32]⟩ : ByteArray)) ++ t328) ++ (⟨#[32]⟩ : ByteArray)) ++ t329) ++ (⟨#[32, 115, 108, 101, 101, 112, 58]⟩ : ByteArray)) ++ t330) ++ (⟨#[32, 108, 111, 99, 107, 58]⟩ : ByteArray)) ++ t331).size + 1 ≤ 9223372036854775807 then ((sr_Text.f k (wrap64 ((wrap64 (Int.tmod a5 60)) + 1))).bind fun t332 => (if (((((((((((((⟨#[112, 114, 111, 116, 111, 99, 111, 108, 32, 116, 111, 107, 101, 110, 10, 99, 111, 114, 101, 115, 32, 50, 32, 49, 32, 51, 10, 104, 111, 109, 101, 115, 32, 50, 32, 48, 10, 116, 97, 115, 107, 32, 122, 122, 32]⟩ : ByteArray) ++ t326) ++ (⟨#[32]⟩ : ByteArray)) ++ t327) ++ (⟨#[32]⟩ : ByteArray)) ++ t328) ++ (⟨#[32]⟩ : ByteArray)) ++ t329) ++ (⟨#[32, 115, 108, 101, 101, 112, 58]⟩ : ByteArray)) ++ t330) ++ (⟨#[32, 108, 111, 99, 107, 58]⟩ : ByteArray)) ++ t331) ++ (⟨#[58]⟩ : ByteArray)).size + t332.size ≤ 9223372036854775807 then (if ((((((((((((((⟨#[112, 114, 111, 116, 111, 99, 111, 108, 32, 116, 111, 107, 101, 110, 10, 99, 111, 114, 101, 115, 32, 50, 32, 49, 32, 51, 10, 104, 111, 109, 101, 115, 32, 50, 32, 48, 10, 116, 97, 115, 107, 32, 122, 122, 32]⟩ : ByteArray) ++ t326) ++ (⟨#[32]⟩ : ByteArray)) ++ t327) ++ (⟨#[32]⟩ : ByteArray)) ++ t328) ++ (⟨#[32]⟩ : ByteArray)) ++ t329) ++ (⟨#[32, 115, 108, 101, 101, 112, 58]⟩ : ByteArray)) ++ t330) ++ (⟨#[32, 108, 111, 99, 107, 58]⟩ : ByteArray)) ++ t331) ++ (⟨#[58]⟩ : ByteArray)) ++ t332).size + 1 ≤ 9223372036854775807 then ((text_Parse.f k (((((((((((((((⟨#[112, 114, 111, 116, 111, 99, 111, 108, 32, 116, 111, 107, 101, 110, 10, 99, 111, 114, 101, 115, 32, 50, 32, 49, 32, 51, 10, 104, 111, 109, 101, 115, 32, 50, 32, 48, 10, 116, 97, 115, 107, 32, 122, 122, 32]⟩ : ByteArray) ++ t326) ++ (⟨#[32]⟩ : ByteArray)) ++ t327) ++ (⟨#[32]⟩ : ByteArray)) ++ t328) ++ (⟨#[32]⟩ : ByteArray)) ++ t329) ++ (⟨#[32, 115, 108, 101, 101, 112, 58]⟩ : ByteArray)) ++ t330) ++ (⟨#[32, 108, 111, 99, 107, 58]⟩ : ByteArray)) ++ t331) ++ (⟨#[58]⟩ : ByteArray)) ++ t332) ++ (⟨#[10]⟩ : ByteArray))).bind fun bt333 => (if bt333.2.2.2.2.2 = 0 then (if bt333.2.2.2.2.1 = 4 then ((sr_Same.f k bt333.1 bt333.2.1 bt333.2.2.1 bt333.2.2.2.1 3 (([2, 1, 3] : List Int)) (([2, 0] : List Int)) (([(⟨(⟨#[122, 122]⟩ : ByteArray), wrap64 ((wrap64 (Int.tmod a0 3000)) + 1), wrap64 ((Int.tmod (wrap64 (a1)) (wrap64 ((wrap64 (Int.tmod a0 3000)) + 1))) + 1), wrap64 ((wrap64 (Int.tmod a2 1000)) + 1), wrap64 (Int.tmod a3 3), (([(⟨2, wrap64 ((wrap64 (Int.tmod a5 60)) + 1), 0⟩ : S50), (⟨3, wrap64 ((wrap64 (Int.tmod a5 60)) + 1), wrap64 (Int.tmod a4 2)⟩ : S50)] : List (S50)))⟩ : S53)] : List (S53)))).bind fun t359 => (if t359 = true then ((text_Print.f k bt333.1 bt333.2.1 bt333.2.2.1 bt333.2.2.2.1).bind fun t360 => (some (t360.toList == (((((((((((((((⟨#[112, 114, 111, 116, 111, 99, 111, 108, 32, 116, 111, 107, 101, 110, 10, 99, 111, 114, 101, 115, 32, 50, 32, 49, 32, 51, 10, 104, 111, 109, 101, 115, 32, 50, 32, 48, 10, 116, 97, 115, 107, 32, 122, 122, 32]⟩ : ByteArray) ++ t326) ++ (⟨#[32]⟩ : ByteArray)) ++ t327) ++ (⟨#[32]⟩ : ByteArray)) ++ t328) ++ (⟨#[32]⟩ : ByteArray)) ++ t329) ++ (⟨#[32, 115, 108, 101, 101, 112, 58]⟩ : ByteArray)) ++ t330) ++ (⟨#[32, 108, 111, 99, 107, 58]⟩ : ByteArray)) ++ t331) ++ (⟨#[58]⟩ : ByteArray)) ++ t332) ++ (⟨#[10]⟩ : ByteArray)).toList))) else (some false))) else (some false)) else (some false))) else (none)) else (none))) else (none)) else (none))) else (none)) else (none))) else (none)) else (none))) else (none)) else (none))) else (none)) else (none))) else (none)) else (none)))) = some r := by rw [if_pos rfl] at H; exact H
  clear H
  have H := H1
  clear H1
  by_cases c9 : (wrap64 ((wrap64 (Int.tmod a0 3000)) + 1)) = 0
  · rw [if_pos c9] at H
    exact absurd H (by simp)
  rw [if_neg c9] at H
  have c9b0 : ((wrap64 ((wrap64 (Int.tmod a0 3000)) + 1)) == 0) = false := beq_eq_false_iff_ne.mpr c9
  have c9b1 : ((wrap64 ((wrap64 (Int.tmod a0 3000)) + 1)) != 0) = true := bne_iff_ne.mpr c9
  replace H := Option.bind_eq_some_iff.mp H
  obtain ⟨t326, A100, H⟩ := H
  replace H : (if 45 + t326.size ≤ 9223372036854775807 then (if ((⟨#[112, 114, 111, 116, 111, 99, 111, 108, 32, 116, 111, 107, 101, 110, 10, 99, 111, 114, 101, 115, 32, 50, 32, 49, 32, 51, 10, 104, 111, 109, 101, 115, 32, 50, 32, 48, 10, 116, 97, 115, 107, 32, 122, 122, 32]⟩ : ByteArray) ++ t326).size + 1 ≤ 9223372036854775807 then ((sr_Text.f k (wrap64 ((Int.tmod (wrap64 (a1)) (wrap64 ((wrap64 (Int.tmod a0 3000)) + 1))) + 1))).bind fun t327 => (if (((⟨#[112, 114, 111, 116, 111, 99, 111, 108, 32, 116, 111, 107, 101, 110, 10, 99, 111, 114, 101, 115, 32, 50, 32, 49, 32, 51, 10, 104, 111, 109, 101, 115, 32, 50, 32, 48, 10, 116, 97, 115, 107, 32, 122, 122, 32]⟩ : ByteArray) ++ t326) ++ (⟨#[32]⟩ : ByteArray)).size + t327.size ≤ 9223372036854775807 then (if ((((⟨#[112, 114, 111, 116, 111, 99, 111, 108, 32, 116, 111, 107, 101, 110, 10, 99, 111, 114, 101, 115, 32, 50, 32, 49, 32, 51, 10, 104, 111, 109, 101, 115, 32, 50, 32, 48, 10, 116, 97, 115, 107, 32, 122, 122, 32]⟩ : ByteArray) ++ t326) ++ (⟨#[32]⟩ : ByteArray)) ++ t327).size + 1 ≤ 9223372036854775807 then ((sr_Text.f k (wrap64 ((wrap64 (Int.tmod a2 1000)) + 1))).bind fun t328 => (if (((((⟨#[112, 114, 111, 116, 111, 99, 111, 108, 32, 116, 111, 107, 101, 110, 10, 99, 111, 114, 101, 115, 32, 50, 32, 49, 32, 51, 10, 104, 111, 109, 101, 115, 32, 50, 32, 48, 10, 116, 97, 115, 107, 32, 122, 122, 32]⟩ : ByteArray) ++ t326) ++ (⟨#[32]⟩ : ByteArray)) ++ t327) ++ (⟨#[32]⟩ : ByteArray)).size + t328.size ≤ 9223372036854775807 then (if ((((((⟨#[112, 114, 111, 116, 111, 99, 111, 108, 32, 116, 111, 107, 101, 110, 10, 99, 111, 114, 101, 115, 32, 50, 32, 49, 32, 51, 10, 104, 111, 109, 101, 115, 32, 50, 32, 48, 10, 116, 97, 115, 107, 32, 122, 122, 32]⟩ : ByteArray) ++ t326) ++ (⟨#[32]⟩ : ByteArray)) ++ t327) ++ (⟨#[32]⟩ : ByteArray)) ++ t328).size + 1 ≤ 9223372036854775807 then ((sr_Text.f k (wrap64 (Int.tmod a3 3))).bind fun t329 => (if (((((((⟨#[112, 114, 111, 116, 111, 99, 111, 108, 32, 116, 111, 107, 101, 110, 10, 99, 111, 114, 101, 115, 32, 50, 32, 49, 32, 51, 10, 104, 111, 109, 101, 115, 32, 50, 32, 48, 10, 116, 97, 115, 107, 32, 122, 122, 32]⟩ : ByteArray) ++ t326) ++ (⟨#[32]⟩ : ByteArray)) ++ t327) ++ (⟨#[32]⟩ : ByteArray)) ++ t328) ++ (⟨#[32]⟩ : ByteArray)).size + t329.size ≤ 9223372036854775807 then (if ((((((((⟨#[112, 114, 111, 116, 111, 99, 111, 108, 32, 116, 111, 107, 101, 110, 10, 99, 111, 114, 101, 115, 32, 50, 32, 49, 32, 51, 10, 104, 111, 109, 101, 115, 32, 50, 32, 48, 10, 116, 97, 115, 107, 32, 122, 122, 32]⟩ : ByteArray) ++ t326) ++ (⟨#[32]⟩ : ByteArray)) ++ t327) ++ (⟨#[32]⟩ : ByteArray)) ++ t328) ++ (⟨#[32]⟩ : ByteArray)) ++ t329).size + 7 ≤ 9223372036854775807 then ((sr_Text.f k (wrap64 ((wrap64 (Int.tmod a5 60)) + 1))).bind fun t330 => (if (((((((((⟨#[112, 114, 111, 116, 111, 99, 111, 108, 32, 116, 111, 107, 101, 110, 10, 99, 111, 114, 101, 115, 32, 50, 32, 49, 32, 51, 10, 104, 111, 109, 101, 115, 32, 50, 32, 48, 10, 116, 97, 115, 107, 32, 122, 122, 32]⟩ : ByteArray) ++ t326) ++ (⟨#[32]⟩ : ByteArray)) ++ t327) ++ (⟨#[32]⟩ : ByteArray)) ++ t328) ++ (⟨#[32]⟩ : ByteArray)) ++ t329) ++ (⟨#[32, 115, 108, 101, 101, 112, 58]⟩ : ByteArray)).size + t330.size ≤ 9223372036854775807 then (if ((((((((((⟨#[112, 114, 111, 116, 111, 99, 111, 108, 32, 116, 111, 107, 101, 110, 10, 99, 111, 114, 101, 115, 32, 50, 32, 49, 32, 51, 10, 104, 111, 109, 101, 115, 32, 50, 32, 48, 10, 116, 97, 115, 107, 32, 122, 122, 32]⟩ : ByteArray) ++ t326) ++ (⟨#[32]⟩ : ByteArray)) ++ t327) ++ (⟨#[32]⟩ : ByteArray)) ++ t328) ++ (⟨#[32]⟩ : ByteArray)) ++ t329) ++ (⟨#[32, 115, 108, 101, 101, 112, 58]⟩ : ByteArray)) ++ t330).size + 6 ≤ 9223372036854775807 then ((sr_Text.f k (wrap64 (Int.tmod a4 2))).bind fun t331 => (if (((((((((((⟨#[112, 114, 111, 116, 111, 99, 111, 108, 32, 116, 111, 107, 101, 110, 10, 99, 111, 114, 101, 115, 32, 50, 32, 49, 32, 51, 10, 104, 111, 109, 101, 115, 32, 50, 32, 48, 10, 116, 97, 115, 107, 32, 122, 122, 32]⟩ : ByteArray) ++ t326) ++ (⟨#[32]⟩ : ByteArray)) ++ t327) ++ (⟨#[32]⟩ : ByteArray)) ++ t328) ++ (⟨#[32]⟩ : ByteArray)) ++ t329) ++ (⟨#[32, 115, 108, 101, 101, 112, 58]⟩ : ByteArray)) ++ t330) ++ (⟨#[32, 108, 111, 99, 107, 58]⟩ : ByteArray)).size + t331.size ≤ 9223372036854775807 then (if ((((((((((((⟨#[112, 114, 111, 116, 111, 99, 111, 108, 32, 116, 111, 107, 101, 110, 10, 99, 111, 114, 101, 115, 32, 50, 32, 49, 32, 51, 10, 104, 111, 109, 101, 115, 32, 50, 32, 48, 10, 116, 97, 115, 107, 32, 122, 122, 32]⟩ : ByteArray) ++ t326) ++ (⟨#[32]⟩ : ByteArray)) ++ t327) ++ (⟨#[32]⟩ : ByteArray)) ++ t328) ++ (⟨#[32]⟩ : ByteArray)) ++ t329) ++ (⟨#[32, 115, 108, 101, 101, 112, 58]⟩ : ByteArray)) ++ t330) ++ (⟨#[32, 108, 111, 99, 107, 58]⟩ : ByteArray)) ++ t331).size + 1 ≤ 9223372036854775807 then ((sr_Text.f k (wrap64 ((wrap64 (Int.tmod a5 60)) + 1))).bind fun t332 => (if (((((((((((((⟨#[112, 114, 111, 116, 111, 99, 111, 108, 32, 116, 111, 107, 101, 110, 10, 99, 111, 114, 101, 115, 32, 50, 32, 49, 32, 51, 10, 104, 111, 109, 101, 115, 32, 50, 32, 48, 10, 116, 97, 115, 107, 32, 122, 122, 32]⟩ : ByteArray) ++ t326) ++ (⟨#[32]⟩ : ByteArray)) ++ t327) ++ (⟨#[32]⟩ : ByteArray)) ++ t328) ++ (⟨#[32]⟩ : ByteArray)) ++ t329) ++ (⟨#[32, 115, 108, 101, 101, 112, 58]⟩ : ByteArray)) ++ t330) ++ (⟨#[32, 108, 111, 99, 107, 58]⟩ : ByteArray)) ++ t331) ++ (⟨#[58]⟩ : ByteArray)).size + t332.size ≤ 9223372036854775807 then (if ((((((((((((((⟨#[112, 114, 111, 116, 111, 99, 111, 108, 32, 116, 111, 107, 101, 110, 10, 99, 111, 114, 101, 115, 32, 50, 32, 49, 32, 51, 10, 104, 111, 109, 101, 115, 32, 50, 32, 48, 10, 116, 97, 115, 107, 32, 122, 122, 32]⟩ : ByteArray) ++ t326) ++ (⟨#[32]⟩ : ByteArray)) ++ t327) ++ (⟨#[32]⟩ : ByteArray)) ++ t328) ++ (⟨#[32]⟩ : ByteArray)) ++ t329) ++ (⟨#[32, 115, 108, 101, 101, 112, 58]⟩ : ByteArray)) ++ t330) ++ (⟨#[32, 108, 111, 99, 107, 58]⟩ : ByteArray)) ++ t331) ++ (⟨#[58]⟩ : ByteArray)) ++ t332).size + 1 ≤ 9223372036854775807 then ((text_Parse.f k (((((((((((((((⟨#[112, 114, 111, 116, 111, 99, 111, 108, 32, 116, 111, 107, 101, 110, 10, 99, 111, 114, 101, 115, 32, 50, 32, 49, 32, 51, 10, 104, 111, 109, 101, 115, 32, 50, 32, 48, 10, 116, 97, 115, 107, 32, 122, 122, 32]⟩ : ByteArray) ++ t326) ++ (⟨#[32]⟩ : ByteArray)) ++ t327) ++ (⟨#[32]⟩ : ByteArray)) ++ t328) ++ (⟨#[32]⟩ : ByteArray)) ++ t329) ++ (⟨#[32, 115, 108, 101, 101, 112, 58]⟩ : ByteArray)) ++ t330) ++ (⟨#[32, 108, 111, 99, 107, 58]⟩ : ByteArray)) ++ t331) ++ (⟨#[58]⟩ : ByteArray)) ++ t332) ++ (⟨#[10]⟩ : ByteArray))).bind fun bt333 => (if bt333.2.2.2.2.2 = 0 then (if bt333.2.2.2.2.1 = 4 then ((sr_Same.f k bt333.1 bt333.2.1 bt333.2.2.1 bt333.2.2.2.1 3 (([2, 1, 3] : List Int)) (([2, 0] : List Int)) (([(⟨(⟨#[122, 122]⟩ : ByteArray), wrap64 ((wrap64 (Int.tmod a0 3000)) + 1), wrap64 ((Int.tmod (wrap64 (a1)) (wrap64 ((wrap64 (Int.tmod a0 3000)) + 1))) + 1), wrap64 ((wrap64 (Int.tmod a2 1000)) + 1), wrap64 (Int.tmod a3 3), (([(⟨2, wrap64 ((wrap64 (Int.tmod a5 60)) + 1), 0⟩ : S50), (⟨3, wrap64 ((wrap64 (Int.tmod a5 60)) + 1), wrap64 (Int.tmod a4 2)⟩ : S50)] : List (S50)))⟩ : S53)] : List (S53)))).bind fun t359 => (if t359 = true then ((text_Print.f k bt333.1 bt333.2.1 bt333.2.2.1 bt333.2.2.2.1).bind fun t360 => (some (t360.toList == (((((((((((((((⟨#[112, 114, 111, 116, 111, 99, 111, 108, 32, 116, 111, 107, 101, 110, 10, 99, 111, 114, 101, 115, 32, 50, 32, 49, 32, 51, 10, 104, 111, 109, 101, 115, 32, 50, 32, 48, 10, 116, 97, 115, 107, 32, 122, 122, 32]⟩ : ByteArray) ++ t326) ++ (⟨#[32]⟩ : ByteArray)) ++ t327) ++ (⟨#[32]⟩ : ByteArray)) ++ t328) ++ (⟨#[32]⟩ : ByteArray)) ++ t329) ++ (⟨#[32, 115, 108, 101, 101, 112, 58]⟩ : ByteArray)) ++ t330) ++ (⟨#[32, 108, 111, 99, 107, 58]⟩ : ByteArray)) ++ t331) ++ (⟨#[58]⟩ : ByteArray)) ++ t332) ++ (⟨#[10]⟩ : ByteArray)).toList))) else (some false))) else (some false)) else (some false))) else (none)) else (none))) else (none)) else (none))) else (none)) else (none))) else (none)) else (none))) else (none)) else (none))) else (none)) else (none))) else (none)) else (none)) = some r := H
  have A10 := Aside0.mk A100
  clear A100
  by_cases c11 : 45 + t326.size ≤ 9223372036854775807
  rotate_left
  · rw [if_neg c11] at H
    exact absurd H (by simp)
  rw [if_pos c11] at H
  have c11b0 := eq_true c11
  have c11b1 : decide (45 + t326.size ≤ 9223372036854775807) = true := decide_eq_true c11
  try have c11b2 : (9223372036854775807 < 45 + t326.size) = False := eq_false (Nat.not_lt.2 c11)
  by_cases c12 : ((⟨#[112, 114, 111, 116, 111, 99, 111, 108, 32, 116, 111, 107, 101, 110, 10, 99, 111, 114, 101, 115, 32, 50, 32, 49, 32, 51, 10, 104, 111, 109, 101, 115, 32, 50, 32, 48, 10, 116, 97, 115, 107, 32, 122, 122, 32]⟩ : ByteArray) ++ t326).size + 1 ≤ 9223372036854775807
  rotate_left
  · rw [if_neg c12] at H
    exact absurd H (by simp)
  rw [if_pos c12] at H
  have c12b0 := eq_true c12
  have c12b1 : decide (((⟨#[112, 114, 111, 116, 111, 99, 111, 108, 32, 116, 111, 107, 101, 110, 10, 99, 111, 114, 101, 115, 32, 50, 32, 49, 32, 51, 10, 104, 111, 109, 101, 115, 32, 50, 32, 48, 10, 116, 97, 115, 107, 32, 122, 122, 32]⟩ : ByteArray) ++ t326).size + 1 ≤ 9223372036854775807) = true := decide_eq_true c12
  try have c12b2 : (9223372036854775807 < ((⟨#[112, 114, 111, 116, 111, 99, 111, 108, 32, 116, 111, 107, 101, 110, 10, 99, 111, 114, 101, 115, 32, 50, 32, 49, 32, 51, 10, 104, 111, 109, 101, 115, 32, 50, 32, 48, 10, 116, 97, 115, 107, 32, 122, 122, 32]⟩ : ByteArray) ++ t326).size + 1) = False := eq_false (Nat.not_lt.2 c12)
  try (have c12b3 := c12b2; (repeat rw [ByteArray.size_append] at c12b3); (try rw [show (⟨#[112, 114, 111, 116, 111, 99, 111, 108, 32, 116, 111, 107, 101, 110, 10, 99, 111, 114, 101, 115, 32, 50, 32, 49, 32, 51, 10, 104, 111, 109, 101, 115, 32, 50, 32, 48, 10, 116, 97, 115, 107, 32, 122, 122, 32]⟩ : ByteArray).size = 45 from rfl] at c12b3))
  replace H := Option.bind_eq_some_iff.mp H
  obtain ⟨t327, A130, H⟩ := H
  replace H : (if (((⟨#[112, 114, 111, 116, 111, 99, 111, 108, 32, 116, 111, 107, 101, 110, 10, 99, 111, 114, 101, 115, 32, 50, 32, 49, 32, 51, 10, 104, 111, 109, 101, 115, 32, 50, 32, 48, 10, 116, 97, 115, 107, 32, 122, 122, 32]⟩ : ByteArray) ++ t326) ++ (⟨#[32]⟩ : ByteArray)).size + t327.size ≤ 9223372036854775807 then (if ((((⟨#[112, 114, 111, 116, 111, 99, 111, 108, 32, 116, 111, 107, 101, 110, 10, 99, 111, 114, 101, 115, 32, 50, 32, 49, 32, 51, 10, 104, 111, 109, 101, 115, 32, 50, 32, 48, 10, 116, 97, 115, 107, 32, 122, 122, 32]⟩ : ByteArray) ++ t326) ++ (⟨#[32]⟩ : ByteArray)) ++ t327).size + 1 ≤ 9223372036854775807 then ((sr_Text.f k (wrap64 ((wrap64 (Int.tmod a2 1000)) + 1))).bind fun t328 => (if (((((⟨#[112, 114, 111, 116, 111, 99, 111, 108, 32, 116, 111, 107, 101, 110, 10, 99, 111, 114, 101, 115, 32, 50, 32, 49, 32, 51, 10, 104, 111, 109, 101, 115, 32, 50, 32, 48, 10, 116, 97, 115, 107, 32, 122, 122, 32]⟩ : ByteArray) ++ t326) ++ (⟨#[32]⟩ : ByteArray)) ++ t327) ++ (⟨#[32]⟩ : ByteArray)).size + t328.size ≤ 9223372036854775807 then (if ((((((⟨#[112, 114, 111, 116, 111, 99, 111, 108, 32, 116, 111, 107, 101, 110, 10, 99, 111, 114, 101, 115, 32, 50, 32, 49, 32, 51, 10, 104, 111, 109, 101, 115, 32, 50, 32, 48, 10, 116, 97, 115, 107, 32, 122, 122, 32]⟩ : ByteArray) ++ t326) ++ (⟨#[32]⟩ : ByteArray)) ++ t327) ++ (⟨#[32]⟩ : ByteArray)) ++ t328).size + 1 ≤ 9223372036854775807 then ((sr_Text.f k (wrap64 (Int.tmod a3 3))).bind fun t329 => (if (((((((⟨#[112, 114, 111, 116, 111, 99, 111, 108, 32, 116, 111, 107, 101, 110, 10, 99, 111, 114, 101, 115, 32, 50, 32, 49, 32, 51, 10, 104, 111, 109, 101, 115, 32, 50, 32, 48, 10, 116, 97, 115, 107, 32, 122, 122, 32]⟩ : ByteArray) ++ t326) ++ (⟨#[32]⟩ : ByteArray)) ++ t327) ++ (⟨#[32]⟩ : ByteArray)) ++ t328) ++ (⟨#[32]⟩ : ByteArray)).size + t329.size ≤ 9223372036854775807 then (if ((((((((⟨#[112, 114, 111, 116, 111, 99, 111, 108, 32, 116, 111, 107, 101, 110, 10, 99, 111, 114, 101, 115, 32, 50, 32, 49, 32, 51, 10, 104, 111, 109, 101, 115, 32, 50, 32, 48, 10, 116, 97, 115, 107, 32, 122, 122, 32]⟩ : ByteArray) ++ t326) ++ (⟨#[32]⟩ : ByteArray)) ++ t327) ++ (⟨#[32]⟩ : ByteArray)) ++ t328) ++ (⟨#[32]⟩ : ByteArray)) ++ t329).size + 7 ≤ 9223372036854775807 then ((sr_Text.f k (wrap64 ((wrap64 (Int.tmod a5 60)) + 1))).bind fun t330 => (if (((((((((⟨#[112, 114, 111, 116, 111, 99, 111, 108, 32, 116, 111, 107, 101, 110, 10, 99, 111, 114, 101, 115, 32, 50, 32, 49, 32, 51, 10, 104, 111, 109, 101, 115, 32, 50, 32, 48, 10, 116, 97, 115, 107, 32, 122, 122, 32]⟩ : ByteArray) ++ t326) ++ (⟨#[32]⟩ : ByteArray)) ++ t327) ++ (⟨#[32]⟩ : ByteArray)) ++ t328) ++ (⟨#[32]⟩ : ByteArray)) ++ t329) ++ (⟨#[32, 115, 108, 101, 101, 112, 58]⟩ : ByteArray)).size + t330.size ≤ 9223372036854775807 then (if ((((((((((⟨#[112, 114, 111, 116, 111, 99, 111, 108, 32, 116, 111, 107, 101, 110, 10, 99, 111, 114, 101, 115, 32, 50, 32, 49, 32, 51, 10, 104, 111, 109, 101, 115, 32, 50, 32, 48, 10, 116, 97, 115, 107, 32, 122, 122, 32]⟩ : ByteArray) ++ t326) ++ (⟨#[32]⟩ : ByteArray)) ++ t327) ++ (⟨#[32]⟩ : ByteArray)) ++ t328) ++ (⟨#[32]⟩ : ByteArray)) ++ t329) ++ (⟨#[32, 115, 108, 101, 101, 112, 58]⟩ : ByteArray)) ++ t330).size + 6 ≤ 9223372036854775807 then ((sr_Text.f k (wrap64 (Int.tmod a4 2))).bind fun t331 => (if (((((((((((⟨#[112, 114, 111, 116, 111, 99, 111, 108, 32, 116, 111, 107, 101, 110, 10, 99, 111, 114, 101, 115, 32, 50, 32, 49, 32, 51, 10, 104, 111, 109, 101, 115, 32, 50, 32, 48, 10, 116, 97, 115, 107, 32, 122, 122, 32]⟩ : ByteArray) ++ t326) ++ (⟨#[32]⟩ : ByteArray)) ++ t327) ++ (⟨#[32]⟩ : ByteArray)) ++ t328) ++ (⟨#[32]⟩ : ByteArray)) ++ t329) ++ (⟨#[32, 115, 108, 101, 101, 112, 58]⟩ : ByteArray)) ++ t330) ++ (⟨#[32, 108, 111, 99, 107, 58]⟩ : ByteArray)).size + t331.size ≤ 9223372036854775807 then (if ((((((((((((⟨#[112, 114, 111, 116, 111, 99, 111, 108, 32, 116, 111, 107, 101, 110, 10, 99, 111, 114, 101, 115, 32, 50, 32, 49, 32, 51, 10, 104, 111, 109, 101, 115, 32, 50, 32, 48, 10, 116, 97, 115, 107, 32, 122, 122, 32]⟩ : ByteArray) ++ t326) ++ (⟨#[32]⟩ : ByteArray)) ++ t327) ++ (⟨#[32]⟩ : ByteArray)) ++ t328) ++ (⟨#[32]⟩ : ByteArray)) ++ t329) ++ (⟨#[32, 115, 108, 101, 101, 112, 58]⟩ : ByteArray)) ++ t330) ++ (⟨#[32, 108, 111, 99, 107, 58]⟩ : ByteArray)) ++ t331).size + 1 ≤ 9223372036854775807 then ((sr_Text.f k (wrap64 ((wrap64 (Int.tmod a5 60)) + 1))).bind fun t332 => (if (((((((((((((⟨#[112, 114, 111, 116, 111, 99, 111, 108, 32, 116, 111, 107, 101, 110, 10, 99, 111, 114, 101, 115, 32, 50, 32, 49, 32, 51, 10, 104, 111, 109, 101, 115, 32, 50, 32, 48, 10, 116, 97, 115, 107, 32, 122, 122, 32]⟩ : ByteArray) ++ t326) ++ (⟨#[32]⟩ : ByteArray)) ++ t327) ++ (⟨#[32]⟩ : ByteArray)) ++ t328) ++ (⟨#[32]⟩ : ByteArray)) ++ t329) ++ (⟨#[32, 115, 108, 101, 101, 112, 58]⟩ : ByteArray)) ++ t330) ++ (⟨#[32, 108, 111, 99, 107, 58]⟩ : ByteArray)) ++ t331) ++ (⟨#[58]⟩ : ByteArray)).size + t332.size ≤ 9223372036854775807 then (if ((((((((((((((⟨#[112, 114, 111, 116, 111, 99, 111, 108, 32, 116, 111, 107, 101, 110, 10, 99, 111, 114, 101, 115, 32, 50, 32, 49, 32, 51, 10, 104, 111, 109, 101, 115, 32, 50, 32, 48, 10, 116, 97, 115, 107, 32, 122, 122, 32]⟩ : ByteArray) ++ t326) ++ (⟨#[32]⟩ : ByteArray)) ++ t327) ++ (⟨#[32]⟩ : ByteArray)) ++ t328) ++ (⟨#[32]⟩ : ByteArray)) ++ t329) ++ (⟨#[32, 115, 108, 101, 101, 112, 58]⟩ : ByteArray)) ++ t330) ++ (⟨#[32, 108, 111, 99, 107, 58]⟩ : ByteArray)) ++ t331) ++ (⟨#[58]⟩ : ByteArray)) ++ t332).size + 1 ≤ 9223372036854775807 then ((text_Parse.f k (((((((((((((((⟨#[112, 114, 111, 116, 111, 99, 111, 108, 32, 116, 111, 107, 101, 110, 10, 99, 111, 114, 101, 115, 32, 50, 32, 49, 32, 51, 10, 104, 111, 109, 101, 115, 32, 50, 32, 48, 10, 116, 97, 115, 107, 32, 122, 122, 32]⟩ : ByteArray) ++ t326) ++ (⟨#[32]⟩ : ByteArray)) ++ t327) ++ (⟨#[32]⟩ : ByteArray)) ++ t328) ++ (⟨#[32]⟩ : ByteArray)) ++ t329) ++ (⟨#[32, 115, 108, 101, 101, 112, 58]⟩ : ByteArray)) ++ t330) ++ (⟨#[32, 108, 111, 99, 107, 58]⟩ : ByteArray)) ++ t331) ++ (⟨#[58]⟩ : ByteArray)) ++ t332) ++ (⟨#[10]⟩ : ByteArray))).bind fun bt333 => (if bt333.2.2.2.2.2 = 0 then (if bt333.2.2.2.2.1 = 4 then ((sr_Same.f k bt333.1 bt333.2.1 bt333.2.2.1 bt333.2.2.2.1 3 (([2, 1, 3] : List Int)) (([2, 0] : List Int)) (([(⟨(⟨#[122, 122]⟩ : ByteArray), wrap64 ((wrap64 (Int.tmod a0 3000)) + 1), wrap64 ((Int.tmod (wrap64 (a1)) (wrap64 ((wrap64 (Int.tmod a0 3000)) + 1))) + 1), wrap64 ((wrap64 (Int.tmod a2 1000)) + 1), wrap64 (Int.tmod a3 3), (([(⟨2, wrap64 ((wrap64 (Int.tmod a5 60)) + 1), 0⟩ : S50), (⟨3, wrap64 ((wrap64 (Int.tmod a5 60)) + 1), wrap64 (Int.tmod a4 2)⟩ : S50)] : List (S50)))⟩ : S53)] : List (S53)))).bind fun t359 => (if t359 = true then ((text_Print.f k bt333.1 bt333.2.1 bt333.2.2.1 bt333.2.2.2.1).bind fun t360 => (some (t360.toList == (((((((((((((((⟨#[112, 114, 111, 116, 111, 99, 111, 108, 32, 116, 111, 107, 101, 110, 10, 99, 111, 114, 101, 115, 32, 50, 32, 49, 32, 51, 10, 104, 111, 109, 101, 115, 32, 50, 32, 48, 10, 116, 97, 115, 107, 32, 122, 122, 32]⟩ : ByteArray) ++ t326) ++ (⟨#[32]⟩ : ByteArray)) ++ t327) ++ (⟨#[32]⟩ : ByteArray)) ++ t328) ++ (⟨#[32]⟩ : ByteArray)) ++ t329) ++ (⟨#[32, 115, 108, 101, 101, 112, 58]⟩ : ByteArray)) ++ t330) ++ (⟨#[32, 108, 111, 99, 107, 58]⟩ : ByteArray)) ++ t331) ++ (⟨#[58]⟩ : ByteArray)) ++ t332) ++ (⟨#[10]⟩ : ByteArray)).toList))) else (some false))) else (some false)) else (some false))) else (none)) else (none))) else (none)) else (none))) else (none)) else (none))) else (none)) else (none))) else (none)) else (none))) else (none)) else (none)) = some r := H
  have A13 := Aside0.mk A130
  clear A130
  by_cases c14 : (((⟨#[112, 114, 111, 116, 111, 99, 111, 108, 32, 116, 111, 107, 101, 110, 10, 99, 111, 114, 101, 115, 32, 50, 32, 49, 32, 51, 10, 104, 111, 109, 101, 115, 32, 50, 32, 48, 10, 116, 97, 115, 107, 32, 122, 122, 32]⟩ : ByteArray) ++ t326) ++ (⟨#[32]⟩ : ByteArray)).size + t327.size ≤ 9223372036854775807
  rotate_left
  · rw [if_neg c14] at H
    exact absurd H (by simp)
  rw [if_pos c14] at H
  have c14b0 := eq_true c14
  have c14b1 : decide ((((⟨#[112, 114, 111, 116, 111, 99, 111, 108, 32, 116, 111, 107, 101, 110, 10, 99, 111, 114, 101, 115, 32, 50, 32, 49, 32, 51, 10, 104, 111, 109, 101, 115, 32, 50, 32, 48, 10, 116, 97, 115, 107, 32, 122, 122, 32]⟩ : ByteArray) ++ t326) ++ (⟨#[32]⟩ : ByteArray)).size + t327.size ≤ 9223372036854775807) = true := decide_eq_true c14
  try have c14b2 : (9223372036854775807 < (((⟨#[112, 114, 111, 116, 111, 99, 111, 108, 32, 116, 111, 107, 101, 110, 10, 99, 111, 114, 101, 115, 32, 50, 32, 49, 32, 51, 10, 104, 111, 109, 101, 115, 32, 50, 32, 48, 10, 116, 97, 115, 107, 32, 122, 122, 32]⟩ : ByteArray) ++ t326) ++ (⟨#[32]⟩ : ByteArray)).size + t327.size) = False := eq_false (Nat.not_lt.2 c14)
  try (have c14b3 := c14b2; (repeat rw [ByteArray.size_append] at c14b3); (try rw [show (⟨#[112, 114, 111, 116, 111, 99, 111, 108, 32, 116, 111, 107, 101, 110, 10, 99, 111, 114, 101, 115, 32, 50, 32, 49, 32, 51, 10, 104, 111, 109, 101, 115, 32, 50, 32, 48, 10, 116, 97, 115, 107, 32, 122, 122, 32]⟩ : ByteArray).size = 45 from rfl] at c14b3); (try rw [show (⟨#[32]⟩ : ByteArray).size = 1 from rfl] at c14b3))
  by_cases c15 : ((((⟨#[112, 114, 111, 116, 111, 99, 111, 108, 32, 116, 111, 107, 101, 110, 10, 99, 111, 114, 101, 115, 32, 50, 32, 49, 32, 51, 10, 104, 111, 109, 101, 115, 32, 50, 32, 48, 10, 116, 97, 115, 107, 32, 122, 122, 32]⟩ : ByteArray) ++ t326) ++ (⟨#[32]⟩ : ByteArray)) ++ t327).size + 1 ≤ 9223372036854775807
  rotate_left
  · rw [if_neg c15] at H
    exact absurd H (by simp)
  rw [if_pos c15] at H
  have c15b0 := eq_true c15
  have c15b1 : decide (((((⟨#[112, 114, 111, 116, 111, 99, 111, 108, 32, 116, 111, 107, 101, 110, 10, 99, 111, 114, 101, 115, 32, 50, 32, 49, 32, 51, 10, 104, 111, 109, 101, 115, 32, 50, 32, 48, 10, 116, 97, 115, 107, 32, 122, 122, 32]⟩ : ByteArray) ++ t326) ++ (⟨#[32]⟩ : ByteArray)) ++ t327).size + 1 ≤ 9223372036854775807) = true := decide_eq_true c15
  try have c15b2 : (9223372036854775807 < ((((⟨#[112, 114, 111, 116, 111, 99, 111, 108, 32, 116, 111, 107, 101, 110, 10, 99, 111, 114, 101, 115, 32, 50, 32, 49, 32, 51, 10, 104, 111, 109, 101, 115, 32, 50, 32, 48, 10, 116, 97, 115, 107, 32, 122, 122, 32]⟩ : ByteArray) ++ t326) ++ (⟨#[32]⟩ : ByteArray)) ++ t327).size + 1) = False := eq_false (Nat.not_lt.2 c15)
  try (have c15b3 := c15b2; (repeat rw [ByteArray.size_append] at c15b3); (try rw [show (⟨#[112, 114, 111, 116, 111, 99, 111, 108, 32, 116, 111, 107, 101, 110, 10, 99, 111, 114, 101, 115, 32, 50, 32, 49, 32, 51, 10, 104, 111, 109, 101, 115, 32, 50, 32, 48, 10, 116, 97, 115, 107, 32, 122, 122, 32]⟩ : ByteArray).size = 45 from rfl] at c15b3); (try rw [show (⟨#[32]⟩ : ByteArray).size = 1 from rfl] at c15b3))
  replace H := Option.bind_eq_some_iff.mp H
  obtain ⟨t328, A160, H⟩ := H
  replace H : (if (((((⟨#[112, 114, 111, 116, 111, 99, 111, 108, 32, 116, 111, 107, 101, 110, 10, 99, 111, 114, 101, 115, 32, 50, 32, 49, 32, 51, 10, 104, 111, 109, 101, 115, 32, 50, 32, 48, 10, 116, 97, 115, 107, 32, 122, 122, 32]⟩ : ByteArray) ++ t326) ++ (⟨#[32]⟩ : ByteArray)) ++ t327) ++ (⟨#[32]⟩ : ByteArray)).size + t328.size ≤ 9223372036854775807 then (if ((((((⟨#[112, 114, 111, 116, 111, 99, 111, 108, 32, 116, 111, 107, 101, 110, 10, 99, 111, 114, 101, 115, 32, 50, 32, 49, 32, 51, 10, 104, 111, 109, 101, 115, 32, 50, 32, 48, 10, 116, 97, 115, 107, 32, 122, 122, 32]⟩ : ByteArray) ++ t326) ++ (⟨#[32]⟩ : ByteArray)) ++ t327) ++ (⟨#[32]⟩ : ByteArray)) ++ t328).size + 1 ≤ 9223372036854775807 then ((sr_Text.f k (wrap64 (Int.tmod a3 3))).bind fun t329 => (if (((((((⟨#[112, 114, 111, 116, 111, 99, 111, 108, 32, 116, 111, 107, 101, 110, 10, 99, 111, 114, 101, 115, 32, 50, 32, 49, 32, 51, 10, 104, 111, 109, 101, 115, 32, 50, 32, 48, 10, 116, 97, 115, 107, 32, 122, 122, 32]⟩ : ByteArray) ++ t326) ++ (⟨#[32]⟩ : ByteArray)) ++ t327) ++ (⟨#[32]⟩ : ByteArray)) ++ t328) ++ (⟨#[32]⟩ : ByteArray)).size + t329.size ≤ 9223372036854775807 then (if ((((((((⟨#[112, 114, 111, 116, 111, 99, 111, 108, 32, 116, 111, 107, 101, 110, 10, 99, 111, 114, 101, 115, 32, 50, 32, 49, 32, 51, 10, 104, 111, 109, 101, 115, 32, 50, 32, 48, 10, 116, 97, 115, 107, 32, 122, 122, 32]⟩ : ByteArray) ++ t326) ++ (⟨#[32]⟩ : ByteArray)) ++ t327) ++ (⟨#[32]⟩ : ByteArray)) ++ t328) ++ (⟨#[32]⟩ : ByteArray)) ++ t329).size + 7 ≤ 9223372036854775807 then ((sr_Text.f k (wrap64 ((wrap64 (Int.tmod a5 60)) + 1))).bind fun t330 => (if (((((((((⟨#[112, 114, 111, 116, 111, 99, 111, 108, 32, 116, 111, 107, 101, 110, 10, 99, 111, 114, 101, 115, 32, 50, 32, 49, 32, 51, 10, 104, 111, 109, 101, 115, 32, 50, 32, 48, 10, 116, 97, 115, 107, 32, 122, 122, 32]⟩ : ByteArray) ++ t326) ++ (⟨#[32]⟩ : ByteArray)) ++ t327) ++ (⟨#[32]⟩ : ByteArray)) ++ t328) ++ (⟨#[32]⟩ : ByteArray)) ++ t329) ++ (⟨#[32, 115, 108, 101, 101, 112, 58]⟩ : ByteArray)).size + t330.size ≤ 9223372036854775807 then (if ((((((((((⟨#[112, 114, 111, 116, 111, 99, 111, 108, 32, 116, 111, 107, 101, 110, 10, 99, 111, 114, 101, 115, 32, 50, 32, 49, 32, 51, 10, 104, 111, 109, 101, 115, 32, 50, 32, 48, 10, 116, 97, 115, 107, 32, 122, 122, 32]⟩ : ByteArray) ++ t326) ++ (⟨#[32]⟩ : ByteArray)) ++ t327) ++ (⟨#[32]⟩ : ByteArray)) ++ t328) ++ (⟨#[32]⟩ : ByteArray)) ++ t329) ++ (⟨#[32, 115, 108, 101, 101, 112, 58]⟩ : ByteArray)) ++ t330).size + 6 ≤ 9223372036854775807 then ((sr_Text.f k (wrap64 (Int.tmod a4 2))).bind fun t331 => (if (((((((((((⟨#[112, 114, 111, 116, 111, 99, 111, 108, 32, 116, 111, 107, 101, 110, 10, 99, 111, 114, 101, 115, 32, 50, 32, 49, 32, 51, 10, 104, 111, 109, 101, 115, 32, 50, 32, 48, 10, 116, 97, 115, 107, 32, 122, 122, 32]⟩ : ByteArray) ++ t326) ++ (⟨#[32]⟩ : ByteArray)) ++ t327) ++ (⟨#[32]⟩ : ByteArray)) ++ t328) ++ (⟨#[32]⟩ : ByteArray)) ++ t329) ++ (⟨#[32, 115, 108, 101, 101, 112, 58]⟩ : ByteArray)) ++ t330) ++ (⟨#[32, 108, 111, 99, 107, 58]⟩ : ByteArray)).size + t331.size ≤ 9223372036854775807 then (if ((((((((((((⟨#[112, 114, 111, 116, 111, 99, 111, 108, 32, 116, 111, 107, 101, 110, 10, 99, 111, 114, 101, 115, 32, 50, 32, 49, 32, 51, 10, 104, 111, 109, 101, 115, 32, 50, 32, 48, 10, 116, 97, 115, 107, 32, 122, 122, 32]⟩ : ByteArray) ++ t326) ++ (⟨#[32]⟩ : ByteArray)) ++ t327) ++ (⟨#[32]⟩ : ByteArray)) ++ t328) ++ (⟨#[32]⟩ : ByteArray)) ++ t329) ++ (⟨#[32, 115, 108, 101, 101, 112, 58]⟩ : ByteArray)) ++ t330) ++ (⟨#[32, 108, 111, 99, 107, 58]⟩ : ByteArray)) ++ t331).size + 1 ≤ 9223372036854775807 then ((sr_Text.f k (wrap64 ((wrap64 (Int.tmod a5 60)) + 1))).bind fun t332 => (if (((((((((((((⟨#[112, 114, 111, 116, 111, 99, 111, 108, 32, 116, 111, 107, 101, 110, 10, 99, 111, 114, 101, 115, 32, 50, 32, 49, 32, 51, 10, 104, 111, 109, 101, 115, 32, 50, 32, 48, 10, 116, 97, 115, 107, 32, 122, 122, 32]⟩ : ByteArray) ++ t326) ++ (⟨#[32]⟩ : ByteArray)) ++ t327) ++ (⟨#[32]⟩ : ByteArray)) ++ t328) ++ (⟨#[32]⟩ : ByteArray)) ++ t329) ++ (⟨#[32, 115, 108, 101, 101, 112, 58]⟩ : ByteArray)) ++ t330) ++ (⟨#[32, 108, 111, 99, 107, 58]⟩ : ByteArray)) ++ t331) ++ (⟨#[58]⟩ : ByteArray)).size + t332.size ≤ 9223372036854775807 then (if ((((((((((((((⟨#[112, 114, 111, 116, 111, 99, 111, 108, 32, 116, 111, 107, 101, 110, 10, 99, 111, 114, 101, 115, 32, 50, 32, 49, 32, 51, 10, 104, 111, 109, 101, 115, 32, 50, 32, 48, 10, 116, 97, 115, 107, 32, 122, 122, 32]⟩ : ByteArray) ++ t326) ++ (⟨#[32]⟩ : ByteArray)) ++ t327) ++ (⟨#[32]⟩ : ByteArray)) ++ t328) ++ (⟨#[32]⟩ : ByteArray)) ++ t329) ++ (⟨#[32, 115, 108, 101, 101, 112, 58]⟩ : ByteArray)) ++ t330) ++ (⟨#[32, 108, 111, 99, 107, 58]⟩ : ByteArray)) ++ t331) ++ (⟨#[58]⟩ : ByteArray)) ++ t332).size + 1 ≤ 9223372036854775807 then ((text_Parse.f k (((((((((((((((⟨#[112, 114, 111, 116, 111, 99, 111, 108, 32, 116, 111, 107, 101, 110, 10, 99, 111, 114, 101, 115, 32, 50, 32, 49, 32, 51, 10, 104, 111, 109, 101, 115, 32, 50, 32, 48, 10, 116, 97, 115, 107, 32, 122, 122, 32]⟩ : ByteArray) ++ t326) ++ (⟨#[32]⟩ : ByteArray)) ++ t327) ++ (⟨#[32]⟩ : ByteArray)) ++ t328) ++ (⟨#[32]⟩ : ByteArray)) ++ t329) ++ (⟨#[32, 115, 108, 101, 101, 112, 58]⟩ : ByteArray)) ++ t330) ++ (⟨#[32, 108, 111, 99, 107, 58]⟩ : ByteArray)) ++ t331) ++ (⟨#[58]⟩ : ByteArray)) ++ t332) ++ (⟨#[10]⟩ : ByteArray))).bind fun bt333 => (if bt333.2.2.2.2.2 = 0 then (if bt333.2.2.2.2.1 = 4 then ((sr_Same.f k bt333.1 bt333.2.1 bt333.2.2.1 bt333.2.2.2.1 3 (([2, 1, 3] : List Int)) (([2, 0] : List Int)) (([(⟨(⟨#[122, 122]⟩ : ByteArray), wrap64 ((wrap64 (Int.tmod a0 3000)) + 1), wrap64 ((Int.tmod (wrap64 (a1)) (wrap64 ((wrap64 (Int.tmod a0 3000)) + 1))) + 1), wrap64 ((wrap64 (Int.tmod a2 1000)) + 1), wrap64 (Int.tmod a3 3), (([(⟨2, wrap64 ((wrap64 (Int.tmod a5 60)) + 1), 0⟩ : S50), (⟨3, wrap64 ((wrap64 (Int.tmod a5 60)) + 1), wrap64 (Int.tmod a4 2)⟩ : S50)] : List (S50)))⟩ : S53)] : List (S53)))).bind fun t359 => (if t359 = true then ((text_Print.f k bt333.1 bt333.2.1 bt333.2.2.1 bt333.2.2.2.1).bind fun t360 => (some (t360.toList == (((((((((((((((⟨#[112, 114, 111, 116, 111, 99, 111, 108, 32, 116, 111, 107, 101, 110, 10, 99, 111, 114, 101, 115, 32, 50, 32, 49, 32, 51, 10, 104, 111, 109, 101, 115, 32, 50, 32, 48, 10, 116, 97, 115, 107, 32, 122, 122, 32]⟩ : ByteArray) ++ t326) ++ (⟨#[32]⟩ : ByteArray)) ++ t327) ++ (⟨#[32]⟩ : ByteArray)) ++ t328) ++ (⟨#[32]⟩ : ByteArray)) ++ t329) ++ (⟨#[32, 115, 108, 101, 101, 112, 58]⟩ : ByteArray)) ++ t330) ++ (⟨#[32, 108, 111, 99, 107, 58]⟩ : ByteArray)) ++ t331) ++ (⟨#[58]⟩ : ByteArray)) ++ t332) ++ (⟨#[10]⟩ : ByteArray)).toList))) else (some false))) else (some false)) else (some false))) else (none)) else (none))) else (none)) else (none))) else (none)) else (none))) else (none)) else (none))) else (none)) else (none)) = some r := H
  have A16 := Aside0.mk A160
  clear A160
  by_cases c17 : (((((⟨#[112, 114, 111, 116, 111, 99, 111, 108, 32, 116, 111, 107, 101, 110, 10, 99, 111, 114, 101, 115, 32, 50, 32, 49, 32, 51, 10, 104, 111, 109, 101, 115, 32, 50, 32, 48, 10, 116, 97, 115, 107, 32, 122, 122, 32]⟩ : ByteArray) ++ t326) ++ (⟨#[32]⟩ : ByteArray)) ++ t327) ++ (⟨#[32]⟩ : ByteArray)).size + t328.size ≤ 9223372036854775807
  rotate_left
  · rw [if_neg c17] at H
    exact absurd H (by simp)
  rw [if_pos c17] at H
  have c17b0 := eq_true c17
  have c17b1 : decide ((((((⟨#[112, 114, 111, 116, 111, 99, 111, 108, 32, 116, 111, 107, 101, 110, 10, 99, 111, 114, 101, 115, 32, 50, 32, 49, 32, 51, 10, 104, 111, 109, 101, 115, 32, 50, 32, 48, 10, 116, 97, 115, 107, 32, 122, 122, 32]⟩ : ByteArray) ++ t326) ++ (⟨#[32]⟩ : ByteArray)) ++ t327) ++ (⟨#[32]⟩ : ByteArray)).size + t328.size ≤ 9223372036854775807) = true := decide_eq_true c17
  try have c17b2 : (9223372036854775807 < (((((⟨#[112, 114, 111, 116, 111, 99, 111, 108, 32, 116, 111, 107, 101, 110, 10, 99, 111, 114, 101, 115, 32, 50, 32, 49, 32, 51, 10, 104, 111, 109, 101, 115, 32, 50, 32, 48, 10, 116, 97, 115, 107, 32, 122, 122, 32]⟩ : ByteArray) ++ t326) ++ (⟨#[32]⟩ : ByteArray)) ++ t327) ++ (⟨#[32]⟩ : ByteArray)).size + t328.size) = False := eq_false (Nat.not_lt.2 c17)
  try (have c17b3 := c17b2; (repeat rw [ByteArray.size_append] at c17b3); (try rw [show (⟨#[112, 114, 111, 116, 111, 99, 111, 108, 32, 116, 111, 107, 101, 110, 10, 99, 111, 114, 101, 115, 32, 50, 32, 49, 32, 51, 10, 104, 111, 109, 101, 115, 32, 50, 32, 48, 10, 116, 97, 115, 107, 32, 122, 122, 32]⟩ : ByteArray).size = 45 from rfl] at c17b3); (try rw [show (⟨#[32]⟩ : ByteArray).size = 1 from rfl] at c17b3))
  by_cases c18 : ((((((⟨#[112, 114, 111, 116, 111, 99, 111, 108, 32, 116, 111, 107, 101, 110, 10, 99, 111, 114, 101, 115, 32, 50, 32, 49, 32, 51, 10, 104, 111, 109, 101, 115, 32, 50, 32, 48, 10, 116, 97, 115, 107, 32, 122, 122, 32]⟩ : ByteArray) ++ t326) ++ (⟨#[32]⟩ : ByteArray)) ++ t327) ++ (⟨#[32]⟩ : ByteArray)) ++ t328).size + 1 ≤ 9223372036854775807
  rotate_left
  · rw [if_neg c18] at H
    exact absurd H (by simp)
  rw [if_pos c18] at H
  have c18b0 := eq_true c18
  have c18b1 : decide (((((((⟨#[112, 114, 111, 116, 111, 99, 111, 108, 32, 116, 111, 107, 101, 110, 10, 99, 111, 114, 101, 115, 32, 50, 32, 49, 32, 51, 10, 104, 111, 109, 101, 115, 32, 50, 32, 48, 10, 116, 97, 115, 107, 32, 122, 122, 32]⟩ : ByteArray) ++ t326) ++ (⟨#[32]⟩ : ByteArray)) ++ t327) ++ (⟨#[32]⟩ : ByteArray)) ++ t328).size + 1 ≤ 9223372036854775807) = true := decide_eq_true c18
  try have c18b2 : (9223372036854775807 < ((((((⟨#[112, 114, 111, 116, 111, 99, 111, 108, 32, 116, 111, 107, 101, 110, 10, 99, 111, 114, 101, 115, 32, 50, 32, 49, 32, 51, 10, 104, 111, 109, 101, 115, 32, 50, 32, 48, 10, 116, 97, 115, 107, 32, 122, 122, 32]⟩ : ByteArray) ++ t326) ++ (⟨#[32]⟩ : ByteArray)) ++ t327) ++ (⟨#[32]⟩ : ByteArray)) ++ t328).size + 1) = False := eq_false (Nat.not_lt.2 c18)
  try (have c18b3 := c18b2; (repeat rw [ByteArray.size_append] at c18b3); (try rw [show (⟨#[112, 114, 111, 116, 111, 99, 111, 108, 32, 116, 111, 107, 101, 110, 10, 99, 111, 114, 101, 115, 32, 50, 32, 49, 32, 51, 10, 104, 111, 109, 101, 115, 32, 50, 32, 48, 10, 116, 97, 115, 107, 32, 122, 122, 32]⟩ : ByteArray).size = 45 from rfl] at c18b3); (try rw [show (⟨#[32]⟩ : ByteArray).size = 1 from rfl] at c18b3))
  replace H := Option.bind_eq_some_iff.mp H
  obtain ⟨t329, A190, H⟩ := H
  replace H : (if (((((((⟨#[112, 114, 111, 116, 111, 99, 111, 108, 32, 116, 111, 107, 101, 110, 10, 99, 111, 114, 101, 115, 32, 50, 32, 49, 32, 51, 10, 104, 111, 109, 101, 115, 32, 50, 32, 48, 10, 116, 97, 115, 107, 32, 122, 122, 32]⟩ : ByteArray) ++ t326) ++ (⟨#[32]⟩ : ByteArray)) ++ t327) ++ (⟨#[32]⟩ : ByteArray)) ++ t328) ++ (⟨#[32]⟩ : ByteArray)).size + t329.size ≤ 9223372036854775807 then (if ((((((((⟨#[112, 114, 111, 116, 111, 99, 111, 108, 32, 116, 111, 107, 101, 110, 10, 99, 111, 114, 101, 115, 32, 50, 32, 49, 32, 51, 10, 104, 111, 109, 101, 115, 32, 50, 32, 48, 10, 116, 97, 115, 107, 32, 122, 122, 32]⟩ : ByteArray) ++ t326) ++ (⟨#[32]⟩ : ByteArray)) ++ t327) ++ (⟨#[32]⟩ : ByteArray)) ++ t328) ++ (⟨#[32]⟩ : ByteArray)) ++ t329).size + 7 ≤ 9223372036854775807 then ((sr_Text.f k (wrap64 ((wrap64 (Int.tmod a5 60)) + 1))).bind fun t330 => (if (((((((((⟨#[112, 114, 111, 116, 111, 99, 111, 108, 32, 116, 111, 107, 101, 110, 10, 99, 111, 114, 101, 115, 32, 50, 32, 49, 32, 51, 10, 104, 111, 109, 101, 115, 32, 50, 32, 48, 10, 116, 97, 115, 107, 32, 122, 122, 32]⟩ : ByteArray) ++ t326) ++ (⟨#[32]⟩ : ByteArray)) ++ t327) ++ (⟨#[32]⟩ : ByteArray)) ++ t328) ++ (⟨#[32]⟩ : ByteArray)) ++ t329) ++ (⟨#[32, 115, 108, 101, 101, 112, 58]⟩ : ByteArray)).size + t330.size ≤ 9223372036854775807 then (if ((((((((((⟨#[112, 114, 111, 116, 111, 99, 111, 108, 32, 116, 111, 107, 101, 110, 10, 99, 111, 114, 101, 115, 32, 50, 32, 49, 32, 51, 10, 104, 111, 109, 101, 115, 32, 50, 32, 48, 10, 116, 97, 115, 107, 32, 122, 122, 32]⟩ : ByteArray) ++ t326) ++ (⟨#[32]⟩ : ByteArray)) ++ t327) ++ (⟨#[32]⟩ : ByteArray)) ++ t328) ++ (⟨#[32]⟩ : ByteArray)) ++ t329) ++ (⟨#[32, 115, 108, 101, 101, 112, 58]⟩ : ByteArray)) ++ t330).size + 6 ≤ 9223372036854775807 then ((sr_Text.f k (wrap64 (Int.tmod a4 2))).bind fun t331 => (if (((((((((((⟨#[112, 114, 111, 116, 111, 99, 111, 108, 32, 116, 111, 107, 101, 110, 10, 99, 111, 114, 101, 115, 32, 50, 32, 49, 32, 51, 10, 104, 111, 109, 101, 115, 32, 50, 32, 48, 10, 116, 97, 115, 107, 32, 122, 122, 32]⟩ : ByteArray) ++ t326) ++ (⟨#[32]⟩ : ByteArray)) ++ t327) ++ (⟨#[32]⟩ : ByteArray)) ++ t328) ++ (⟨#[32]⟩ : ByteArray)) ++ t329) ++ (⟨#[32, 115, 108, 101, 101, 112, 58]⟩ : ByteArray)) ++ t330) ++ (⟨#[32, 108, 111, 99, 107, 58]⟩ : ByteArray)).size + t331.size ≤ 9223372036854775807 then (if ((((((((((((⟨#[112, 114, 111, 116, 111, 99, 111, 108, 32, 116, 111, 107, 101, 110, 10, 99, 111, 114, 101, 115, 32, 50, 32, 49, 32, 51, 10, 104, 111, 109, 101, 115, 32, 50, 32, 48, 10, 116, 97, 115, 107, 32, 122, 122, 32]⟩ : ByteArray) ++ t326) ++ (⟨#[32]⟩ : ByteArray)) ++ t327) ++ (⟨#[32]⟩ : ByteArray)) ++ t328) ++ (⟨#[32]⟩ : ByteArray)) ++ t329) ++ (⟨#[32, 115, 108, 101, 101, 112, 58]⟩ : ByteArray)) ++ t330) ++ (⟨#[32, 108, 111, 99, 107, 58]⟩ : ByteArray)) ++ t331).size + 1 ≤ 9223372036854775807 then ((sr_Text.f k (wrap64 ((wrap64 (Int.tmod a5 60)) + 1))).bind fun t332 => (if (((((((((((((⟨#[112, 114, 111, 116, 111, 99, 111, 108, 32, 116, 111, 107, 101, 110, 10, 99, 111, 114, 101, 115, 32, 50, 32, 49, 32, 51, 10, 104, 111, 109, 101, 115, 32, 50, 32, 48, 10, 116, 97, 115, 107, 32, 122, 122, 32]⟩ : ByteArray) ++ t326) ++ (⟨#[32]⟩ : ByteArray)) ++ t327) ++ (⟨#[32]⟩ : ByteArray)) ++ t328) ++ (⟨#[32]⟩ : ByteArray)) ++ t329) ++ (⟨#[32, 115, 108, 101, 101, 112, 58]⟩ : ByteArray)) ++ t330) ++ (⟨#[32, 108, 111, 99, 107, 58]⟩ : ByteArray)) ++ t331) ++ (⟨#[58]⟩ : ByteArray)).size + t332.size ≤ 9223372036854775807 then (if ((((((((((((((⟨#[112, 114, 111, 116, 111, 99, 111, 108, 32, 116, 111, 107, 101, 110, 10, 99, 111, 114, 101, 115, 32, 50, 32, 49, 32, 51, 10, 104, 111, 109, 101, 115, 32, 50, 32, 48, 10, 116, 97, 115, 107, 32, 122, 122, 32]⟩ : ByteArray) ++ t326) ++ (⟨#[32]⟩ : ByteArray)) ++ t327) ++ (⟨#[32]⟩ : ByteArray)) ++ t328) ++ (⟨#[32]⟩ : ByteArray)) ++ t329) ++ (⟨#[32, 115, 108, 101, 101, 112, 58]⟩ : ByteArray)) ++ t330) ++ (⟨#[32, 108, 111, 99, 107, 58]⟩ : ByteArray)) ++ t331) ++ (⟨#[58]⟩ : ByteArray)) ++ t332).size + 1 ≤ 9223372036854775807 then ((text_Parse.f k (((((((((((((((⟨#[112, 114, 111, 116, 111, 99, 111, 108, 32, 116, 111, 107, 101, 110, 10, 99, 111, 114, 101, 115, 32, 50, 32, 49, 32, 51, 10, 104, 111, 109, 101, 115, 32, 50, 32, 48, 10, 116, 97, 115, 107, 32, 122, 122, 32]⟩ : ByteArray) ++ t326) ++ (⟨#[32]⟩ : ByteArray)) ++ t327) ++ (⟨#[32]⟩ : ByteArray)) ++ t328) ++ (⟨#[32]⟩ : ByteArray)) ++ t329) ++ (⟨#[32, 115, 108, 101, 101, 112, 58]⟩ : ByteArray)) ++ t330) ++ (⟨#[32, 108, 111, 99, 107, 58]⟩ : ByteArray)) ++ t331) ++ (⟨#[58]⟩ : ByteArray)) ++ t332) ++ (⟨#[10]⟩ : ByteArray))).bind fun bt333 => (if bt333.2.2.2.2.2 = 0 then (if bt333.2.2.2.2.1 = 4 then ((sr_Same.f k bt333.1 bt333.2.1 bt333.2.2.1 bt333.2.2.2.1 3 (([2, 1, 3] : List Int)) (([2, 0] : List Int)) (([(⟨(⟨#[122, 122]⟩ : ByteArray), wrap64 ((wrap64 (Int.tmod a0 3000)) + 1), wrap64 ((Int.tmod (wrap64 (a1)) (wrap64 ((wrap64 (Int.tmod a0 3000)) + 1))) + 1), wrap64 ((wrap64 (Int.tmod a2 1000)) + 1), wrap64 (Int.tmod a3 3), (([(⟨2, wrap64 ((wrap64 (Int.tmod a5 60)) + 1), 0⟩ : S50), (⟨3, wrap64 ((wrap64 (Int.tmod a5 60)) + 1), wrap64 (Int.tmod a4 2)⟩ : S50)] : List (S50)))⟩ : S53)] : List (S53)))).bind fun t359 => (if t359 = true then ((text_Print.f k bt333.1 bt333.2.1 bt333.2.2.1 bt333.2.2.2.1).bind fun t360 => (some (t360.toList == (((((((((((((((⟨#[112, 114, 111, 116, 111, 99, 111, 108, 32, 116, 111, 107, 101, 110, 10, 99, 111, 114, 101, 115, 32, 50, 32, 49, 32, 51, 10, 104, 111, 109, 101, 115, 32, 50, 32, 48, 10, 116, 97, 115, 107, 32, 122, 122, 32]⟩ : ByteArray) ++ t326) ++ (⟨#[32]⟩ : ByteArray)) ++ t327) ++ (⟨#[32]⟩ : ByteArray)) ++ t328) ++ (⟨#[32]⟩ : ByteArray)) ++ t329) ++ (⟨#[32, 115, 108, 101, 101, 112, 58]⟩ : ByteArray)) ++ t330) ++ (⟨#[32, 108, 111, 99, 107, 58]⟩ : ByteArray)) ++ t331) ++ (⟨#[58]⟩ : ByteArray)) ++ t332) ++ (⟨#[10]⟩ : ByteArray)).toList))) else (some false))) else (some false)) else (some false))) else (none)) else (none))) else (none)) else (none))) else (none)) else (none))) else (none)) else (none)) = some r := H
  have A19 := Aside0.mk A190
  clear A190
  by_cases c20 : (((((((⟨#[112, 114, 111, 116, 111, 99, 111, 108, 32, 116, 111, 107, 101, 110, 10, 99, 111, 114, 101, 115, 32, 50, 32, 49, 32, 51, 10, 104, 111, 109, 101, 115, 32, 50, 32, 48, 10, 116, 97, 115, 107, 32, 122, 122, 32]⟩ : ByteArray) ++ t326) ++ (⟨#[32]⟩ : ByteArray)) ++ t327) ++ (⟨#[32]⟩ : ByteArray)) ++ t328) ++ (⟨#[32]⟩ : ByteArray)).size + t329.size ≤ 9223372036854775807
  rotate_left
  · rw [if_neg c20] at H
    exact absurd H (by simp)
  rw [if_pos c20] at H
  have c20b0 := eq_true c20
  have c20b1 : decide ((((((((⟨#[112, 114, 111, 116, 111, 99, 111, 108, 32, 116, 111, 107, 101, 110, 10, 99, 111, 114, 101, 115, 32, 50, 32, 49, 32, 51, 10, 104, 111, 109, 101, 115, 32, 50, 32, 48, 10, 116, 97, 115, 107, 32, 122, 122, 32]⟩ : ByteArray) ++ t326) ++ (⟨#[32]⟩ : ByteArray)) ++ t327) ++ (⟨#[32]⟩ : ByteArray)) ++ t328) ++ (⟨#[32]⟩ : ByteArray)).size + t329.size ≤ 9223372036854775807) = true := decide_eq_true c20
  try have c20b2 : (9223372036854775807 < (((((((⟨#[112, 114, 111, 116, 111, 99, 111, 108, 32, 116, 111, 107, 101, 110, 10, 99, 111, 114, 101, 115, 32, 50, 32, 49, 32, 51, 10, 104, 111, 109, 101, 115, 32, 50, 32, 48, 10, 116, 97, 115, 107, 32, 122, 122, 32]⟩ : ByteArray) ++ t326) ++ (⟨#[32]⟩ : ByteArray)) ++ t327) ++ (⟨#[32]⟩ : ByteArray)) ++ t328) ++ (⟨#[32]⟩ : ByteArray)).size + t329.size) = False := eq_false (Nat.not_lt.2 c20)
  try (have c20b3 := c20b2; (repeat rw [ByteArray.size_append] at c20b3); (try rw [show (⟨#[112, 114, 111, 116, 111, 99, 111, 108, 32, 116, 111, 107, 101, 110, 10, 99, 111, 114, 101, 115, 32, 50, 32, 49, 32, 51, 10, 104, 111, 109, 101, 115, 32, 50, 32, 48, 10, 116, 97, 115, 107, 32, 122, 122, 32]⟩ : ByteArray).size = 45 from rfl] at c20b3); (try rw [show (⟨#[32]⟩ : ByteArray).size = 1 from rfl] at c20b3))
  by_cases c21 : ((((((((⟨#[112, 114, 111, 116, 111, 99, 111, 108, 32, 116, 111, 107, 101, 110, 10, 99, 111, 114, 101, 115, 32, 50, 32, 49, 32, 51, 10, 104, 111, 109, 101, 115, 32, 50, 32, 48, 10, 116, 97, 115, 107, 32, 122, 122, 32]⟩ : ByteArray) ++ t326) ++ (⟨#[32]⟩ : ByteArray)) ++ t327) ++ (⟨#[32]⟩ : ByteArray)) ++ t328) ++ (⟨#[32]⟩ : ByteArray)) ++ t329).size + 7 ≤ 9223372036854775807
  rotate_left
  · rw [if_neg c21] at H
    exact absurd H (by simp)
  rw [if_pos c21] at H
  have c21b0 := eq_true c21
  have c21b1 : decide (((((((((⟨#[112, 114, 111, 116, 111, 99, 111, 108, 32, 116, 111, 107, 101, 110, 10, 99, 111, 114, 101, 115, 32, 50, 32, 49, 32, 51, 10, 104, 111, 109, 101, 115, 32, 50, 32, 48, 10, 116, 97, 115, 107, 32, 122, 122, 32]⟩ : ByteArray) ++ t326) ++ (⟨#[32]⟩ : ByteArray)) ++ t327) ++ (⟨#[32]⟩ : ByteArray)) ++ t328) ++ (⟨#[32]⟩ : ByteArray)) ++ t329).size + 7 ≤ 9223372036854775807) = true := decide_eq_true c21
  try have c21b2 : (9223372036854775807 < ((((((((⟨#[112, 114, 111, 116, 111, 99, 111, 108, 32, 116, 111, 107, 101, 110, 10, 99, 111, 114, 101, 115, 32, 50, 32, 49, 32, 51, 10, 104, 111, 109, 101, 115, 32, 50, 32, 48, 10, 116, 97, 115, 107, 32, 122, 122, 32]⟩ : ByteArray) ++ t326) ++ (⟨#[32]⟩ : ByteArray)) ++ t327) ++ (⟨#[32]⟩ : ByteArray)) ++ t328) ++ (⟨#[32]⟩ : ByteArray)) ++ t329).size + 7) = False := eq_false (Nat.not_lt.2 c21)
  try (have c21b3 := c21b2; (repeat rw [ByteArray.size_append] at c21b3); (try rw [show (⟨#[112, 114, 111, 116, 111, 99, 111, 108, 32, 116, 111, 107, 101, 110, 10, 99, 111, 114, 101, 115, 32, 50, 32, 49, 32, 51, 10, 104, 111, 109, 101, 115, 32, 50, 32, 48, 10, 116, 97, 115, 107, 32, 122, 122, 32]⟩ : ByteArray).size = 45 from rfl] at c21b3); (try rw [show (⟨#[32]⟩ : ByteArray).size = 1 from rfl] at c21b3))
  replace H := Option.bind_eq_some_iff.mp H
  obtain ⟨t330, A220, H⟩ := H
  replace H : (if (((((((((⟨#[112, 114, 111, 116, 111, 99, 111, 108, 32, 116, 111, 107, 101, 110, 10, 99, 111, 114, 101, 115, 32, 50, 32, 49, 32, 51, 10, 104, 111, 109, 101, 115, 32, 50, 32, 48, 10, 116, 97, 115, 107, 32, 122, 122, 32]⟩ : ByteArray) ++ t326) ++ (⟨#[32]⟩ : ByteArray)) ++ t327) ++ (⟨#[32]⟩ : ByteArray)) ++ t328) ++ (⟨#[32]⟩ : ByteArray)) ++ t329) ++ (⟨#[32, 115, 108, 101, 101, 112, 58]⟩ : ByteArray)).size + t330.size ≤ 9223372036854775807 then (if ((((((((((⟨#[112, 114, 111, 116, 111, 99, 111, 108, 32, 116, 111, 107, 101, 110, 10, 99, 111, 114, 101, 115, 32, 50, 32, 49, 32, 51, 10, 104, 111, 109, 101, 115, 32, 50, 32, 48, 10, 116, 97, 115, 107, 32, 122, 122, 32]⟩ : ByteArray) ++ t326) ++ (⟨#[32]⟩ : ByteArray)) ++ t327) ++ (⟨#[32]⟩ : ByteArray)) ++ t328) ++ (⟨#[32]⟩ : ByteArray)) ++ t329) ++ (⟨#[32, 115, 108, 101, 101, 112, 58]⟩ : ByteArray)) ++ t330).size + 6 ≤ 9223372036854775807 then ((sr_Text.f k (wrap64 (Int.tmod a4 2))).bind fun t331 => (if (((((((((((⟨#[112, 114, 111, 116, 111, 99, 111, 108, 32, 116, 111, 107, 101, 110, 10, 99, 111, 114, 101, 115, 32, 50, 32, 49, 32, 51, 10, 104, 111, 109, 101, 115, 32, 50, 32, 48, 10, 116, 97, 115, 107, 32, 122, 122, 32]⟩ : ByteArray) ++ t326) ++ (⟨#[32]⟩ : ByteArray)) ++ t327) ++ (⟨#[32]⟩ : ByteArray)) ++ t328) ++ (⟨#[32]⟩ : ByteArray)) ++ t329) ++ (⟨#[32, 115, 108, 101, 101, 112, 58]⟩ : ByteArray)) ++ t330) ++ (⟨#[32, 108, 111, 99, 107, 58]⟩ : ByteArray)).size + t331.size ≤ 9223372036854775807 then (if ((((((((((((⟨#[112, 114, 111, 116, 111, 99, 111, 108, 32, 116, 111, 107, 101, 110, 10, 99, 111, 114, 101, 115, 32, 50, 32, 49, 32, 51, 10, 104, 111, 109, 101, 115, 32, 50, 32, 48, 10, 116, 97, 115, 107, 32, 122, 122, 32]⟩ : ByteArray) ++ t326) ++ (⟨#[32]⟩ : ByteArray)) ++ t327) ++ (⟨#[32]⟩ : ByteArray)) ++ t328) ++ (⟨#[32]⟩ : ByteArray)) ++ t329) ++ (⟨#[32, 115, 108, 101, 101, 112, 58]⟩ : ByteArray)) ++ t330) ++ (⟨#[32, 108, 111, 99, 107, 58]⟩ : ByteArray)) ++ t331).size + 1 ≤ 9223372036854775807 then ((sr_Text.f k (wrap64 ((wrap64 (Int.tmod a5 60)) + 1))).bind fun t332 => (if (((((((((((((⟨#[112, 114, 111, 116, 111, 99, 111, 108, 32, 116, 111, 107, 101, 110, 10, 99, 111, 114, 101, 115, 32, 50, 32, 49, 32, 51, 10, 104, 111, 109, 101, 115, 32, 50, 32, 48, 10, 116, 97, 115, 107, 32, 122, 122, 32]⟩ : ByteArray) ++ t326) ++ (⟨#[32]⟩ : ByteArray)) ++ t327) ++ (⟨#[32]⟩ : ByteArray)) ++ t328) ++ (⟨#[32]⟩ : ByteArray)) ++ t329) ++ (⟨#[32, 115, 108, 101, 101, 112, 58]⟩ : ByteArray)) ++ t330) ++ (⟨#[32, 108, 111, 99, 107, 58]⟩ : ByteArray)) ++ t331) ++ (⟨#[58]⟩ : ByteArray)).size + t332.size ≤ 9223372036854775807 then (if ((((((((((((((⟨#[112, 114, 111, 116, 111, 99, 111, 108, 32, 116, 111, 107, 101, 110, 10, 99, 111, 114, 101, 115, 32, 50, 32, 49, 32, 51, 10, 104, 111, 109, 101, 115, 32, 50, 32, 48, 10, 116, 97, 115, 107, 32, 122, 122, 32]⟩ : ByteArray) ++ t326) ++ (⟨#[32]⟩ : ByteArray)) ++ t327) ++ (⟨#[32]⟩ : ByteArray)) ++ t328) ++ (⟨#[32]⟩ : ByteArray)) ++ t329) ++ (⟨#[32, 115, 108, 101, 101, 112, 58]⟩ : ByteArray)) ++ t330) ++ (⟨#[32, 108, 111, 99, 107, 58]⟩ : ByteArray)) ++ t331) ++ (⟨#[58]⟩ : ByteArray)) ++ t332).size + 1 ≤ 9223372036854775807 then ((text_Parse.f k (((((((((((((((⟨#[112, 114, 111, 116, 111, 99, 111, 108, 32, 116, 111, 107, 101, 110, 10, 99, 111, 114, 101, 115, 32, 50, 32, 49, 32, 51, 10, 104, 111, 109, 101, 115, 32, 50, 32, 48, 10, 116, 97, 115, 107, 32, 122, 122, 32]⟩ : ByteArray) ++ t326) ++ (⟨#[32]⟩ : ByteArray)) ++ t327) ++ (⟨#[32]⟩ : ByteArray)) ++ t328) ++ (⟨#[32]⟩ : ByteArray)) ++ t329) ++ (⟨#[32, 115, 108, 101, 101, 112, 58]⟩ : ByteArray)) ++ t330) ++ (⟨#[32, 108, 111, 99, 107, 58]⟩ : ByteArray)) ++ t331) ++ (⟨#[58]⟩ : ByteArray)) ++ t332) ++ (⟨#[10]⟩ : ByteArray))).bind fun bt333 => (if bt333.2.2.2.2.2 = 0 then (if bt333.2.2.2.2.1 = 4 then ((sr_Same.f k bt333.1 bt333.2.1 bt333.2.2.1 bt333.2.2.2.1 3 (([2, 1, 3] : List Int)) (([2, 0] : List Int)) (([(⟨(⟨#[122, 122]⟩ : ByteArray), wrap64 ((wrap64 (Int.tmod a0 3000)) + 1), wrap64 ((Int.tmod (wrap64 (a1)) (wrap64 ((wrap64 (Int.tmod a0 3000)) + 1))) + 1), wrap64 ((wrap64 (Int.tmod a2 1000)) + 1), wrap64 (Int.tmod a3 3), (([(⟨2, wrap64 ((wrap64 (Int.tmod a5 60)) + 1), 0⟩ : S50), (⟨3, wrap64 ((wrap64 (Int.tmod a5 60)) + 1), wrap64 (Int.tmod a4 2)⟩ : S50)] : List (S50)))⟩ : S53)] : List (S53)))).bind fun t359 => (if t359 = true then ((text_Print.f k bt333.1 bt333.2.1 bt333.2.2.1 bt333.2.2.2.1).bind fun t360 => (some (t360.toList == (((((((((((((((⟨#[112, 114, 111, 116, 111, 99, 111, 108, 32, 116, 111, 107, 101, 110, 10, 99, 111, 114, 101, 115, 32, 50, 32, 49, 32, 51, 10, 104, 111, 109, 101, 115, 32, 50, 32, 48, 10, 116, 97, 115, 107, 32, 122, 122, 32]⟩ : ByteArray) ++ t326) ++ (⟨#[32]⟩ : ByteArray)) ++ t327) ++ (⟨#[32]⟩ : ByteArray)) ++ t328) ++ (⟨#[32]⟩ : ByteArray)) ++ t329) ++ (⟨#[32, 115, 108, 101, 101, 112, 58]⟩ : ByteArray)) ++ t330) ++ (⟨#[32, 108, 111, 99, 107, 58]⟩ : ByteArray)) ++ t331) ++ (⟨#[58]⟩ : ByteArray)) ++ t332) ++ (⟨#[10]⟩ : ByteArray)).toList))) else (some false))) else (some false)) else (some false))) else (none)) else (none))) else (none)) else (none))) else (none)) else (none)) = some r := H
  have A22 := Aside0.mk A220
  clear A220
  by_cases c23 : (((((((((⟨#[112, 114, 111, 116, 111, 99, 111, 108, 32, 116, 111, 107, 101, 110, 10, 99, 111, 114, 101, 115, 32, 50, 32, 49, 32, 51, 10, 104, 111, 109, 101, 115, 32, 50, 32, 48, 10, 116, 97, 115, 107, 32, 122, 122, 32]⟩ : ByteArray) ++ t326) ++ (⟨#[32]⟩ : ByteArray)) ++ t327) ++ (⟨#[32]⟩ : ByteArray)) ++ t328) ++ (⟨#[32]⟩ : ByteArray)) ++ t329) ++ (⟨#[32, 115, 108, 101, 101, 112, 58]⟩ : ByteArray)).size + t330.size ≤ 9223372036854775807
  rotate_left
  · rw [if_neg c23] at H
    exact absurd H (by simp)
  rw [if_pos c23] at H
  have c23b0 := eq_true c23
  have c23b1 : decide ((((((((((⟨#[112, 114, 111, 116, 111, 99, 111, 108, 32, 116, 111, 107, 101, 110, 10, 99, 111, 114, 101, 115, 32, 50, 32, 49, 32, 51, 10, 104, 111, 109, 101, 115, 32, 50, 32, 48, 10, 116, 97, 115, 107, 32, 122, 122, 32]⟩ : ByteArray) ++ t326) ++ (⟨#[32]⟩ : ByteArray)) ++ t327) ++ (⟨#[32]⟩ : ByteArray)) ++ t328) ++ (⟨#[32]⟩ : ByteArray)) ++ t329) ++ (⟨#[32, 115, 108, 101, 101, 112, 58]⟩ : ByteArray)).size + t330.size ≤ 9223372036854775807) = true := decide_eq_true c23
  try have c23b2 : (9223372036854775807 < (((((((((⟨#[112, 114, 111, 116, 111, 99, 111, 108, 32, 116, 111, 107, 101, 110, 10, 99, 111, 114, 101, 115, 32, 50, 32, 49, 32, 51, 10, 104, 111, 109, 101, 115, 32, 50, 32, 48, 10, 116, 97, 115, 107, 32, 122, 122, 32]⟩ : ByteArray) ++ t326) ++ (⟨#[32]⟩ : ByteArray)) ++ t327) ++ (⟨#[32]⟩ : ByteArray)) ++ t328) ++ (⟨#[32]⟩ : ByteArray)) ++ t329) ++ (⟨#[32, 115, 108, 101, 101, 112, 58]⟩ : ByteArray)).size + t330.size) = False := eq_false (Nat.not_lt.2 c23)
  try (have c23b3 := c23b2; (repeat rw [ByteArray.size_append] at c23b3); (try rw [show (⟨#[112, 114, 111, 116, 111, 99, 111, 108, 32, 116, 111, 107, 101, 110, 10, 99, 111, 114, 101, 115, 32, 50, 32, 49, 32, 51, 10, 104, 111, 109, 101, 115, 32, 50, 32, 48, 10, 116, 97, 115, 107, 32, 122, 122, 32]⟩ : ByteArray).size = 45 from rfl] at c23b3); (try rw [show (⟨#[32]⟩ : ByteArray).size = 1 from rfl] at c23b3); (try rw [show (⟨#[32, 115, 108, 101, 101, 112, 58]⟩ : ByteArray).size = 7 from rfl] at c23b3))
  by_cases c24 : ((((((((((⟨#[112, 114, 111, 116, 111, 99, 111, 108, 32, 116, 111, 107, 101, 110, 10, 99, 111, 114, 101, 115, 32, 50, 32, 49, 32, 51, 10, 104, 111, 109, 101, 115, 32, 50, 32, 48, 10, 116, 97, 115, 107, 32, 122, 122, 32]⟩ : ByteArray) ++ t326) ++ (⟨#[32]⟩ : ByteArray)) ++ t327) ++ (⟨#[32]⟩ : ByteArray)) ++ t328) ++ (⟨#[32]⟩ : ByteArray)) ++ t329) ++ (⟨#[32, 115, 108, 101, 101, 112, 58]⟩ : ByteArray)) ++ t330).size + 6 ≤ 9223372036854775807
  rotate_left
  · rw [if_neg c24] at H
    exact absurd H (by simp)
  rw [if_pos c24] at H
  have c24b0 := eq_true c24
  have c24b1 : decide (((((((((((⟨#[112, 114, 111, 116, 111, 99, 111, 108, 32, 116, 111, 107, 101, 110, 10, 99, 111, 114, 101, 115, 32, 50, 32, 49, 32, 51, 10, 104, 111, 109, 101, 115, 32, 50, 32, 48, 10, 116, 97, 115, 107, 32, 122, 122, 32]⟩ : ByteArray) ++ t326) ++ (⟨#[32]⟩ : ByteArray)) ++ t327) ++ (⟨#[32]⟩ : ByteArray)) ++ t328) ++ (⟨#[32]⟩ : ByteArray)) ++ t329) ++ (⟨#[32, 115, 108, 101, 101, 112, 58]⟩ : ByteArray)) ++ t330).size + 6 ≤ 9223372036854775807) = true := decide_eq_true c24
  try have c24b2 : (9223372036854775807 < ((((((((((⟨#[112, 114, 111, 116, 111, 99, 111, 108, 32, 116, 111, 107, 101, 110, 10, 99, 111, 114, 101, 115, 32, 50, 32, 49, 32, 51, 10, 104, 111, 109, 101, 115, 32, 50, 32, 48, 10, 116, 97, 115, 107, 32, 122, 122, 32]⟩ : ByteArray) ++ t326) ++ (⟨#[32]⟩ : ByteArray)) ++ t327) ++ (⟨#[32]⟩ : ByteArray)) ++ t328) ++ (⟨#[32]⟩ : ByteArray)) ++ t329) ++ (⟨#[32, 115, 108, 101, 101, 112, 58]⟩ : ByteArray)) ++ t330).size + 6) = False := eq_false (Nat.not_lt.2 c24)
  try (have c24b3 := c24b2; (repeat rw [ByteArray.size_append] at c24b3); (try rw [show (⟨#[112, 114, 111, 116, 111, 99, 111, 108, 32, 116, 111, 107, 101, 110, 10, 99, 111, 114, 101, 115, 32, 50, 32, 49, 32, 51, 10, 104, 111, 109, 101, 115, 32, 50, 32, 48, 10, 116, 97, 115, 107, 32, 122, 122, 32]⟩ : ByteArray).size = 45 from rfl] at c24b3); (try rw [show (⟨#[32]⟩ : ByteArray).size = 1 from rfl] at c24b3); (try rw [show (⟨#[32, 115, 108, 101, 101, 112, 58]⟩ : ByteArray).size = 7 from rfl] at c24b3))
  replace H := Option.bind_eq_some_iff.mp H
  obtain ⟨t331, A250, H⟩ := H
  replace H : (if (((((((((((⟨#[112, 114, 111, 116, 111, 99, 111, 108, 32, 116, 111, 107, 101, 110, 10, 99, 111, 114, 101, 115, 32, 50, 32, 49, 32, 51, 10, 104, 111, 109, 101, 115, 32, 50, 32, 48, 10, 116, 97, 115, 107, 32, 122, 122, 32]⟩ : ByteArray) ++ t326) ++ (⟨#[32]⟩ : ByteArray)) ++ t327) ++ (⟨#[32]⟩ : ByteArray)) ++ t328) ++ (⟨#[32]⟩ : ByteArray)) ++ t329) ++ (⟨#[32, 115, 108, 101, 101, 112, 58]⟩ : ByteArray)) ++ t330) ++ (⟨#[32, 108, 111, 99, 107, 58]⟩ : ByteArray)).size + t331.size ≤ 9223372036854775807 then (if ((((((((((((⟨#[112, 114, 111, 116, 111, 99, 111, 108, 32, 116, 111, 107, 101, 110, 10, 99, 111, 114, 101, 115, 32, 50, 32, 49, 32, 51, 10, 104, 111, 109, 101, 115, 32, 50, 32, 48, 10, 116, 97, 115, 107, 32, 122, 122, 32]⟩ : ByteArray) ++ t326) ++ (⟨#[32]⟩ : ByteArray)) ++ t327) ++ (⟨#[32]⟩ : ByteArray)) ++ t328) ++ (⟨#[32]⟩ : ByteArray)) ++ t329) ++ (⟨#[32, 115, 108, 101, 101, 112, 58]⟩ : ByteArray)) ++ t330) ++ (⟨#[32, 108, 111, 99, 107, 58]⟩ : ByteArray)) ++ t331).size + 1 ≤ 9223372036854775807 then ((sr_Text.f k (wrap64 ((wrap64 (Int.tmod a5 60)) + 1))).bind fun t332 => (if (((((((((((((⟨#[112, 114, 111, 116, 111, 99, 111, 108, 32, 116, 111, 107, 101, 110, 10, 99, 111, 114, 101, 115, 32, 50, 32, 49, 32, 51, 10, 104, 111, 109, 101, 115, 32, 50, 32, 48, 10, 116, 97, 115, 107, 32, 122, 122, 32]⟩ : ByteArray) ++ t326) ++ (⟨#[32]⟩ : ByteArray)) ++ t327) ++ (⟨#[32]⟩ : ByteArray)) ++ t328) ++ (⟨#[32]⟩ : ByteArray)) ++ t329) ++ (⟨#[32, 115, 108, 101, 101, 112, 58]⟩ : ByteArray)) ++ t330) ++ (⟨#[32, 108, 111, 99, 107, 58]⟩ : ByteArray)) ++ t331) ++ (⟨#[58]⟩ : ByteArray)).size + t332.size ≤ 9223372036854775807 then (if ((((((((((((((⟨#[112, 114, 111, 116, 111, 99, 111, 108, 32, 116, 111, 107, 101, 110, 10, 99, 111, 114, 101, 115, 32, 50, 32, 49, 32, 51, 10, 104, 111, 109, 101, 115, 32, 50, 32, 48, 10, 116, 97, 115, 107, 32, 122, 122, 32]⟩ : ByteArray) ++ t326) ++ (⟨#[32]⟩ : ByteArray)) ++ t327) ++ (⟨#[32]⟩ : ByteArray)) ++ t328) ++ (⟨#[32]⟩ : ByteArray)) ++ t329) ++ (⟨#[32, 115, 108, 101, 101, 112, 58]⟩ : ByteArray)) ++ t330) ++ (⟨#[32, 108, 111, 99, 107, 58]⟩ : ByteArray)) ++ t331) ++ (⟨#[58]⟩ : ByteArray)) ++ t332).size + 1 ≤ 9223372036854775807 then ((text_Parse.f k (((((((((((((((⟨#[112, 114, 111, 116, 111, 99, 111, 108, 32, 116, 111, 107, 101, 110, 10, 99, 111, 114, 101, 115, 32, 50, 32, 49, 32, 51, 10, 104, 111, 109, 101, 115, 32, 50, 32, 48, 10, 116, 97, 115, 107, 32, 122, 122, 32]⟩ : ByteArray) ++ t326) ++ (⟨#[32]⟩ : ByteArray)) ++ t327) ++ (⟨#[32]⟩ : ByteArray)) ++ t328) ++ (⟨#[32]⟩ : ByteArray)) ++ t329) ++ (⟨#[32, 115, 108, 101, 101, 112, 58]⟩ : ByteArray)) ++ t330) ++ (⟨#[32, 108, 111, 99, 107, 58]⟩ : ByteArray)) ++ t331) ++ (⟨#[58]⟩ : ByteArray)) ++ t332) ++ (⟨#[10]⟩ : ByteArray))).bind fun bt333 => (if bt333.2.2.2.2.2 = 0 then (if bt333.2.2.2.2.1 = 4 then ((sr_Same.f k bt333.1 bt333.2.1 bt333.2.2.1 bt333.2.2.2.1 3 (([2, 1, 3] : List Int)) (([2, 0] : List Int)) (([(⟨(⟨#[122, 122]⟩ : ByteArray), wrap64 ((wrap64 (Int.tmod a0 3000)) + 1), wrap64 ((Int.tmod (wrap64 (a1)) (wrap64 ((wrap64 (Int.tmod a0 3000)) + 1))) + 1), wrap64 ((wrap64 (Int.tmod a2 1000)) + 1), wrap64 (Int.tmod a3 3), (([(⟨2, wrap64 ((wrap64 (Int.tmod a5 60)) + 1), 0⟩ : S50), (⟨3, wrap64 ((wrap64 (Int.tmod a5 60)) + 1), wrap64 (Int.tmod a4 2)⟩ : S50)] : List (S50)))⟩ : S53)] : List (S53)))).bind fun t359 => (if t359 = true then ((text_Print.f k bt333.1 bt333.2.1 bt333.2.2.1 bt333.2.2.2.1).bind fun t360 => (some (t360.toList == (((((((((((((((⟨#[112, 114, 111, 116, 111, 99, 111, 108, 32, 116, 111, 107, 101, 110, 10, 99, 111, 114, 101, 115, 32, 50, 32, 49, 32, 51, 10, 104, 111, 109, 101, 115, 32, 50, 32, 48, 10, 116, 97, 115, 107, 32, 122, 122, 32]⟩ : ByteArray) ++ t326) ++ (⟨#[32]⟩ : ByteArray)) ++ t327) ++ (⟨#[32]⟩ : ByteArray)) ++ t328) ++ (⟨#[32]⟩ : ByteArray)) ++ t329) ++ (⟨#[32, 115, 108, 101, 101, 112, 58]⟩ : ByteArray)) ++ t330) ++ (⟨#[32, 108, 111, 99, 107, 58]⟩ : ByteArray)) ++ t331) ++ (⟨#[58]⟩ : ByteArray)) ++ t332) ++ (⟨#[10]⟩ : ByteArray)).toList))) else (some false))) else (some false)) else (some false))) else (none)) else (none))) else (none)) else (none)) = some r := H
  have A25 := Aside0.mk A250
  clear A250
  by_cases c26 : (((((((((((⟨#[112, 114, 111, 116, 111, 99, 111, 108, 32, 116, 111, 107, 101, 110, 10, 99, 111, 114, 101, 115, 32, 50, 32, 49, 32, 51, 10, 104, 111, 109, 101, 115, 32, 50, 32, 48, 10, 116, 97, 115, 107, 32, 122, 122, 32]⟩ : ByteArray) ++ t326) ++ (⟨#[32]⟩ : ByteArray)) ++ t327) ++ (⟨#[32]⟩ : ByteArray)) ++ t328) ++ (⟨#[32]⟩ : ByteArray)) ++ t329) ++ (⟨#[32, 115, 108, 101, 101, 112, 58]⟩ : ByteArray)) ++ t330) ++ (⟨#[32, 108, 111, 99, 107, 58]⟩ : ByteArray)).size + t331.size ≤ 9223372036854775807
  rotate_left
  · rw [if_neg c26] at H
    exact absurd H (by simp)
  rw [if_pos c26] at H
  have c26b0 := eq_true c26
  have c26b1 : decide ((((((((((((⟨#[112, 114, 111, 116, 111, 99, 111, 108, 32, 116, 111, 107, 101, 110, 10, 99, 111, 114, 101, 115, 32, 50, 32, 49, 32, 51, 10, 104, 111, 109, 101, 115, 32, 50, 32, 48, 10, 116, 97, 115, 107, 32, 122, 122, 32]⟩ : ByteArray) ++ t326) ++ (⟨#[32]⟩ : ByteArray)) ++ t327) ++ (⟨#[32]⟩ : ByteArray)) ++ t328) ++ (⟨#[32]⟩ : ByteArray)) ++ t329) ++ (⟨#[32, 115, 108, 101, 101, 112, 58]⟩ : ByteArray)) ++ t330) ++ (⟨#[32, 108, 111, 99, 107, 58]⟩ : ByteArray)).size + t331.size ≤ 9223372036854775807) = true := decide_eq_true c26
  try have c26b2 : (9223372036854775807 < (((((((((((⟨#[112, 114, 111, 116, 111, 99, 111, 108, 32, 116, 111, 107, 101, 110, 10, 99, 111, 114, 101, 115, 32, 50, 32, 49, 32, 51, 10, 104, 111, 109, 101, 115, 32, 50, 32, 48, 10, 116, 97, 115, 107, 32, 122, 122, 32]⟩ : ByteArray) ++ t326) ++ (⟨#[32]⟩ : ByteArray)) ++ t327) ++ (⟨#[32]⟩ : ByteArray)) ++ t328) ++ (⟨#[32]⟩ : ByteArray)) ++ t329) ++ (⟨#[32, 115, 108, 101, 101, 112, 58]⟩ : ByteArray)) ++ t330) ++ (⟨#[32, 108, 111, 99, 107, 58]⟩ : ByteArray)).size + t331.size) = False := eq_false (Nat.not_lt.2 c26)
  try (have c26b3 := c26b2; (repeat rw [ByteArray.size_append] at c26b3); (try rw [show (⟨#[112, 114, 111, 116, 111, 99, 111, 108, 32, 116, 111, 107, 101, 110, 10, 99, 111, 114, 101, 115, 32, 50, 32, 49, 32, 51, 10, 104, 111, 109, 101, 115, 32, 50, 32, 48, 10, 116, 97, 115, 107, 32, 122, 122, 32]⟩ : ByteArray).size = 45 from rfl] at c26b3); (try rw [show (⟨#[32]⟩ : ByteArray).size = 1 from rfl] at c26b3); (try rw [show (⟨#[32, 115, 108, 101, 101, 112, 58]⟩ : ByteArray).size = 7 from rfl] at c26b3); (try rw [show (⟨#[32, 108, 111, 99, 107, 58]⟩ : ByteArray).size = 6 from rfl] at c26b3))
  by_cases c27 : ((((((((((((⟨#[112, 114, 111, 116, 111, 99, 111, 108, 32, 116, 111, 107, 101, 110, 10, 99, 111, 114, 101, 115, 32, 50, 32, 49, 32, 51, 10, 104, 111, 109, 101, 115, 32, 50, 32, 48, 10, 116, 97, 115, 107, 32, 122, 122, 32]⟩ : ByteArray) ++ t326) ++ (⟨#[32]⟩ : ByteArray)) ++ t327) ++ (⟨#[32]⟩ : ByteArray)) ++ t328) ++ (⟨#[32]⟩ : ByteArray)) ++ t329) ++ (⟨#[32, 115, 108, 101, 101, 112, 58]⟩ : ByteArray)) ++ t330) ++ (⟨#[32, 108, 111, 99, 107, 58]⟩ : ByteArray)) ++ t331).size + 1 ≤ 9223372036854775807
  rotate_left
  · rw [if_neg c27] at H
    exact absurd H (by simp)
  rw [if_pos c27] at H
  have c27b0 := eq_true c27
  have c27b1 : decide (((((((((((((⟨#[112, 114, 111, 116, 111, 99, 111, 108, 32, 116, 111, 107, 101, 110, 10, 99, 111, 114, 101, 115, 32, 50, 32, 49, 32, 51, 10, 104, 111, 109, 101, 115, 32, 50, 32, 48, 10, 116, 97, 115, 107, 32, 122, 122, 32]⟩ : ByteArray) ++ t326) ++ (⟨#[32]⟩ : ByteArray)) ++ t327) ++ (⟨#[32]⟩ : ByteArray)) ++ t328) ++ (⟨#[32]⟩ : ByteArray)) ++ t329) ++ (⟨#[32, 115, 108, 101, 101, 112, 58]⟩ : ByteArray)) ++ t330) ++ (⟨#[32, 108, 111, 99, 107, 58]⟩ : ByteArray)) ++ t331).size + 1 ≤ 9223372036854775807) = true := decide_eq_true c27
  try have c27b2 : (9223372036854775807 < ((((((((((((⟨#[112, 114, 111, 116, 111, 99, 111, 108, 32, 116, 111, 107, 101, 110, 10, 99, 111, 114, 101, 115, 32, 50, 32, 49, 32, 51, 10, 104, 111, 109, 101, 115, 32, 50, 32, 48, 10, 116, 97, 115, 107, 32, 122, 122, 32]⟩ : ByteArray) ++ t326) ++ (⟨#[32]⟩ : ByteArray)) ++ t327) ++ (⟨#[32]⟩ : ByteArray)) ++ t328) ++ (⟨#[32]⟩ : ByteArray)) ++ t329) ++ (⟨#[32, 115, 108, 101, 101, 112, 58]⟩ : ByteArray)) ++ t330) ++ (⟨#[32, 108, 111, 99, 107, 58]⟩ : ByteArray)) ++ t331).size + 1) = False := eq_false (Nat.not_lt.2 c27)
  try (have c27b3 := c27b2; (repeat rw [ByteArray.size_append] at c27b3); (try rw [show (⟨#[112, 114, 111, 116, 111, 99, 111, 108, 32, 116, 111, 107, 101, 110, 10, 99, 111, 114, 101, 115, 32, 50, 32, 49, 32, 51, 10, 104, 111, 109, 101, 115, 32, 50, 32, 48, 10, 116, 97, 115, 107, 32, 122, 122, 32]⟩ : ByteArray).size = 45 from rfl] at c27b3); (try rw [show (⟨#[32]⟩ : ByteArray).size = 1 from rfl] at c27b3); (try rw [show (⟨#[32, 115, 108, 101, 101, 112, 58]⟩ : ByteArray).size = 7 from rfl] at c27b3); (try rw [show (⟨#[32, 108, 111, 99, 107, 58]⟩ : ByteArray).size = 6 from rfl] at c27b3))
  replace H := Option.bind_eq_some_iff.mp H
  obtain ⟨t332, A280, H⟩ := H
  replace H : (if (((((((((((((⟨#[112, 114, 111, 116, 111, 99, 111, 108, 32, 116, 111, 107, 101, 110, 10, 99, 111, 114, 101, 115, 32, 50, 32, 49, 32, 51, 10, 104, 111, 109, 101, 115, 32, 50, 32, 48, 10, 116, 97, 115, 107, 32, 122, 122, 32]⟩ : ByteArray) ++ t326) ++ (⟨#[32]⟩ : ByteArray)) ++ t327) ++ (⟨#[32]⟩ : ByteArray)) ++ t328) ++ (⟨#[32]⟩ : ByteArray)) ++ t329) ++ (⟨#[32, 115, 108, 101, 101, 112, 58]⟩ : ByteArray)) ++ t330) ++ (⟨#[32, 108, 111, 99, 107, 58]⟩ : ByteArray)) ++ t331) ++ (⟨#[58]⟩ : ByteArray)).size + t332.size ≤ 9223372036854775807 then (if ((((((((((((((⟨#[112, 114, 111, 116, 111, 99, 111, 108, 32, 116, 111, 107, 101, 110, 10, 99, 111, 114, 101, 115, 32, 50, 32, 49, 32, 51, 10, 104, 111, 109, 101, 115, 32, 50, 32, 48, 10, 116, 97, 115, 107, 32, 122, 122, 32]⟩ : ByteArray) ++ t326) ++ (⟨#[32]⟩ : ByteArray)) ++ t327) ++ (⟨#[32]⟩ : ByteArray)) ++ t328) ++ (⟨#[32]⟩ : ByteArray)) ++ t329) ++ (⟨#[32, 115, 108, 101, 101, 112, 58]⟩ : ByteArray)) ++ t330) ++ (⟨#[32, 108, 111, 99, 107, 58]⟩ : ByteArray)) ++ t331) ++ (⟨#[58]⟩ : ByteArray)) ++ t332).size + 1 ≤ 9223372036854775807 then ((text_Parse.f k (((((((((((((((⟨#[112, 114, 111, 116, 111, 99, 111, 108, 32, 116, 111, 107, 101, 110, 10, 99, 111, 114, 101, 115, 32, 50, 32, 49, 32, 51, 10, 104, 111, 109, 101, 115, 32, 50, 32, 48, 10, 116, 97, 115, 107, 32, 122, 122, 32]⟩ : ByteArray) ++ t326) ++ (⟨#[32]⟩ : ByteArray)) ++ t327) ++ (⟨#[32]⟩ : ByteArray)) ++ t328) ++ (⟨#[32]⟩ : ByteArray)) ++ t329) ++ (⟨#[32, 115, 108, 101, 101, 112, 58]⟩ : ByteArray)) ++ t330) ++ (⟨#[32, 108, 111, 99, 107, 58]⟩ : ByteArray)) ++ t331) ++ (⟨#[58]⟩ : ByteArray)) ++ t332) ++ (⟨#[10]⟩ : ByteArray))).bind fun bt333 => (if bt333.2.2.2.2.2 = 0 then (if bt333.2.2.2.2.1 = 4 then ((sr_Same.f k bt333.1 bt333.2.1 bt333.2.2.1 bt333.2.2.2.1 3 (([2, 1, 3] : List Int)) (([2, 0] : List Int)) (([(⟨(⟨#[122, 122]⟩ : ByteArray), wrap64 ((wrap64 (Int.tmod a0 3000)) + 1), wrap64 ((Int.tmod (wrap64 (a1)) (wrap64 ((wrap64 (Int.tmod a0 3000)) + 1))) + 1), wrap64 ((wrap64 (Int.tmod a2 1000)) + 1), wrap64 (Int.tmod a3 3), (([(⟨2, wrap64 ((wrap64 (Int.tmod a5 60)) + 1), 0⟩ : S50), (⟨3, wrap64 ((wrap64 (Int.tmod a5 60)) + 1), wrap64 (Int.tmod a4 2)⟩ : S50)] : List (S50)))⟩ : S53)] : List (S53)))).bind fun t359 => (if t359 = true then ((text_Print.f k bt333.1 bt333.2.1 bt333.2.2.1 bt333.2.2.2.1).bind fun t360 => (some (t360.toList == (((((((((((((((⟨#[112, 114, 111, 116, 111, 99, 111, 108, 32, 116, 111, 107, 101, 110, 10, 99, 111, 114, 101, 115, 32, 50, 32, 49, 32, 51, 10, 104, 111, 109, 101, 115, 32, 50, 32, 48, 10, 116, 97, 115, 107, 32, 122, 122, 32]⟩ : ByteArray) ++ t326) ++ (⟨#[32]⟩ : ByteArray)) ++ t327) ++ (⟨#[32]⟩ : ByteArray)) ++ t328) ++ (⟨#[32]⟩ : ByteArray)) ++ t329) ++ (⟨#[32, 115, 108, 101, 101, 112, 58]⟩ : ByteArray)) ++ t330) ++ (⟨#[32, 108, 111, 99, 107, 58]⟩ : ByteArray)) ++ t331) ++ (⟨#[58]⟩ : ByteArray)) ++ t332) ++ (⟨#[10]⟩ : ByteArray)).toList))) else (some false))) else (some false)) else (some false))) else (none)) else (none)) = some r := H
  have A28 := Aside0.mk A280
  clear A280
  by_cases c29 : (((((((((((((⟨#[112, 114, 111, 116, 111, 99, 111, 108, 32, 116, 111, 107, 101, 110, 10, 99, 111, 114, 101, 115, 32, 50, 32, 49, 32, 51, 10, 104, 111, 109, 101, 115, 32, 50, 32, 48, 10, 116, 97, 115, 107, 32, 122, 122, 32]⟩ : ByteArray) ++ t326) ++ (⟨#[32]⟩ : ByteArray)) ++ t327) ++ (⟨#[32]⟩ : ByteArray)) ++ t328) ++ (⟨#[32]⟩ : ByteArray)) ++ t329) ++ (⟨#[32, 115, 108, 101, 101, 112, 58]⟩ : ByteArray)) ++ t330) ++ (⟨#[32, 108, 111, 99, 107, 58]⟩ : ByteArray)) ++ t331) ++ (⟨#[58]⟩ : ByteArray)).size + t332.size ≤ 9223372036854775807
  rotate_left
  · rw [if_neg c29] at H
    exact absurd H (by simp)
  rw [if_pos c29] at H
  have c29b0 := eq_true c29
  have c29b1 : decide ((((((((((((((⟨#[112, 114, 111, 116, 111, 99, 111, 108, 32, 116, 111, 107, 101, 110, 10, 99, 111, 114, 101, 115, 32, 50, 32, 49, 32, 51, 10, 104, 111, 109, 101, 115, 32, 50, 32, 48, 10, 116, 97, 115, 107, 32, 122, 122, 32]⟩ : ByteArray) ++ t326) ++ (⟨#[32]⟩ : ByteArray)) ++ t327) ++ (⟨#[32]⟩ : ByteArray)) ++ t328) ++ (⟨#[32]⟩ : ByteArray)) ++ t329) ++ (⟨#[32, 115, 108, 101, 101, 112, 58]⟩ : ByteArray)) ++ t330) ++ (⟨#[32, 108, 111, 99, 107, 58]⟩ : ByteArray)) ++ t331) ++ (⟨#[58]⟩ : ByteArray)).size + t332.size ≤ 9223372036854775807) = true := decide_eq_true c29
  try have c29b2 : (9223372036854775807 < (((((((((((((⟨#[112, 114, 111, 116, 111, 99, 111, 108, 32, 116, 111, 107, 101, 110, 10, 99, 111, 114, 101, 115, 32, 50, 32, 49, 32, 51, 10, 104, 111, 109, 101, 115, 32, 50, 32, 48, 10, 116, 97, 115, 107, 32, 122, 122, 32]⟩ : ByteArray) ++ t326) ++ (⟨#[32]⟩ : ByteArray)) ++ t327) ++ (⟨#[32]⟩ : ByteArray)) ++ t328) ++ (⟨#[32]⟩ : ByteArray)) ++ t329) ++ (⟨#[32, 115, 108, 101, 101, 112, 58]⟩ : ByteArray)) ++ t330) ++ (⟨#[32, 108, 111, 99, 107, 58]⟩ : ByteArray)) ++ t331) ++ (⟨#[58]⟩ : ByteArray)).size + t332.size) = False := eq_false (Nat.not_lt.2 c29)
  try (have c29b3 := c29b2; (repeat rw [ByteArray.size_append] at c29b3); (try rw [show (⟨#[112, 114, 111, 116, 111, 99, 111, 108, 32, 116, 111, 107, 101, 110, 10, 99, 111, 114, 101, 115, 32, 50, 32, 49, 32, 51, 10, 104, 111, 109, 101, 115, 32, 50, 32, 48, 10, 116, 97, 115, 107, 32, 122, 122, 32]⟩ : ByteArray).size = 45 from rfl] at c29b3); (try rw [show (⟨#[32]⟩ : ByteArray).size = 1 from rfl] at c29b3); (try rw [show (⟨#[32, 115, 108, 101, 101, 112, 58]⟩ : ByteArray).size = 7 from rfl] at c29b3); (try rw [show (⟨#[32, 108, 111, 99, 107, 58]⟩ : ByteArray).size = 6 from rfl] at c29b3); (try rw [show (⟨#[58]⟩ : ByteArray).size = 1 from rfl] at c29b3))
  by_cases c30 : ((((((((((((((⟨#[112, 114, 111, 116, 111, 99, 111, 108, 32, 116, 111, 107, 101, 110, 10, 99, 111, 114, 101, 115, 32, 50, 32, 49, 32, 51, 10, 104, 111, 109, 101, 115, 32, 50, 32, 48, 10, 116, 97, 115, 107, 32, 122, 122, 32]⟩ : ByteArray) ++ t326) ++ (⟨#[32]⟩ : ByteArray)) ++ t327) ++ (⟨#[32]⟩ : ByteArray)) ++ t328) ++ (⟨#[32]⟩ : ByteArray)) ++ t329) ++ (⟨#[32, 115, 108, 101, 101, 112, 58]⟩ : ByteArray)) ++ t330) ++ (⟨#[32, 108, 111, 99, 107, 58]⟩ : ByteArray)) ++ t331) ++ (⟨#[58]⟩ : ByteArray)) ++ t332).size + 1 ≤ 9223372036854775807
  rotate_left
  · rw [if_neg c30] at H
    exact absurd H (by simp)
  rw [if_pos c30] at H
  have c30b0 := eq_true c30
  have c30b1 : decide (((((((((((((((⟨#[112, 114, 111, 116, 111, 99, 111, 108, 32, 116, 111, 107, 101, 110, 10, 99, 111, 114, 101, 115, 32, 50, 32, 49, 32, 51, 10, 104, 111, 109, 101, 115, 32, 50, 32, 48, 10, 116, 97, 115, 107, 32, 122, 122, 32]⟩ : ByteArray) ++ t326) ++ (⟨#[32]⟩ : ByteArray)) ++ t327) ++ (⟨#[32]⟩ : ByteArray)) ++ t328) ++ (⟨#[32]⟩ : ByteArray)) ++ t329) ++ (⟨#[32, 115, 108, 101, 101, 112, 58]⟩ : ByteArray)) ++ t330) ++ (⟨#[32, 108, 111, 99, 107, 58]⟩ : ByteArray)) ++ t331) ++ (⟨#[58]⟩ : ByteArray)) ++ t332).size + 1 ≤ 9223372036854775807) = true := decide_eq_true c30
  try have c30b2 : (9223372036854775807 < ((((((((((((((⟨#[112, 114, 111, 116, 111, 99, 111, 108, 32, 116, 111, 107, 101, 110, 10, 99, 111, 114, 101, 115, 32, 50, 32, 49, 32, 51, 10, 104, 111, 109, 101, 115, 32, 50, 32, 48, 10, 116, 97, 115, 107, 32, 122, 122, 32]⟩ : ByteArray) ++ t326) ++ (⟨#[32]⟩ : ByteArray)) ++ t327) ++ (⟨#[32]⟩ : ByteArray)) ++ t328) ++ (⟨#[32]⟩ : ByteArray)) ++ t329) ++ (⟨#[32, 115, 108, 101, 101, 112, 58]⟩ : ByteArray)) ++ t330) ++ (⟨#[32, 108, 111, 99, 107, 58]⟩ : ByteArray)) ++ t331) ++ (⟨#[58]⟩ : ByteArray)) ++ t332).size + 1) = False := eq_false (Nat.not_lt.2 c30)
  try (have c30b3 := c30b2; (repeat rw [ByteArray.size_append] at c30b3); (try rw [show (⟨#[112, 114, 111, 116, 111, 99, 111, 108, 32, 116, 111, 107, 101, 110, 10, 99, 111, 114, 101, 115, 32, 50, 32, 49, 32, 51, 10, 104, 111, 109, 101, 115, 32, 50, 32, 48, 10, 116, 97, 115, 107, 32, 122, 122, 32]⟩ : ByteArray).size = 45 from rfl] at c30b3); (try rw [show (⟨#[32]⟩ : ByteArray).size = 1 from rfl] at c30b3); (try rw [show (⟨#[32, 115, 108, 101, 101, 112, 58]⟩ : ByteArray).size = 7 from rfl] at c30b3); (try rw [show (⟨#[32, 108, 111, 99, 107, 58]⟩ : ByteArray).size = 6 from rfl] at c30b3); (try rw [show (⟨#[58]⟩ : ByteArray).size = 1 from rfl] at c30b3))
  replace H := Option.bind_eq_some_iff.mp H
  obtain ⟨⟨t333, t334, t337, t340, t343, t344⟩, A310, H⟩ := H
  replace H : (if t344 = 0 then (if t343 = 4 then ((sr_Same.f k t333 t334 t337 t340 3 (([2, 1, 3] : List Int)) (([2, 0] : List Int)) (([(⟨(⟨#[122, 122]⟩ : ByteArray), wrap64 ((wrap64 (Int.tmod a0 3000)) + 1), wrap64 ((Int.tmod (wrap64 (a1)) (wrap64 ((wrap64 (Int.tmod a0 3000)) + 1))) + 1), wrap64 ((wrap64 (Int.tmod a2 1000)) + 1), wrap64 (Int.tmod a3 3), (([(⟨2, wrap64 ((wrap64 (Int.tmod a5 60)) + 1), 0⟩ : S50), (⟨3, wrap64 ((wrap64 (Int.tmod a5 60)) + 1), wrap64 (Int.tmod a4 2)⟩ : S50)] : List (S50)))⟩ : S53)] : List (S53)))).bind fun t359 => (if t359 = true then ((text_Print.f k t333 t334 t337 t340).bind fun t360 => (some (t360.toList == (((((((((((((((⟨#[112, 114, 111, 116, 111, 99, 111, 108, 32, 116, 111, 107, 101, 110, 10, 99, 111, 114, 101, 115, 32, 50, 32, 49, 32, 51, 10, 104, 111, 109, 101, 115, 32, 50, 32, 48, 10, 116, 97, 115, 107, 32, 122, 122, 32]⟩ : ByteArray) ++ t326) ++ (⟨#[32]⟩ : ByteArray)) ++ t327) ++ (⟨#[32]⟩ : ByteArray)) ++ t328) ++ (⟨#[32]⟩ : ByteArray)) ++ t329) ++ (⟨#[32, 115, 108, 101, 101, 112, 58]⟩ : ByteArray)) ++ t330) ++ (⟨#[32, 108, 111, 99, 107, 58]⟩ : ByteArray)) ++ t331) ++ (⟨#[58]⟩ : ByteArray)) ++ t332) ++ (⟨#[10]⟩ : ByteArray)).toList))) else (some false))) else (some false)) else (some false)) = some r := H
  have A31 := Aside0.mk A310
  clear A310
  obtain ⟨y346, hy346⟩ : ∃ y_ : List Int, y_ = (([2, 1, 3] : List Int)) := ⟨_, rfl⟩
  replace H : (if t344 = 0 then (if t343 = 4 then ((sr_Same.f k t333 t334 t337 t340 3 y346 (([2, 0] : List Int)) (([(⟨(⟨#[122, 122]⟩ : ByteArray), wrap64 ((wrap64 (Int.tmod a0 3000)) + 1), wrap64 ((Int.tmod (wrap64 (a1)) (wrap64 ((wrap64 (Int.tmod a0 3000)) + 1))) + 1), wrap64 ((wrap64 (Int.tmod a2 1000)) + 1), wrap64 (Int.tmod a3 3), (([(⟨2, wrap64 ((wrap64 (Int.tmod a5 60)) + 1), 0⟩ : S50), (⟨3, wrap64 ((wrap64 (Int.tmod a5 60)) + 1), wrap64 (Int.tmod a4 2)⟩ : S50)] : List (S50)))⟩ : S53)] : List (S53)))).bind fun t359 => (if t359 = true then ((text_Print.f k t333 t334 t337 t340).bind fun t360 => (some (t360.toList == (((((((((((((((⟨#[112, 114, 111, 116, 111, 99, 111, 108, 32, 116, 111, 107, 101, 110, 10, 99, 111, 114, 101, 115, 32, 50, 32, 49, 32, 51, 10, 104, 111, 109, 101, 115, 32, 50, 32, 48, 10, 116, 97, 115, 107, 32, 122, 122, 32]⟩ : ByteArray) ++ t326) ++ (⟨#[32]⟩ : ByteArray)) ++ t327) ++ (⟨#[32]⟩ : ByteArray)) ++ t328) ++ (⟨#[32]⟩ : ByteArray)) ++ t329) ++ (⟨#[32, 115, 108, 101, 101, 112, 58]⟩ : ByteArray)) ++ t330) ++ (⟨#[32, 108, 111, 99, 107, 58]⟩ : ByteArray)) ++ t331) ++ (⟨#[58]⟩ : ByteArray)) ++ t332) ++ (⟨#[10]⟩ : ByteArray)).toList))) else (some false))) else (some false)) else (some false)) = some r := by first | (rw [hy346]; with_reducible exact H) | (have H2_ := (Option.bind_some _ _).symm.trans H; rw [hy346]; with_reducible exact H2_) | (have H2_ := (Option.bind_some _ _).symm.trans H; with_reducible exact H2_) | with_reducible exact H | (rw [hy346]; exact H) | exact H
  have Ny346 := Aside0.mk hy346
  clear hy346
  obtain ⟨y349, hy349⟩ : ∃ y_ : List Int, y_ = (([2, 0] : List Int)) := ⟨_, rfl⟩
  replace H : (if t344 = 0 then (if t343 = 4 then ((sr_Same.f k t333 t334 t337 t340 3 y346 y349 (([(⟨(⟨#[122, 122]⟩ : ByteArray), wrap64 ((wrap64 (Int.tmod a0 3000)) + 1), wrap64 ((Int.tmod (wrap64 (a1)) (wrap64 ((wrap64 (Int.tmod a0 3000)) + 1))) + 1), wrap64 ((wrap64 (Int.tmod a2 1000)) + 1), wrap64 (Int.tmod a3 3), (([(⟨2, wrap64 ((wrap64 (Int.tmod a5 60)) + 1), 0⟩ : S50), (⟨3, wrap64 ((wrap64 (Int.tmod a5 60)) + 1), wrap64 (Int.tmod a4 2)⟩ : S50)] : List (S50)))⟩ : S53)] : List (S53)))).bind fun t359 => (if t359 = true then ((text_Print.f k t333 t334 t337 t340).bind fun t360 => (some (t360.toList == (((((((((((((((⟨#[112, 114, 111, 116, 111, 99, 111, 108, 32, 116, 111, 107, 101, 110, 10, 99, 111, 114, 101, 115, 32, 50, 32, 49, 32, 51, 10, 104, 111, 109, 101, 115, 32, 50, 32, 48, 10, 116, 97, 115, 107, 32, 122, 122, 32]⟩ : ByteArray) ++ t326) ++ (⟨#[32]⟩ : ByteArray)) ++ t327) ++ (⟨#[32]⟩ : ByteArray)) ++ t328) ++ (⟨#[32]⟩ : ByteArray)) ++ t329) ++ (⟨#[32, 115, 108, 101, 101, 112, 58]⟩ : ByteArray)) ++ t330) ++ (⟨#[32, 108, 111, 99, 107, 58]⟩ : ByteArray)) ++ t331) ++ (⟨#[58]⟩ : ByteArray)) ++ t332) ++ (⟨#[10]⟩ : ByteArray)).toList))) else (some false))) else (some false)) else (some false)) = some r := by first | (rw [hy349]; with_reducible exact H) | (have H2_ := (Option.bind_some _ _).symm.trans H; rw [hy349]; with_reducible exact H2_) | (have H2_ := (Option.bind_some _ _).symm.trans H; with_reducible exact H2_) | with_reducible exact H | (rw [hy349]; exact H) | exact H
  have Ny349 := Aside0.mk hy349
  clear hy349
  obtain ⟨y352, hy352⟩ : ∃ y_ : List (S50), y_ = (([(⟨2, wrap64 ((wrap64 (Int.tmod a5 60)) + 1), 0⟩ : S50), (⟨3, wrap64 ((wrap64 (Int.tmod a5 60)) + 1), wrap64 (Int.tmod a4 2)⟩ : S50)] : List (S50))) := ⟨_, rfl⟩
  replace H : (if t344 = 0 then (if t343 = 4 then ((sr_Same.f k t333 t334 t337 t340 3 y346 y349 (([(⟨(⟨#[122, 122]⟩ : ByteArray), wrap64 ((wrap64 (Int.tmod a0 3000)) + 1), wrap64 ((Int.tmod (wrap64 (a1)) (wrap64 ((wrap64 (Int.tmod a0 3000)) + 1))) + 1), wrap64 ((wrap64 (Int.tmod a2 1000)) + 1), wrap64 (Int.tmod a3 3), y352⟩ : S53)] : List (S53)))).bind fun t359 => (if t359 = true then ((text_Print.f k t333 t334 t337 t340).bind fun t360 => (some (t360.toList == (((((((((((((((⟨#[112, 114, 111, 116, 111, 99, 111, 108, 32, 116, 111, 107, 101, 110, 10, 99, 111, 114, 101, 115, 32, 50, 32, 49, 32, 51, 10, 104, 111, 109, 101, 115, 32, 50, 32, 48, 10, 116, 97, 115, 107, 32, 122, 122, 32]⟩ : ByteArray) ++ t326) ++ (⟨#[32]⟩ : ByteArray)) ++ t327) ++ (⟨#[32]⟩ : ByteArray)) ++ t328) ++ (⟨#[32]⟩ : ByteArray)) ++ t329) ++ (⟨#[32, 115, 108, 101, 101, 112, 58]⟩ : ByteArray)) ++ t330) ++ (⟨#[32, 108, 111, 99, 107, 58]⟩ : ByteArray)) ++ t331) ++ (⟨#[58]⟩ : ByteArray)) ++ t332) ++ (⟨#[10]⟩ : ByteArray)).toList))) else (some false))) else (some false)) else (some false)) = some r := by first | (rw [hy352]; with_reducible exact H) | (have H2_ := (Option.bind_some _ _).symm.trans H; rw [hy352]; with_reducible exact H2_) | (have H2_ := (Option.bind_some _ _).symm.trans H; with_reducible exact H2_) | with_reducible exact H | (rw [hy352]; exact H) | exact H
  have Ny352 := Aside0.mk hy352
  clear hy352
  obtain ⟨y355, hy355⟩ : ∃ y_ : List (S53), y_ = (([(⟨(⟨#[122, 122]⟩ : ByteArray), wrap64 ((wrap64 (Int.tmod a0 3000)) + 1), wrap64 ((Int.tmod (wrap64 (a1)) (wrap64 ((wrap64 (Int.tmod a0 3000)) + 1))) + 1), wrap64 ((wrap64 (Int.tmod a2 1000)) + 1), wrap64 (Int.tmod a3 3), y352⟩ : S53)] : List (S53))) := ⟨_, rfl⟩
  replace H : (if t344 = 0 then (if t343 = 4 then ((sr_Same.f k t333 t334 t337 t340 3 y346 y349 y355).bind fun t359 => (if t359 = true then ((text_Print.f k t333 t334 t337 t340).bind fun t360 => (some (t360.toList == (((((((((((((((⟨#[112, 114, 111, 116, 111, 99, 111, 108, 32, 116, 111, 107, 101, 110, 10, 99, 111, 114, 101, 115, 32, 50, 32, 49, 32, 51, 10, 104, 111, 109, 101, 115, 32, 50, 32, 48, 10, 116, 97, 115, 107, 32, 122, 122, 32]⟩ : ByteArray) ++ t326) ++ (⟨#[32]⟩ : ByteArray)) ++ t327) ++ (⟨#[32]⟩ : ByteArray)) ++ t328) ++ (⟨#[32]⟩ : ByteArray)) ++ t329) ++ (⟨#[32, 115, 108, 101, 101, 112, 58]⟩ : ByteArray)) ++ t330) ++ (⟨#[32, 108, 111, 99, 107, 58]⟩ : ByteArray)) ++ t331) ++ (⟨#[58]⟩ : ByteArray)) ++ t332) ++ (⟨#[10]⟩ : ByteArray)).toList))) else (some false))) else (some false)) else (some false)) = some r := by first | (rw [hy355]; with_reducible exact H) | (have H2_ := (Option.bind_some _ _).symm.trans H; rw [hy355]; with_reducible exact H2_) | (have H2_ := (Option.bind_some _ _).symm.trans H; with_reducible exact H2_) | with_reducible exact H | (rw [hy355]; exact H) | exact H
  have Ny355 := Aside0.mk hy355
  clear hy355
  by_cases c32 : t344 = 0
  rotate_left
  · rw [if_neg c32] at H
    have c32b0 : (t344 == 0) = false := beq_eq_false_iff_ne.mpr c32
    have c32b1 : (t344 != 0) = true := bne_iff_ne.mpr c32
    exact absurd ((Option.some.inj H).trans hT_.out) (by simp)
  rw [if_pos c32] at H
  have c32b0 : (t344 == 0) = true := beq_iff_eq.mpr c32
  have c32b1 : (t344 != 0) = false := bne_eq_false_iff_eq.mpr c32
  clear c32
  by_cases c33 : t343 = 4
  rotate_left
  · rw [if_neg c33] at H
    have c33b0 : (t343 == 4) = false := beq_eq_false_iff_ne.mpr c33
    have c33b1 : (t343 != 4) = true := bne_iff_ne.mpr c33
    exact absurd ((Option.some.inj H).trans hT_.out) (by simp)
  rw [if_pos c33] at H
  have c33b0 : (t343 == 4) = true := beq_iff_eq.mpr c33
  have c33b1 : (t343 != 4) = false := bne_eq_false_iff_eq.mpr c33
  clear c33
  replace H := Option.bind_eq_some_iff.mp H
  obtain ⟨t359, A340, H⟩ := H
  replace H : (if t359 = true then ((text_Print.f k t333 t334 t337 t340).bind fun t360 => (some (t360.toList == (((((((((((((((⟨#[112, 114, 111, 116, 111, 99, 111, 108, 32, 116, 111, 107, 101, 110, 10, 99, 111, 114, 101, 115, 32, 50, 32, 49, 32, 51, 10, 104, 111, 109, 101, 115, 32, 50, 32, 48, 10, 116, 97, 115, 107, 32, 122, 122, 32]⟩ : ByteArray) ++ t326) ++ (⟨#[32]⟩ : ByteArray)) ++ t327) ++ (⟨#[32]⟩ : ByteArray)) ++ t328) ++ (⟨#[32]⟩ : ByteArray)) ++ t329) ++ (⟨#[32, 115, 108, 101, 101, 112, 58]⟩ : ByteArray)) ++ t330) ++ (⟨#[32, 108, 111, 99, 107, 58]⟩ : ByteArray)) ++ t331) ++ (⟨#[58]⟩ : ByteArray)) ++ t332) ++ (⟨#[10]⟩ : ByteArray)).toList))) else (some false)) = some r := H
  have A34 := Aside0.mk A340
  clear A340
  by_cases c35 : t359 = true
  rotate_left
  · replace c35 := Bool.eq_false_iff.mpr c35
    subst c35
    have H1 : (some false) = some r := by rw [if_neg (show ¬ (false = true) by decide)] at H; exact H
    clear H
    have H := H1
    clear H1
    exact absurd ((Option.some.inj H).trans hT_.out) (by simp)
  subst c35
  have H1 : ((text_Print.f k t333 t334 t337 t340).bind fun t360 => (some (t360.toList == (((((((((((((((⟨#[112, 114, 111, 116, 111, 99, 111, 108, 32, 116, 111, 107, 101, 110, 10, 99, 111, 114, 101, 115, 32, 50, 32, 49, 32, 51, 10, 104, 111, 109, 101, 115, 32, 50, 32, 48, 10, 116, 97, 115, 107, 32, 122, 122, 32]⟩ : ByteArray) ++ t326) ++ (⟨#[32]⟩ : ByteArray)) ++ t327) ++ (⟨#[32]⟩ : ByteArray)) ++ t328) ++ (⟨#[32]⟩ : ByteArray)) ++ t329) ++ (⟨#[32, 115, 108, 101, 101, 112, 58]⟩ : ByteArray)) ++ t330) ++ (⟨#[32, 108, 111, 99, 107, 58]⟩ : ByteArray)) ++ t331) ++ (⟨#[58]⟩ : ByteArray)) ++ t332) ++ (⟨#[10]⟩ : ByteArray)).toList))) = some r := by rw [if_pos rfl] at H; exact H
  clear H
  have H := H1
  clear H1
  replace H := Option.bind_eq_some_iff.mp H
  obtain ⟨t360, A360, H⟩ := H
  replace H : (some (t360.toList == (((((((((((((((⟨#[112, 114, 111, 116, 111, 99, 111, 108, 32, 116, 111, 107, 101, 110, 10, 99, 111, 114, 101, 115, 32, 50, 32, 49, 32, 51, 10, 104, 111, 109, 101, 115, 32, 50, 32, 48, 10, 116, 97, 115, 107, 32, 122, 122, 32]⟩ : ByteArray) ++ t326) ++ (⟨#[32]⟩ : ByteArray)) ++ t327) ++ (⟨#[32]⟩ : ByteArray)) ++ t328) ++ (⟨#[32]⟩ : ByteArray)) ++ t329) ++ (⟨#[32, 115, 108, 101, 101, 112, 58]⟩ : ByteArray)) ++ t330) ++ (⟨#[32, 108, 111, 99, 107, 58]⟩ : ByteArray)) ++ t331) ++ (⟨#[58]⟩ : ByteArray)) ++ t332) ++ (⟨#[10]⟩ : ByteArray)).toList)) = some r := H
  have A36 := Aside0.mk A360
  clear A360
  obtain rfl := Option.some.inj H
  go_enter Tryd.func7, Tryd.ntmps7
  go_wp2_with (first | ((with_reducible refine gate_callee (f := 21) rfl ?_); refine goesL_ (some 21) rfl rfl Tryd.func21 (by kernel_rfl) rfl #[] rfl (by (try simp only [List.map_toArray, List.map_cons, List.map_nil]); first | done | rfl | (simp only [List.length_drop, List.length_take]; rfl)) ?_; (with_reducible refine (sl_known.calls k  true _ ?side1 A7.out).mono ?_); (case side1 => first | exact Glob.below HG.out (HB.out) | (repeat (first | exact Glob.below HG.out HB.out | (with_reducible refine Glob.alloc ?_ _) | (with_reducible refine Glob.drewN ?_ _) | (with_reducible refine Glob.drew ?_)))); rintro e w37 ⟨rfl, hb⟩; refine ⟨_, rfl, ?_⟩; have n0_ := Aside0.mk (below_step (HB.out) hb); clear HB; have HB := n0_; clear n0_; (try clear hb); (try clear hb2); (try clear hk); (try clear hi)) | ((with_reducible refine gate_callee (f := 20) rfl ?_); refine goesL_ (some 37) rfl rfl Tryd.func20 (by kernel_rfl) rfl #[.int .i64 (wrap64 ((wrap64 (Int.tmod a0 3000)) + 1))] rfl (by (try simp only [List.map_toArray, List.map_cons, List.map_nil]); first | done | rfl | (simp only [List.length_drop, List.length_take]; rfl)) ?_; (with_reducible refine (sr_Text.calls k (wrap64 ((wrap64 (Int.tmod a0 3000)) + 1)) t326 _ A10.out).mono ?_); rintro e w38 ⟨rfl, hb⟩; refine ⟨_, rfl, ?_⟩; have n0_ := Aside0.mk (below_step (HB.out) hb); clear HB; have HB := n0_; clear n0_; (try clear hb); (try clear hb2); (try clear hk); (try clear hi)) | ((with_reducible refine gate_callee (f := 20) rfl ?_); refine goesL_ (some 41) rfl rfl Tryd.func20 (by kernel_rfl) rfl #[.int .i64 (wrap64 ((Int.tmod (wrap64 (a1)) (wrap64 ((wrap64 (Int.tmod a0 3000)) + 1))) + 1))] rfl (by (try simp only [List.map_toArray, List.map_cons, List.map_nil]); first | done | rfl | (simp only [List.length_drop, List.length_take]; rfl)) ?_; (with_reducible refine (sr_Text.calls k (wrap64 ((Int.tmod (wrap64 (a1)) (wrap64 ((wrap64 (Int.tmod a0 3000)) + 1))) + 1)) t327 _ A13.out).mono ?_); rintro e w39 ⟨rfl, hb⟩; refine ⟨_, rfl, ?_⟩; have n0_ := Aside0.mk (below_step (HB.out) hb); clear HB; have HB := n0_; clear n0_; (try clear hb); (try clear hb2); (try clear hk); (try clear hi)) | ((with_reducible refine gate_callee (f := 20) rfl ?_); refine goesL_ (some 45) rfl rfl Tryd.func20 (by kernel_rfl) rfl #[.int .i64 (wrap64 ((wrap64 (Int.tmod a2 1000)) + 1))] rfl (by (try simp only [List.map_toArray, List.map_cons, List.map_nil]); first | done | rfl | (simp only [List.length_drop, List.length_take]; rfl)) ?_; (with_reducible refine (sr_Text.calls k (wrap64 ((wrap64 (Int.tmod a2 1000)) + 1)) t328 _ A16.out).mono ?_); rintro e w40 ⟨rfl, hb⟩; refine ⟨_, rfl, ?_⟩; have n0_ := Aside0.mk (below_step (HB.out) hb); clear HB; have HB := n0_; clear n0_; (try clear hb); (try clear hb2); (try clear hk); (try clear hi)) | ((with_reducible refine gate_callee (f := 20) rfl ?_); refine goesL_ (some 51) rfl rfl Tryd.func20 (by kernel_rfl) rfl #[.int .i64 (wrap64 (Int.tmod a3 3))] rfl (by (try simp only [List.map_toArray, List.map_cons, List.map_nil]); first | done | rfl | (simp only [List.length_drop, List.length_take]; rfl)) ?_; (with_reducible refine (sr_Text.calls k (wrap64 (Int.tmod a3 3)) t329 _ A19.out).mono ?_); rintro e w41 ⟨rfl, hb⟩; refine ⟨_, rfl, ?_⟩; have n0_ := Aside0.mk (below_step (HB.out) hb); clear HB; have HB := n0_; clear n0_; (try clear hb); (try clear hb2); (try clear hk); (try clear hi)) | ((with_reducible refine gate_callee (f := 20) rfl ?_); refine goesL_ (some 58) rfl rfl Tryd.func20 (by kernel_rfl) rfl #[.int .i64 (wrap64 ((wrap64 (Int.tmod a5 60)) + 1))] rfl (by (try simp only [List.map_toArray, List.map_cons, List.map_nil]); first | done | rfl | (simp only [List.length_drop, List.length_take]; rfl)) ?_; (with_reducible refine (sr_Text.calls k (wrap64 ((wrap64 (Int.tmod a5 60)) + 1)) t330 _ A22.out).mono ?_); rintro e w42 ⟨rfl, hb⟩; refine ⟨_, rfl, ?_⟩; have n0_ := Aside0.mk (below_step (HB.out) hb); clear HB; have HB := n0_; clear n0_; (try clear hb); (try clear hb2); (try clear hk); (try clear hi)) | ((with_reducible refine gate_callee (f := 20) rfl ?_); refine goesL_ (some 64) rfl rfl Tryd.func20 (by kernel_rfl) rfl #[.int .i64 (wrap64 (Int.tmod a4 2))] rfl (by (try simp only [List.map_toArray, List.map_cons, List.map_nil]); first | done | rfl | (simp only [List.length_drop, List.length_take]; rfl)) ?_; (with_reducible refine (sr_Text.calls k (wrap64 (Int.tmod a4 2)) t331 _ A25.out).mono ?_); rintro e w43 ⟨rfl, hb⟩; refine ⟨_, rfl, ?_⟩; have n0_ := Aside0.mk (below_step (HB.out) hb); clear HB; have HB := n0_; clear n0_; (try clear hb); (try clear hb2); (try clear hk); (try clear hi)) | ((with_reducible refine gate_callee (f := 20) rfl ?_); refine goesL_ (some 71) rfl rfl Tryd.func20 (by kernel_rfl) rfl #[.int .i64 (wrap64 ((wrap64 (Int.tmod a5 60)) + 1))] rfl (by (try simp only [List.map_toArray, List.map_cons, List.map_nil]); first | done | rfl | (simp only [List.length_drop, List.length_take]; rfl)) ?_; (with_reducible refine (sr_Text.calls k (wrap64 ((wrap64 (Int.tmod a5 60)) + 1)) t332 _ A28.out).mono ?_); rintro e w44 ⟨rfl, hb⟩; refine ⟨_, rfl, ?_⟩; have n0_ := Aside0.mk (below_step (HB.out) hb); clear HB; have HB := n0_; clear n0_; (try clear hb); (try clear hb2); (try clear hk); (try clear hi)) | ((with_reducible refine gate_callee (f := 25) rfl ?_); refine goesL_ (some 76) rfl rfl Tryd.func25 (by kernel_rfl) rfl #[.string (((((((((((((((⟨#[112, 114, 111, 116, 111, 99, 111, 108, 32, 116, 111, 107, 101, 110, 10, 99, 111, 114, 101, 115, 32, 50, 32, 49, 32, 51, 10, 104, 111, 109, 101, 115, 32, 50, 32, 48, 10, 116, 97, 115, 107, 32, 122, 122, 32]⟩ : ByteArray) ++ t326) ++ (⟨#[32]⟩ : ByteArray)) ++ t327) ++ (⟨#[32]⟩ : ByteArray)) ++ t328) ++ (⟨#[32]⟩ : ByteArray)) ++ t329) ++ (⟨#[32, 115, 108, 101, 101, 112, 58]⟩ : ByteArray)) ++ t330) ++ (⟨#[32, 108, 111, 99, 107, 58]⟩ : ByteArray)) ++ t331) ++ (⟨#[58]⟩ : ByteArray)) ++ t332) ++ (⟨#[10]⟩ : ByteArray))] rfl (by (try simp only [List.map_toArray, List.map_cons, List.map_nil]); first | done | rfl | (simp only [List.length_drop, List.length_take]; rfl)) ?_; (with_reducible refine (text_Parse.calls k (((((((((((((((⟨#[112, 114, 111, 116, 111, 99, 111, 108, 32, 116, 111, 107, 101, 110, 10, 99, 111, 114, 101, 115, 32, 50, 32, 49, 32, 51, 10, 104, 111, 109, 101, 115, 32, 50, 32, 48, 10, 116, 97, 115, 107, 32, 122, 122, 32]⟩ : ByteArray) ++ t326) ++ (⟨#[32]⟩ : ByteArray)) ++ t327) ++ (⟨#[32]⟩ : ByteArray)) ++ t328) ++ (⟨#[32]⟩ : ByteArray)) ++ t329) ++ (⟨#[32, 115, 108, 101, 101, 112, 58]⟩ : ByteArray)) ++ t330) ++ (⟨#[32, 108, 111, 99, 107, 58]⟩ : ByteArray)) ++ t331) ++ (⟨#[58]⟩ : ByteArray)) ++ t332) ++ (⟨#[10]⟩ : ByteArray)) t333 t334 t337 t340 t343 t344 _ ?side1 A31.out).mono ?_); (case side1 => first | exact Glob.below HG.out (HB.out) | (repeat (first | exact Glob.below HG.out HB.out | (with_reducible refine Glob.alloc ?_ _) | (with_reducible refine Glob.drewN ?_ _) | (with_reducible refine Glob.drew ?_)))); rintro e w45 ⟨v335, v338, v341, rfl, ho0, ho1, ho2, hb⟩; refine ⟨_, rfl, ?_⟩; have n0_ := Aside0.mk (Kd.R_lower ho0 (below_size (HB.out))); have n1_ := Aside0.mk (Kd.R_lower ho1 (below_size (HB.out))); have n2_ := Aside0.mk (Kd.N_lower (Kd.N_mono (ok' := fun k_ => some k_ ≠ (v335 : Value).ownBlock ∧ some k_ ≠ (v338 : Value).ownBlock) (Kd.S_N (Kd.S_bound (Kd.S_apart' (Kd.S_apart' ho2 (Kd.R_typed ho0) (by decide)) (Kd.R_typed ho1) (by decide)))) (fun k_ hk_ => ⟨hk_.1.1.2, hk_.1.2⟩)) (below_size (HB.out))); have n3_ := Aside0.mk (below_step (HB.out) hb); clear HB; have HO336 := n0_; have HO339 := n1_; have HO342 := n2_; have HB := n3_; clear n0_ n1_ n2_ n3_; (try clear hb); (try clear hb2); (try clear hk); (try clear hi); (try clear ho0); (try clear ho1); (try clear ho2)) | ((with_reducible refine gate_dst (N := 17) rfl ?_); refine box_event ?hg (N := 17) ?hd (cs := #[.int .i64 0, .slice none 0 0, .slice none 0 0, .slice none 0 0]) (t := 37) ?hr ?_; (case hd => rfl); (case hg => rfl); (case hr => first | (go_simp; done) | (go_simp; rfl)); intro gb345 hg w46 hbox hb; have n0_ := Aside0.mk (Kd.R_below (by (with_reducible repeat (first | apply Kd.R_alloc | apply Kd.R_drewN | apply Kd.R_drew)); exact HO336.out) hb); have n1_ := Aside0.mk (Kd.R_below (by (with_reducible repeat (first | apply Kd.R_alloc | apply Kd.R_drewN | apply Kd.R_drew)); exact HO339.out) hb); have n2_ := Aside0.mk (Kd.N_below (Kd.N_elderB (by (with_reducible repeat (first | apply Kd.N_alloc | apply Kd.N_drewN | apply Kd.N_drew)); exact HO342.out) gb345 (Nat.le_of_eq hg.symm)) hb); have n3_ := Aside0.mk (below_step (HB.out) hb); have n4_ := Aside0.mk (hbox); have n5_ := Aside0.mk ((by rw [hg]; exact (below_size (HB.out)) : w.heap.size ≤ gb345)); have n6_ := n5_; clear HO336; clear HO339; clear HO342; clear HB; have HO336 := n0_; have HO339 := n1_; have HO342 := n2_; have HB := n3_; have BK345 := n4_; have GW345 := n5_; have GE345 := n6_; clear n0_ n1_ n2_ n3_ n4_ n5_ n6_; clear hb hbox hg; have hcz47_0 : w46.cell? ⟨gb345, 0, none⟩ = some (.int .i64 0) := (blk_cell BK345.out 0).trans rfl; have hcz47_1 : w46.cell? ⟨gb345, 1, none⟩ = some (.slice none 0 0) := (blk_cell BK345.out 1).trans rfl; have hcz47_2 : w46.cell? ⟨gb345, 2, none⟩ = some (.slice none 0 0) := (blk_cell BK345.out 2).trans rfl; have hcz47_3 : w46.cell? ⟨gb345, 3, none⟩ = some (.slice none 0 0) := (blk_cell BK345.out 3).trans rfl; have hfz47_0 := blk_frozen BK345.out 0; have hfz47_1 := blk_frozen BK345.out 1; have hfz47_2 := blk_frozen BK345.out 2; have hfz47_3 := blk_frozen BK345.out 3; obtain ⟨Ao48, co48, eo48⟩ := Kd.R_slice HO336.out; subst eo48; obtain ⟨Ao49, co49, eo49⟩ := Kd.R_slice HO339.out; subst eo49; obtain ⟨Ao50, co50, eo50⟩ := Kd.N_slice HO342.out; subst eo50) | ((with_reducible refine gate_dst (N := 80) rfl ?_); refine Kd.R_lit (Kd.int .i64) _ 3 ?hg (N := 80) ?hd (xs := ([2, 1, 3] : List Int)) (inner := [.int .i64 2, .int .i64 1, .int .i64 3]) (ok := fun _ => True) (okp := fun _ => True) ?hr ?hp (fun _ hk => hk) trivial (Below.refl _ _) (Nat.le_refl _) (by simp) ?_; (case hd => rfl); (case hg => rfl); (case hr => first | (go_simp; done) | (go_simp; rfl)); (case hp => exact (Reps.one (show Kd.M (Kd.int .i64) _ _ _ 2 [.int .i64 2] from rfl) (Reps.one (show Kd.M (Kd.int .i64) _ _ _ 1 [.int .i64 1] from rfl) (Reps.one (show Kd.M (Kd.int .i64) _ _ _ 3 [.int .i64 3] from rfl) (Reps.none _ _))))); intro v347 w51 ho52 hb hg_ hnew_; clear hg_ hnew_; (first | rw [← Ny346.out] at ho52 | (simp only [Int.reduceToNat] at ho52; rw [← Ny346.out] at ho52)); have n0_ := Aside0.mk (Kd.R_elder' (by (with_reducible repeat (first | apply Kd.R_alloc | apply Kd.R_drewN | apply Kd.R_drew)); exact (Kd.R_mono (Kd.R_far (p := ⟨gb345, 3, none⟩) (Kd.R_far (p := ⟨gb345, 2, none⟩) (Kd.R_far (p := ⟨gb345, 1, none⟩) (Kd.R_far (p := ⟨gb345, 0, none⟩) (Kd.R_types HO336.out BK345.out (by decide)) (fun _ hk => hk.2) (.int .i64 t333)) (fun _ hk => hk.2) (.slice Ao48 t334.length co48)) (fun _ hk => hk.2) (.slice Ao49 t337.length co49)) (fun _ hk => hk.2) (.slice Ao50 t340.length co50)) (fun _ h_ => h_.1))) (Kd.R_base ho52) hb); have n1_ := Aside0.mk (Kd.R_elder' (by (with_reducible repeat (first | apply Kd.R_alloc | apply Kd.R_drewN | apply Kd.R_drew)); exact (Kd.R_mono (Kd.R_far (p := ⟨gb345, 3, none⟩) (Kd.R_far (p := ⟨gb345, 2, none⟩) (Kd.R_far (p := ⟨gb345, 1, none⟩) (Kd.R_far (p := ⟨gb345, 0, none⟩) (Kd.R_types HO339.out BK345.out (by decide)) (fun _ hk => hk.2) (.int .i64 t333)) (fun _ hk => hk.2) (.slice Ao48 t334.length co48)) (fun _ hk => hk.2) (.slice Ao49 t337.length co49)) (fun _ hk => hk.2) (.slice Ao50 t340.length co50)) (fun _ h_ => h_.1))) (Kd.R_base ho52) hb); have n2_ := Aside0.mk (Kd.N_elder' (by (with_reducible repeat (first | apply Kd.N_alloc | apply Kd.N_drewN | apply Kd.N_drew)); exact (Kd.N_mono (Kd.N_far (p := ⟨gb345, 3, none⟩) (Kd.N_far (p := ⟨gb345, 2, none⟩) (Kd.N_far (p := ⟨gb345, 1, none⟩) (Kd.N_far (p := ⟨gb345, 0, none⟩) (Kd.N_mono HO342.out (fun k_ hk => (⟨hk, hk.2⟩ : _ ∧ k_ ≠ gb345))) (fun _ hk => hk.2) (.int .i64 t333)) (fun _ hk => hk.2) (.slice Ao48 t334.length co48)) (fun _ hk => hk.2) (.slice Ao49 t337.length co49)) (fun _ hk => hk.2) (.slice Ao50 t340.length co50)) (fun _ h_ => h_.1))) (Kd.R_base ho52) hb); have n3_ := Aside0.mk (Kd.R_lower (Kd.R_new' (Kd.R_new' ho52 (Kd.R_lt (by (with_reducible repeat (first | apply Kd.R_alloc | apply Kd.R_drewN | apply Kd.R_drew)); exact (Kd.R_mono (Kd.R_far (p := ⟨gb345, 3, none⟩) (Kd.R_far (p := ⟨gb345, 2, none⟩) (Kd.R_far (p := ⟨gb345, 1, none⟩) (Kd.R_far (p := ⟨gb345, 0, none⟩) (Kd.R_types HO336.out BK345.out (by decide)) (fun _ hk => hk.2) (.int .i64 t333)) (fun _ hk => hk.2) (.slice Ao48 t334.length co48)) (fun _ hk => hk.2) (.slice Ao49 t337.length co49)) (fun _ hk => hk.2) (.slice Ao50 t340.length co50)) (fun _ h_ => h_.1))))) (Kd.R_lt (by (with_reducible repeat (first | apply Kd.R_alloc | apply Kd.R_drewN | apply Kd.R_drew)); exact (Kd.R_mono (Kd.R_far (p := ⟨gb345, 3, none⟩) (Kd.R_far (p := ⟨gb345, 2, none⟩) (Kd.R_far (p := ⟨gb345, 1, none⟩) (Kd.R_far (p := ⟨gb345, 0, none⟩) (Kd.R_types HO339.out BK345.out (by decide)) (fun _ hk => hk.2) (.int .i64 t333)) (fun _ hk => hk.2) (.slice Ao48 t334.length co48)) (fun _ hk => hk.2) (.slice Ao49 t337.length co49)) (fun _ hk => hk.2) (.slice Ao50 t340.length co50)) (fun _ h_ => h_.1))))) (below_size (by repeat (first | (with_reducible first | exact HB.out | apply below_alloc | apply pw_below_drewN | apply below_drew1 | refine below_set ?_ GE345.out) | exact HB.out)))); have n4_ := Aside0.mk (blk_below (g := gb345) (o := .cells #[.int .i64 t333, .slice Ao48 t334.length co48, .slice Ao49 t337.length co49, .slice Ao50 t340.length co50] 37 (0, 0)) (by (with_reducible repeat (first | refine blk_drewN ?_ _ | refine blk_drew ?_ | refine blk_alloc ?_ _)); refine blk_put (cs := #[.int .i64 t333, .slice Ao48 t334.length co48, .slice Ao49 t337.length co49, .slice none 0 0]) ?_ 3 _ rfl; (with_reducible repeat (first | refine blk_drewN ?_ _ | refine blk_drew ?_ | refine blk_alloc ?_ _)); refine blk_put (cs := #[.int .i64 t333, .slice Ao48 t334.length co48, .slice none 0 0, .slice none 0 0]) ?_ 2 _ rfl; (with_reducible repeat (first | refine blk_drewN ?_ _ | refine blk_drew ?_ | refine blk_alloc ?_ _)); refine blk_put (cs := #[.int .i64 t333, .slice none 0 0, .slice none 0 0, .slice none 0 0]) ?_ 1 _ rfl; (with_reducible repeat (first | refine blk_drewN ?_ _ | refine blk_drew ?_ | refine blk_alloc ?_ _)); refine blk_put (cs := #[.int .i64 0, .slice none 0 0, .slice none 0 0, .slice none 0 0]) ?_ 0 _ rfl; (with_reducible repeat (first | refine blk_drewN ?_ _ | refine blk_drew ?_ | refine blk_alloc ?_ _)); exact BK345.out) hb); have n5_ := Aside0.mk (below_step (by repeat (first | (with_reducible first | exact HB.out | apply below_alloc | apply pw_below_drewN | apply below_drew1 | refine below_set ?_ GE345.out) | exact HB.out)) hb); clear HO336; clear HO339; clear HO342; clear BK345; clear HB; have HO336 := n0_; have HO339 := n1_; have HO342 := n2_; have HO348 := n3_; have BK345 := n4_; have HB := n5_; clear n0_ n1_ n2_ n3_ n4_ n5_; clear hb ho52) | ((with_reducible refine gate_dst (N := 81) rfl ?_); refine Kd.R_lit (Kd.int .i64) _ 3 ?hg (N := 81) ?hd (xs := ([2, 0] : List Int)) (inner := [.int .i64 2, .int .i64 0]) (ok := fun _ => True) (okp := fun _ => True) ?hr ?hp (fun _ hk => hk) trivial (Below.refl _ _) (Nat.le_refl _) (by simp) ?_; (case hd => rfl); (case hg => rfl); (case hr => first | (go_simp; done) | (go_simp; rfl)); (case hp => exact (Reps.one (show Kd.M (Kd.int .i64) _ _ _ 2 [.int .i64 2] from rfl) (Reps.one (show Kd.M (Kd.int .i64) _ _ _ 0 [.int .i64 0] from rfl) (Reps.none _ _)))); intro v350 w53 ho54 hb hg_ hnew_; clear hg_ hnew_; (first | rw [← Ny349.out] at ho54 | (simp only [Int.reduceToNat] at ho54; rw [← Ny349.out] at ho54)); have n0_ := Aside0.mk (Kd.R_elder' (by (with_reducible repeat (first | apply Kd.R_alloc | apply Kd.R_drewN | apply Kd.R_drew)); exact HO336.out) (Kd.R_base ho54) hb); have n1_ := Aside0.mk (Kd.R_elder' (by (with_reducible repeat (first | apply Kd.R_alloc | apply Kd.R_drewN | apply Kd.R_drew)); exact HO339.out) (Kd.R_base ho54) hb); have n2_ := Aside0.mk (Kd.N_elder' (by (with_reducible repeat (first | apply Kd.N_alloc | apply Kd.N_drewN | apply Kd.N_drew)); exact HO342.out) (Kd.R_base ho54) hb); have n3_ := Aside0.mk (Kd.R_elder' (by (with_reducible repeat (first | apply Kd.R_alloc | apply Kd.R_drewN | apply Kd.R_drew)); exact HO348.out) (Kd.R_base ho54) hb); have n4_ := Aside0.mk (Kd.R_lower (Kd.R_new' (Kd.R_new' (Kd.R_new' ho54 (Kd.R_lt (by (with_reducible repeat (first | apply Kd.R_alloc | apply Kd.R_drewN | apply Kd.R_drew)); exact HO336.out))) (Kd.R_lt (by (with_reducible repeat (first | apply Kd.R_alloc | apply Kd.R_drewN | apply Kd.R_drew)); exact HO339.out))) (Kd.R_lt (by (with_reducible repeat (first | apply Kd.R_alloc | apply Kd.R_drewN | apply Kd.R_drew)); exact HO348.out))) (below_size (HB.out))); have n5_ := Aside0.mk (blk_below BK345.out hb); have n6_ := Aside0.mk (below_step (HB.out) hb); clear HO336; clear HO339; clear HO342; clear HO348; clear BK345; clear HB; have HO336 := n0_; have HO339 := n1_; have HO342 := n2_; have HO348 := n3_; have HO351 := n4_; have BK345 := n5_; have HB := n6_; clear n0_ n1_ n2_ n3_ n4_ n5_ n6_; clear hb ho54) | ((with_reducible refine gate_dst (N := 101) rfl ?_); refine Kd.R_lit k50 _ 50 ?hg (N := 101) ?hd (xs := ([(⟨2, wrap64 ((wrap64 (Int.tmod a5 60)) + 1), 0⟩ : S50), (⟨3, wrap64 ((wrap64 (Int.tmod a5 60)) + 1), wrap64 (Int.tmod a4 2)⟩ : S50)] : List (S50))) (inner := [.int .i64 2, .int .i64 (wrap64 ((wrap64 (Int.tmod a5 60)) + 1)), .int .i64 0, .int .i64 3, .int .i64 (wrap64 ((wrap64 (Int.tmod a5 60)) + 1)), .int .i64 (wrap64 (Int.tmod a4 2))]) (ok := fun _ => True) (okp := fun _ => True) ?hr ?hp (fun _ hk => hk) trivial (Below.refl _ _) (Nat.le_refl _) (by simp) ?_; (case hd => rfl); (case hg => rfl); (case hr => first | (go_simp; done) | (go_simp; rfl)); (case hp => exact (Reps.c3 (show Kd.M k50 _ _ _ (⟨2, wrap64 ((wrap64 (Int.tmod a5 60)) + 1), 0⟩ : S50) [.int .i64 2, .int .i64 (wrap64 ((wrap64 (Int.tmod a5 60)) + 1)), .int .i64 0] from (k50_mkM _ _ _ (⟨2, wrap64 ((wrap64 (Int.tmod a5 60)) + 1), 0⟩ : S50) )) (Reps.c3 (show Kd.M k50 _ _ _ (⟨3, wrap64 ((wrap64 (Int.tmod a5 60)) + 1), wrap64 (Int.tmod a4 2)⟩ : S50) [.int .i64 3, .int .i64 (wrap64 ((wrap64 (Int.tmod a5 60)) + 1)), .int .i64 (wrap64 (Int.tmod a4 2))] from (k50_mkM _ _ _ (⟨3, wrap64 ((wrap64 (Int.tmod a5 60)) + 1), wrap64 (Int.tmod a4 2)⟩ : S50) )) (Reps.none _ _)))); intro v353 w55 ho56 hb hg_ hnew_; clear hg_ hnew_; (first | rw [← Ny352.out] at ho56 | (simp only [Int.reduceToNat] at ho56; rw [← Ny352.out] at ho56)); have n0_ := Aside0.mk (Kd.R_below (by (with_reducible repeat (first | apply Kd.R_alloc | apply Kd.R_drewN | apply Kd.R_drew)); exact HO336.out) hb); have n1_ := Aside0.mk (Kd.R_below (by (with_reducible repeat (first | apply Kd.R_alloc | apply Kd.R_drewN | apply Kd.R_drew)); exact HO339.out) hb); have n2_ := Aside0.mk (Kd.N_elder' (by (with_reducible repeat (first | apply Kd.N_alloc | apply Kd.N_drewN | apply Kd.N_drew)); exact HO342.out) (Kd.R_base ho56) hb); have n3_ := Aside0.mk (Kd.R_below (by (with_reducible repeat (first | apply Kd.R_alloc | apply Kd.R_drewN | apply Kd.R_drew)); exact HO348.out) hb); have n4_ := Aside0.mk (Kd.R_below (by (with_reducible repeat (first | apply Kd.R_alloc | apply Kd.R_drewN | apply Kd.R_drew)); exact HO351.out) hb); have n5_ := Aside0.mk (Kd.R_lower ho56 (below_size (HB.out))); have n6_ := Aside0.mk (blk_below BK345.out hb); have n7_ := Aside0.mk (below_step (HB.out) hb); clear HO336; clear HO339; clear HO342; clear HO348; clear HO351; clear BK345; clear HB; have HO336 := n0_; have HO339 := n1_; have HO342 := n2_; have HO348 := n3_; have HO351 := n4_; have HO354 := n5_; have BK345 := n6_; have HB := n7_; clear n0_ n1_ n2_ n3_ n4_ n5_ n6_ n7_; clear hb ho56; obtain ⟨Ao57, co57, eo57⟩ := Kd.R_slice HO354.out; subst eo57) | ((with_reducible refine gate_dst (N := 103) rfl ?_); refine Kd.N_lit k53 _ 53 ?hg (N' := 103) ?hd (xs := ([(⟨(⟨#[122, 122]⟩ : ByteArray), wrap64 ((wrap64 (Int.tmod a0 3000)) + 1), wrap64 ((Int.tmod (wrap64 (a1)) (wrap64 ((wrap64 (Int.tmod a0 3000)) + 1))) + 1), wrap64 ((wrap64 (Int.tmod a2 1000)) + 1), wrap64 (Int.tmod a3 3), y352⟩ : S53)] : List (S53))) (inner := [.string (⟨#[122, 122]⟩ : ByteArray), .int .i64 (wrap64 ((wrap64 (Int.tmod a0 3000)) + 1)), .int .i64 (wrap64 ((Int.tmod (wrap64 (a1)) (wrap64 ((wrap64 (Int.tmod a0 3000)) + 1))) + 1)), .int .i64 (wrap64 ((wrap64 (Int.tmod a2 1000)) + 1)), .int .i64 (wrap64 (Int.tmod a3 3)), .slice Ao57 y352.length co57]) (ok := (fun k_ => some k_ ≠ (.slice Ao48 t334.length co48 : Value).ownBlock ∧ some k_ ≠ (.slice Ao49 t337.length co49 : Value).ownBlock ∧ some k_ ≠ (.slice Ao50 t340.length co50 : Value).ownBlock ∧ some k_ ≠ (v347 : Value).ownBlock ∧ some k_ ≠ (v350 : Value).ownBlock ∧ k_ ≠ gb345)) (okp := (fun k_ => some k_ ≠ (.slice Ao48 t334.length co48 : Value).ownBlock ∧ some k_ ≠ (.slice Ao49 t337.length co49 : Value).ownBlock ∧ some k_ ≠ (.slice Ao50 t340.length co50 : Value).ownBlock ∧ some k_ ≠ (v347 : Value).ownBlock ∧ some k_ ≠ (v350 : Value).ownBlock ∧ k_ ≠ gb345)) ?hr ?hp (fun _ hk => hk) ((show ∀ k_, w55.heap.size ≤ k_ → (fun k_ => some k_ ≠ (.slice Ao48 t334.length co48 : Value).ownBlock ∧ some k_ ≠ (.slice Ao49 t337.length co49 : Value).ownBlock ∧ some k_ ≠ (.slice Ao50 t340.length co50 : Value).ownBlock ∧ some k_ ≠ (v347 : Value).ownBlock ∧ some k_ ≠ (v350 : Value).ownBlock ∧ k_ ≠ gb345) k_ from fun k_ hk => ⟨Kd.fresh' (Kd.R_lt (by (with_reducible repeat (first | apply Kd.R_alloc | apply Kd.R_drewN | apply Kd.R_drew)); exact HO336.out)) k_ hk, Kd.fresh' (Kd.R_lt (by (with_reducible repeat (first | apply Kd.R_alloc | apply Kd.R_drewN | apply Kd.R_drew)); exact HO339.out)) k_ hk, Kd.fresh' (Kd.N_lt (by (with_reducible repeat (first | apply Kd.N_alloc | apply Kd.N_drewN | apply Kd.N_drew)); exact HO342.out)) k_ hk, Kd.fresh' (Kd.R_lt (by (with_reducible repeat (first | apply Kd.R_alloc | apply Kd.R_drewN | apply Kd.R_drew)); exact HO348.out)) k_ hk, Kd.fresh' (Kd.R_lt (by (with_reducible repeat (first | apply Kd.R_alloc | apply Kd.R_drewN | apply Kd.R_drew)); exact HO351.out)) k_ hk, Kd.freshB BK345.out k_ hk⟩) _ (Nat.le_refl _)) (Below.refl _ _) (Nat.le_refl _) (by simp) ?_; (case hd => rfl); (case hg => rfl); (case hr => first | (go_simp; done) | (go_simp; rfl)); (case hp => exact (Reps.c6 (show Kd.FK k53 _ _ (⟨(⟨#[122, 122]⟩ : ByteArray), wrap64 ((wrap64 (Int.tmod a0 3000)) + 1), wrap64 ((Int.tmod (wrap64 (a1)) (wrap64 ((wrap64 (Int.tmod a0 3000)) + 1))) + 1), wrap64 ((wrap64 (Int.tmod a2 1000)) + 1), wrap64 (Int.tmod a3 3), y352⟩ : S53) [.string (⟨#[122, 122]⟩ : ByteArray), .int .i64 (wrap64 ((wrap64 (Int.tmod a0 3000)) + 1)), .int .i64 (wrap64 ((Int.tmod (wrap64 (a1)) (wrap64 ((wrap64 (Int.tmod a0 3000)) + 1))) + 1)), .int .i64 (wrap64 ((wrap64 (Int.tmod a2 1000)) + 1)), .int .i64 (wrap64 (Int.tmod a3 3)), .slice Ao57 y352.length co57] from (k53_mkF _ _ (⟨(⟨#[122, 122]⟩ : ByteArray), wrap64 ((wrap64 (Int.tmod a0 3000)) + 1), wrap64 ((Int.tmod (wrap64 (a1)) (wrap64 ((wrap64 (Int.tmod a0 3000)) + 1))) + 1), wrap64 ((wrap64 (Int.tmod a2 1000)) + 1), wrap64 (Int.tmod a3 3), y352⟩ : S53) (Kd.R_reads' (Kd.R_mono (ok' := (fun k_ => some k_ ≠ (.slice Ao48 t334.length co48 : Value).ownBlock ∧ some k_ ≠ (.slice Ao49 t337.length co49 : Value).ownBlock ∧ some k_ ≠ (.slice Ao50 t340.length co50 : Value).ownBlock ∧ some k_ ≠ (v347 : Value).ownBlock ∧ some k_ ≠ (v350 : Value).ownBlock ∧ k_ ≠ gb345)) (Kd.R_types (Kd.R_apart' (Kd.R_apart' (Kd.R_apart' (Kd.R_apart' (Kd.R_apart' (HO354.out) (Kd.R_typed HO336.out) (by decide)) (Kd.R_typed HO339.out) (by decide)) (Kd.N_typed HO342.out) (by decide)) (Kd.R_typed HO348.out) (by decide)) (Kd.R_typed HO351.out) (by decide)) BK345.out (by decide)) (fun k_ hk => ⟨hk.1.1.1.1.1.2, ⟨hk.1.1.1.1.2, ⟨hk.1.1.1.2, ⟨hk.1.1.2, ⟨hk.1.2, hk.2⟩⟩⟩⟩⟩))).2.1 (Kd.R_F (Kd.R_mono (ok' := (fun k_ => some k_ ≠ (.slice Ao48 t334.length co48 : Value).ownBlock ∧ some k_ ≠ (.slice Ao49 t337.length co49 : Value).ownBlock ∧ some k_ ≠ (.slice Ao50 t340.length co50 : Value).ownBlock ∧ some k_ ≠ (v347 : Value).ownBlock ∧ some k_ ≠ (v350 : Value).ownBlock ∧ k_ ≠ gb345)) (Kd.R_types (Kd.R_apart' (Kd.R_apart' (Kd.R_apart' (Kd.R_apart' (Kd.R_apart' (HO354.out) (Kd.R_typed HO336.out) (by decide)) (Kd.R_typed HO339.out) (by decide)) (Kd.N_typed HO342.out) (by decide)) (Kd.R_typed HO348.out) (by decide)) (Kd.R_typed HO351.out) (by decide)) BK345.out (by decide)) (fun k_ hk => ⟨hk.1.1.1.1.1.2, ⟨hk.1.1.1.1.2, ⟨hk.1.1.1.2, ⟨hk.1.1.2, ⟨hk.1.2, hk.2⟩⟩⟩⟩⟩))))) (Reps.none _ _))); intro v356 w58 ho59 hb hg_ hnew_; clear hg_ hnew_; (first | rw [← Ny355.out] at ho59 | (simp only [Int.reduceToNat] at ho59; rw [← Ny355.out] at ho59)); have n0_ := Aside0.mk (Kd.R_below (by (with_reducible repeat (first | apply Kd.R_alloc | apply Kd.R_drewN | apply Kd.R_drew)); exact HO336.out) hb); have n1_ := Aside0.mk (Kd.R_below (by (with_reducible repeat (first | apply Kd.R_alloc | apply Kd.R_drewN | apply Kd.R_drew)); exact HO339.out) hb); have n2_ := Aside0.mk (Kd.N_elder' (by (with_reducible repeat (first | apply Kd.N_alloc | apply Kd.N_drewN | apply Kd.N_drew)); exact HO342.out) (Kd.N_base ho59) hb); have n3_ := Aside0.mk (Kd.R_below (by (with_reducible repeat (first | apply Kd.R_alloc | apply Kd.R_drewN | apply Kd.R_drew)); exact HO348.out) hb); have n4_ := Aside0.mk (Kd.R_below (by (with_reducible repeat (first | apply Kd.R_alloc | apply Kd.R_drewN | apply Kd.R_drew)); exact HO351.out) hb); have n5_ := Aside0.mk (Kd.N_lower ho59 (below_size (HB.out))); have n6_ := Aside0.mk (blk_below BK345.out hb); have n7_ := Aside0.mk (below_step (HB.out) hb); clear HO336; clear HO339; clear HO342; clear HO348; clear HO351; clear BK345; clear HB; clear HO354; have HO336 := n0_; have HO339 := n1_; have HO342 := n2_; have HO348 := n3_; have HO351 := n4_; have HO357 := n5_; have BK345 := n6_; have HB := n7_; clear n0_ n1_ n2_ n3_ n4_ n5_ n6_ n7_; clear hb ho59; obtain ⟨Ao60, co60, eo60⟩ := Kd.N_slice HO357.out; subst eo60; obtain ⟨Ao61, co61, eo61⟩ := Kd.R_slice HO351.out; subst eo61; obtain ⟨Ao62, co62, eo62⟩ := Kd.R_slice HO348.out; subst eo62) | ((with_reducible refine gate_dst (N := 20) rfl ?_); refine box_event ?hg (N := 20) ?hd (cs := #[.int .i64 0, .slice none 0 0, .slice none 0 0, .slice none 0 0]) (t := 37) ?hr ?_; (case hd => rfl); (case hg => rfl); (case hr => first | (go_simp; done) | (go_simp; rfl)); intro gb358 hg w63 hbox hb; have n0_ := Aside0.mk (Kd.R_below (by (with_reducible repeat (first | apply Kd.R_alloc | apply Kd.R_drewN | apply Kd.R_drew)); exact HO336.out) hb); have n1_ := Aside0.mk (Kd.R_below (by (with_reducible repeat (first | apply Kd.R_alloc | apply Kd.R_drewN | apply Kd.R_drew)); exact HO339.out) hb); have n2_ := Aside0.mk (Kd.N_below (Kd.N_elderB (by (with_reducible repeat (first | apply Kd.N_alloc | apply Kd.N_drewN | apply Kd.N_drew)); exact HO342.out) gb358 (Nat.le_of_eq hg.symm)) hb); have n3_ := Aside0.mk (Kd.R_below (by (with_reducible repeat (first | apply Kd.R_alloc | apply Kd.R_drewN | apply Kd.R_drew)); exact HO348.out) hb); have n4_ := Aside0.mk (Kd.R_below (by (with_reducible repeat (first | apply Kd.R_alloc | apply Kd.R_drewN | apply Kd.R_drew)); exact HO351.out) hb); have n5_ := Aside0.mk (Kd.N_below (Kd.N_elderB (by (with_reducible repeat (first | apply Kd.N_alloc | apply Kd.N_drewN | apply Kd.N_drew)); exact HO357.out) gb358 (Nat.le_of_eq hg.symm)) hb); have n6_ := Aside0.mk (blk_below BK345.out hb); have n7_ := Aside0.mk (below_step (HB.out) hb); have n8_ := Aside0.mk (hbox); have n9_ := Aside0.mk ((by rw [hg]; exact (below_size (HB.out)) : w.heap.size ≤ gb358)); have n10_ := n9_; have n11_ := Aside0.mk ((by rw [hg]; exact Nat.ne_of_lt (blk_lt BK345.out) : gb345 ≠ gb358)); have n12_ := Aside0.mk ((by rw [hg]; exact Nat.ne_of_gt (blk_lt BK345.out) : gb358 ≠ gb345)); clear HO336; clear HO339; clear HO342; clear HO348; clear HO351; clear HO357; clear BK345; clear HB; have HO336 := n0_; have HO339 := n1_; have HO342 := n2_; have HO348 := n3_; have HO351 := n4_; have HO357 := n5_; have BK345 := n6_; have HB := n7_; have BK358 := n8_; have GW358 := n9_; have GE358 := n10_; have NB345_358 := n11_; have NB358_345 := n12_; clear n0_ n1_ n2_ n3_ n4_ n5_ n6_ n7_ n8_ n9_ n10_ n11_ n12_; clear hb hbox hg; have hnb64 := NB358_345.out; have hnc64 := NB345_358.out; have hcz65_0 : w63.cell? ⟨gb358, 0, none⟩ = some (.int .i64 0) := (blk_cell BK358.out 0).trans rfl; have hcz65_1 : w63.cell? ⟨gb358, 1, none⟩ = some (.slice none 0 0) := (blk_cell BK358.out 1).trans rfl; have hcz65_2 : w63.cell? ⟨gb358, 2, none⟩ = some (.slice none 0 0) := (blk_cell BK358.out 2).trans rfl; have hcz65_3 : w63.cell? ⟨gb358, 3, none⟩ = some (.slice none 0 0) := (blk_cell BK358.out 3).trans rfl; have hfz65_0 := blk_frozen BK358.out 0; have hfz65_1 := blk_frozen BK358.out 1; have hfz65_2 := blk_frozen BK358.out 2; have hfz65_3 := blk_frozen BK358.out 3; have hcz66_0 : w63.cell? ⟨gb345, 0, none⟩ = some (.int .i64 t333) := (blk_cell BK345.out 0).trans rfl; have hcz66_1 : w63.cell? ⟨gb345, 1, none⟩ = some (.slice Ao48 t334.length co48) := (blk_cell BK345.out 1).trans rfl; have hcz66_2 : w63.cell? ⟨gb345, 2, none⟩ = some (.slice Ao49 t337.length co49) := (blk_cell BK345.out 2).trans rfl; have hcz66_3 : w63.cell? ⟨gb345, 3, none⟩ = some (.slice Ao50 t340.length co50) := (blk_cell BK345.out 3).trans rfl; have hfz66_0 := blk_frozen BK345.out 0; have hfz66_1 := blk_frozen BK345.out 1; have hfz66_2 := blk_frozen BK345.out 2; have hfz66_3 := blk_frozen BK345.out 3) | (go_at_call 26; (with_reducible refine (sr_Same.calls k t333 _ _ t334 _ _ t337 _ _ t340 3 _ _ y346 _ _ y349 _ _ y355 true _ ?side1 ?side2 ?side3 ?side4 ?side5 ?side6 ?side7 ?side8 ?side9 ?side10 ?side11 ?side12 A34.out).mono ?_); (case side1 => refine (Kd.R_reads' (e := 3) (base := w.heap.size) (ok := fun k_ => ((some k_ ≠ (.slice Ao49 t337.length co49 : Value).ownBlock ∧ some k_ ≠ (.slice Ao62 y346.length co62 : Value).ownBlock) ∧ some k_ ≠ (.slice Ao61 y349.length co61 : Value).ownBlock)) (n := t334.length) (c := co48) ?_).2.2; exact (by (with_reducible repeat (first | apply Kd.R_alloc | apply Kd.R_drewN | apply Kd.R_drew)); exact (Kd.R_mono (Kd.R_far (p := ⟨gb358, 3, none⟩) (Kd.R_far (p := ⟨gb358, 2, none⟩) (Kd.R_far (p := ⟨gb358, 1, none⟩) (Kd.R_far (p := ⟨gb358, 0, none⟩) (Kd.R_types HO336.out BK358.out (by decide)) (fun _ hk => hk.2) (.int .i64 3)) (fun _ hk => hk.2) (.slice Ao62 y346.length co62)) (fun _ hk => hk.2) (.slice Ao61 y349.length co61)) (fun _ hk => hk.2) (.slice Ao60 y355.length co60)) (fun _ h_ => h_.1)))); (case side2 => exact (Kd.R_reads' HO336.out).2.1); (case side3 => refine (Kd.R_reads' (e := 3) (base := w.heap.size) (ok := fun k_ => ((some k_ ≠ (.slice Ao48 t334.length co48 : Value).ownBlock ∧ some k_ ≠ (.slice Ao62 y346.length co62 : Value).ownBlock) ∧ some k_ ≠ (.slice Ao61 y349.length co61 : Value).ownBlock)) (n := t337.length) (c := co49) ?_).2.2; exact (by (with_reducible repeat (first | apply Kd.R_alloc | apply Kd.R_drewN | apply Kd.R_drew)); exact (Kd.R_mono (Kd.R_far (p := ⟨gb358, 3, none⟩) (Kd.R_far (p := ⟨gb358, 2, none⟩) (Kd.R_far (p := ⟨gb358, 1, none⟩) (Kd.R_far (p := ⟨gb358, 0, none⟩) (Kd.R_types HO339.out BK358.out (by decide)) (fun _ hk => hk.2) (.int .i64 3)) (fun _ hk => hk.2) (.slice Ao62 y346.length co62)) (fun _ hk => hk.2) (.slice Ao61 y349.length co61)) (fun _ hk => hk.2) (.slice Ao60 y355.length co60)) (fun _ h_ => h_.1)))); (case side4 => exact (Kd.R_reads' HO339.out).2.1); (case side5 => refine (Kd.N_reads' (e := 53) (base := w.heap.size) (ok := fun k_ => (((((((some k_ ≠ (.slice Ao48 t334.length co48 : Value).ownBlock ∧ some k_ ≠ (.slice Ao49 t337.length co49 : Value).ownBlock) ∧ k_ ≠ gb345) ∧ some k_ ≠ (.slice Ao62 y346.length co62 : Value).ownBlock) ∧ some k_ ≠ (.slice Ao61 y349.length co61 : Value).ownBlock) ∧ some k_ ≠ (.slice Ao57 y352.length co57 : Value).ownBlock) ∧ some k_ ≠ (.slice Ao60 y355.length co60 : Value).ownBlock) ∧ k_ ≠ gb358)) (n := t340.length) (c := co50) ?_).2.2; exact (by (with_reducible repeat (first | apply Kd.N_alloc | apply Kd.N_drewN | apply Kd.N_drew)); exact (Kd.N_mono (Kd.N_far (p := ⟨gb358, 3, none⟩) (Kd.N_far (p := ⟨gb358, 2, none⟩) (Kd.N_far (p := ⟨gb358, 1, none⟩) (Kd.N_far (p := ⟨gb358, 0, none⟩) (Kd.N_mono HO342.out (fun k_ hk => (⟨hk, hk.2⟩ : _ ∧ k_ ≠ gb358))) (fun _ hk => hk.2) (.int .i64 3)) (fun _ hk => hk.2) (.slice Ao62 y346.length co62)) (fun _ hk => hk.2) (.slice Ao61 y349.length co61)) (fun _ hk => hk.2) (.slice Ao60 y355.length co60)) (fun _ h_ => h_.1)))); (case side6 => exact (Kd.N_reads' HO342.out).2.1); (case side7 => refine (Kd.R_reads' (e := 3) (base := w.heap.size) (ok := fun k_ => (((True ∧ some k_ ≠ (.slice Ao48 t334.length co48 : Value).ownBlock) ∧ some k_ ≠ (.slice Ao49 t337.length co49 : Value).ownBlock) ∧ some k_ ≠ (.slice Ao61 y349.length co61 : Value).ownBlock)) (n := y346.length) (c := co62) ?_).2.2; exact (by (with_reducible repeat (first | apply Kd.R_alloc | apply Kd.R_drewN | apply Kd.R_drew)); exact (Kd.R_mono (Kd.R_far (p := ⟨gb358, 3, none⟩) (Kd.R_far (p := ⟨gb358, 2, none⟩) (Kd.R_far (p := ⟨gb358, 1, none⟩) (Kd.R_far (p := ⟨gb358, 0, none⟩) (Kd.R_types HO348.out BK358.out (by decide)) (fun _ hk => hk.2) (.int .i64 3)) (fun _ hk => hk.2) (.slice Ao62 y346.length co62)) (fun _ hk => hk.2) (.slice Ao61 y349.length co61)) (fun _ hk => hk.2) (.slice Ao60 y355.length co60)) (fun _ h_ => h_.1)))); (case side8 => exact (Kd.R_reads' HO348.out).2.1); (case side9 => refine (Kd.R_reads' (e := 3) (base := w.heap.size) (ok := fun k_ => (((True ∧ some k_ ≠ (.slice Ao48 t334.length co48 : Value).ownBlock) ∧ some k_ ≠ (.slice Ao49 t337.length co49 : Value).ownBlock) ∧ some k_ ≠ (.slice Ao62 y346.length co62 : Value).ownBlock)) (n := y349.length) (c := co61) ?_).2.2; exact (by (with_reducible repeat (first | apply Kd.R_alloc | apply Kd.R_drewN | apply Kd.R_drew)); exact (Kd.R_mono (Kd.R_far (p := ⟨gb358, 3, none⟩) (Kd.R_far (p := ⟨gb358, 2, none⟩) (Kd.R_far (p := ⟨gb358, 1, none⟩) (Kd.R_far (p := ⟨gb358, 0, none⟩) (Kd.R_types HO351.out BK358.out (by decide)) (fun _ hk => hk.2) (.int .i64 3)) (fun _ hk => hk.2) (.slice Ao62 y346.length co62)) (fun _ hk => hk.2) (.slice Ao61 y349.length co61)) (fun _ hk => hk.2) (.slice Ao60 y355.length co60)) (fun _ h_ => h_.1)))); (case side10 => exact (Kd.R_reads' HO351.out).2.1); (case side11 => refine (Kd.N_reads' (e := 53) (base := w.heap.size) (ok := fun k_ => ((some k_ ≠ (.slice Ao48 t334.length co48 : Value).ownBlock ∧ (some k_ ≠ (.slice Ao49 t337.length co49 : Value).ownBlock ∧ (some k_ ≠ (.slice Ao50 t340.length co50 : Value).ownBlock ∧ (some k_ ≠ (.slice Ao62 y346.length co62 : Value).ownBlock ∧ (some k_ ≠ (.slice Ao61 y349.length co61 : Value).ownBlock ∧ k_ ≠ gb345))))) ∧ k_ ≠ gb358)) (n := y355.length) (c := co60) ?_).2.2; exact (by (with_reducible repeat (first | apply Kd.N_alloc | apply Kd.N_drewN | apply Kd.N_drew)); exact (Kd.N_mono (Kd.N_far (p := ⟨gb358, 3, none⟩) (Kd.N_far (p := ⟨gb358, 2, none⟩) (Kd.N_far (p := ⟨gb358, 1, none⟩) (Kd.N_far (p := ⟨gb358, 0, none⟩) (Kd.N_mono HO357.out (fun k_ hk => (⟨hk, hk.2⟩ : _ ∧ k_ ≠ gb358))) (fun _ hk => hk.2) (.int .i64 3)) (fun _ hk => hk.2) (.slice Ao62 y346.length co62)) (fun _ hk => hk.2) (.slice Ao61 y349.length co61)) (fun _ hk => hk.2) (.slice Ao60 y355.length co60)) (fun _ h_ => h_.1)))); (case side12 => exact (Kd.N_reads' HO357.out).2.1); rintro e w67 ⟨rfl, hb⟩; have n0_ := Aside0.mk (Kd.R_below (by (with_reducible repeat (first | apply Kd.R_alloc | apply Kd.R_drewN | apply Kd.R_drew)); exact (Kd.R_mono (Kd.R_far (p := ⟨gb358, 3, none⟩) (Kd.R_far (p := ⟨gb358, 2, none⟩) (Kd.R_far (p := ⟨gb358, 1, none⟩) (Kd.R_far (p := ⟨gb358, 0, none⟩) (Kd.R_types HO336.out BK358.out (by decide)) (fun _ hk => hk.2) (.int .i64 3)) (fun _ hk => hk.2) (.slice Ao62 y346.length co62)) (fun _ hk => hk.2) (.slice Ao61 y349.length co61)) (fun _ hk => hk.2) (.slice Ao60 y355.length co60)) (fun _ h_ => h_.1))) hb); have n1_ := Aside0.mk (Kd.R_below (by (with_reducible repeat (first | apply Kd.R_alloc | apply Kd.R_drewN | apply Kd.R_drew)); exact (Kd.R_mono (Kd.R_far (p := ⟨gb358, 3, none⟩) (Kd.R_far (p := ⟨gb358, 2, none⟩) (Kd.R_far (p := ⟨gb358, 1, none⟩) (Kd.R_far (p := ⟨gb358, 0, none⟩) (Kd.R_types HO339.out BK358.out (by decide)) (fun _ hk => hk.2) (.int .i64 3)) (fun _ hk => hk.2) (.slice Ao62 y346.length co62)) (fun _ hk => hk.2) (.slice Ao61 y349.length co61)) (fun _ hk => hk.2) (.slice Ao60 y355.length co60)) (fun _ h_ => h_.1))) hb); have n2_ := Aside0.mk (Kd.N_below (by (with_reducible repeat (first | apply Kd.N_alloc | apply Kd.N_drewN | apply Kd.N_drew)); exact (Kd.N_mono (Kd.N_far (p := ⟨gb358, 3, none⟩) (Kd.N_far (p := ⟨gb358, 2, none⟩) (Kd.N_far (p := ⟨gb358, 1, none⟩) (Kd.N_far (p := ⟨gb358, 0, none⟩) (Kd.N_mono HO342.out (fun k_ hk => (⟨hk, hk.2⟩ : _ ∧ k_ ≠ gb358))) (fun _ hk => hk.2) (.int .i64 3)) (fun _ hk => hk.2) (.slice Ao62 y346.length co62)) (fun _ hk => hk.2) (.slice Ao61 y349.length co61)) (fun _ hk => hk.2) (.slice Ao60 y355.length co60)) (fun _ h_ => h_.1))) hb); have n3_ := Aside0.mk (Kd.R_below (by (with_reducible repeat (first | apply Kd.R_alloc | apply Kd.R_drewN | apply Kd.R_drew)); exact (Kd.R_mono (Kd.R_far (p := ⟨gb358, 3, none⟩) (Kd.R_far (p := ⟨gb358, 2, none⟩) (Kd.R_far (p := ⟨gb358, 1, none⟩) (Kd.R_far (p := ⟨gb358, 0, none⟩) (Kd.R_types HO348.out BK358.out (by decide)) (fun _ hk => hk.2) (.int .i64 3)) (fun _ hk => hk.2) (.slice Ao62 y346.length co62)) (fun _ hk => hk.2) (.slice Ao61 y349.length co61)) (fun _ hk => hk.2) (.slice Ao60 y355.length co60)) (fun _ h_ => h_.1))) hb); have n4_ := Aside0.mk (Kd.R_below (by (with_reducible repeat (first | apply Kd.R_alloc | apply Kd.R_drewN | apply Kd.R_drew)); exact (Kd.R_mono (Kd.R_far (p := ⟨gb358, 3, none⟩) (Kd.R_far (p := ⟨gb358, 2, none⟩) (Kd.R_far (p := ⟨gb358, 1, none⟩) (Kd.R_far (p := ⟨gb358, 0, none⟩) (Kd.R_types HO351.out BK358.out (by decide)) (fun _ hk => hk.2) (.int .i64 3)) (fun _ hk => hk.2) (.slice Ao62 y346.length co62)) (fun _ hk => hk.2) (.slice Ao61 y349.length co61)) (fun _ hk => hk.2) (.slice Ao60 y355.length co60)) (fun _ h_ => h_.1))) hb); have n5_ := Aside0.mk (Kd.N_below (by (with_reducible repeat (first | apply Kd.N_alloc | apply Kd.N_drewN | apply Kd.N_drew)); exact (Kd.N_mono (Kd.N_far (p := ⟨gb358, 3, none⟩) (Kd.N_far (p := ⟨gb358, 2, none⟩) (Kd.N_far (p := ⟨gb358, 1, none⟩) (Kd.N_far (p := ⟨gb358, 0, none⟩) (Kd.N_mono HO357.out (fun k_ hk => (⟨hk, hk.2⟩ : _ ∧ k_ ≠ gb358))) (fun _ hk => hk.2) (.int .i64 3)) (fun _ hk => hk.2) (.slice Ao62 y346.length co62)) (fun _ hk => hk.2) (.slice Ao61 y349.length co61)) (fun _ hk => hk.2) (.slice Ao60 y355.length co60)) (fun _ h_ => h_.1))) hb); have n6_ := Aside0.mk (blk_below (g := gb345) (o := .cells #[.int .i64 t333, .slice Ao48 t334.length co48, .slice Ao49 t337.length co49, .slice Ao50 t340.length co50] 37 (0, 0)) (by (with_reducible repeat (first | refine blk_drewN ?_ _ | refine blk_drew ?_ | refine blk_alloc ?_ _)); refine blk_far ?_ NB345_358.out _; (with_reducible repeat (first | refine blk_drewN ?_ _ | refine blk_drew ?_ | refine blk_alloc ?_ _)); refine blk_far ?_ NB345_358.out _; (with_reducible repeat (first | refine blk_drewN ?_ _ | refine blk_drew ?_ | refine blk_alloc ?_ _)); refine blk_far ?_ NB345_358.out _; (with_reducible repeat (first | refine blk_drewN ?_ _ | refine blk_drew ?_ | refine blk_alloc ?_ _)); refine blk_far ?_ NB345_358.out _; (with_reducible repeat (first | refine blk_drewN ?_ _ | refine blk_drew ?_ | refine blk_alloc ?_ _)); exact BK345.out) hb); have n7_ := Aside0.mk (blk_below (g := gb358) (o := .cells #[.int .i64 3, .slice Ao62 y346.length co62, .slice Ao61 y349.length co61, .slice Ao60 y355.length co60] 37 (0, 0)) (by (with_reducible repeat (first | refine blk_drewN ?_ _ | refine blk_drew ?_ | refine blk_alloc ?_ _)); refine blk_put (cs := #[.int .i64 3, .slice Ao62 y346.length co62, .slice Ao61 y349.length co61, .slice none 0 0]) ?_ 3 _ rfl; (with_reducible repeat (first | refine blk_drewN ?_ _ | refine blk_drew ?_ | refine blk_alloc ?_ _)); refine blk_put (cs := #[.int .i64 3, .slice Ao62 y346.length co62, .slice none 0 0, .slice none 0 0]) ?_ 2 _ rfl; (with_reducible repeat (first | refine blk_drewN ?_ _ | refine blk_drew ?_ | refine blk_alloc ?_ _)); refine blk_put (cs := #[.int .i64 3, .slice none 0 0, .slice none 0 0, .slice none 0 0]) ?_ 1 _ rfl; (with_reducible repeat (first | refine blk_drewN ?_ _ | refine blk_drew ?_ | refine blk_alloc ?_ _)); refine blk_put (cs := #[.int .i64 0, .slice none 0 0, .slice none 0 0, .slice none 0 0]) ?_ 0 _ rfl; (with_reducible repeat (first | refine blk_drewN ?_ _ | refine blk_drew ?_ | refine blk_alloc ?_ _)); exact BK358.out) hb); have n8_ := Aside0.mk (below_step (by repeat (first | (with_reducible first | exact HB.out | apply below_alloc | apply pw_below_drewN | apply below_drew1 | refine below_set ?_ GE345.out | refine below_set ?_ GE358.out) | exact HB.out)) hb); clear HO336; clear HO339; clear HO342; clear HO348; clear HO351; clear HO357; clear BK345; clear BK358; clear HB; have HO336 := n0_; have HO339 := n1_; have HO342 := n2_; have HO348 := n3_; have HO351 := n4_; have HO357 := n5_; have BK345 := n6_; have BK358 := n7_; have HB := n8_; clear n0_ n1_ n2_ n3_ n4_ n5_ n6_ n7_ n8_; (try clear hb); (try clear hb2); (try clear hk); (try clear hi); have hcz68_0 : w67.cell? ⟨gb345, 0, none⟩ = some (.int .i64 t333) := (blk_cell BK345.out 0).trans rfl; have hcz68_1 : w67.cell? ⟨gb345, 1, none⟩ = some (.slice Ao48 t334.length co48) := (blk_cell BK345.out 1).trans rfl; have hcz68_2 : w67.cell? ⟨gb345, 2, none⟩ = some (.slice Ao49 t337.length co49) := (blk_cell BK345.out 2).trans rfl; have hcz68_3 : w67.cell? ⟨gb345, 3, none⟩ = some (.slice Ao50 t340.length co50) := (blk_cell BK345.out 3).trans rfl; have hfz68_0 := blk_frozen BK345.out 0; have hfz68_1 := blk_frozen BK345.out 1; have hfz68_2 := blk_frozen BK345.out 2; have hfz68_3 := blk_frozen BK345.out 3) | (go_at_call 24; (with_reducible refine (text_Print.calls k t333 _ _ t334 _ _ t337 _ _ t340 t360 _ ?side1 ?side2 ?side3 ?side4 ?side5 ?side6 ?side7 A36.out).mono ?_); (case side1 => repeat (first | exact (Kd.R_reads' HO336.out).2.2 | (with_reducible refine Kd.C_alloc ?_ _) | (with_reducible refine Kd.C_drewN ?_ _) | (with_reducible refine Kd.C_drew ?_))); (case side2 => exact (Kd.R_reads' HO336.out).2.1); (case side3 => repeat (first | exact (Kd.R_reads' HO339.out).2.2 | (with_reducible refine Kd.C_alloc ?_ _) | (with_reducible refine Kd.C_drewN ?_ _) | (with_reducible refine Kd.C_drew ?_))); (case side4 => exact (Kd.R_reads' HO339.out).2.1); (case side5 => repeat (first | exact (Kd.N_reads' HO342.out).2.2 | (with_reducible refine Kd.C_alloc ?_ _) | (with_reducible refine Kd.C_drewN ?_ _) | (with_reducible refine Kd.C_drew ?_))); (case side6 => exact (Kd.N_reads' HO342.out).2.1); (case side7 => first | exact Glob.below HG.out (HB.out) | (repeat (first | exact Glob.below HG.out HB.out | (with_reducible refine Glob.alloc ?_ _) | (with_reducible refine Glob.drewN ?_ _) | (with_reducible refine Glob.drew ?_)))); rintro e w69 ⟨rfl, hb⟩; have n0_ := Aside0.mk (Kd.R_below (by (with_reducible repeat (first | apply Kd.R_alloc | apply Kd.R_drewN | apply Kd.R_drew)); exact HO336.out) hb); have n1_ := Aside0.mk (Kd.R_below (by (with_reducible repeat (first | apply Kd.R_alloc | apply Kd.R_drewN | apply Kd.R_drew)); exact HO339.out) hb); have n2_ := Aside0.mk (Kd.N_below (by (with_reducible repeat (first | apply Kd.N_alloc | apply Kd.N_drewN | apply Kd.N_drew)); exact HO342.out) hb); have n3_ := Aside0.mk (Kd.R_below (by (with_reducible repeat (first | apply Kd.R_alloc | apply Kd.R_drewN | apply Kd.R_drew)); exact HO348.out) hb); have n4_ := Aside0.mk (Kd.R_below (by (with_reducible repeat (first | apply Kd.R_alloc | apply Kd.R_drewN | apply Kd.R_drew)); exact HO351.out) hb); have n5_ := Aside0.mk (Kd.N_below (by (with_reducible repeat (first | apply Kd.N_alloc | apply Kd.N_drewN | apply Kd.N_drew)); exact HO357.out) hb); have n6_ := Aside0.mk (blk_below BK345.out hb); have n7_ := Aside0.mk (blk_below BK358.out hb); have n8_ := Aside0.mk (below_step (HB.out) hb); clear HO336; clear HO339; clear HO342; clear HO348; clear HO351; clear HO357; clear BK345; clear BK358; clear HB; have HO336 := n0_; have HO339 := n1_; have HO342 := n2_; have HO348 := n3_; have HO351 := n4_; have HO357 := n5_; have BK345 := n6_; have BK358 := n7_; have HB := n8_; clear n0_ n1_ n2_ n3_ n4_ n5_ n6_ n7_ n8_; (try clear hb); (try clear hb2); (try clear hk); (try clear hi)))
  go_ret
  exact ⟨by first | rfl | (simp [errW_none, errW_some] <;> rfl) | (simp [*, errW_none, errW_some] <;> rfl), HB.out⟩
def sl_TxNu.Pure : Prop := ∀ (a0 : Int) (a1 : Int) (a2 : Int) (a3 : Int) (a4 : Int) (a5 : Int), (Lit.int .u16 a0).wf = true → (Lit.int .u16 a1).wf = true → (Lit.int .u16 a2).wf = true → (Lit.int .u8 a3).wf = true → (Lit.int .u8 a4).wf = true → (Lit.int .u8 a5).wf = true → ∃ k, sl_TxNu.f k a0 a1 a2 a3 a4 a5 = some true
theorem sl_TxNu.walk (P : sl_TxNu.Pure) (a0 : Int) (a1 : Int) (a2 : Int) (a3 : Int) (a4 : Int) (a5 : Int) (w : World) (w0 : (Lit.int .u16 a0).wf = true) (w1 : (Lit.int .u16 a1).wf = true) (w2 : (Lit.int .u16 a2).wf = true) (w3 : (Lit.int .u8 a3).wf = true) (w4 : (Lit.int .u8 a4).wf = true) (w5 : (Lit.int .u8 a5).wf = true) (hG : Glob w) :
    Calls Tryd.prog 7 #[.int .u16 a0, .int .u16 a1, .int .u16 a2, .int .u8 a3, .int .u8 a4, .int .u8 a5] w fun e w' => e = .returned (.bool true) ∧ Below w.heap.size w w' := by
  obtain ⟨k, h⟩ := P a0 a1 a2 a3 a4 a5 w0 w1 w2 w3 w4 w5
  refine (sl_TxNu.calls k a0 a1 a2 a3 a4 a5 true w hG h).mono ?_
  rintro e w' ⟨rfl, hd⟩
  exact ⟨rfl, hd⟩
end Go.Proofs.YtgkjoodlcojkkaaDoor.QD
end
section
namespace Go.Proofs.YtgkjoodlcojkkaaDoor.Y
open Go.RowKit Go.Proofs.YtgkjoodlcojkkaaDoorW.PrintWords Go.Proofs.YtgkjoodlcojkkaaDoorW.PrintLast Go.Proofs.YtgkjoodlcojkkaaDoorW.PrintMore Go.Proofs.YtgkjoodlcojkkaaDoor.QD
set_option linter.unusedVariables false
set_option linter.unusedSimpArgs false
def zzT (P D Q C L R : Int) : S53 := ⟨B [122, 122], P, D, Q, C, [⟨2, L, 0⟩, ⟨3, L, R⟩]⟩
def zzHead : Bs := [112, 114, 111, 116, 111, 99, 111, 108, 32, 116, 111, 107, 101, 110, 10, 99, 111, 114, 101, 115, 32, 50, 32, 49, 32, 51, 10, 104, 111, 109, 101, 115, 32, 50, 32, 48, 10, 116, 97, 115, 107, 32, 122, 122, 32]
def zzText (P D Q C L R : Int) : Bs := zzHead ++ textS P ++ [32] ++ textS D ++ [32] ++ textS Q ++ [32] ++ textS C ++ [32, 115, 108, 101, 101, 112, 58] ++ textS L ++ [32, 108, 111, 99, 107, 58] ++ textS R ++ [58] ++ textS L ++ [10]
theorem zz_text (P D Q C L R : Int) : linesT (setWs 3 [2, 1, 3] [2, 0] [zzT P D Q C L R]) = zzText P D Q C L R := by
  have e1 : setWs 3 [2, 1, 3] [2, 0] [zzT P D Q C L R] = [[protocolB, protoW 3], [coresB, textS 2, textS 1, textS 3], [homesB, textS 2, textS 0], [taskB, [122, 122], textS P, textS D, textS Q, textS C, sleepB ++ 58 :: textS L, lockW ++ 58 :: (textS R ++ 58 :: textS L)]] := rfl
  rw [e1, tx0, tx1, tx2, tx3]
  unfold zzText zzHead linesT joinW
  simp only [List.flatMap_cons, List.flatMap_nil, List.append_nil, List.append_assoc, List.cons_append, List.nil_append]
  rfl
theorem zz_check {P D Q C L R : Int} (hP : 1 ≤ P ∧ P ≤ 3000) (hD : 1 ≤ D ∧ D ≤ P) (hQ : 1 ≤ Q ∧ Q ≤ 1000) (hC : 0 ≤ C ∧ C ≤ 2) (hL : 1 ≤ L ∧ L ≤ 60) (hR : 0 ≤ R ∧ R ≤ 1) : (checkS 3 [2, 1, 3] [2, 0] [zzT P D Q C L R]).2 = 0 := by
  have hone : oneS [2, 1, 3] [2, 0] [zzT P D Q C L R] (zzT P D Q C L R) 0 = 0 := by
    have b1 : ∀ {a b c : Int}, b ≤ a ∧ a ≤ c → btw a b c = true := fun h => by unfold btw; simp [h.1, h.2]
    have hbf : badForm (nameS (zzT P D Q C L R).f0.data.toList) (zzT P D Q C L R) = false := by
      have hn : nameS (zzT P D Q C L R).f0.data.toList = true := by show nameS [122, 122] = true; kernel_rfl
      unfold badForm
      rw [hn, show (zzT P D Q C L R).f1 = P from rfl, show (zzT P D Q C L R).f2 = D from rfl, show (zzT P D Q C L R).f3 = Q from rfl, b1 hP, b1 hD, b1 hQ]
      rfl
    have hpt : partedS ([2, 0] : List Int).length (zzT P D Q C L R).f5 = true := by
      show partedS 2 [⟨2, L, 0⟩, ⟨3, L, R⟩] = true
      unfold partedS
      rw [List.all_cons, List.all_cons, List.all_nil]
      have e1 : partOkS 2 ⟨2, L, 0⟩ = true := by
        unfold partOkS
        show (btw 2 1 3 && btw L 1 60 && (if (2 : Int) = 3 then btw 0 0 ((2 : Nat) - 1) else decide ((0 : Int) = 0))) = true
        rw [b1 hL]; rfl
      have e2 : partOkS 2 ⟨3, L, R⟩ = true := by
        unfold partOkS
        show (btw 3 1 3 && btw L 1 60 && (if (3 : Int) = 3 then btw R 0 ((2 : Nat) - 1) else decide (R = 0))) = true
        rw [b1 hL, if_pos rfl, b1 (show 0 ≤ R ∧ R ≤ ((2 : Nat) : Int) - 1 by omega)]; rfl
      rw [e1, e2]; rfl
    unfold oneS
    rw [hbf, if_neg (by decide), show (zzT P D Q C L R).f4 = C from rfl, b1 (show 0 ≤ C ∧ C ≤ ((([2, 1, 3] : List Int).length : Int) - 1) by simp; omega), if_neg (by decide), List.take_zero, List.any_nil, if_neg (by decide), if_pos hpt]
  unfold checkS
  rw [if_pos (by decide), if_pos (by kernel_rfl), if_neg (by simp), if_neg (by simp)]
  unfold checkGo checkGo
  rw [if_pos hone]
theorem zz_len (P D Q C L R : Int) : (zzText P D Q C L R).length ≤ 200 := by
  have h1 := textS_len P
  have h2 := textS_len D
  have h3 := textS_len Q
  have h4 := textS_len C
  have h5 := textS_len L
  have h6 := textS_len R
  unfold zzText zzHead
  simp only [List.length_append, List.length_cons, List.length_nil]
  omega
theorem TextNumbers_pure : sl_TxNu.Pure := by
  intro a0 a1 a2 a3 a4 a5 w0 w1 w2 w3 w4 w5
  have b0 : 0 ≤ a0 ∧ a0 ≤ 65535 := by simpa [Lit.wf, IntKind.min, IntKind.max, IntKind.signed, IntKind.bits] using w0
  have b1 : 0 ≤ a1 ∧ a1 ≤ 65535 := by simpa [Lit.wf, IntKind.min, IntKind.max, IntKind.signed, IntKind.bits] using w1
  have b2 : 0 ≤ a2 ∧ a2 ≤ 65535 := by simpa [Lit.wf, IntKind.min, IntKind.max, IntKind.signed, IntKind.bits] using w2
  have b3 : 0 ≤ a3 ∧ a3 ≤ 255 := by simpa [Lit.wf, IntKind.min, IntKind.max, IntKind.signed, IntKind.bits] using w3
  have b4 : 0 ≤ a4 ∧ a4 ≤ 255 := by simpa [Lit.wf, IntKind.min, IntKind.max, IntKind.signed, IntKind.bits] using w4
  have b5 : 0 ≤ a5 ∧ a5 ≤ 255 := by simpa [Lit.wf, IntKind.min, IntKind.max, IntKind.signed, IntKind.bits] using w5
  refine ⟨30000, ?_⟩
  unfold sl_TxNu.f
  rw [known9_eq 30000 (by omega) (by omega), Option.bind_some, if_pos rfl]
  have t0 : Int.tmod a0 3000 = a0 % 3000 := Int.tmod_eq_emod_of_nonneg b0.1
  have t2 : Int.tmod a2 1000 = a2 % 1000 := Int.tmod_eq_emod_of_nonneg b2.1
  have t3 : Int.tmod a3 3 = a3 % 3 := Int.tmod_eq_emod_of_nonneg b3.1
  have t4 : Int.tmod a4 2 = a4 % 2 := Int.tmod_eq_emod_of_nonneg b4.1
  have t5 : Int.tmod a5 60 = a5 % 60 := Int.tmod_eq_emod_of_nonneg b5.1
  obtain ⟨P, eP, hP⟩ : ∃ P : Int, wrap64 ((wrap64 (Int.tmod a0 3000)) + 1) = P ∧ 1 ≤ P ∧ P ≤ 3000 := ⟨_, rfl, by rw [t0, w64 (n := a0 % 3000) (by omega), w64 (by omega)]; omega⟩
  rw [eP]
  obtain ⟨D, eD, hD⟩ : ∃ D : Int, wrap64 ((Int.tmod (wrap64 (a1)) P) + 1) = D ∧ 1 ≤ D ∧ D ≤ P := by
    refine ⟨_, rfl, ?_⟩
    have h1 : Int.tmod (wrap64 a1) P = a1 % P := by rw [w64 (by omega)]; exact Int.tmod_eq_emod_of_nonneg b1.1
    have h2 := Int.emod_nonneg a1 (show P ≠ 0 by omega)
    have h3 := Int.emod_lt_of_pos a1 (show 0 < P by omega)
    rw [h1, w64 (by omega)]; omega
  obtain ⟨Q, eQ, hQ⟩ : ∃ Q : Int, wrap64 ((wrap64 (Int.tmod a2 1000)) + 1) = Q ∧ 1 ≤ Q ∧ Q ≤ 1000 := ⟨_, rfl, by rw [t2, w64 (n := a2 % 1000) (by omega), w64 (by omega)]; omega⟩
  obtain ⟨C, eC, hC⟩ : ∃ C : Int, wrap64 (Int.tmod a3 3) = C ∧ 0 ≤ C ∧ C ≤ 2 := ⟨_, rfl, by rw [t3, w64 (by omega)]; omega⟩
  obtain ⟨L, eL, hL⟩ : ∃ L : Int, wrap64 ((wrap64 (Int.tmod a5 60)) + 1) = L ∧ 1 ≤ L ∧ L ≤ 60 := ⟨_, rfl, by rw [t5, w64 (n := a5 % 60) (by omega), w64 (by omega)]; omega⟩
  obtain ⟨R, eR, hR⟩ : ∃ R : Int, wrap64 (Int.tmod a4 2) = R ∧ 0 ≤ R ∧ R ≤ 1 := ⟨_, rfl, by rw [t4, w64 (by omega)]; omega⟩
  rw [if_neg (by omega), eD, eQ, eC, eL, eR]
  clear eP eD eQ eC eL eR t0 t2 t3 t4 t5 b0 b1 b2 b3 b4 b5 w0 w1 w2 w3 w4 w5
  have hck := zz_check hP hD hQ hC hL hR
  have hp := parse_print hck
  have hpr := print_eq 3 [2, 1, 3] [2, 0] [zzT P D Q C L R] 100 (fun t ht => by
    have : t = zzT P D Q C L R := by simpa using ht
    subst this
    exact ⟨by show (2 : Nat) < 100; decide, by show 3 * 2 < 100; decide⟩) 30000 (by omega) (by omega)
  have hsame := same_refl 3 [2, 1, 3] [2, 0] [zzT P D Q C L R] (by simp) (by simp) (by simp) (fun t ht => by
    have : t = zzT P D Q C L R := by simpa using ht
    subst this
    show (2 : Nat) < 1000; decide) 30000 (by omega)
  unfold printS at hpr
  rw [if_pos hck, zz_text] at hpr
  rw [zz_text] at hp
  have hlen := zz_len P D Q C L R
  have hpe := parse_eq (zzText P D Q C L R) (by omega) 30000 (by omega) (by omega)
  rw [hp] at hpe
  have e4 : ((setWs 3 [2, 1, 3] [2, 0] [zzT P D Q C L R]).length : Int) = 4 := rfl
  rw [e4] at hpe
  clear hp e4 hck
  have l1 := textS_len P
  have l2 := textS_len D
  have l3 := textS_len Q
  have l4 := textS_len C
  have l5 := textS_len L
  have l6 := textS_len R
  rw [refText_eq P 30000 (by omega), refText_eq D 30000 (by omega), refText_eq Q 30000 (by omega), refText_eq C 30000 (by omega), refText_eq L 30000 (by omega), refText_eq R 30000 (by omega)]
  rw [show (⟨#[112, 114, 111, 116, 111, 99, 111, 108, 32, 116, 111, 107, 101, 110, 10, 99, 111, 114, 101, 115, 32, 50, 32, 49, 32, 51, 10, 104, 111, 109, 101, 115, 32, 50, 32, 48, 10, 116, 97, 115, 107, 32, 122, 122, 32]⟩ : ByteArray) = B zzHead from rfl, show (⟨#[32]⟩ : ByteArray) = B [32] from rfl, show (⟨#[32, 115, 108, 101, 101, 112, 58]⟩ : ByteArray) = B [32, 115, 108, 101, 101, 112, 58] from rfl, show (⟨#[32, 108, 111, 99, 107, 58]⟩ : ByteArray) = B [32, 108, 111, 99, 107, 58] from rfl, show (⟨#[58]⟩ : ByteArray) = B [58] from rfl, show (⟨#[10]⟩ : ByteArray) = B [10] from rfl]
  have hz : zzHead.length = 45 := rfl
  simp only [Option.bind_some, append_B, size_B, List.length_append, List.length_cons, List.length_nil, hz]
  rw [if_pos (by omega), if_pos (by omega), if_pos (by omega), if_pos (by omega), if_pos (by omega), if_pos (by omega), if_pos (by omega), if_pos (by omega), if_pos (by omega), if_pos (by omega), if_pos (by omega), if_pos (by omega), if_pos (by omega), if_pos (by omega)]
  unfold zzText at hpe hpr
  rw [hpe, Option.bind_some, if_pos rfl, if_pos rfl]
  have hs2 : sr_Same.f 30000 3 [2, 1, 3] [2, 0] [zzT P D Q C L R] 3 [2, 1, 3] [2, 0] [⟨⟨#[122, 122]⟩, P, D, Q, C, [⟨2, L, 0⟩, ⟨3, L, R⟩]⟩] = some true := hsame
  rw [hs2, Option.bind_some, if_pos rfl, hpr, Option.bind_some]
  simp
end Go.Proofs.YtgkjoodlcojkkaaDoor.Y
end
