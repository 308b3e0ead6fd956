import Derived.Test.YtgkjoodlcojkkaaDoorMU2
section
namespace Go.Proofs.YtgkjoodlcojkkaaDoor.QD
open Go.RowKit Go.Proofs.YtgkjoodlcojkkaaDoorW.PrintWords Go.Proofs.YtgkjoodlcojkkaaDoorW.PrintLast Go.Proofs.YtgkjoodlcojkkaaDoorW.PrintMore
attribute [local go_sem] max2_int min2_int max_two min_two max_three min_three max_four min_four
set_option linter.unusedVariables false
set_option linter.unusedSimpArgs false
def task_Check.l0 : Nat → Int → Int → Int → List Int → List Int → List (S53) → Option (Int × Int)
  | 0, _, _, _, _, _, _ => none
  | k + 1, x27, x28, x255000, x255001, x255002, x255003 => if x28 < x27 then ((task_one.f k x255000 x255001 x255002 x255003 x28).bind fun t257 => (if t257 = 0 then (task_Check.l0 k x27 (wrap64 (x28 + 1)) x255000 x255001 x255002 x255003) else (some (x28, t257)))) else (some ((-1), 0))
def task_Check.f (k : Nat) (a0_0 : Int) (l0_1 : List Int) (l0_2 : List Int) (l0_3 : List (S53)) : Option (Int × Int) := (task_between.f a0_0 1 3).bind fun t255 => (if t255 = true then ((task_placed.f a0_0 l0_1 l0_2 l0_3).bind fun t256 => (if t256 = true then (if (l0_3.length : Int) > 6 then (some ((-1), 11)) else (if (l0_3.length : Int) = 0 then (some ((-1), 14)) else (task_Check.l0 k (l0_3.length : Int) 0 a0_0 l0_1 l0_2 l0_3))) else (some ((-1), 16)))) else (some ((-1), 10)))
theorem task_Check.mono_l : ∀ k, (∀ y0 y1 y2 y3 y4 y5, LeO (task_Check.l0 k y0 y1 y2 y3 y4 y5) (task_Check.l0 (k + 1) y0 y1 y2 y3 y4 y5))
  | 0 => fun _ _ _ _ _ _ r h => by simp [task_Check.l0] at h
  | k + 1 => by
    have ih0 := task_Check.mono_l k
    · intro y0 y1 y2 y3 y4 y5
      unfold task_Check.l0
      repeat' first
      | (with_reducible exact ih0 _ _ _ _ _ _)
      | (with_reducible exact task_one.mono _ _ _ _ _ _)
      | (with_reducible exact LeO.refl _)
      | (with_reducible exact LeO.none _)
      | (with_reducible refine LeO.ite ?_ ?_)
      | (with_reducible refine LeO.bind ?_ (fun _ => ?_))
      | exact ih0 _ _ _ _ _ _
      | exact task_one.mono _ _ _ _ _ _
      | exact LeO.none _
      | refine LeO.ite ?_ ?_
      | refine LeO.bind ?_ (fun _ => ?_)
theorem task_Check.mono : ∀ a0 a1 a2 a3 k, LeO (task_Check.f k a0 a1 a2 a3) (task_Check.f (k + 1) a0 a1 a2 a3) := by
  intro a0 a1 a2 a3 k
  have ih0 := task_Check.mono_l k
  unfold task_Check.f
  repeat' first
      | (with_reducible exact ih0 _ _ _ _ _ _)
      | (with_reducible exact task_one.mono _ _ _ _ _ _)
      | (with_reducible exact LeO.refl _)
      | (with_reducible exact LeO.none _)
      | (with_reducible refine LeO.ite ?_ ?_)
      | (with_reducible refine LeO.bind ?_ (fun _ => ?_))
      | exact ih0 _ _ _ _ _ _
      | exact task_one.mono _ _ _ _ _ _
      | exact LeO.none _
      | refine LeO.ite ?_ ?_
      | refine LeO.bind ?_ (fun _ => ?_)
set_option maxHeartbeats 8000000 in
set_option maxRecDepth 100000 in
theorem task_Check.calls (k : Nat) (a0_0 : Int) (A0_1 : Option Addr) (c0_1 : Nat) (l0_1 : List Int) (A0_2 : Option Addr) (c0_2 : Nat) (l0_2 : List Int) (A0_3 : Option Addr) (c0_3 : Nat) (l0_3 : List (S53)) (r1 : Int) (r2 : Int) (w : World) (hr0_1 : Kd.C (Kd.int .i64) w A0_1 l0_1.length l0_1) (hc0_1 : l0_1.length ≤ c0_1) (hr0_2 : Kd.C (Kd.int .i64) w A0_2 l0_2.length l0_2) (hc0_2 : l0_2.length ≤ c0_2) (hr0_3 : Kd.C k53 w A0_3 l0_3.length l0_3) (hc0_3 : l0_3.length ≤ c0_3) (h : task_Check.f k a0_0 l0_1 l0_2 l0_3 = some (r1, r2)) :
    Calls Tryd.prog 33 #[.agg #[.int .i64 a0_0, .slice A0_1 l0_1.length c0_1, .slice A0_2 l0_2.length c0_2, .slice A0_3 l0_3.length c0_3]] w fun e w' => e = .returned (.tuple #[.int .i64 r1, .int .i64 r2]) ∧ Below w.heap.size w w' := by
  have hu37 := Tryd.underlying37
  have HR0_1 := Aside0.mk hr0_1
  have HC0_1 := Aside0.mk hc0_1
  clear hr0_1 hc0_1
  have HR0_2 := Aside0.mk hr0_2
  have HC0_2 := Aside0.mk hc0_2
  clear hr0_2 hc0_2
  have HR0_3 := Aside0.mk hr0_3
  have HC0_3 := Aside0.mk hc0_3
  clear hr0_3 hc0_3
  have HB := Aside0.mk (Below.refl w.heap.size w)
  have H : ((task_between.f a0_0 1 3).bind fun t255 => (if t255 = true then ((task_placed.f a0_0 l0_1 l0_2 l0_3).bind fun t256 => (if t256 = true then (if (l0_3.length : Int) > 6 then (some ((-1), 11)) else (if (l0_3.length : Int) = 0 then (some ((-1), 14)) else (task_Check.l0 k (l0_3.length : Int) 0 a0_0 l0_1 l0_2 l0_3))) else (some ((-1), 16)))) else (some ((-1), 10)))) = some (r1, r2) := h
  clear h
  replace H := Option.bind_eq_some_iff.mp H
  obtain ⟨t255, A20, H⟩ := H
  replace H : (if t255 = true then ((task_placed.f a0_0 l0_1 l0_2 l0_3).bind fun t256 => (if t256 = true then (if (l0_3.length : Int) > 6 then (some ((-1), 11)) else (if (l0_3.length : Int) = 0 then (some ((-1), 14)) else (task_Check.l0 k (l0_3.length : Int) 0 a0_0 l0_1 l0_2 l0_3))) else (some ((-1), 16)))) else (some ((-1), 10))) = some (r1, r2) := H
  have A2 := Aside0.mk A20
  clear A20
  by_cases c3 : t255 = true
  rotate_left
  · replace c3 := Bool.eq_false_iff.mpr c3
    subst c3
    have H1 : (some ((-1), 10)) = some (r1, r2) := by rw [if_neg (show ¬ (false = true) by decide)] at H; exact H
    clear H
    have H := H1
    clear H1
    simp only [Option.some.injEq, Prod.mk.injEq] at H
    obtain ⟨rfl, rfl⟩ := H
    go_enter Tryd.func33, Tryd.ntmps33
    go_wp2_with (first | ((with_reducible refine gate_dst (N := 1) rfl ?_); refine box_event ?hg (N := 1) ?hd (cs := #[.int .i64 a0_0, .slice A0_1 l0_1.length c0_1, .slice A0_2 l0_2.length c0_2, .slice A0_3 l0_3.length c0_3]) (t := 37) ?hr ?_; (case hd => rfl); (case hg => rfl); (case hr => first | (go_simp; done) | (go_simp; rfl)); intro gb254 hg w4 hbox hb; have n0_ := Aside0.mk (below_step (HB.out) hb); have n1_ := Aside0.mk (hbox); have n2_ := Aside0.mk ((by rw [hg]; exact (below_size (HB.out)) : w.heap.size ≤ gb254)); have n3_ := Aside0.mk ((by rw [hg]; exact (below_size (HB.out)) : w.heap.size ≤ gb254)); clear HB; have HB := n0_; have BK254 := n1_; have GW254 := n2_; have GE254 := n3_; clear n0_ n1_ n2_ n3_; clear hb hbox hg; have hcz5_0 : w4.cell? ⟨gb254, 0, none⟩ = some (.int .i64 a0_0) := (blk_cell BK254.out 0).trans rfl; have hcz5_1 : w4.cell? ⟨gb254, 1, none⟩ = some (.slice A0_1 l0_1.length c0_1) := (blk_cell BK254.out 1).trans rfl; have hcz5_2 : w4.cell? ⟨gb254, 2, none⟩ = some (.slice A0_2 l0_2.length c0_2) := (blk_cell BK254.out 2).trans rfl; have hcz5_3 : w4.cell? ⟨gb254, 3, none⟩ = some (.slice A0_3 l0_3.length c0_3) := (blk_cell BK254.out 3).trans rfl; have hfz5_0 := blk_frozen BK254.out 0; have hfz5_1 := blk_frozen BK254.out 1; have hfz5_2 := blk_frozen BK254.out 2; have hfz5_3 := blk_frozen BK254.out 3) | ((with_reducible refine gate_callee (f := 52) rfl ?_); refine goesL_ (some 9) rfl rfl Tryd.func52 (by kernel_rfl) rfl #[.int .i64 a0_0, .int .i64 1, .int .i64 3] rfl (by (try simp only [List.map_toArray, List.map_cons, List.map_nil]); first | done | rfl | (simp only [List.length_drop, List.length_take]; rfl)) ?_; (with_reducible refine (task_between.calls a0_0 1 3 false _ A2.out).mono ?_); rintro e w' ⟨rfl, ⟨nd, rfl⟩⟩; refine ⟨_, rfl, ?_⟩))
    go_ret2
    exact ⟨by first | rfl | (simp [errW_none, errW_some] <;> rfl) | (simp [*, errW_none, errW_some] <;> rfl), by repeat (first | (with_reducible first | exact HB.out | apply below_alloc | apply pw_below_drewN | apply below_drew1 | refine below_set ?_ GE254.out) | exact HB.out)⟩
  subst c3
  have H1 : ((task_placed.f a0_0 l0_1 l0_2 l0_3).bind fun t256 => (if t256 = true then (if (l0_3.length : Int) > 6 then (some ((-1), 11)) else (if (l0_3.length : Int) = 0 then (some ((-1), 14)) else (task_Check.l0 k (l0_3.length : Int) 0 a0_0 l0_1 l0_2 l0_3))) else (some ((-1), 16)))) = some (r1, r2) := by rw [if_pos rfl] at H; exact H
  clear H
  have H := H1
  clear H1
  replace H := Option.bind_eq_some_iff.mp H
  obtain ⟨t256, A60, H⟩ := H
  replace H : (if t256 = true then (if (l0_3.length : Int) > 6 then (some ((-1), 11)) else (if (l0_3.length : Int) = 0 then (some ((-1), 14)) else (task_Check.l0 k (l0_3.length : Int) 0 a0_0 l0_1 l0_2 l0_3))) else (some ((-1), 16))) = some (r1, r2) := H
  have A6 := Aside0.mk A60
  clear A60
  by_cases c7 : t256 = true
  rotate_left
  · replace c7 := Bool.eq_false_iff.mpr c7
    subst c7
    have H1 : (some ((-1), 16)) = some (r1, r2) := by rw [if_neg (show ¬ (false = true) by decide)] at H; exact H
    clear H
    have H := H1
    clear H1
    simp only [Option.some.injEq, Prod.mk.injEq] at H
    obtain ⟨rfl, rfl⟩ := H
    go_enter Tryd.func33, Tryd.ntmps33
    go_wp2_with (first | ((with_reducible refine gate_dst (N := 1) rfl ?_); refine box_event ?hg (N := 1) ?hd (cs := #[.int .i64 a0_0, .slice A0_1 l0_1.length c0_1, .slice A0_2 l0_2.length c0_2, .slice A0_3 l0_3.length c0_3]) (t := 37) ?hr ?_; (case hd => rfl); (case hg => rfl); (case hr => first | (go_simp; done) | (go_simp; rfl)); intro gb254 hg w8 hbox hb; have n0_ := Aside0.mk (below_step (HB.out) hb); have n1_ := Aside0.mk (hbox); have n2_ := Aside0.mk ((by rw [hg]; exact (below_size (HB.out)) : w.heap.size ≤ gb254)); have n3_ := n2_; clear HB; have HB := n0_; have BK254 := n1_; have GW254 := n2_; have GE254 := n3_; clear n0_ n1_ n2_ n3_; clear hb hbox hg; have hcz9_0 : w8.cell? ⟨gb254, 0, none⟩ = some (.int .i64 a0_0) := (blk_cell BK254.out 0).trans rfl; have hcz9_1 : w8.cell? ⟨gb254, 1, none⟩ = some (.slice A0_1 l0_1.length c0_1) := (blk_cell BK254.out 1).trans rfl; have hcz9_2 : w8.cell? ⟨gb254, 2, none⟩ = some (.slice A0_2 l0_2.length c0_2) := (blk_cell BK254.out 2).trans rfl; have hcz9_3 : w8.cell? ⟨gb254, 3, none⟩ = some (.slice A0_3 l0_3.length c0_3) := (blk_cell BK254.out 3).trans rfl; have hfz9_0 := blk_frozen BK254.out 0; have hfz9_1 := blk_frozen BK254.out 1; have hfz9_2 := blk_frozen BK254.out 2; have hfz9_3 := blk_frozen BK254.out 3) | ((with_reducible refine gate_callee (f := 52) rfl ?_); refine goesL_ (some 9) rfl rfl Tryd.func52 (by kernel_rfl) rfl #[.int .i64 a0_0, .int .i64 1, .int .i64 3] rfl (by (try simp only [List.map_toArray, List.map_cons, List.map_nil]); first | done | rfl | (simp only [List.length_drop, List.length_take]; rfl)) ?_; (with_reducible refine (task_between.calls a0_0 1 3 true _ A2.out).mono ?_); rintro e w' ⟨rfl, ⟨nd, rfl⟩⟩; refine ⟨_, rfl, ?_⟩) | ((with_reducible refine gate_callee (f := 53) rfl ?_); refine goesL_ (some 13) rfl rfl Tryd.func53 (by kernel_rfl) rfl #[.agg #[.int .i64 a0_0, .slice A0_1 l0_1.length c0_1, .slice A0_2 l0_2.length c0_2, .slice A0_3 l0_3.length c0_3]] rfl (by (try simp only [List.map_toArray, List.map_cons, List.map_nil]); first | done | rfl | (simp only [List.length_drop, List.length_take]; rfl)) ?_; (with_reducible refine (task_placed.calls a0_0 _ _ l0_1 _ _ l0_2 _ _ l0_3 false _ ?side1 ?side2 ?side3 ?side4 ?side5 ?side6 A6.out).mono ?_); (case side1 => repeat (first | exact (Kd.C_below HR0_1.out (by repeat (first | (with_reducible first | exact HB.out | apply below_alloc | apply pw_below_drewN | apply below_drew1 | refine below_set ?_ GE254.out) | exact HB.out))) | (with_reducible refine Kd.C_alloc ?_ _) | (with_reducible refine Kd.C_drewN ?_ _) | (with_reducible refine Kd.C_drew ?_))); (case side2 => exact HC0_1.out); (case side3 => repeat (first | exact (Kd.C_below HR0_2.out (by repeat (first | (with_reducible first | exact HB.out | apply below_alloc | apply pw_below_drewN | apply below_drew1 | refine below_set ?_ GE254.out) | exact HB.out))) | (with_reducible refine Kd.C_alloc ?_ _) | (with_reducible refine Kd.C_drewN ?_ _) | (with_reducible refine Kd.C_drew ?_))); (case side4 => exact HC0_2.out); (case side5 => repeat (first | exact (Kd.C_below HR0_3.out (by repeat (first | (with_reducible first | exact HB.out | apply below_alloc | apply pw_below_drewN | apply below_drew1 | refine below_set ?_ GE254.out) | exact HB.out))) | (with_reducible refine Kd.C_alloc ?_ _) | (with_reducible refine Kd.C_drewN ?_ _) | (with_reducible refine Kd.C_drew ?_))); (case side6 => exact HC0_3.out); rintro e w10 ⟨rfl, hb⟩; refine ⟨_, rfl, ?_⟩; have n0_ := Aside0.mk (blk_below (g := gb254) (o := .cells #[.int .i64 a0_0, .slice A0_1 l0_1.length c0_1, .slice A0_2 l0_2.length c0_2, .slice A0_3 l0_3.length c0_3] 37 (0, 0)) (by (with_reducible repeat (first | refine blk_drewN ?_ _ | refine blk_drew ?_ | refine blk_alloc ?_ _)); exact BK254.out) hb); have n1_ := Aside0.mk (below_step (by repeat (first | (with_reducible first | exact HB.out | apply below_alloc | apply pw_below_drewN | apply below_drew1 | refine below_set ?_ GE254.out) | exact HB.out)) hb); clear BK254; clear HB; have BK254 := n0_; have HB := n1_; clear n0_ n1_; (try clear hb); (try clear hb2); (try clear hk); (try clear hi)))
    go_ret2
    exact ⟨by first | rfl | (simp [errW_none, errW_some] <;> rfl) | (simp [*, errW_none, errW_some] <;> rfl), HB.out⟩
  subst c7
  have H1 : (if (l0_3.length : Int) > 6 then (some ((-1), 11)) else (if (l0_3.length : Int) = 0 then (some ((-1), 14)) else (task_Check.l0 k (l0_3.length : Int) 0 a0_0 l0_1 l0_2 l0_3))) = some (r1, r2) := by rw [if_pos rfl] at H; exact H
  clear H
  have H := H1
  clear H1
  by_cases c11 : (l0_3.length : Int) > 6
  · rw [if_pos c11] at H
    have c11b0 : decide (6 < (l0_3.length : Int)) = true := decide_eq_true c11
    have c11b1 : decide (6 < l0_3.length) = true := decide_eq_true (by omega)
    clear c11
    simp only [Option.some.injEq, Prod.mk.injEq] at H
    obtain ⟨rfl, rfl⟩ := H
    go_enter Tryd.func33, Tryd.ntmps33
    go_wp2_with (first | ((with_reducible refine gate_dst (N := 1) rfl ?_); refine box_event ?hg (N := 1) ?hd (cs := #[.int .i64 a0_0, .slice A0_1 l0_1.length c0_1, .slice A0_2 l0_2.length c0_2, .slice A0_3 l0_3.length c0_3]) (t := 37) ?hr ?_; (case hd => rfl); (case hg => rfl); (case hr => first | (go_simp; done) | (go_simp; rfl)); intro gb254 hg w12 hbox hb; have n0_ := Aside0.mk (below_step (HB.out) hb); have n1_ := Aside0.mk (hbox); have n2_ := Aside0.mk ((by rw [hg]; exact (below_size (HB.out)) : w.heap.size ≤ gb254)); have n3_ := n2_; clear HB; have HB := n0_; have BK254 := n1_; have GW254 := n2_; have GE254 := n3_; clear n0_ n1_ n2_ n3_; clear hb hbox hg; have hcz13_0 : w12.cell? ⟨gb254, 0, none⟩ = some (.int .i64 a0_0) := (blk_cell BK254.out 0).trans rfl; have hcz13_1 : w12.cell? ⟨gb254, 1, none⟩ = some (.slice A0_1 l0_1.length c0_1) := (blk_cell BK254.out 1).trans rfl; have hcz13_2 : w12.cell? ⟨gb254, 2, none⟩ = some (.slice A0_2 l0_2.length c0_2) := (blk_cell BK254.out 2).trans rfl; have hcz13_3 : w12.cell? ⟨gb254, 3, none⟩ = some (.slice A0_3 l0_3.length c0_3) := (blk_cell BK254.out 3).trans rfl; have hfz13_0 := blk_frozen BK254.out 0; have hfz13_1 := blk_frozen BK254.out 1; have hfz13_2 := blk_frozen BK254.out 2; have hfz13_3 := blk_frozen BK254.out 3) | ((with_reducible refine gate_callee (f := 52) rfl ?_); refine goesL_ (some 9) rfl rfl Tryd.func52 (by kernel_rfl) rfl #[.int .i64 a0_0, .int .i64 1, .int .i64 3] rfl (by (try simp only [List.map_toArray, List.map_cons, List.map_nil]); first | done | rfl | (simp only [List.length_drop, List.length_take]; rfl)) ?_; (with_reducible refine (task_between.calls a0_0 1 3 true _ A2.out).mono ?_); rintro e w' ⟨rfl, ⟨nd, rfl⟩⟩; refine ⟨_, rfl, ?_⟩) | ((with_reducible refine gate_callee (f := 53) rfl ?_); refine goesL_ (some 13) rfl rfl Tryd.func53 (by kernel_rfl) rfl #[.agg #[.int .i64 a0_0, .slice A0_1 l0_1.length c0_1, .slice A0_2 l0_2.length c0_2, .slice A0_3 l0_3.length c0_3]] rfl (by (try simp only [List.map_toArray, List.map_cons, List.map_nil]); first | done | rfl | (simp only [List.length_drop, List.length_take]; rfl)) ?_; (with_reducible refine (task_placed.calls a0_0 _ _ l0_1 _ _ l0_2 _ _ l0_3 true _ ?side1 ?side2 ?side3 ?side4 ?side5 ?side6 A6.out).mono ?_); (case side1 => repeat (first | exact (Kd.C_below HR0_1.out (by repeat (first | (with_reducible first | exact HB.out | apply below_alloc | apply pw_below_drewN | apply below_drew1 | refine below_set ?_ GE254.out) | exact HB.out))) | (with_reducible refine Kd.C_alloc ?_ _) | (with_reducible refine Kd.C_drewN ?_ _) | (with_reducible refine Kd.C_drew ?_))); (case side2 => exact HC0_1.out); (case side3 => repeat (first | exact (Kd.C_below HR0_2.out (by repeat (first | (with_reducible first | exact HB.out | apply below_alloc | apply pw_below_drewN | apply below_drew1 | refine below_set ?_ GE254.out) | exact HB.out))) | (with_reducible refine Kd.C_alloc ?_ _) | (with_reducible refine Kd.C_drewN ?_ _) | (with_reducible refine Kd.C_drew ?_))); (case side4 => exact HC0_2.out); (case side5 => repeat (first | exact (Kd.C_below HR0_3.out (by repeat (first | (with_reducible first | exact HB.out | apply below_alloc | apply pw_below_drewN | apply below_drew1 | refine below_set ?_ GE254.out) | exact HB.out))) | (with_reducible refine Kd.C_alloc ?_ _) | (with_reducible refine Kd.C_drewN ?_ _) | (with_reducible refine Kd.C_drew ?_))); (case side6 => exact HC0_3.out); rintro e w14 ⟨rfl, hb⟩; refine ⟨_, rfl, ?_⟩; have n0_ := Aside0.mk (blk_below (g := gb254) (o := .cells #[.int .i64 a0_0, .slice A0_1 l0_1.length c0_1, .slice A0_2 l0_2.length c0_2, .slice A0_3 l0_3.length c0_3] 37 (0, 0)) (by (with_reducible repeat (first | refine blk_drewN ?_ _ | refine blk_drew ?_ | refine blk_alloc ?_ _)); exact BK254.out) hb); have n1_ := Aside0.mk (below_step (by repeat (first | (with_reducible first | exact HB.out | apply below_alloc | apply pw_below_drewN | apply below_drew1 | refine below_set ?_ GE254.out) | exact HB.out)) hb); clear BK254; clear HB; have BK254 := n0_; have HB := n1_; clear n0_ n1_; (try clear hb); (try clear hb2); (try clear hk); (try clear hi); have hcz15_0 : w14.cell? ⟨gb254, 0, none⟩ = some (.int .i64 a0_0) := (blk_cell BK254.out 0).trans rfl; have hcz15_1 : w14.cell? ⟨gb254, 1, none⟩ = some (.slice A0_1 l0_1.length c0_1) := (blk_cell BK254.out 1).trans rfl; have hcz15_2 : w14.cell? ⟨gb254, 2, none⟩ = some (.slice A0_2 l0_2.length c0_2) := (blk_cell BK254.out 2).trans rfl; have hcz15_3 : w14.cell? ⟨gb254, 3, none⟩ = some (.slice A0_3 l0_3.length c0_3) := (blk_cell BK254.out 3).trans rfl; have hfz15_0 := blk_frozen BK254.out 0; have hfz15_1 := blk_frozen BK254.out 1; have hfz15_2 := blk_frozen BK254.out 2; have hfz15_3 := blk_frozen BK254.out 3))
    go_ret2
    exact ⟨by first | rfl | (simp [errW_none, errW_some] <;> rfl) | (simp [*, errW_none, errW_some] <;> rfl), HB.out⟩
  rw [if_neg c11] at H
  have c11b0 : decide (6 < (l0_3.length : Int)) = false := decide_eq_false c11
  have c11b1 : decide (6 < l0_3.length) = false := decide_eq_false (by omega)
  clear c11
  by_cases c16 : (l0_3.length : Int) = 0
  · rw [if_pos c16] at H
    have c16b0 : ((l0_3.length : Int) == 0) = true := beq_iff_eq.mpr c16
    have c16b1 : ((l0_3.length : Int) != 0) = false := bne_eq_false_iff_eq.mpr c16
    clear c16
    simp only [Option.some.injEq, Prod.mk.injEq] at H
    obtain ⟨rfl, rfl⟩ := H
    go_enter Tryd.func33, Tryd.ntmps33
    go_wp2_with (first | ((with_reducible refine gate_dst (N := 1) rfl ?_); refine box_event ?hg (N := 1) ?hd (cs := #[.int .i64 a0_0, .slice A0_1 l0_1.length c0_1, .slice A0_2 l0_2.length c0_2, .slice A0_3 l0_3.length c0_3]) (t := 37) ?hr ?_; (case hd => rfl); (case hg => rfl); (case hr => first | (go_simp; done) | (go_simp; rfl)); intro gb254 hg w17 hbox hb; have n0_ := Aside0.mk (below_step (HB.out) hb); have n1_ := Aside0.mk (hbox); have n2_ := Aside0.mk ((by rw [hg]; exact (below_size (HB.out)) : w.heap.size ≤ gb254)); have n3_ := n2_; clear HB; have HB := n0_; have BK254 := n1_; have GW254 := n2_; have GE254 := n3_; clear n0_ n1_ n2_ n3_; clear hb hbox hg; have hcz18_0 : w17.cell? ⟨gb254, 0, none⟩ = some (.int .i64 a0_0) := (blk_cell BK254.out 0).trans rfl; have hcz18_1 : w17.cell? ⟨gb254, 1, none⟩ = some (.slice A0_1 l0_1.length c0_1) := (blk_cell BK254.out 1).trans rfl; have hcz18_2 : w17.cell? ⟨gb254, 2, none⟩ = some (.slice A0_2 l0_2.length c0_2) := (blk_cell BK254.out 2).trans rfl; have hcz18_3 : w17.cell? ⟨gb254, 3, none⟩ = some (.slice A0_3 l0_3.length c0_3) := (blk_cell BK254.out 3).trans rfl; have hfz18_0 := blk_frozen BK254.out 0; have hfz18_1 := blk_frozen BK254.out 1; have hfz18_2 := blk_frozen BK254.out 2; have hfz18_3 := blk_frozen BK254.out 3) | ((with_reducible refine gate_callee (f := 52) rfl ?_); refine goesL_ (some 9) rfl rfl Tryd.func52 (by kernel_rfl) rfl #[.int .i64 a0_0, .int .i64 1, .int .i64 3] rfl (by (try simp only [List.map_toArray, List.map_cons, List.map_nil]); first | done | rfl | (simp only [List.length_drop, List.length_take]; rfl)) ?_; (with_reducible refine (task_between.calls a0_0 1 3 true _ A2.out).mono ?_); rintro e w' ⟨rfl, ⟨nd, rfl⟩⟩; refine ⟨_, rfl, ?_⟩) | ((with_reducible refine gate_callee (f := 53) rfl ?_); refine goesL_ (some 13) rfl rfl Tryd.func53 (by kernel_rfl) rfl #[.agg #[.int .i64 a0_0, .slice A0_1 l0_1.length c0_1, .slice A0_2 l0_2.length c0_2, .slice A0_3 l0_3.length c0_3]] rfl (by (try simp only [List.map_toArray, List.map_cons, List.map_nil]); first | done | rfl | (simp only [List.length_drop, List.length_take]; rfl)) ?_; (with_reducible refine (task_placed.calls a0_0 _ _ l0_1 _ _ l0_2 _ _ l0_3 true _ ?side1 ?side2 ?side3 ?side4 ?side5 ?side6 A6.out).mono ?_); (case side1 => repeat (first | exact (Kd.C_below HR0_1.out (by repeat (first | (with_reducible first | exact HB.out | apply below_alloc | apply pw_below_drewN | apply below_drew1 | refine below_set ?_ GE254.out) | exact HB.out))) | (with_reducible refine Kd.C_alloc ?_ _) | (with_reducible refine Kd.C_drewN ?_ _) | (with_reducible refine Kd.C_drew ?_))); (case side2 => exact HC0_1.out); (case side3 => repeat (first | exact (Kd.C_below HR0_2.out (by repeat (first | (with_reducible first | exact HB.out | apply below_alloc | apply pw_below_drewN | apply below_drew1 | refine below_set ?_ GE254.out) | exact HB.out))) | (with_reducible refine Kd.C_alloc ?_ _) | (with_reducible refine Kd.C_drewN ?_ _) | (with_reducible refine Kd.C_drew ?_))); (case side4 => exact HC0_2.out); (case side5 => repeat (first | exact (Kd.C_below HR0_3.out (by repeat (first | (with_reducible first | exact HB.out | apply below_alloc | apply pw_below_drewN | apply below_drew1 | refine below_set ?_ GE254.out) | exact HB.out))) | (with_reducible refine Kd.C_alloc ?_ _) | (with_reducible refine Kd.C_drewN ?_ _) | (with_reducible refine Kd.C_drew ?_))); (case side6 => exact HC0_3.out); rintro e w19 ⟨rfl, hb⟩; refine ⟨_, rfl, ?_⟩; have n0_ := Aside0.mk (blk_below (g := gb254) (o := .cells #[.int .i64 a0_0, .slice A0_1 l0_1.length c0_1, .slice A0_2 l0_2.length c0_2, .slice A0_3 l0_3.length c0_3] 37 (0, 0)) (by (with_reducible repeat (first | refine blk_drewN ?_ _ | refine blk_drew ?_ | refine blk_alloc ?_ _)); exact BK254.out) hb); have n1_ := Aside0.mk (below_step (by repeat (first | (with_reducible first | exact HB.out | apply below_alloc | apply pw_below_drewN | apply below_drew1 | refine below_set ?_ GE254.out) | exact HB.out)) hb); clear BK254; clear HB; have BK254 := n0_; have HB := n1_; clear n0_ n1_; (try clear hb); (try clear hb2); (try clear hk); (try clear hi); have hcz20_0 : w19.cell? ⟨gb254, 0, none⟩ = some (.int .i64 a0_0) := (blk_cell BK254.out 0).trans rfl; have hcz20_1 : w19.cell? ⟨gb254, 1, none⟩ = some (.slice A0_1 l0_1.length c0_1) := (blk_cell BK254.out 1).trans rfl; have hcz20_2 : w19.cell? ⟨gb254, 2, none⟩ = some (.slice A0_2 l0_2.length c0_2) := (blk_cell BK254.out 2).trans rfl; have hcz20_3 : w19.cell? ⟨gb254, 3, none⟩ = some (.slice A0_3 l0_3.length c0_3) := (blk_cell BK254.out 3).trans rfl; have hfz20_0 := blk_frozen BK254.out 0; have hfz20_1 := blk_frozen BK254.out 1; have hfz20_2 := blk_frozen BK254.out 2; have hfz20_3 := blk_frozen BK254.out 3))
    go_ret2
    exact ⟨by first | rfl | (simp [errW_none, errW_some] <;> rfl) | (simp [*, errW_none, errW_some] <;> rfl), HB.out⟩
  rw [if_neg c16] at H
  have c16b0 : ((l0_3.length : Int) == 0) = false := beq_eq_false_iff_ne.mpr c16
  have c16b1 : ((l0_3.length : Int) != 0) = true := bne_iff_ne.mpr c16
  have c16b2 : ¬ (l0_3 = []) := fun h_ => c16 (by rw [h_]; rfl)
  have H' := Aside0.mk H
  clear H
  go_enter Tryd.func33, Tryd.ntmps33
  go_wp2_with (first | ((with_reducible refine gate_dst (N := 1) rfl ?_); refine box_event ?hg (N := 1) ?hd (cs := #[.int .i64 a0_0, .slice A0_1 l0_1.length c0_1, .slice A0_2 l0_2.length c0_2, .slice A0_3 l0_3.length c0_3]) (t := 37) ?hr ?_; (case hd => rfl); (case hg => rfl); (case hr => first | (go_simp; done) | (go_simp; rfl)); intro gb254 hg w21 hbox hb; have n0_ := Aside0.mk (below_step (HB.out) hb); have n1_ := Aside0.mk (hbox); have n2_ := Aside0.mk ((by rw [hg]; exact (below_size (HB.out)) : w.heap.size ≤ gb254)); have n3_ := n2_; clear HB; have HB := n0_; have BK254 := n1_; have GW254 := n2_; have GE254 := n3_; clear n0_ n1_ n2_ n3_; clear hb hbox hg; have hcz22_0 : w21.cell? ⟨gb254, 0, none⟩ = some (.int .i64 a0_0) := (blk_cell BK254.out 0).trans rfl; have hcz22_1 : w21.cell? ⟨gb254, 1, none⟩ = some (.slice A0_1 l0_1.length c0_1) := (blk_cell BK254.out 1).trans rfl; have hcz22_2 : w21.cell? ⟨gb254, 2, none⟩ = some (.slice A0_2 l0_2.length c0_2) := (blk_cell BK254.out 2).trans rfl; have hcz22_3 : w21.cell? ⟨gb254, 3, none⟩ = some (.slice A0_3 l0_3.length c0_3) := (blk_cell BK254.out 3).trans rfl; have hfz22_0 := blk_frozen BK254.out 0; have hfz22_1 := blk_frozen BK254.out 1; have hfz22_2 := blk_frozen BK254.out 2; have hfz22_3 := blk_frozen BK254.out 3) | ((with_reducible refine gate_callee (f := 52) rfl ?_); refine goesL_ (some 9) rfl rfl Tryd.func52 (by kernel_rfl) rfl #[.int .i64 a0_0, .int .i64 1, .int .i64 3] rfl (by (try simp only [List.map_toArray, List.map_cons, List.map_nil]); first | done | rfl | (simp only [List.length_drop, List.length_take]; rfl)) ?_; (with_reducible refine (task_between.calls a0_0 1 3 true _ A2.out).mono ?_); rintro e w' ⟨rfl, ⟨nd, rfl⟩⟩; refine ⟨_, rfl, ?_⟩) | ((with_reducible refine gate_callee (f := 53) rfl ?_); refine goesL_ (some 13) rfl rfl Tryd.func53 (by kernel_rfl) rfl #[.agg #[.int .i64 a0_0, .slice A0_1 l0_1.length c0_1, .slice A0_2 l0_2.length c0_2, .slice A0_3 l0_3.length c0_3]] rfl (by (try simp only [List.map_toArray, List.map_cons, List.map_nil]); first | done | rfl | (simp only [List.length_drop, List.length_take]; rfl)) ?_; (with_reducible refine (task_placed.calls a0_0 _ _ l0_1 _ _ l0_2 _ _ l0_3 true _ ?side1 ?side2 ?side3 ?side4 ?side5 ?side6 A6.out).mono ?_); (case side1 => repeat (first | exact (Kd.C_below HR0_1.out (by repeat (first | (with_reducible first | exact HB.out | apply below_alloc | apply pw_below_drewN | apply below_drew1 | refine below_set ?_ GE254.out) | exact HB.out))) | (with_reducible refine Kd.C_alloc ?_ _) | (with_reducible refine Kd.C_drewN ?_ _) | (with_reducible refine Kd.C_drew ?_))); (case side2 => exact HC0_1.out); (case side3 => repeat (first | exact (Kd.C_below HR0_2.out (by repeat (first | (with_reducible first | exact HB.out | apply below_alloc | apply pw_below_drewN | apply below_drew1 | refine below_set ?_ GE254.out) | exact HB.out))) | (with_reducible refine Kd.C_alloc ?_ _) | (with_reducible refine Kd.C_drewN ?_ _) | (with_reducible refine Kd.C_drew ?_))); (case side4 => exact HC0_2.out); (case side5 => repeat (first | exact (Kd.C_below HR0_3.out (by repeat (first | (with_reducible first | exact HB.out | apply below_alloc | apply pw_below_drewN | apply below_drew1 | refine below_set ?_ GE254.out) | exact HB.out))) | (with_reducible refine Kd.C_alloc ?_ _) | (with_reducible refine Kd.C_drewN ?_ _) | (with_reducible refine Kd.C_drew ?_))); (case side6 => exact HC0_3.out); rintro e w23 ⟨rfl, hb⟩; refine ⟨_, rfl, ?_⟩; have n0_ := Aside0.mk (blk_below (g := gb254) (o := .cells #[.int .i64 a0_0, .slice A0_1 l0_1.length c0_1, .slice A0_2 l0_2.length c0_2, .slice A0_3 l0_3.length c0_3] 37 (0, 0)) (by (with_reducible repeat (first | refine blk_drewN ?_ _ | refine blk_drew ?_ | refine blk_alloc ?_ _)); exact BK254.out) hb); have n1_ := Aside0.mk (below_step (by repeat (first | (with_reducible first | exact HB.out | apply below_alloc | apply pw_below_drewN | apply below_drew1 | refine below_set ?_ GE254.out) | exact HB.out)) hb); clear BK254; clear HB; have BK254 := n0_; have HB := n1_; clear n0_ n1_; (try clear hb); (try clear hb2); (try clear hk); (try clear hi); have hcz24_0 : w23.cell? ⟨gb254, 0, none⟩ = some (.int .i64 a0_0) := (blk_cell BK254.out 0).trans rfl; have hcz24_1 : w23.cell? ⟨gb254, 1, none⟩ = some (.slice A0_1 l0_1.length c0_1) := (blk_cell BK254.out 1).trans rfl; have hcz24_2 : w23.cell? ⟨gb254, 2, none⟩ = some (.slice A0_2 l0_2.length c0_2) := (blk_cell BK254.out 2).trans rfl; have hcz24_3 : w23.cell? ⟨gb254, 3, none⟩ = some (.slice A0_3 l0_3.length c0_3) := (blk_cell BK254.out 3).trans rfl; have hfz24_0 := blk_frozen BK254.out 0; have hfz24_1 := blk_frozen BK254.out 1; have hfz24_2 := blk_frozen BK254.out 2; have hfz24_3 := blk_frozen BK254.out 3))
  go_loopg [28] k (fun kq v28 w' => ∃ (x28_1 : Int), v28 = .int .i64 x28_1 ∧ Aside0 (task_Check.l0 kq (l0_3.length : Int) x28_1 a0_0 l0_1 l0_2 l0_3 = some (r1, r2)) ∧ Aside0 (kq ≤ k) ∧ Aside0 (w'.heap[gb254]? = some (.cells #[.int .i64 a0_0, (.slice A0_1 l0_1.length c0_1), (.slice A0_2 l0_2.length c0_2), (.slice A0_3 l0_3.length c0_3)] 37 (0, 0))) ∧ Aside0 (Below w.heap.size w w'))
  case atStart => exact ⟨(0), (by first | rfl | (simp; done) | (simp [*]; done)), H', ⟨Nat.le_refl _⟩, ⟨BK254.out⟩, ⟨HB.out⟩⟩
  clear H'
  (try clear c1); (try clear p2); (try clear c3); (try clear c5); (try clear c7); (try clear c11); (try clear c11b0); (try clear c11b1); (try clear c16); (try clear c16b0); (try clear c16b1); (try clear c16b2); (try clear hcz13_0); (try clear hcz13_1); (try clear hcz13_2); (try clear hcz13_3); (try clear hcz15_0); (try clear hcz15_1); (try clear hcz15_2); (try clear hcz15_3); (try clear hcz18_0); (try clear hcz18_1); (try clear hcz18_2); (try clear hcz18_3); (try clear hcz20_0); (try clear hcz20_1); (try clear hcz20_2); (try clear hcz20_3); (try clear hcz22_0); (try clear hcz22_1); (try clear hcz22_2); (try clear hcz22_3); (try clear hcz24_0); (try clear hcz24_1); (try clear hcz24_2); (try clear hcz24_3); (try clear hcz5_0); (try clear hcz5_1); (try clear hcz5_2); (try clear hcz5_3); (try clear hcz9_0); (try clear hcz9_1); (try clear hcz9_2); (try clear hcz9_3); (try clear hfz13_0); (try clear hfz13_1); (try clear hfz13_2); (try clear hfz13_3); (try clear hfz15_0); (try clear hfz15_1); (try clear hfz15_2); (try clear hfz15_3); (try clear hfz18_0); (try clear hfz18_1); (try clear hfz18_2); (try clear hfz18_3); (try clear hfz20_0); (try clear hfz20_1); (try clear hfz20_2); (try clear hfz20_3); (try clear hfz22_0); (try clear hfz22_1); (try clear hfz22_2); (try clear hfz22_3); (try clear hfz24_0); (try clear hfz24_1); (try clear hfz24_2); (try clear hfz24_3); (try clear hfz5_0); (try clear hfz5_1); (try clear hfz5_2); (try clear hfz5_3); (try clear hfz9_0); (try clear hfz9_1); (try clear hfz9_2); (try clear hfz9_3)
  obtain ⟨x28_1, rfl, HA, HK1, BK254, HB⟩ := hrel
  cases gk with
  | zero => exact absurd HA.out (by simp [task_Check.l0])
  | succ k1 => ?_
  have H := HA.out
  clear HA
  simp only [task_Check.l0] at H
  by_cases c25 : x28_1 < (l0_3.length : Int)
  rotate_left
  · rw [if_neg c25] at H
    have c25b0 : decide (x28_1 < (l0_3.length : Int)) = false := decide_eq_false c25
    clear c25
    simp only [Option.some.injEq, Prod.mk.injEq] at H
    obtain ⟨rfl, rfl⟩ := H
    go_wp2
    go_ret2
    exact ⟨by first | rfl | (simp [errW_none, errW_some] <;> rfl) | (simp [*, errW_none, errW_some] <;> rfl), HB.out⟩
  rw [if_pos c25] at H
  have c25b0 : decide (x28_1 < (l0_3.length : Int)) = true := decide_eq_true c25
  clear c25
  replace H := Option.bind_eq_some_iff.mp H
  obtain ⟨t257, A260, H⟩ := H
  replace H : (if t257 = 0 then (task_Check.l0 k1 (l0_3.length : Int) (wrap64 (x28_1 + 1)) a0_0 l0_1 l0_2 l0_3) else (some (x28_1, t257))) = some (r1, r2) := H
  have A26 := Aside0.mk A260
  clear A260
  by_cases c27 : t257 = 0
  rotate_left
  · rw [if_neg c27] at H
    have c27b0 : (t257 == 0) = false := beq_eq_false_iff_ne.mpr c27
    have c27b1 : (t257 != 0) = true := bne_iff_ne.mpr c27
    simp only [Option.some.injEq, Prod.mk.injEq] at H
    obtain ⟨rfl, rfl⟩ := H
    have hcz28_0 : wr.cell? ⟨gb254, 0, none⟩ = some (.int .i64 a0_0) := (blk_cell BK254.out 0).trans rfl
    have hcz28_1 : wr.cell? ⟨gb254, 1, none⟩ = some (.slice A0_1 l0_1.length c0_1) := (blk_cell BK254.out 1).trans rfl
    have hcz28_2 : wr.cell? ⟨gb254, 2, none⟩ = some (.slice A0_2 l0_2.length c0_2) := (blk_cell BK254.out 2).trans rfl
    have hcz28_3 : wr.cell? ⟨gb254, 3, none⟩ = some (.slice A0_3 l0_3.length c0_3) := (blk_cell BK254.out 3).trans rfl
    have hfz28_0 := blk_frozen BK254.out 0
    have hfz28_1 := blk_frozen BK254.out 1
    have hfz28_2 := blk_frozen BK254.out 2
    have hfz28_3 := blk_frozen BK254.out 3
    go_wp2_with (first | ((with_reducible refine gate_callee (f := 54) rfl ?_); refine goesL_ (some 33) rfl rfl Tryd.func54 (by kernel_rfl) rfl #[.agg #[.int .i64 a0_0, .slice A0_1 l0_1.length c0_1, .slice A0_2 l0_2.length c0_2, .slice A0_3 l0_3.length c0_3], .int .i64 x28_1] rfl (by (try simp only [List.map_toArray, List.map_cons, List.map_nil]); first | done | rfl | (simp only [List.length_drop, List.length_take]; rfl)) ?_; (with_reducible refine (task_one.calls k1 a0_0 _ _ l0_1 _ _ l0_2 _ _ l0_3 x28_1 t257 _ ?side1 ?side2 ?side3 ?side4 ?side5 ?side6 A26.out).mono ?_); (case side1 => repeat (first | exact (Kd.C_below HR0_1.out HB.out) | (with_reducible refine Kd.C_alloc ?_ _) | (with_reducible refine Kd.C_drewN ?_ _) | (with_reducible refine Kd.C_drew ?_))); (case side2 => exact HC0_1.out); (case side3 => repeat (first | exact (Kd.C_below HR0_2.out HB.out) | (with_reducible refine Kd.C_alloc ?_ _) | (with_reducible refine Kd.C_drewN ?_ _) | (with_reducible refine Kd.C_drew ?_))); (case side4 => exact HC0_2.out); (case side5 => repeat (first | exact (Kd.C_below HR0_3.out HB.out) | (with_reducible refine Kd.C_alloc ?_ _) | (with_reducible refine Kd.C_drewN ?_ _) | (with_reducible refine Kd.C_drew ?_))); (case side6 => exact HC0_3.out); rintro e w29 ⟨rfl, hb⟩; refine ⟨_, rfl, ?_⟩; have n0_ := Aside0.mk (blk_below BK254.out hb); have n1_ := Aside0.mk (below_step (HB.out) hb); clear BK254; clear HB; have BK254 := n0_; have HB := n1_; clear n0_ n1_; (try clear hb); (try clear hb2); (try clear hk); (try clear hi)))
    go_ret2
    exact ⟨by first | rfl | (simp [errW_none, errW_some] <;> rfl) | (simp [*, errW_none, errW_some] <;> rfl), HB.out⟩
  rw [if_pos c27] at H
  have c27b0 : (t257 == 0) = true := beq_iff_eq.mpr c27
  have c27b1 : (t257 != 0) = false := bne_eq_false_iff_eq.mpr c27
  clear c27
  have H' := Aside0.mk H
  clear H
  have hcz30_0 : wr.cell? ⟨gb254, 0, none⟩ = some (.int .i64 a0_0) := (blk_cell BK254.out 0).trans rfl
  have hcz30_1 : wr.cell? ⟨gb254, 1, none⟩ = some (.slice A0_1 l0_1.length c0_1) := (blk_cell BK254.out 1).trans rfl
  have hcz30_2 : wr.cell? ⟨gb254, 2, none⟩ = some (.slice A0_2 l0_2.length c0_2) := (blk_cell BK254.out 2).trans rfl
  have hcz30_3 : wr.cell? ⟨gb254, 3, none⟩ = some (.slice A0_3 l0_3.length c0_3) := (blk_cell BK254.out 3).trans rfl
  have hfz30_0 := blk_frozen BK254.out 0
  have hfz30_1 := blk_frozen BK254.out 1
  have hfz30_2 := blk_frozen BK254.out 2
  have hfz30_3 := blk_frozen BK254.out 3
  go_wp2_with (first | ((with_reducible refine gate_callee (f := 54) rfl ?_); refine goesL_ (some 33) rfl rfl Tryd.func54 (by kernel_rfl) rfl #[.agg #[.int .i64 a0_0, .slice A0_1 l0_1.length c0_1, .slice A0_2 l0_2.length c0_2, .slice A0_3 l0_3.length c0_3], .int .i64 x28_1] rfl (by (try simp only [List.map_toArray, List.map_cons, List.map_nil]); first | done | rfl | (simp only [List.length_drop, List.length_take]; rfl)) ?_; (with_reducible refine (task_one.calls k1 a0_0 _ _ l0_1 _ _ l0_2 _ _ l0_3 x28_1 t257 _ ?side1 ?side2 ?side3 ?side4 ?side5 ?side6 A26.out).mono ?_); (case side1 => repeat (first | exact (Kd.C_below HR0_1.out HB.out) | (with_reducible refine Kd.C_alloc ?_ _) | (with_reducible refine Kd.C_drewN ?_ _) | (with_reducible refine Kd.C_drew ?_))); (case side2 => exact HC0_1.out); (case side3 => repeat (first | exact (Kd.C_below HR0_2.out HB.out) | (with_reducible refine Kd.C_alloc ?_ _) | (with_reducible refine Kd.C_drewN ?_ _) | (with_reducible refine Kd.C_drew ?_))); (case side4 => exact HC0_2.out); (case side5 => repeat (first | exact (Kd.C_below HR0_3.out HB.out) | (with_reducible refine Kd.C_alloc ?_ _) | (with_reducible refine Kd.C_drewN ?_ _) | (with_reducible refine Kd.C_drew ?_))); (case side6 => exact HC0_3.out); rintro e w31 ⟨rfl, hb⟩; refine ⟨_, rfl, ?_⟩; have n0_ := Aside0.mk (blk_below BK254.out hb); have n1_ := Aside0.mk (below_step (HB.out) hb); clear BK254; clear HB; have BK254 := n0_; have HB := n1_; clear n0_ n1_; (try clear hb); (try clear hb2); (try clear hk); (try clear hi)))
  go_roundg k1
  case measure => have := HK1.out; omega
  case rel => exact ⟨(wrap64 (x28_1 + 1)), (by first | rfl | (simp; done) | (simp [*]; done)), H', ⟨by have := HK1.out; omega⟩, ⟨BK254.out⟩, ⟨HB.out⟩⟩
end Go.Proofs.YtgkjoodlcojkkaaDoor.QD
end
section
namespace Go.Proofs.YtgkjoodlcojkkaaDoor.QD
open Go.RowKit Go.Proofs.YtgkjoodlcojkkaaDoorW.PrintWords Go.Proofs.YtgkjoodlcojkkaaDoorW.PrintLast Go.Proofs.YtgkjoodlcojkkaaDoorW.PrintMore
attribute [local go_sem] max2_int min2_int max_two min_two max_three min_three max_four min_four
set_option linter.unusedVariables false
set_option linter.unusedSimpArgs false
def text_nums.l0 : Nat → ByteArray → List Int → Int → Int → Option (ByteArray)
  | 0, _, _, _, _ => none
  | k + 1, x3, x6, x7, x8 => if x8 < x7 then (if 0 ≤ x8 then (if x8 < (x6.length : Int) then ((words_Text.f (rd x6 x8)).bind fun t259 => (if 1 + t259.size ≤ 9223372036854775807 then (if x3.size + ((⟨#[32]⟩ : ByteArray) ++ t259).size ≤ 9223372036854775807 then (text_nums.l0 k (x3 ++ ((⟨#[32]⟩ : ByteArray) ++ t259)) x6 x7 (wrap64 (x8 + 1))) else (none)) else (none))) else (none)) else (none)) else (some x3)
def text_nums.f (k : Nat) (l0 : List Int) : Option (ByteArray) := text_nums.l0 k (⟨#[]⟩ : ByteArray) l0 (l0.length : Int) 0
theorem text_nums.mono_l : ∀ k, (∀ y0 y1 y2 y3, LeO (text_nums.l0 k y0 y1 y2 y3) (text_nums.l0 (k + 1) y0 y1 y2 y3))
  | 0 => fun _ _ _ _ r h => by simp [text_nums.l0] at h
  | k + 1 => by
    have ih0 := text_nums.mono_l k
    · intro y0 y1 y2 y3
      unfold text_nums.l0
      repeat' first
      | (with_reducible exact ih0 _ _ _ _)
      | (with_reducible exact LeO.refl _)
      | (with_reducible exact LeO.none _)
      | (with_reducible refine LeO.ite ?_ ?_)
      | (with_reducible refine LeO.bind ?_ (fun _ => ?_))
      | exact ih0 _ _ _ _
      | exact LeO.none _
      | refine LeO.ite ?_ ?_
      | refine LeO.bind ?_ (fun _ => ?_)
theorem text_nums.mono : ∀ a0 k, LeO (text_nums.f k a0) (text_nums.f (k + 1) a0) := by
  intro a0 k
  have ih0 := text_nums.mono_l k
  unfold text_nums.f
  repeat' first
      | (with_reducible exact ih0 _ _ _ _)
      | (with_reducible exact LeO.refl _)
      | (with_reducible exact LeO.none _)
      | (with_reducible refine LeO.ite ?_ ?_)
      | (with_reducible refine LeO.bind ?_ (fun _ => ?_))
      | exact ih0 _ _ _ _
      | exact LeO.none _
      | refine LeO.ite ?_ ?_
      | refine LeO.bind ?_ (fun _ => ?_)
set_option maxHeartbeats 8000000 in
set_option maxRecDepth 100000 in
theorem text_nums.calls (k : Nat) (A0 : Option Addr) (c0 : Nat) (l0 : List Int) (r : ByteArray) (w : World) (hr0 : Kd.C (Kd.int .i64) w A0 l0.length l0) (hc0 : l0.length ≤ c0) (hG : Glob w) (h : text_nums.f k l0 = some r) :
    Calls Tryd.prog 36 #[.slice A0 l0.length c0] w fun e w' => e = .returned (.string r) ∧ Below w.heap.size w w' := by
  have HR0 := Aside0.mk hr0
  have HC0 := Aside0.mk hc0
  clear hr0 hc0
  have HG := Aside0.mk hG
  clear hG
  have HB := Aside0.mk (Below.refl w.heap.size w)
  have H : (text_nums.l0 k (⟨#[]⟩ : ByteArray) l0 (l0.length : Int) 0) = some r := h
  clear h
  have H' := Aside0.mk H
  clear H
  go_enter Tryd.func36, Tryd.ntmps36
  go_wp2
  go_loopg [3, 8] k (fun kq v3 v8 w' => ∃ (x3_1 : ByteArray) (x8_1 : Int), v3 = .string x3_1 ∧ v8 = .int .i64 x8_1 ∧ Aside0 (text_nums.l0 kq x3_1 l0 (l0.length : Int) x8_1 = some r) ∧ Aside0 (kq ≤ k) ∧ Aside0 (Below w.heap.size w w'))
  case atStart => exact ⟨((⟨#[]⟩ : ByteArray)), (0), (by first | rfl | (simp; done) | (simp [*]; done)), (by first | rfl | (simp; done) | (simp [*]; done)), H', ⟨Nat.le_refl _⟩, ⟨HB.out⟩⟩
  clear H'
  obtain ⟨x3_1, x8_1, rfl, rfl, HA, HK1, HB⟩ := hrel
  cases gk with
  | zero => exact absurd HA.out (by simp [text_nums.l0])
  | succ k1 => ?_
  have H := HA.out
  clear HA
  simp only [text_nums.l0] at H
  by_cases c2 : x8_1 < (l0.length : Int)
  rotate_left
  · rw [if_neg c2] at H
    have c2b0 : decide (x8_1 < (l0.length : Int)) = false := decide_eq_false c2
    clear c2
    obtain rfl := Option.some.inj H
    go_wp2
    go_ret
    exact ⟨by first | rfl | (simp [errW_none, errW_some] <;> rfl) | (simp [*, errW_none, errW_some] <;> rfl), HB.out⟩
  rw [if_pos c2] at H
  have c2b0 : decide (x8_1 < (l0.length : Int)) = true := decide_eq_true c2
  clear c2
  by_cases c3 : 0 ≤ x8_1
  rotate_left
  · rw [if_neg c3] at H
    exact absurd H (by simp)
  rw [if_pos c3] at H
  have c3b0 : decide (0 ≤ x8_1) = true := decide_eq_true c3
  clear c3
  by_cases c4 : x8_1 < (l0.length : Int)
  rotate_left
  · rw [if_neg c4] at H
    exact absurd H (by simp)
  rw [if_pos c4] at H
  have c4b0 : decide (x8_1 < (l0.length : Int)) = true := decide_eq_true c4
  clear c4
  replace H := Option.bind_eq_some_iff.mp H
  obtain ⟨t259, A50, H⟩ := H
  replace H : (if 1 + t259.size ≤ 9223372036854775807 then (if x3_1.size + ((⟨#[32]⟩ : ByteArray) ++ t259).size ≤ 9223372036854775807 then (text_nums.l0 k1 (x3_1 ++ ((⟨#[32]⟩ : ByteArray) ++ t259)) l0 (l0.length : Int) (wrap64 (x8_1 + 1))) else (none)) else (none)) = some r := H
  have A5 := Aside0.mk A50
  clear A50
  by_cases c6 : 1 + t259.size ≤ 9223372036854775807
  rotate_left
  · rw [if_neg c6] at H
    exact absurd H (by simp)
  rw [if_pos c6] at H
  have c6b0 := eq_true c6
  have c6b1 : decide (1 + t259.size ≤ 9223372036854775807) = true := decide_eq_true c6
  try have c6b2 : (9223372036854775807 < 1 + t259.size) = False := eq_false (Nat.not_lt.2 c6)
  by_cases c7 : x3_1.size + ((⟨#[32]⟩ : ByteArray) ++ t259).size ≤ 9223372036854775807
  rotate_left
  · rw [if_neg c7] at H
    exact absurd H (by simp)
  rw [if_pos c7] at H
  have c7b0 := eq_true c7
  have c7b1 : decide (x3_1.size + ((⟨#[32]⟩ : ByteArray) ++ t259).size ≤ 9223372036854775807) = true := decide_eq_true c7
  try have c7b2 : (9223372036854775807 < x3_1.size + ((⟨#[32]⟩ : ByteArray) ++ t259).size) = False := eq_false (Nat.not_lt.2 c7)
  try (have c7b3 := c7b2; rw [ByteArray.size_append] at c7b3)
  have H' := Aside0.mk H
  clear H
  have p258 : 0 ≤ (x8_1 : Int) := of_decide_eq_true (by first | (with_reducible assumption) | assumption)
  have q258 : x8_1 < (l0.length : Int) := of_decide_eq_true (by first | (with_reducible assumption) | assumption)
  obtain ⟨ad258, e258, hx258_0⟩ := Kd.at_int HR0.out x8_1 p258 q258
  cases e258
  replace hx258_0 := (HB.out.cell (World.block_lt_of_cell? w _ hx258_0)).trans hx258_0
  replace p258 := eq_true p258
  replace q258 := eq_true q258
  go_wp2_with (first | ((with_reducible refine gate_callee (f := 19) rfl ?_); refine goesL_ (some 14) rfl rfl Tryd.func19 (by kernel_rfl) rfl #[.int .i64 (rd l0 x8_1)] rfl (by (try simp only [List.map_toArray, List.map_cons, List.map_nil]); first | done | rfl | (simp only [List.length_drop, List.length_take]; rfl)) ?_; (with_reducible refine (words_Text.calls (rd l0 x8_1) t259 _ ?side1 A5.out).mono ?_); (case side1 => first | exact Glob.below HG.out (HB.out) | (repeat (first | exact Glob.below HG.out HB.out | (with_reducible refine Glob.alloc ?_ _) | (with_reducible refine Glob.drewN ?_ _) | (with_reducible refine Glob.drew ?_)))); rintro e w8 ⟨rfl, hb⟩; refine ⟨_, rfl, ?_⟩; have n0_ := Aside0.mk (below_step (HB.out) hb); clear HB; have HB := n0_; clear n0_; (try clear hb); (try clear hb2); (try clear hk); (try clear hi)))
  go_roundg k1
  case measure => have := HK1.out; omega
  case rel => exact ⟨(x3_1 ++ ((⟨#[32]⟩ : ByteArray) ++ t259)), (wrap64 (x8_1 + 1)), (by first | rfl | (simp; done) | (simp [*]; done)), (by first | rfl | (simp; done) | (simp [*]; done)), H', ⟨by have := HK1.out; omega⟩, ⟨HB.out⟩⟩
end Go.Proofs.YtgkjoodlcojkkaaDoor.QD
end
section
namespace Go.Proofs.YtgkjoodlcojkkaaDoor.QD
open Go.RowKit Go.Proofs.YtgkjoodlcojkkaaDoorW.PrintWords Go.Proofs.YtgkjoodlcojkkaaDoorW.PrintLast Go.Proofs.YtgkjoodlcojkkaaDoorW.PrintMore
attribute [local go_sem] max2_int min2_int max_two min_two max_three min_three max_four min_four
set_option linter.unusedVariables false
set_option linter.unusedSimpArgs false
def text_rows.l0 : Nat → List (S81) → List ByteArray → Int → Int → Option ((List (S81)))
  | 0, _, _, _, _ => none
  | k + 1, x3, x7, x8, x9 => if x9 < x8 then (if 0 ≤ x9 then (if x9 < (x7.length : Int) then ((words_Words.f k (rdOf ByteArray.empty x7 x9)).bind fun t266 => (if (t266.length : Int) = 0 then (text_rows.l0 k x3 x7 x8 (wrap64 (x9 + 1))) else (if x3.length < 4398046511104 then (text_rows.l0 k (x3 ++ [(⟨x9, t266⟩ : S81)]) x7 x8 (wrap64 (x9 + 1))) else (none)))) else (none)) else (none)) else (some x3)
def text_rows.f (k : Nat) (l0 : List ByteArray) : Option ((List (S81))) := text_rows.l0 k ([] : List (S81)) l0 (l0.length : Int) 0
theorem text_rows.mono_l : ∀ k, (∀ y0 y1 y2 y3, LeO (text_rows.l0 k y0 y1 y2 y3) (text_rows.l0 (k + 1) y0 y1 y2 y3))
  | 0 => fun _ _ _ _ r h => by simp [text_rows.l0] at h
  | k + 1 => by
    have ih0 := text_rows.mono_l k
    · intro y0 y1 y2 y3
      unfold text_rows.l0
      repeat' first
      | (with_reducible exact ih0 _ _ _ _)
      | (with_reducible exact words_Words.mono _ _)
      | (with_reducible exact LeO.refl _)
      | (with_reducible exact LeO.none _)
      | (with_reducible refine LeO.ite ?_ ?_)
      | (with_reducible refine LeO.bind ?_ (fun _ => ?_))
      | exact ih0 _ _ _ _
      | exact words_Words.mono _ _
      | exact LeO.none _
      | refine LeO.ite ?_ ?_
      | refine LeO.bind ?_ (fun _ => ?_)
theorem text_rows.mono : ∀ a0 k, LeO (text_rows.f k a0) (text_rows.f (k + 1) a0) := by
  intro a0 k
  have ih0 := text_rows.mono_l k
  unfold text_rows.f
  repeat' first
      | (with_reducible exact ih0 _ _ _ _)
      | (with_reducible exact words_Words.mono _ _)
      | (with_reducible exact LeO.refl _)
      | (with_reducible exact LeO.none _)
      | (with_reducible refine LeO.ite ?_ ?_)
      | (with_reducible refine LeO.bind ?_ (fun _ => ?_))
      | exact ih0 _ _ _ _
      | exact words_Words.mono _ _
      | exact LeO.none _
      | refine LeO.ite ?_ ?_
      | refine LeO.bind ?_ (fun _ => ?_)
set_option maxHeartbeats 8000000 in
set_option maxRecDepth 100000 in
theorem text_rows.calls (k : Nat) (A0 : Option Addr) (c0 : Nat) (l0 : List ByteArray) (r : List (S81)) (w : World) (hr0 : Kd.C Kd.string w A0 l0.length l0) (hc0 : l0.length ≤ c0) (hG : Glob w) (h : text_rows.f k l0 = some r) :
    Calls Tryd.prog 39 #[.slice A0 l0.length c0] w fun e w' => ∃ v0_ : Value, e = .returned (v0_) ∧ Kd.S k81 81 w' w.heap.size (fun _ => True) v0_ r ∧ Below w.heap.size w w' := by
  have hu81 := Tryd.underlying81
  have HR0 := Aside0.mk hr0
  have HC0 := Aside0.mk hc0
  clear hr0 hc0
  have HG := Aside0.mk hG
  clear hG
  have HB := Aside0.mk (Below.refl w.heap.size w)
  have H : (text_rows.l0 k ([] : List (S81)) l0 (l0.length : Int) 0) = some r := h
  clear h
  have H' := Aside0.mk H
  clear H
  go_enter Tryd.func39, Tryd.ntmps39
  go_wp2
  repeat (go_step3; try go_wp2)
  go_loopg [3, 9] k (fun kq v3 v9 w' => ∃ (x3_1 : List (S81)) (x9_1 : Int), v9 = .int .i64 x9_1 ∧ Aside0 (text_rows.l0 kq x3_1 l0 (l0.length : Int) x9_1 = some r) ∧ Aside0 (kq ≤ k) ∧ Aside0 (Kd.S k81 81 w' w.heap.size (fun _ => True) v3 x3_1) ∧ Aside0 (Below w.heap.size w w'))
  case atStart => exact ⟨(([] : List (S81))), (0), (by first | rfl | (simp; done) | (simp [*]; done)), H', ⟨Nat.le_refl _⟩, ⟨by first | exact Kd.S_nil _ _ _ _ _ | exact Kd.N_nil _ _ _ _ _ | exact Kd.V_nil _ _ _ _ _ | exact Kd.Q_nil _ _ _ _ _ | exact Kd.R_nil _ _ _ _ _⟩, ⟨HB.out⟩⟩
  clear H'
  obtain ⟨x3_1, x9_1, rfl, HA, HK1, HO_3, HB⟩ := hrel
  cases gk with
  | zero => exact absurd HA.out (by simp [text_rows.l0])
  | succ k1 => ?_
  have H := HA.out
  clear HA
  simp only [text_rows.l0] at H
  by_cases c2 : x9_1 < (l0.length : Int)
  rotate_left
  · rw [if_neg c2] at H
    have c2b0 : decide (x9_1 < (l0.length : Int)) = false := decide_eq_false c2
    clear c2
    obtain rfl := Option.some.inj H
    go_wp2
    repeat (go_step3; try go_wp2)
    go_ret
    exact ⟨_, by first | rfl | (simp [errW_none, errW_some] <;> rfl) | (simp [*, errW_none, errW_some] <;> rfl), by (with_reducible repeat (first | apply Kd.S_alloc | apply Kd.S_drewN | apply Kd.S_drew)); exact HO_3.out, HB.out⟩
  rw [if_pos c2] at H
  have c2b0 : decide (x9_1 < (l0.length : Int)) = true := decide_eq_true c2
  clear c2
  by_cases c3 : 0 ≤ x9_1
  rotate_left
  · rw [if_neg c3] at H
    exact absurd H (by simp)
  rw [if_pos c3] at H
  have c3b0 : decide (0 ≤ x9_1) = true := decide_eq_true c3
  clear c3
  by_cases c4 : x9_1 < (l0.length : Int)
  rotate_left
  · rw [if_neg c4] at H
    exact absurd H (by simp)
  rw [if_pos c4] at H
  have c4b0 : decide (x9_1 < (l0.length : Int)) = true := decide_eq_true c4
  clear c4
  replace H := Option.bind_eq_some_iff.mp H
  obtain ⟨t266, A50, H⟩ := H
  replace H : (if (t266.length : Int) = 0 then (text_rows.l0 k1 x3_1 l0 (l0.length : Int) (wrap64 (x9_1 + 1))) else (if x3_1.length < 4398046511104 then (text_rows.l0 k1 (x3_1 ++ [(⟨x9_1, t266⟩ : S81)]) l0 (l0.length : Int) (wrap64 (x9_1 + 1))) else (none))) = some r := H
  have A5 := Aside0.mk A50
  clear A50
  by_cases c6 : (t266.length : Int) = 0
  · rw [if_pos c6] at H
    have c6b0 : ((t266.length : Int) == 0) = true := beq_iff_eq.mpr c6
    have c6b1 : ((t266.length : Int) != 0) = false := bne_eq_false_iff_eq.mpr c6
    clear c6
    have H' := Aside0.mk H
    clear H
    have p265 : 0 ≤ (x9_1 : Int) := of_decide_eq_true (by first | (with_reducible assumption) | assumption)
    have q265 : x9_1 < (l0.length : Int) := of_decide_eq_true (by first | (with_reducible assumption) | assumption)
    obtain ⟨ad265, e265, hx265_0⟩ := Kd.at_string HR0.out x9_1 p265 q265
    cases e265
    replace hx265_0 := (HB.out.cell (World.block_lt_of_cell? w _ hx265_0)).trans hx265_0
    replace p265 := eq_true p265
    replace q265 := eq_true q265
    go_wp2_with (first | ((with_reducible refine gate_callee (f := 15) rfl ?_); refine goesL_ (some 15) rfl rfl Tryd.func15 (by kernel_rfl) rfl #[.string (rdOf ByteArray.empty l0 x9_1)] rfl (by (try simp only [List.map_toArray, List.map_cons, List.map_nil]); first | done | rfl | (simp only [List.length_drop, List.length_take]; rfl)) ?_; (with_reducible refine (words_Words.calls k1 (rdOf ByteArray.empty l0 x9_1) t266 _ ?side1 A5.out).mono ?_); (case side1 => first | exact Glob.below HG.out (HB.out) | (repeat (first | exact Glob.below HG.out HB.out | (with_reducible refine Glob.alloc ?_ _) | (with_reducible refine Glob.drewN ?_ _) | (with_reducible refine Glob.drew ?_)))); rintro e w7 ⟨v267, rfl, ho0, hb⟩; refine ⟨_, rfl, ?_⟩; have n0_ := Aside0.mk (Kd.S_elder' (by (with_reducible repeat (first | apply Kd.S_alloc | apply Kd.S_drewN | apply Kd.S_drew)); exact HO_3.out) (Kd.R_base ho0) hb); have n1_ := Aside0.mk (Kd.R_lower ho0 (below_size (HB.out))); have n2_ := Aside0.mk (below_step (HB.out) hb); clear HO_3; clear HB; have HO_3 := n0_; have HO268 := n1_; have HB := n2_; clear n0_ n1_ n2_; (try clear hb); (try clear hb2); (try clear hk); (try clear hi); (try clear ho0); obtain ⟨Ao8, co8, eo8⟩ := Kd.R_slice HO268.out; subst eo8))
    repeat (go_step3; try go_wp2_with (first | ((with_reducible refine gate_callee (f := 15) rfl ?_); refine goesL_ (some 15) rfl rfl Tryd.func15 (by kernel_rfl) rfl #[.string (rdOf ByteArray.empty l0 x9_1)] rfl (by (try simp only [List.map_toArray, List.map_cons, List.map_nil]); first | done | rfl | (simp only [List.length_drop, List.length_take]; rfl)) ?_; (with_reducible refine (words_Words.calls k1 (rdOf ByteArray.empty l0 x9_1) t266 _ ?side1 A5.out).mono ?_); (case side1 => first | exact Glob.below HG.out (HB.out) | (repeat (first | exact Glob.below HG.out HB.out | (with_reducible refine Glob.alloc ?_ _) | (with_reducible refine Glob.drewN ?_ _) | (with_reducible refine Glob.drew ?_)))); rintro e w7 ⟨v267, rfl, ho0, hb⟩; refine ⟨_, rfl, ?_⟩; have n0_ := Aside0.mk (Kd.S_elder' (by (with_reducible repeat (first | apply Kd.S_alloc | apply Kd.S_drewN | apply Kd.S_drew)); exact HO_3.out) (Kd.R_base ho0) hb); have n1_ := Aside0.mk (Kd.R_lower ho0 (below_size (HB.out))); have n2_ := Aside0.mk (below_step (HB.out) hb); clear HO_3; clear HB; have HO_3 := n0_; have HO268 := n1_; have HB := n2_; clear n0_ n1_ n2_; (try clear hb); (try clear hb2); (try clear hk); (try clear hi); (try clear ho0); obtain ⟨Ao8, co8, eo8⟩ := Kd.R_slice HO268.out; subst eo8)))
    go_roundg k1
    case measure => have := HK1.out; omega
    case rel => exact ⟨(x3_1), (wrap64 (x9_1 + 1)), (by first | rfl | (simp; done) | (simp [*]; done)), H', ⟨by have := HK1.out; omega⟩, ⟨by (with_reducible repeat (first | apply Kd.S_alloc | apply Kd.S_drewN | apply Kd.S_drew)); exact Kd.S_mono HO_3.out (fun _ hk => trivial)⟩, ⟨HB.out⟩⟩
  rw [if_neg c6] at H
  have c6b0 : ((t266.length : Int) == 0) = false := beq_eq_false_iff_ne.mpr c6
  have c6b1 : ((t266.length : Int) != 0) = true := bne_iff_ne.mpr c6
  have c6b2 : ¬ (t266 = []) := fun h_ => c6 (by rw [h_]; rfl)
  by_cases c9 : x3_1.length < 4398046511104
  rotate_left
  · rw [if_neg c9] at H
    exact absurd H (by simp)
  rw [if_pos c9] at H
  have LMc9 := Aside0.mk c9
  clear c9
  obtain ⟨y269, hy269⟩ : ∃ y_ : List (S81), y_ = (x3_1 ++ [(⟨x9_1, t266⟩ : S81)]) := ⟨_, rfl⟩
  replace H : (text_rows.l0 k1 y269 l0 (l0.length : Int) (wrap64 (x9_1 + 1))) = some r := by first | (rw [hy269]; with_reducible exact H) | (have H2_ := (Option.bind_some _ _).symm.trans H; rw [hy269]; with_reducible exact H2_) | (have H2_ := (Option.bind_some _ _).symm.trans H; with_reducible exact H2_) | with_reducible exact H | (rw [hy269]; exact H) | exact H
  have Ny269 := Aside0.mk hy269
  clear hy269
  have H' := Aside0.mk H
  clear H
  have p265 : 0 ≤ (x9_1 : Int) := of_decide_eq_true (by first | (with_reducible assumption) | assumption)
  have q265 : x9_1 < (l0.length : Int) := of_decide_eq_true (by first | (with_reducible assumption) | assumption)
  obtain ⟨ad265, e265, hx265_0⟩ := Kd.at_string HR0.out x9_1 p265 q265
  cases e265
  replace hx265_0 := (HB.out.cell (World.block_lt_of_cell? w _ hx265_0)).trans hx265_0
  replace p265 := eq_true p265
  replace q265 := eq_true q265
  go_wp2_with (first | ((with_reducible refine gate_callee (f := 15) rfl ?_); refine goesL_ (some 15) rfl rfl Tryd.func15 (by kernel_rfl) rfl #[.string (rdOf ByteArray.empty l0 x9_1)] rfl (by (try simp only [List.map_toArray, List.map_cons, List.map_nil]); first | done | rfl | (simp only [List.length_drop, List.length_take]; rfl)) ?_; (with_reducible refine (words_Words.calls k1 (rdOf ByteArray.empty l0 x9_1) t266 _ ?side1 A5.out).mono ?_); (case side1 => first | exact Glob.below HG.out (HB.out) | (repeat (first | exact Glob.below HG.out HB.out | (with_reducible refine Glob.alloc ?_ _) | (with_reducible refine Glob.drewN ?_ _) | (with_reducible refine Glob.drew ?_)))); rintro e w10 ⟨v267, rfl, ho0, hb⟩; refine ⟨_, rfl, ?_⟩; have n0_ := Aside0.mk (Kd.S_elder' (by (with_reducible repeat (first | apply Kd.S_alloc | apply Kd.S_drewN | apply Kd.S_drew)); exact HO_3.out) (Kd.R_base ho0) hb); have n1_ := Aside0.mk (Kd.R_lower ho0 (below_size (HB.out))); have n2_ := Aside0.mk (below_step (HB.out) hb); clear HO_3; clear HB; have HO_3 := n0_; have HO268 := n1_; have HB := n2_; clear n0_ n1_ n2_; (try clear hb); (try clear hb2); (try clear hk); (try clear hi); (try clear ho0); obtain ⟨Ao11, co11, eo11⟩ := Kd.R_slice HO268.out; subst eo11) | ((with_reducible refine gate_builtin (b := .append) (xs := #[.tmp 19, .tmp 23]) rfl ?_); at_builtin; refine Kd.S_append k81 (w0 := w) w.heap.size rfl (.tmp 19) (.tmp 23) 75 81 (.agg #[(.int .i64 0), (.slice none 0 0)]) 32 rfl Tryd.underlying75 info81 rfl (by decide) (by omega) u3 x3_1 (⟨x9_1, t266⟩ : S81) [.int .i64 x9_1, .slice Ao11 t266.length co11] (fun _ => True) (fun k_ => some k_ = (.slice Ao11 t266.length co11 : Value).ownBlock) rfl rfl ?aP (fun k_ hk_ => ((Kd.R_mono (ok' := fun k_ => ((fun _ => True)) k_ ∧ some k_ ≠ (u3 : Value).ownBlock) (Kd.R_apart' (HO268.out) (Kd.S_typed HO_3.out) (by decide)) (fun k_ hk => ⟨trivial, hk.2⟩))).1 k_ hk_.symm) ?aF ?aO ?aB ?aS ?aL ?_; (case aP => exact k81_mkM _ _ _ (⟨x9_1, t266⟩ : S81) (Kd.R_mono (Kd.R_tight rfl (Kd.R_mono (ok' := fun k_ => ((fun _ => True)) k_ ∧ some k_ ≠ (u3 : Value).ownBlock) (Kd.R_apart' (HO268.out) (Kd.S_typed HO_3.out) (by decide)) (fun k_ hk => ⟨trivial, hk.2⟩))) (fun _ h_ => h_))); (case aB => exact (HB.out)); (case aF => exact (fun _ _ => trivial)); (case aO => exact (by (with_reducible repeat (first | apply Kd.S_alloc | apply Kd.S_drewN | apply Kd.S_drew)); exact Kd.S_mono HO_3.out (fun k_ hk => ⟨trivial, fun e_ => hk.2 e_⟩))); (case aS => exact (below_size (HB.out))); (case aL => have := LMc9.out; omega); intro v270 w12 ho hb hg hat; rw [← Ny269.out] at ho; have n0_ := Aside0.mk (hb); have n1_ := Aside0.mk (ho); clear HB; clear HO_3; clear HO268; have HB := n0_; have HO271 := n1_; clear n0_ n1_; clear ho hb hg hat))
  repeat (go_step3; try go_wp2_with (first | ((with_reducible refine gate_callee (f := 15) rfl ?_); refine goesL_ (some 15) rfl rfl Tryd.func15 (by kernel_rfl) rfl #[.string (rdOf ByteArray.empty l0 x9_1)] rfl (by (try simp only [List.map_toArray, List.map_cons, List.map_nil]); first | done | rfl | (simp only [List.length_drop, List.length_take]; rfl)) ?_; (with_reducible refine (words_Words.calls k1 (rdOf ByteArray.empty l0 x9_1) t266 _ ?side1 A5.out).mono ?_); (case side1 => first | exact Glob.below HG.out (HB.out) | (repeat (first | exact Glob.below HG.out HB.out | (with_reducible refine Glob.alloc ?_ _) | (with_reducible refine Glob.drewN ?_ _) | (with_reducible refine Glob.drew ?_)))); rintro e w10 ⟨v267, rfl, ho0, hb⟩; refine ⟨_, rfl, ?_⟩; have n0_ := Aside0.mk (Kd.S_elder' (by (with_reducible repeat (first | apply Kd.S_alloc | apply Kd.S_drewN | apply Kd.S_drew)); exact HO_3.out) (Kd.R_base ho0) hb); have n1_ := Aside0.mk (Kd.R_lower ho0 (below_size (HB.out))); have n2_ := Aside0.mk (below_step (HB.out) hb); clear HO_3; clear HB; have HO_3 := n0_; have HO268 := n1_; have HB := n2_; clear n0_ n1_ n2_; (try clear hb); (try clear hb2); (try clear hk); (try clear hi); (try clear ho0); obtain ⟨Ao11, co11, eo11⟩ := Kd.R_slice HO268.out; subst eo11) | ((with_reducible refine gate_builtin (b := .append) (xs := #[.tmp 19, .tmp 23]) rfl ?_); at_builtin; refine Kd.S_append k81 (w0 := w) w.heap.size rfl (.tmp 19) (.tmp 23) 75 81 (.agg #[(.int .i64 0), (.slice none 0 0)]) 32 rfl Tryd.underlying75 info81 rfl (by decide) (by omega) u3 x3_1 (⟨x9_1, t266⟩ : S81) [.int .i64 x9_1, .slice Ao11 t266.length co11] (fun _ => True) (fun k_ => some k_ = (.slice Ao11 t266.length co11 : Value).ownBlock) rfl rfl ?aP (fun k_ hk_ => ((Kd.R_mono (ok' := fun k_ => ((fun _ => True)) k_ ∧ some k_ ≠ (u3 : Value).ownBlock) (Kd.R_apart' (HO268.out) (Kd.S_typed HO_3.out) (by decide)) (fun k_ hk => ⟨trivial, hk.2⟩))).1 k_ hk_.symm) ?aF ?aO ?aB ?aS ?aL ?_; (case aP => exact k81_mkM _ _ _ (⟨x9_1, t266⟩ : S81) (Kd.R_mono (Kd.R_tight rfl (Kd.R_mono (ok' := fun k_ => ((fun _ => True)) k_ ∧ some k_ ≠ (u3 : Value).ownBlock) (Kd.R_apart' (HO268.out) (Kd.S_typed HO_3.out) (by decide)) (fun k_ hk => ⟨trivial, hk.2⟩))) (fun _ h_ => h_))); (case aB => exact (HB.out)); (case aF => exact (fun _ _ => trivial)); (case aO => exact (by (with_reducible repeat (first | apply Kd.S_alloc | apply Kd.S_drewN | apply Kd.S_drew)); exact Kd.S_mono HO_3.out (fun k_ hk => ⟨trivial, fun e_ => hk.2 e_⟩))); (case aS => exact (below_size (HB.out))); (case aL => have := LMc9.out; omega); intro v270 w12 ho hb hg hat; rw [← Ny269.out] at ho; have n0_ := Aside0.mk (hb); have n1_ := Aside0.mk (ho); clear HB; clear HO_3; clear HO268; have HB := n0_; have HO271 := n1_; clear n0_ n1_; clear ho hb hg hat)))
  go_roundg k1
  case measure => have := HK1.out; omega
  case rel => exact ⟨(y269), (wrap64 (x9_1 + 1)), (by first | rfl | (simp; done) | (simp [*]; done)), H', ⟨by have := HK1.out; omega⟩, ⟨by (with_reducible repeat (first | apply Kd.S_alloc | apply Kd.S_drewN | apply Kd.S_drew)); exact HO271.out⟩, ⟨HB.out⟩⟩
end Go.Proofs.YtgkjoodlcojkkaaDoor.QD
end
section
namespace Go.Proofs.YtgkjoodlcojkkaaDoor.QD
open Go.RowKit Go.Proofs.YtgkjoodlcojkkaaDoorW.PrintWords Go.Proofs.YtgkjoodlcojkkaaDoorW.PrintLast Go.Proofs.YtgkjoodlcojkkaaDoorW.PrintMore
attribute [local go_sem] max2_int min2_int max_two min_two max_three min_three max_four min_four
set_option linter.unusedVariables false
set_option linter.unusedSimpArgs false
def text_numbers.l0 : Nat → List Int → List ByteArray → Int → Int → Option (List Int × Bool)
  | 0, _, _, _, _ => none
  | k + 1, x4, x9, x10, x11 => if x11 < x10 then (if 0 ≤ x11 then (if x11 < (x9.length : Int) then ((words_Num.f (rdOf ByteArray.empty x9 x11)).bind fun bt273 => (if bt273.2 = true then (if x4.length < 17592186044416 then (text_numbers.l0 k (x4 ++ [bt273.1]) x9 x10 (wrap64 (x11 + 1))) else (none)) else (some (([] : List Int), false)))) else (none)) else (none)) else (some (x4, true))
def text_numbers.f (k : Nat) (l0 : List ByteArray) : Option (List Int × Bool) := text_numbers.l0 k ([] : List Int) l0 (l0.length : Int) 0
theorem text_numbers.mono_l : ∀ k, (∀ y0 y1 y2 y3, LeO (text_numbers.l0 k y0 y1 y2 y3) (text_numbers.l0 (k + 1) y0 y1 y2 y3))
  | 0 => fun _ _ _ _ r h => by simp [text_numbers.l0] at h
  | k + 1 => by
    have ih0 := text_numbers.mono_l k
    · intro y0 y1 y2 y3
      unfold text_numbers.l0
      repeat' first
      | (with_reducible exact ih0 _ _ _ _)
      | (with_reducible exact LeO.refl _)
      | (with_reducible exact LeO.none _)
      | (with_reducible refine LeO.ite ?_ ?_)
      | (with_reducible refine LeO.bind ?_ (fun _ => ?_))
      | exact ih0 _ _ _ _
      | exact LeO.none _
      | refine LeO.ite ?_ ?_
      | refine LeO.bind ?_ (fun _ => ?_)
theorem text_numbers.mono : ∀ a0 k, LeO (text_numbers.f k a0) (text_numbers.f (k + 1) a0) := by
  intro a0 k
  have ih0 := text_numbers.mono_l k
  unfold text_numbers.f
  repeat' first
      | (with_reducible exact ih0 _ _ _ _)
      | (with_reducible exact LeO.refl _)
      | (with_reducible exact LeO.none _)
      | (with_reducible refine LeO.ite ?_ ?_)
      | (with_reducible refine LeO.bind ?_ (fun _ => ?_))
      | exact ih0 _ _ _ _
      | exact LeO.none _
      | refine LeO.ite ?_ ?_
      | refine LeO.bind ?_ (fun _ => ?_)
set_option maxHeartbeats 8000000 in
set_option maxRecDepth 100000 in
theorem text_numbers.calls (k : Nat) (A0 : Option Addr) (c0 : Nat) (l0 : List ByteArray) (r1 : List Int) (r2 : Bool) (w : World) (hr0 : Kd.C Kd.string w A0 l0.length l0) (hc0 : l0.length ≤ c0) (hG : Glob w) (h : text_numbers.f k l0 = some (r1, r2)) :
    Calls Tryd.prog 56 #[.slice A0 l0.length c0] w fun e w' => ∃ v0_ : Value, e = .returned (.tuple #[v0_, .bool r2]) ∧ Kd.R (Kd.int .i64) 3 w' w.heap.size (fun _ => True) v0_ r1 ∧ Below w.heap.size w w' := by
  have HR0 := Aside0.mk hr0
  have HC0 := Aside0.mk hc0
  clear hr0 hc0
  have HG := Aside0.mk hG
  clear hG
  have HB := Aside0.mk (Below.refl w.heap.size w)
  have H : (text_numbers.l0 k ([] : List Int) l0 (l0.length : Int) 0) = some (r1, r2) := h
  clear h
  have H' := Aside0.mk H
  clear H
  go_enter Tryd.func56, Tryd.ntmps56
  go_wp2
  go_loopg [4, 11] k (fun kq v4 v11 w' => ∃ (x4_1 : List Int) (x11_1 : Int), v11 = .int .i64 x11_1 ∧ Aside0 (text_numbers.l0 kq x4_1 l0 (l0.length : Int) x11_1 = some (r1, r2)) ∧ Aside0 (kq ≤ k) ∧ Aside0 (Kd.R (Kd.int .i64) 3 w' w.heap.size (fun _ => True) v4 x4_1) ∧ Aside0 (Below w.heap.size w w'))
  case atStart => exact ⟨(([] : List Int)), (0), (by first | rfl | (simp; done) | (simp [*]; done)), H', ⟨Nat.le_refl _⟩, ⟨by first | exact Kd.R_nil _ _ _ _ _ | exact Kd.N_nil _ _ _ _ _ | exact Kd.V_nil _ _ _ _ _ | exact Kd.Q_nil _ _ _ _ _ | exact Kd.S_nil _ _ _ _ _⟩, ⟨HB.out⟩⟩
  clear H'
  obtain ⟨x4_1, x11_1, rfl, HA, HK1, HO_4, HB⟩ := hrel
  cases gk with
  | zero => exact absurd HA.out (by simp [text_numbers.l0])
  | succ k1 => ?_
  have H := HA.out
  clear HA
  simp only [text_numbers.l0] at H
  by_cases c2 : x11_1 < (l0.length : Int)
  rotate_left
  · rw [if_neg c2] at H
    have c2b0 : decide (x11_1 < (l0.length : Int)) = false := decide_eq_false c2
    clear c2
    simp only [Option.some.injEq, Prod.mk.injEq] at H
    obtain ⟨rfl, rfl⟩ := H
    go_wp2
    go_ret2
    exact ⟨_, by first | rfl | (simp [errW_none, errW_some] <;> rfl) | (simp [*, errW_none, errW_some] <;> rfl), by (with_reducible repeat (first | apply Kd.R_alloc | apply Kd.R_drewN | apply Kd.R_drew)); exact HO_4.out, HB.out⟩
  rw [if_pos c2] at H
  have c2b0 : decide (x11_1 < (l0.length : Int)) = true := decide_eq_true c2
  clear c2
  by_cases c3 : 0 ≤ x11_1
  rotate_left
  · rw [if_neg c3] at H
    exact absurd H (by simp)
  rw [if_pos c3] at H
  have c3b0 : decide (0 ≤ x11_1) = true := decide_eq_true c3
  clear c3
  by_cases c4 : x11_1 < (l0.length : Int)
  rotate_left
  · rw [if_neg c4] at H
    exact absurd H (by simp)
  rw [if_pos c4] at H
  have c4b0 : decide (x11_1 < (l0.length : Int)) = true := decide_eq_true c4
  clear c4
  replace H := Option.bind_eq_some_iff.mp H
  obtain ⟨⟨t273, t274⟩, A50, H⟩ := H
  replace H : (if t274 = true then (if x4_1.length < 17592186044416 then (text_numbers.l0 k1 (x4_1 ++ [t273]) l0 (l0.length : Int) (wrap64 (x11_1 + 1))) else (none)) else (some (([] : List Int), false))) = some (r1, r2) := H
  have A5 := Aside0.mk A50
  clear A50
  by_cases c6 : t274 = true
  rotate_left
  · replace c6 := Bool.eq_false_iff.mpr c6
    subst c6
    have H1 : (some (([] : List Int), false)) = some (r1, r2) := by rw [if_neg (show ¬ (false = true) by decide)] at H; exact H
    clear H
    have H := H1
    clear H1
    simp only [Option.some.injEq, Prod.mk.injEq] at H
    obtain ⟨rfl, rfl⟩ := H
    have p272 : 0 ≤ (x11_1 : Int) := of_decide_eq_true (by first | (with_reducible assumption) | assumption)
    have q272 : x11_1 < (l0.length : Int) := of_decide_eq_true (by first | (with_reducible assumption) | assumption)
    obtain ⟨ad272, e272, hx272_0⟩ := Kd.at_string HR0.out x11_1 p272 q272
    cases e272
    replace hx272_0 := (HB.out.cell (World.block_lt_of_cell? w _ hx272_0)).trans hx272_0
    replace p272 := eq_true p272
    replace q272 := eq_true q272
    go_wp2_with (first | ((with_reducible refine gate_callee (f := 10) rfl ?_); refine goesL_ (some 17) rfl rfl Tryd.func10 (by kernel_rfl) rfl #[.string (rdOf ByteArray.empty l0 x11_1)] rfl (by (try simp only [List.map_toArray, List.map_cons, List.map_nil]); first | done | rfl | (simp only [List.length_drop, List.length_take]; rfl)) ?_; (with_reducible refine (words_Num.calls (rdOf ByteArray.empty l0 x11_1) t273 false _ ?side1 A5.out).mono ?_); (case side1 => first | exact Glob.below HG.out (HB.out) | (repeat (first | exact Glob.below HG.out HB.out | (with_reducible refine Glob.alloc ?_ _) | (with_reducible refine Glob.drewN ?_ _) | (with_reducible refine Glob.drew ?_)))); rintro e w7 ⟨rfl, hb⟩; refine ⟨_, rfl, ?_⟩; have n0_ := Aside0.mk (Kd.R_below (by (with_reducible repeat (first | apply Kd.R_alloc | apply Kd.R_drewN | apply Kd.R_drew)); exact HO_4.out) hb); have n1_ := Aside0.mk (below_step (HB.out) hb); clear HO_4; clear HB; have HO_4 := n0_; have HB := n1_; clear n0_ n1_; (try clear hb); (try clear hb2); (try clear hk); (try clear hi)))
    go_ret2
    exact ⟨_, by first | rfl | (simp [errW_none, errW_some] <;> rfl) | (simp [*, errW_none, errW_some] <;> rfl), by first | exact Kd.R_nil _ _ _ _ _ | exact Kd.N_nil _ _ _ _ _ | exact Kd.V_nil _ _ _ _ _ | exact Kd.Q_nil _ _ _ _ _ | exact Kd.S_nil _ _ _ _ _, HB.out⟩
  subst c6
  have H1 : (if x4_1.length < 17592186044416 then (text_numbers.l0 k1 (x4_1 ++ [t273]) l0 (l0.length : Int) (wrap64 (x11_1 + 1))) else (none)) = some (r1, r2) := by rw [if_pos rfl] at H; exact H
  clear H
  have H := H1
  clear H1
  by_cases c8 : x4_1.length < 17592186044416
  rotate_left
  · rw [if_neg c8] at H
    exact absurd H (by simp)
  rw [if_pos c8] at H
  have LMc8 := Aside0.mk c8
  clear c8
  obtain ⟨y275, hy275⟩ : ∃ y_ : List Int, y_ = (x4_1 ++ [t273]) := ⟨_, rfl⟩
  replace H : (text_numbers.l0 k1 y275 l0 (l0.length : Int) (wrap64 (x11_1 + 1))) = some (r1, r2) := by first | (rw [hy275]; with_reducible exact H) | (have H2_ := (Option.bind_some _ _).symm.trans H; rw [hy275]; with_reducible exact H2_) | (have H2_ := (Option.bind_some _ _).symm.trans H; with_reducible exact H2_) | with_reducible exact H | (rw [hy275]; exact H) | exact H
  have Ny275 := Aside0.mk hy275
  clear hy275
  have H' := Aside0.mk H
  clear H
  have p272 : 0 ≤ (x11_1 : Int) := of_decide_eq_true (by first | (with_reducible assumption) | assumption)
  have q272 : x11_1 < (l0.length : Int) := of_decide_eq_true (by first | (with_reducible assumption) | assumption)
  obtain ⟨ad272, e272, hx272_0⟩ := Kd.at_string HR0.out x11_1 p272 q272
  cases e272
  replace hx272_0 := (HB.out.cell (World.block_lt_of_cell? w _ hx272_0)).trans hx272_0
  replace p272 := eq_true p272
  replace q272 := eq_true q272
  go_wp2_with (first | ((with_reducible refine gate_callee (f := 10) rfl ?_); refine goesL_ (some 17) rfl rfl Tryd.func10 (by kernel_rfl) rfl #[.string (rdOf ByteArray.empty l0 x11_1)] rfl (by (try simp only [List.map_toArray, List.map_cons, List.map_nil]); first | done | rfl | (simp only [List.length_drop, List.length_take]; rfl)) ?_; (with_reducible refine (words_Num.calls (rdOf ByteArray.empty l0 x11_1) t273 true _ ?side1 A5.out).mono ?_); (case side1 => first | exact Glob.below HG.out (HB.out) | (repeat (first | exact Glob.below HG.out HB.out | (with_reducible refine Glob.alloc ?_ _) | (with_reducible refine Glob.drewN ?_ _) | (with_reducible refine Glob.drew ?_)))); rintro e w9 ⟨rfl, hb⟩; refine ⟨_, rfl, ?_⟩; have n0_ := Aside0.mk (Kd.R_below (by (with_reducible repeat (first | apply Kd.R_alloc | apply Kd.R_drewN | apply Kd.R_drew)); exact HO_4.out) hb); have n1_ := Aside0.mk (below_step (HB.out) hb); clear HO_4; clear HB; have HO_4 := n0_; have HB := n1_; clear n0_ n1_; (try clear hb); (try clear hb2); (try clear hk); (try clear hi)) | ((with_reducible refine gate_builtin (b := .append) (xs := #[.tmp 22, .tmp 24]) rfl ?_); at_builtin; refine Kd.R_append (Kd.int .i64) (w0 := w) w.heap.size rfl (.tmp 22) (.tmp 24) 34 3 (.int .i64 0) 8 rfl Tryd.underlying34 info3 rfl (by decide) (by omega) u4 x4_1 t273 [.int .i64 t273] (fun _ => True) (fun _ => False) rfl rfl ?aP (fun _ hk => hk.elim) ?aF ?aO ?aB ?aS ?aL ?_; (case aP => exact rfl); (case aB => exact (HB.out)); (case aF => exact (fun _ _ => trivial)); (case aO => exact (by (with_reducible repeat (first | apply Kd.R_alloc | apply Kd.R_drewN | apply Kd.R_drew)); exact HO_4.out)); (case aS => exact (below_size (HB.out))); (case aL => have := LMc8.out; omega); intro v276 w10 ho hb hg hat; rw [← Ny275.out] at ho; have n0_ := Aside0.mk (hb); have n1_ := Aside0.mk (ho); clear HB; clear HO_4; have HB := n0_; have HO277 := n1_; clear n0_ n1_; clear ho hb hg hat))
  go_roundg k1
  case measure => have := HK1.out; omega
  case rel => exact ⟨(y275), (wrap64 (x11_1 + 1)), (by first | rfl | (simp; done) | (simp [*]; done)), H', ⟨by have := HK1.out; omega⟩, ⟨by (with_reducible repeat (first | apply Kd.R_alloc | apply Kd.R_drewN | apply Kd.R_drew)); exact HO277.out⟩, ⟨HB.out⟩⟩
end Go.Proofs.YtgkjoodlcojkkaaDoor.QD
end
section
namespace Go.Proofs.YtgkjoodlcojkkaaDoor.QD
open Go.RowKit Go.Proofs.YtgkjoodlcojkkaaDoorW.PrintWords Go.Proofs.YtgkjoodlcojkkaaDoorW.PrintLast Go.Proofs.YtgkjoodlcojkkaaDoorW.PrintMore
attribute [local go_sem] max2_int min2_int max_two min_two max_three min_three max_four min_four
set_option linter.unusedVariables false
set_option linter.unusedSimpArgs false
mutual
def text_head.j0 : Nat → List (S81) → Bool → Int → Option (Int × List Int × List Int × (List (S53)) × Int × Bool)
  | 0, _, _, _ => none
  | k + 1, x0, x27, x280000 => if x27 = true then (some (x280000, ([] : List Int), ([] : List Int), ([] : List (S53)), 0, false)) else (text_head.l0 k x0 1 x280000)
def text_head.l0 : Nat → List (S81) → Int → Int → Option (Int × List Int × List Int × (List (S53)) × Int × Bool)
  | 0, _, _, _ => none
  | k + 1, x0, x6, x280000 => if x6 ≤ 3 then (if 0 < (x0.length : Int) then (if 1 < (((rd_T81 x0 0).f1).length : Int) then ((text_protocol.f x6).bind fun t285 => (if (rdOf ByteArray.empty ((rd_T81 x0 0).f1) 1).toList = t285.toList then (text_head.l0 k x0 (wrap64 (x6 + 1)) x6) else (text_head.l0 k x0 (wrap64 (x6 + 1)) x280000))) else (none)) else (none)) else (if x280000 = 0 then (some (x280000, ([] : List Int), ([] : List Int), ([] : List (S53)), 0, false)) else (if (x0.length : Int) > 1 then (if 1 < (x0.length : Int) then (if 0 < (((rd_T81 x0 1).f1).length : Int) then (text_head.j2 k x0 false ((rdOf ByteArray.empty ((rd_T81 x0 1).f1) 0).toList == ([99, 111, 114, 101, 115] : List UInt8)) x280000) else (none)) else (none)) else (text_head.j2 k x0 false false x280000)))
def text_head.j2 : Nat → List (S81) → Bool → Bool → Int → Option (Int × List Int × List Int × (List (S53)) × Int × Bool)
  | 0, _, _, _, _ => none
  | k + 1, x0, x7, x59, x280000 => if x59 = true then (if 1 < (x0.length : Int) then (if 1 ≤ (((rd_T81 x0 1).f1).length : Int) then ((text_numbers.f k (((rd_T81 x0 1).f1).drop 1)).bind fun bt290 => (text_head.j3 k x0 bt290.2 x280000 bt290.1)) else (none)) else (none)) else (text_head.j3 k x0 x7 x280000 ([] : List Int))
def text_head.j3 : Nat → List (S81) → Bool → Int → List Int → Option (Int × List Int × List Int × (List (S53)) × Int × Bool)
  | 0, _, _, _, _ => none
  | k + 1, x0, x7, x280000, x280001 => if x7 = true then (text_head.j4 k x0 ((x280001.length : Int) == 0) x280000 x280001) else (text_head.j4 k x0 true x280000 x280001)
def text_head.j4 : Nat → List (S81) → Bool → Int → List Int → Option (Int × List Int × List Int × (List (S53)) × Int × Bool)
  | 0, _, _, _, _ => none
  | k + 1, x0, x77, x280000, x280001 => if x77 = true then (some (x280000, x280001, ([] : List Int), ([] : List (S53)), 1, false)) else (if (x0.length : Int) = 2 then (text_head.j5 k x0 true x280000 x280001) else (if 2 < (x0.length : Int) then (if 0 < (((rd_T81 x0 2).f1).length : Int) then (text_head.j5 k x0 ((rdOf ByteArray.empty ((rd_T81 x0 2).f1) 0).toList != ([104, 111, 109, 101, 115] : List UInt8)) x280000 x280001) else (none)) else (none)))
def text_head.j5 : Nat → List (S81) → Bool → Int → List Int → Option (Int × List Int × List Int × (List (S53)) × Int × Bool)
  | 0, _, _, _, _ => none
  | k + 1, x0, x90, x280000, x280001 => if x90 = true then (some (x280000, x280001, ([] : List Int), ([] : List (S53)), 2, true)) else (if 2 < (x0.length : Int) then (if 1 ≤ (((rd_T81 x0 2).f1).length : Int) then ((text_numbers.f k (((rd_T81 x0 2).f1).drop 1)).bind fun bt298 => (if bt298.2 = true then (if (bt298.1.length : Int) = 0 then (some (x280000, x280001, bt298.1, ([] : List (S53)), 2, false)) else (some (x280000, x280001, bt298.1, ([] : List (S53)), 3, true))) else (some (x280000, x280001, bt298.1, ([] : List (S53)), 2, false)))) else (none)) else (none))
end
def text_head.f (k : Nat) (l0 : List (S81)) : Option (Int × List Int × List Int × (List (S53)) × Int × Bool) := if (l0.length : Int) = 0 then (text_head.j0 k l0 true 0) else (if 0 < (l0.length : Int) then (if 0 < (((rd_T81 l0 0).f1).length : Int) then (if (rdOf ByteArray.empty ((rd_T81 l0 0).f1) 0).toList = ([112, 114, 111, 116, 111, 99, 111, 108] : List UInt8) then (text_head.j0 k l0 ((((rd_T81 l0 0).f1).length : Int) != 2) 0) else (text_head.j0 k l0 true 0)) else (none)) else (none))
theorem text_head.mono_l : ∀ k, (∀ y0 y1 y2, LeO (text_head.j0 k y0 y1 y2) (text_head.j0 (k + 1) y0 y1 y2)) ∧ (∀ y0 y1 y2, LeO (text_head.l0 k y0 y1 y2) (text_head.l0 (k + 1) y0 y1 y2)) ∧ (∀ y0 y1 y2 y3, LeO (text_head.j2 k y0 y1 y2 y3) (text_head.j2 (k + 1) y0 y1 y2 y3)) ∧ (∀ y0 y1 y2 y3, LeO (text_head.j3 k y0 y1 y2 y3) (text_head.j3 (k + 1) y0 y1 y2 y3)) ∧ (∀ y0 y1 y2 y3, LeO (text_head.j4 k y0 y1 y2 y3) (text_head.j4 (k + 1) y0 y1 y2 y3)) ∧ (∀ y0 y1 y2 y3, LeO (text_head.j5 k y0 y1 y2 y3) (text_head.j5 (k + 1) y0 y1 y2 y3))
  | 0 => ⟨fun _ _ _ r h => by simp [text_head.j0] at h, fun _ _ _ r h => by simp [text_head.l0] at h, fun _ _ _ _ r h => by simp [text_head.j2] at h, fun _ _ _ _ r h => by simp [text_head.j3] at h, fun _ _ _ _ r h => by simp [text_head.j4] at h, fun _ _ _ _ r h => by simp [text_head.j5] at h⟩
  | k + 1 => by
    obtain ⟨ih0, ih1, ih2, ih3, ih4, ih5⟩ := text_head.mono_l k
    refine ⟨?_, ?_, ?_, ?_, ?_, ?_⟩
    · intro y0 y1 y2
      unfold text_head.j0
      repeat' first
      | (with_reducible exact ih0 _ _ _)
      | (with_reducible exact ih1 _ _ _)
      | (with_reducible exact ih2 _ _ _ _)
      | (with_reducible exact ih3 _ _ _ _)
      | (with_reducible exact ih4 _ _ _ _)
      | (with_reducible exact ih5 _ _ _ _)
      | (with_reducible exact text_numbers.mono _ _)
      | (with_reducible exact LeO.refl _)
      | (with_reducible exact LeO.none _)
      | (with_reducible refine LeO.ite ?_ ?_)
      | (with_reducible refine LeO.bind ?_ (fun _ => ?_))
      | exact ih0 _ _ _
      | exact ih1 _ _ _
      | exact ih2 _ _ _ _
      | exact ih3 _ _ _ _
      | exact ih4 _ _ _ _
      | exact ih5 _ _ _ _
      | exact text_numbers.mono _ _
      | exact LeO.none _
      | refine LeO.ite ?_ ?_
      | refine LeO.bind ?_ (fun _ => ?_)
    · intro y0 y1 y2
      unfold text_head.l0
      repeat' first
      | (with_reducible exact ih0 _ _ _)
      | (with_reducible exact ih1 _ _ _)
      | (with_reducible exact ih2 _ _ _ _)
      | (with_reducible exact ih3 _ _ _ _)
      | (with_reducible exact ih4 _ _ _ _)
      | (with_reducible exact ih5 _ _ _ _)
      | (with_reducible exact text_numbers.mono _ _)
      | (with_reducible exact LeO.refl _)
      | (with_reducible exact LeO.none _)
      | (with_reducible refine LeO.ite ?_ ?_)
      | (with_reducible refine LeO.bind ?_ (fun _ => ?_))
      | exact ih0 _ _ _
      | exact ih1 _ _ _
      | exact ih2 _ _ _ _
      | exact ih3 _ _ _ _
      | exact ih4 _ _ _ _
      | exact ih5 _ _ _ _
      | exact text_numbers.mono _ _
      | exact LeO.none _
      | refine LeO.ite ?_ ?_
      | refine LeO.bind ?_ (fun _ => ?_)
    · intro y0 y1 y2 y3
      unfold text_head.j2
      repeat' first
      | (with_reducible exact ih0 _ _ _)
      | (with_reducible exact ih1 _ _ _)
      | (with_reducible exact ih2 _ _ _ _)
      | (with_reducible exact ih3 _ _ _ _)
      | (with_reducible exact ih4 _ _ _ _)
      | (with_reducible exact ih5 _ _ _ _)
      | (with_reducible exact text_numbers.mono _ _)
      | (with_reducible exact LeO.refl _)
      | (with_reducible exact LeO.none _)
      | (with_reducible refine LeO.ite ?_ ?_)
      | (with_reducible refine LeO.bind ?_ (fun _ => ?_))
      | exact ih0 _ _ _
      | exact ih1 _ _ _
      | exact ih2 _ _ _ _
      | exact ih3 _ _ _ _
      | exact ih4 _ _ _ _
      | exact ih5 _ _ _ _
      | exact text_numbers.mono _ _
      | exact LeO.none _
      | refine LeO.ite ?_ ?_
      | refine LeO.bind ?_ (fun _ => ?_)
    · intro y0 y1 y2 y3
      unfold text_head.j3
      repeat' first
      | (with_reducible exact ih0 _ _ _)
      | (with_reducible exact ih1 _ _ _)
      | (with_reducible exact ih2 _ _ _ _)
      | (with_reducible exact ih3 _ _ _ _)
      | (with_reducible exact ih4 _ _ _ _)
      | (with_reducible exact ih5 _ _ _ _)
      | (with_reducible exact text_numbers.mono _ _)
      | (with_reducible exact LeO.refl _)
      | (with_reducible exact LeO.none _)
      | (with_reducible refine LeO.ite ?_ ?_)
      | (with_reducible refine LeO.bind ?_ (fun _ => ?_))
      | exact ih0 _ _ _
      | exact ih1 _ _ _
      | exact ih2 _ _ _ _
      | exact ih3 _ _ _ _
      | exact ih4 _ _ _ _
      | exact ih5 _ _ _ _
      | exact text_numbers.mono _ _
      | exact LeO.none _
      | refine LeO.ite ?_ ?_
      | refine LeO.bind ?_ (fun _ => ?_)
    · intro y0 y1 y2 y3
      unfold text_head.j4
      repeat' first
      | (with_reducible exact ih0 _ _ _)
      | (with_reducible exact ih1 _ _ _)
      | (with_reducible exact ih2 _ _ _ _)
      | (with_reducible exact ih3 _ _ _ _)
      | (with_reducible exact ih4 _ _ _ _)
      | (with_reducible exact ih5 _ _ _ _)
      | (with_reducible exact text_numbers.mono _ _)
      | (with_reducible exact LeO.refl _)
      | (with_reducible exact LeO.none _)
      | (with_reducible refine LeO.ite ?_ ?_)
      | (with_reducible refine LeO.bind ?_ (fun _ => ?_))
      | exact ih0 _ _ _
      | exact ih1 _ _ _
      | exact ih2 _ _ _ _
      | exact ih3 _ _ _ _
      | exact ih4 _ _ _ _
      | exact ih5 _ _ _ _
      | exact text_numbers.mono _ _
      | exact LeO.none _
      | refine LeO.ite ?_ ?_
      | refine LeO.bind ?_ (fun _ => ?_)
    · intro y0 y1 y2 y3
      unfold text_head.j5
      repeat' first
      | (with_reducible exact ih0 _ _ _)
      | (with_reducible exact ih1 _ _ _)
      | (with_reducible exact ih2 _ _ _ _)
      | (with_reducible exact ih3 _ _ _ _)
      | (with_reducible exact ih4 _ _ _ _)
      | (with_reducible exact ih5 _ _ _ _)
      | (with_reducible exact text_numbers.mono _ _)
      | (with_reducible exact LeO.refl _)
      | (with_reducible exact LeO.none _)
      | (with_reducible refine LeO.ite ?_ ?_)
      | (with_reducible refine LeO.bind ?_ (fun _ => ?_))
      | exact ih0 _ _ _
      | exact ih1 _ _ _
      | exact ih2 _ _ _ _
      | exact ih3 _ _ _ _
      | exact ih4 _ _ _ _
      | exact ih5 _ _ _ _
      | exact text_numbers.mono _ _
      | exact LeO.none _
      | refine LeO.ite ?_ ?_
      | refine LeO.bind ?_ (fun _ => ?_)
theorem text_head.mono : ∀ a0 k, LeO (text_head.f k a0) (text_head.f (k + 1) a0) := by
  intro a0 k
  obtain ⟨ih0, ih1, ih2, ih3, ih4, ih5⟩ := text_head.mono_l k
  unfold text_head.f
  repeat' first
      | (with_reducible exact ih0 _ _ _)
      | (with_reducible exact ih1 _ _ _)
      | (with_reducible exact ih2 _ _ _ _)
      | (with_reducible exact ih3 _ _ _ _)
      | (with_reducible exact ih4 _ _ _ _)
      | (with_reducible exact ih5 _ _ _ _)
      | (with_reducible exact text_numbers.mono _ _)
      | (with_reducible exact LeO.refl _)
      | (with_reducible exact LeO.none _)
      | (with_reducible refine LeO.ite ?_ ?_)
      | (with_reducible refine LeO.bind ?_ (fun _ => ?_))
      | exact ih0 _ _ _
      | exact ih1 _ _ _
      | exact ih2 _ _ _ _
      | exact ih3 _ _ _ _
      | exact ih4 _ _ _ _
      | exact ih5 _ _ _ _
      | exact text_numbers.mono _ _
      | exact LeO.none _
      | refine LeO.ite ?_ ?_
      | refine LeO.bind ?_ (fun _ => ?_)
def text_head.T7 : Bool × List (List Nat × List Nat) := (true, [([], []), ([0], [0]), ([1], [1]), ([2], [2]), ([3], [3]), ([4], [4]), ([], []), ([6], [6]), ([5, 7], [5, 7])])
def text_head.B7 : List Nat := [0, 1, 3, 7, 15, 31, 0, 64, 255]
theorem text_head.tab7 : rtab .any (opsOf Tryd.f40 7) = text_head.T7 := by kernel_rfl
theorem text_head.bits7 : waitsOk text_head.T7.2 text_head.B7 = true := by kernel_rfl
set_option maxHeartbeats 8000000 in
set_option maxRecDepth 100000 in
theorem text_head.calls (k : Nat) (A0 : Option Addr) (c0 : Nat) (l0 : List (S81)) (r1 : Int) (r2 : List Int) (r3 : List Int) (r4 : List (S53)) (r5 : Int) (r6 : Bool) (w : World) (hr0 : Kd.C k81 w A0 l0.length l0) (hc0 : l0.length ≤ c0) (hG : Glob w) (h : text_head.f k l0 = some (r1, r2, r3, r4, r5, r6)) :
    Calls Tryd.prog 40 #[.slice A0 l0.length c0] w fun e w' => ∃ v1_ v2_ v3_ : Value, e = .returned (.tuple #[.agg #[.int .i64 r1, v1_, v2_, v3_], .int .i64 r5, .bool r6]) ∧ Kd.R (Kd.int .i64) 3 w' w.heap.size (fun k_ => some k_ ≠ (v2_ : Value).ownBlock) v1_ r2 ∧ Kd.R (Kd.int .i64) 3 w' w.heap.size (fun k_ => some k_ ≠ (v1_ : Value).ownBlock) v2_ r3 ∧ Kd.S k53 53 w' w.heap.size (fun _ => True) v3_ r4 ∧ Below w.heap.size w w' := by
  have hu37 := Tryd.underlying37
  have HR0 := Aside0.mk hr0
  have HC0 := Aside0.mk hc0
  clear hr0 hc0
  have HG := Aside0.mk hG
  clear hG
  have HB := Aside0.mk (Below.refl w.heap.size w)
  have H : (if (l0.length : Int) = 0 then (text_head.j0 k l0 true 0) else (if 0 < (l0.length : Int) then (if 0 < (((rd_T81 l0 0).f1).length : Int) then (if (rdOf ByteArray.empty ((rd_T81 l0 0).f1) 0).toList = ([112, 114, 111, 116, 111, 99, 111, 108] : List UInt8) then (text_head.j0 k l0 ((((rd_T81 l0 0).f1).length : Int) != 2) 0) else (text_head.j0 k l0 true 0)) else (none)) else (none))) = some (r1, r2, r3, r4, r5, r6) := h
  clear h
  have HC2 := Aside0.mk H
  clear H
  go_enter Tryd.func40, Tryd.ntmps40
  go_upto_region 2 with (first | ((with_reducible refine gate_dst (N := 2) rfl ?_); (try (refine gate_guard (by rfl) ?_; dsimp only)); refine box_event ?hg (N := 2) ?hd (cs := #[.int .i64 0, .slice none 0 0, .slice none 0 0, .slice none 0 0]) (t := 37) ?hr ?_; (case hd => rfl); (case hg => rfl); (case hr => first | (go_simp; done) | (go_simp; rfl)); intro gb278 hg w3 hbox hb; have n0_ := Aside0.mk (below_step (HB.out) hb); have n1_ := Aside0.mk (hbox); have n2_ := Aside0.mk ((by rw [hg]; exact (below_size (HB.out)) : w.heap.size ≤ gb278)); have n3_ := Aside0.mk ((by rw [hg]; exact (below_size (HB.out)) : w.heap.size ≤ gb278)); clear HB; have HB := n0_; have BK278 := n1_; have GW278 := n2_; have GE278 := n3_; clear n0_ n1_ n2_ n3_; clear hb hbox hg) | ((with_reducible refine gate_dst (N := 5) rfl ?_); (try (refine gate_guard (by rfl) ?_; dsimp only)); refine box_event ?hg (N := 5) ?hd (cs := #[.int .i64 0, .slice none 0 0, .slice none 0 0, .slice none 0 0]) (t := 37) ?hr ?_; (case hd => rfl); (case hg => rfl); (case hr => first | (go_simp; done) | (go_simp; rfl)); intro gb279 hg w4 hbox hb; have n0_ := Aside0.mk (blk_below BK278.out hb); have n1_ := Aside0.mk (below_step (HB.out) hb); have n2_ := Aside0.mk (hbox); have n3_ := Aside0.mk ((by rw [hg]; exact (below_size (HB.out)) : w.heap.size ≤ gb279)); have n4_ := Aside0.mk ((by rw [hg]; exact (below_size (HB.out)) : w.heap.size ≤ gb279)); have n5_ := Aside0.mk ((by rw [hg]; exact Nat.ne_of_lt (blk_lt BK278.out) : gb278 ≠ gb279)); have n6_ := Aside0.mk ((by rw [hg]; exact Nat.ne_of_gt (blk_lt BK278.out) : gb279 ≠ gb278)); clear BK278; clear HB; have BK278 := n0_; have HB := n1_; have BK279 := n2_; have GW279 := n3_; have GE279 := n4_; have NB278_279 := n5_; have NB279_278 := n6_; clear n0_ n1_ n2_ n3_ n4_ n5_ n6_; clear hb hbox hg))
  (try simp only [Act.put, List.setIfInBounds_toArray, List.set_cons_zero, List.set_cons_succ])
  go_cut [27] (fun v27 wc => ∃ (kq : Nat) (x27_1 : Bool), v27 = .bool x27_1 ∧ Aside0 (text_head.j0 kq l0 x27_1 0 = some (r1, r2, r3, r4, r5, r6)) ∧ Aside0 (kq ≤ k) ∧ Aside0 (wc.heap[gb278]? = some (.cells #[.int .i64 0, (.slice none 0 0), (.slice none 0 0), (.slice none 0 0)] 37 (0, 0))) ∧ Aside0 (wc.heap[gb279]? = some (.cells #[.int .i64 0, (.slice none 0 0), (.slice none 0 0), (.slice none 0 0)] 37 (0, 0))) ∧ Aside0 (Below w.heap.size w wc))
  case first =>
    have H := HC2.out
    clear HC2
    by_cases c5 : (l0.length : Int) = 0
    · rw [if_pos c5] at H
      have c5b0 : ((l0.length : Int) == 0) = true := beq_iff_eq.mpr c5
      have c5b1 : ((l0.length : Int) != 0) = false := bne_eq_false_iff_eq.mpr c5
      clear c5
      (first | rw [c5b0] | (simp only [i64_w, i32_w]; rw [c5b0]) | skip)
      have H' := Aside0.mk H
      clear H
      go_wp2
      go_meet
      case rel => exact ⟨_, (true), (by first | rfl | (simp; done) | (simp [*]; done)), H', ⟨by first | omega | exact Nat.le_refl _⟩, ⟨BK278.out⟩, ⟨BK279.out⟩, ⟨HB.out⟩⟩
    rw [if_neg c5] at H
    have c5b0 : ((l0.length : Int) == 0) = false := beq_eq_false_iff_ne.mpr c5
    have c5b1 : ((l0.length : Int) != 0) = true := bne_iff_ne.mpr c5
    have c5b2 : ¬ (l0 = []) := fun h_ => c5 (by rw [h_]; rfl)
    (first | rw [c5b0] | (simp only [i64_w, i32_w]; rw [c5b0]) | skip)
    by_cases c6 : 0 < (l0.length : Int)
    rotate_left
    · rw [if_neg c6] at H
      exact absurd H (by simp)
    rw [if_pos c6] at H
    have c6b0 : decide (0 < (l0.length : Int)) = true := decide_eq_true c6
    have c6b1 : decide (0 < l0.length) = true := decide_eq_true (by omega)
    clear c6
    by_cases c7 : 0 < (((rd_T81 l0 0).f1).length : Int)
    rotate_left
    · rw [if_neg c7] at H
      exact absurd H (by simp)
    rw [if_pos c7] at H
    have c7b0 : decide (0 < (((rd_T81 l0 0).f1).length : Int)) = true := decide_eq_true c7
    have c7b1 : decide (0 < ((rd_T81 l0 0).f1).length) = true := decide_eq_true (by omega)
    clear c7
    by_cases c8 : (rdOf ByteArray.empty ((rd_T81 l0 0).f1) 0).toList = ([112, 114, 111, 116, 111, 99, 111, 108] : List UInt8)
    rotate_left
    · rw [if_neg c8] at H
      have c8b0 : ((rdOf ByteArray.empty ((rd_T81 l0 0).f1) 0).toList == ([112, 114, 111, 116, 111, 99, 111, 108] : List UInt8)) = false := beq_eq_false_iff_ne.mpr c8
      have c8b1 : ((rdOf ByteArray.empty ((rd_T81 l0 0).f1) 0).toList != ([112, 114, 111, 116, 111, 99, 111, 108] : List UInt8)) = true := bne_iff_ne.mpr c8
      have H' := Aside0.mk H
      clear H
      have p280 : 0 ≤ (0 : Int) := (by omega)
      have q280 : 0 < (l0.length : Int) := of_decide_eq_true (by first | (with_reducible assumption) | assumption)
      obtain ⟨ad280, A280_1, c280_1, e280, hx280_0, hx280_1, hl280_1, hi280_1⟩ := at_T81 HR0.out 0 p280 q280
      cases e280
      have qi280 : (0 < l0.length) = True := eq_true (by omega)
      (try rw [show ((0 : Int)).toNat = 0 from rfl] at hx280_0)
      (try rw [show 0 * 2 = 0 from rfl] at hx280_0)
      (try rw [Addr.add_zero'] at hx280_0)
      (try rw [show ((0 : Int)).toNat = 0 from rfl] at hx280_1)
      (try rw [show 0 * 2 = 0 from rfl] at hx280_1)
      (try rw [Addr.add_zero'] at hx280_1)
      replace hx280_0 := (HB.out.cell (World.block_lt_of_cell? w _ hx280_0)).trans hx280_0
      replace hx280_1 := (HB.out.cell (World.block_lt_of_cell? w _ hx280_1)).trans hx280_1
      have HR280_1 := Aside0.mk hi280_1
      have HC280_1 := Aside0.mk hl280_1
      clear hi280_1 hl280_1
      replace p280 := eq_true p280
      replace q280 := eq_true q280
      have p281 : 0 ≤ (0 : Int) := (by omega)
      have q281 : 0 < (((rd_T81 l0 0).f1).length : Int) := of_decide_eq_true (by first | (with_reducible assumption) | assumption)
      obtain ⟨ad281, e281, hx281_0⟩ := Kd.at_string HR280_1.out 0 p281 q281
      cases e281
      have qi281 : (0 < ((rd_T81 l0 0).f1).length) = True := eq_true (by omega)
      (try rw [show ((0 : Int)).toNat = 0 from rfl] at hx281_0)
      (try rw [Addr.add_zero'] at hx281_0)
      replace hx281_0 := (HB.out.cell (World.block_lt_of_cell? w _ hx281_0)).trans hx281_0
      replace p281 := eq_true p281
      replace q281 := eq_true q281
      go_wp2
      go_meet
      case rel => exact ⟨_, (true), (by first | rfl | (simp; done) | (simp [*]; done)), H', ⟨by first | omega | exact Nat.le_refl _⟩, ⟨BK278.out⟩, ⟨BK279.out⟩, ⟨HB.out⟩⟩
    rw [if_pos c8] at H
    have c8b0 : ((rdOf ByteArray.empty ((rd_T81 l0 0).f1) 0).toList == ([112, 114, 111, 116, 111, 99, 111, 108] : List UInt8)) = true := beq_iff_eq.mpr c8
    have c8b1 : ((rdOf ByteArray.empty ((rd_T81 l0 0).f1) 0).toList != ([112, 114, 111, 116, 111, 99, 111, 108] : List UInt8)) = false := bne_eq_false_iff_eq.mpr c8
    clear c8
    have H' := Aside0.mk H
    clear H
    have p280 : 0 ≤ (0 : Int) := (by omega)
    have q280 : 0 < (l0.length : Int) := of_decide_eq_true (by first | (with_reducible assumption) | assumption)
    obtain ⟨ad280, A280_1, c280_1, e280, hx280_0, hx280_1, hl280_1, hi280_1⟩ := at_T81 HR0.out 0 p280 q280
    cases e280
    have qi280 : (0 < l0.length) = True := eq_true (by omega)
    (try rw [show ((0 : Int)).toNat = 0 from rfl] at hx280_0)
    (try rw [show 0 * 2 = 0 from rfl] at hx280_0)
    (try rw [Addr.add_zero'] at hx280_0)
    (try rw [show ((0 : Int)).toNat = 0 from rfl] at hx280_1)
    (try rw [show 0 * 2 = 0 from rfl] at hx280_1)
    (try rw [Addr.add_zero'] at hx280_1)
    replace hx280_0 := (HB.out.cell (World.block_lt_of_cell? w _ hx280_0)).trans hx280_0
    replace hx280_1 := (HB.out.cell (World.block_lt_of_cell? w _ hx280_1)).trans hx280_1
    have HR280_1 := Aside0.mk hi280_1
    have HC280_1 := Aside0.mk hl280_1
    clear hi280_1 hl280_1
    replace p280 := eq_true p280
    replace q280 := eq_true q280
    have p281 : 0 ≤ (0 : Int) := (by omega)
    have q281 : 0 < (((rd_T81 l0 0).f1).length : Int) := of_decide_eq_true (by first | (with_reducible assumption) | assumption)
    obtain ⟨ad281, e281, hx281_0⟩ := Kd.at_string HR280_1.out 0 p281 q281
    cases e281
    have qi281 : (0 < ((rd_T81 l0 0).f1).length) = True := eq_true (by omega)
    (try rw [show ((0 : Int)).toNat = 0 from rfl] at hx281_0)
    (try rw [Addr.add_zero'] at hx281_0)
    replace hx281_0 := (HB.out.cell (World.block_lt_of_cell? w _ hx281_0)).trans hx281_0
    replace p281 := eq_true p281
    replace q281 := eq_true q281
    have p282 : 0 ≤ (0 : Int) := (by omega)
    have q282 : 0 < (l0.length : Int) := of_decide_eq_true (by first | (with_reducible assumption) | assumption)
    obtain ⟨ad282, A282_1, c282_1, e282, hx282_0, hx282_1, hl282_1, hi282_1⟩ := at_T81 HR0.out 0 p282 q282
    obtain rfl : ad280 = ad282 := (by injection e282)
    have qi282 : (0 < l0.length) = True := eq_true (by omega)
    (try rw [show ((0 : Int)).toNat = 0 from rfl] at hx282_0)
    (try rw [show 0 * 2 = 0 from rfl] at hx282_0)
    (try rw [Addr.add_zero'] at hx282_0)
    (try rw [show ((0 : Int)).toNat = 0 from rfl] at hx282_1)
    (try rw [show 0 * 2 = 0 from rfl] at hx282_1)
    (try rw [Addr.add_zero'] at hx282_1)
    replace hx282_0 := (HB.out.cell (World.block_lt_of_cell? w _ hx282_0)).trans hx282_0
    replace hx282_1 := (HB.out.cell (World.block_lt_of_cell? w _ hx282_1)).trans hx282_1
    have HR282_1 := Aside0.mk hi282_1
    have HC282_1 := Aside0.mk hl282_1
    clear hi282_1 hl282_1
    replace p282 := eq_true p282
    replace q282 := eq_true q282
    have ea_ := Option.some.inj (hx280_1.symm.trans hx282_1)
    injection ea_ with ea_ en_ ec_
    subst ea_
    subst ec_
    clear en_
    go_wp2
    go_meet
    case rel => exact ⟨_, (((((rd_T81 l0 0).f1).length : Int) != 2)), (by first | rfl | (simp; done) | (simp [*]; done)), H', ⟨by first | omega | exact Nat.le_refl _⟩, ⟨BK278.out⟩, ⟨BK279.out⟩, ⟨HB.out⟩⟩
  clear HC2
  (try clear c2); (try clear p2); (try clear q2); (try clear hx2); (try clear qi2); (try clear c4); (try clear c5); (try clear c5b0); (try clear c5b1); (try clear c5b2); (try clear c6); (try clear c6b0); (try clear c6b1); (try clear c7); (try clear c7b0); (try clear c7b1); (try clear c8); (try clear c8b0); (try clear c8b1); (try clear hx280_0); (try clear hx280_1); (try clear hx281_0); (try clear hx282_0); (try clear hx282_1); (try clear p280); (try clear p281); (try clear p282); (try clear q280); (try clear q281); (try clear q282)
  obtain ⟨kq, x27_1, rfl, HA, HJ1, BK278, BK279, HB⟩ := hcut
  cases kq with
  | zero => exact absurd HA.out (by simp [text_head.j0])
  | succ kj1 => ?_
  have H := HA.out
  clear HA
  simp only [text_head.j0] at H
  by_cases c9 : x27_1 = true
  · subst c9
    have H1 : (some (0, ([] : List Int), ([] : List Int), ([] : List (S53)), 0, false)) = some (r1, r2, r3, r4, r5, r6) := by rw [if_pos rfl] at H; exact H
    clear H
    have H := H1
    clear H1
    simp only [Option.some.injEq, Prod.mk.injEq] at H
    obtain ⟨rfl, rfl, rfl, rfl, rfl, rfl⟩ := H
    have hnb10 := NB279_278.out
    have hnc10 := NB278_279.out
    have hcz11_0 : wc.cell? ⟨gb279, 0, none⟩ = some (.int .i64 0) := (blk_cell BK279.out 0).trans rfl
    have hcz11_1 : wc.cell? ⟨gb279, 1, none⟩ = some (.slice none 0 0) := (blk_cell BK279.out 1).trans rfl
    have hcz11_2 : wc.cell? ⟨gb279, 2, none⟩ = some (.slice none 0 0) := (blk_cell BK279.out 2).trans rfl
    have hcz11_3 : wc.cell? ⟨gb279, 3, none⟩ = some (.slice none 0 0) := (blk_cell BK279.out 3).trans rfl
    have hfz11_0 := blk_frozen BK279.out 0
    have hfz11_1 := blk_frozen BK279.out 1
    have hfz11_2 := blk_frozen BK279.out 2
    have hfz11_3 := blk_frozen BK279.out 3
    have hcz12_0 : wc.cell? ⟨gb278, 0, none⟩ = some (.int .i64 0) := (blk_cell BK278.out 0).trans rfl
    have hcz12_1 : wc.cell? ⟨gb278, 1, none⟩ = some (.slice none 0 0) := (blk_cell BK278.out 1).trans rfl
    have hcz12_2 : wc.cell? ⟨gb278, 2, none⟩ = some (.slice none 0 0) := (blk_cell BK278.out 2).trans rfl
    have hcz12_3 : wc.cell? ⟨gb278, 3, none⟩ = some (.slice none 0 0) := (blk_cell BK278.out 3).trans rfl
    have hfz12_0 := blk_frozen BK278.out 0
    have hfz12_1 := blk_frozen BK278.out 1
    have hfz12_2 := blk_frozen BK278.out 2
    have hfz12_3 := blk_frozen BK278.out 3
    go_wp2
    refine bodyPost_ret (results_ctt rfl _ _ gb278 37 #[.int .i64 0, .slice none 0 0, .slice none 0 0, .slice none 0 0] (0, 0) _ rfl (by (with_reducible repeat (first | refine blk_drewN ?_ _ | refine blk_drew ?_ | refine blk_alloc ?_ _)); refine blk_put (cs := #[.int .i64 0, .slice none 0 0, .slice none 0 0, .slice none 0 0]) ?_ 3 _ rfl; (with_reducible repeat (first | refine blk_drewN ?_ _ | refine blk_drew ?_ | refine blk_alloc ?_ _)); refine blk_put (cs := #[.int .i64 0, .slice none 0 0, .slice none 0 0, .slice none 0 0]) ?_ 2 _ rfl; (with_reducible repeat (first | refine blk_drewN ?_ _ | refine blk_drew ?_ | refine blk_alloc ?_ _)); refine blk_put (cs := #[.int .i64 0, .slice none 0 0, .slice none 0 0, .slice none 0 0]) ?_ 1 _ rfl; (with_reducible repeat (first | refine blk_drewN ?_ _ | refine blk_drew ?_ | refine blk_alloc ?_ _)); refine blk_put (cs := #[.int .i64 0, .slice none 0 0, .slice none 0 0, .slice none 0 0]) ?_ 0 _ rfl; (with_reducible repeat (first | refine blk_drewN ?_ _ | refine blk_drew ?_ | refine blk_alloc ?_ _)); exact BK278.out) Tryd.underlying37 rfl (by kernel_rfl)) rfl ?_
    exact ⟨_, _, _, by first | rfl | (simp [errW_none, errW_some] <;> rfl) | (simp [*, errW_none, errW_some] <;> rfl), by first | exact Kd.R_nil _ _ _ _ _ | exact Kd.N_nil _ _ _ _ _ | exact Kd.V_nil _ _ _ _ _ | exact Kd.Q_nil _ _ _ _ _ | exact Kd.S_nil _ _ _ _ _, by first | exact Kd.R_nil _ _ _ _ _ | exact Kd.N_nil _ _ _ _ _ | exact Kd.V_nil _ _ _ _ _ | exact Kd.Q_nil _ _ _ _ _ | exact Kd.S_nil _ _ _ _ _, by first | exact Kd.S_nil _ _ _ _ _ | exact Kd.N_nil _ _ _ _ _ | exact Kd.V_nil _ _ _ _ _ | exact Kd.Q_nil _ _ _ _ _ | exact Kd.R_nil _ _ _ _ _, by repeat (first | (with_reducible first | exact HB.out | apply below_alloc | apply pw_below_drewN | apply below_drew1 | refine below_set ?_ GE278.out | refine below_set ?_ GE279.out) | exact HB.out)⟩
  replace c9 := Bool.eq_false_iff.mpr c9
  subst c9
  have H1 : (text_head.l0 kj1 l0 1 0) = some (r1, r2, r3, r4, r5, r6) := by rw [if_neg (show ¬ (false = true) by decide)] at H; exact H
  clear H
  have H := H1
  clear H1
  have H' := Aside0.mk H
  clear H
  go_wp2
  go_loopg [6] kj1 (fun kq v6 w' => ∃ (x6_2 : Int) (x280000_2 : Int), v6 = .int .i64 x6_2 ∧ Aside0 (text_head.l0 kq l0 x6_2 x280000_2 = some (r1, r2, r3, r4, r5, r6)) ∧ Aside0 (kq ≤ kj1) ∧ Aside0 (w'.heap[gb278]? = some (.cells #[.int .i64 0, (.slice none 0 0), (.slice none 0 0), (.slice none 0 0)] 37 (0, 0))) ∧ Aside0 (w'.heap[gb279]? = some (.cells #[.int .i64 x280000_2, (.slice none 0 0), (.slice none 0 0), (.slice none 0 0)] 37 (0, 0))) ∧ Aside0 (Below w.heap.size w w'))
  case atStart => exact ⟨(1), (0), (by first | rfl | (simp; done) | (simp [*]; done)), H', ⟨Nat.le_refl _⟩, ⟨BK278.out⟩, ⟨BK279.out⟩, ⟨HB.out⟩⟩
  clear H'
  (try clear c1); (try clear c2); (try clear p2); (try clear q2); (try clear hx2); (try clear qi2); (try clear c4); (try clear c5); (try clear c5b0); (try clear c5b1); (try clear c5b2); (try clear c6); (try clear c6b0); (try clear c6b1); (try clear c7); (try clear c7b0); (try clear c7b1); (try clear c8); (try clear c8b0); (try clear c8b1); (try clear c9); (try clear c10); (try clear hcz11_0); (try clear hcz11_1); (try clear hcz11_2); (try clear hcz11_3); (try clear hcz12_0); (try clear hcz12_1); (try clear hcz12_2); (try clear hcz12_3); (try clear hfz11_0); (try clear hfz11_1); (try clear hfz11_2); (try clear hfz11_3); (try clear hfz12_0); (try clear hfz12_1); (try clear hfz12_2); (try clear hfz12_3); (try clear hx280_0); (try clear hx280_1); (try clear hx281_0); (try clear hx282_0); (try clear hx282_1); (try clear p2); (try clear p280); (try clear p281); (try clear p282); (try clear q2); (try clear q280); (try clear q281); (try clear q282)
  obtain ⟨x6_2, x280000_2, rfl, HA, HK2, BK278, BK279, HB⟩ := hrel
  cases gk with
  | zero => exact absurd HA.out (by simp [text_head.l0])
  | succ k2 => ?_
  have H := HA.out
  clear HA
  simp only [text_head.l0] at H
  by_cases c13 : x6_2 ≤ 3
  · rw [if_pos c13] at H
    have c13b0 : decide (x6_2 ≤ 3) = true := decide_eq_true c13
    clear c13
    by_cases c14 : 0 < (l0.length : Int)
    rotate_left
    · rw [if_neg c14] at H
      exact absurd H (by simp)
    rw [if_pos c14] at H
    have c14b0 : decide (0 < (l0.length : Int)) = true := decide_eq_true c14
    have c14b1 : decide (0 < l0.length) = true := decide_eq_true (by omega)
    clear c14
    by_cases c15 : 1 < (((rd_T81 l0 0).f1).length : Int)
    rotate_left
    · rw [if_neg c15] at H
      exact absurd H (by simp)
    rw [if_pos c15] at H
    have c15b0 : decide (1 < (((rd_T81 l0 0).f1).length : Int)) = true := decide_eq_true c15
    have c15b1 : decide (1 < ((rd_T81 l0 0).f1).length) = true := decide_eq_true (by omega)
    clear c15
    replace H := Option.bind_eq_some_iff.mp H
    obtain ⟨t285, A160, H⟩ := H
    replace H : (if (rdOf ByteArray.empty ((rd_T81 l0 0).f1) 1).toList = t285.toList then (text_head.l0 k2 l0 (wrap64 (x6_2 + 1)) x6_2) else (text_head.l0 k2 l0 (wrap64 (x6_2 + 1)) x280000_2)) = some (r1, r2, r3, r4, r5, r6) := H
    have A16 := Aside0.mk A160
    clear A160
    by_cases c17 : (rdOf ByteArray.empty ((rd_T81 l0 0).f1) 1).toList = t285.toList
    rotate_left
    · rw [if_neg c17] at H
      have c17b0 : ((rdOf ByteArray.empty ((rd_T81 l0 0).f1) 1).toList == t285.toList) = false := beq_eq_false_iff_ne.mpr c17
      have c17b1 : ((rdOf ByteArray.empty ((rd_T81 l0 0).f1) 1).toList != t285.toList) = true := bne_iff_ne.mpr c17
      have H' := Aside0.mk H
      clear H
      try go_wp2
      have n0_ := Aside0.mk (blk_drew BK278.out)
      have n1_ := Aside0.mk (blk_drew BK279.out)
      have n2_ := Aside0.mk (below_drew1 HB.out)
      clear BK278
      clear BK279
      clear HB
      have BK278 := n0_
      have BK279 := n1_
      have HB := n2_
      clear n0_ n1_ n2_
      have p283 : 0 ≤ (0 : Int) := (by omega)
      have q283 : 0 < (l0.length : Int) := of_decide_eq_true (by first | (with_reducible assumption) | assumption)
      obtain ⟨ad283, A283_1, c283_1, e283, hx283_0, hx283_1, hl283_1, hi283_1⟩ := at_T81 HR0.out 0 p283 q283
      have hw283_1 := hx283_1
      (try rw [show ((0 : Int)).toNat = 0 from rfl] at hw283_1)
      (try rw [show 0 * 2 = 0 from rfl] at hw283_1)
      (try rw [Addr.add_zero'] at hw283_1)
      have hw283_0 := hx283_0
      (try rw [show ((0 : Int)).toNat = 0 from rfl] at hw283_0)
      (try rw [show 0 * 2 = 0 from rfl] at hw283_0)
      (try rw [Addr.add_zero'] at hw283_0)
      cases e283
      have qi283 : (0 < l0.length) = True := eq_true (by omega)
      (try rw [show ((0 : Int)).toNat = 0 from rfl] at hx283_0)
      (try rw [show 0 * 2 = 0 from rfl] at hx283_0)
      (try rw [Addr.add_zero'] at hx283_0)
      (try rw [show ((0 : Int)).toNat = 0 from rfl] at hx283_1)
      (try rw [show 0 * 2 = 0 from rfl] at hx283_1)
      (try rw [Addr.add_zero'] at hx283_1)
      replace hx283_0 := (HB.out.cell (World.block_lt_of_cell? w _ hx283_0)).trans hx283_0
      replace hx283_1 := (HB.out.cell (World.block_lt_of_cell? w _ hx283_1)).trans hx283_1
      have HR283_1 := Aside0.mk hi283_1
      have HC283_1 := Aside0.mk hl283_1
      clear hi283_1 hl283_1
      replace p283 := eq_true p283
      replace q283 := eq_true q283
      have p284 : 0 ≤ (1 : Int) := (by omega)
      have q284 : 1 < (((rd_T81 l0 0).f1).length : Int) := of_decide_eq_true (by first | (with_reducible assumption) | assumption)
      obtain ⟨ad284, e284, hx284_0⟩ := Kd.at_string HR283_1.out 1 p284 q284
      have hw284_0 := hx284_0
      (try rw [show ((1 : Int)).toNat = 1 from rfl] at hw284_0)
      (try rw [show 1 * 1 = 1 from rfl] at hw284_0)
      (try simp only [Nat.reduceMul, Nat.reduceEqDiff, Go.Addr.add, ↓reduceIte] at hw284_0)
      cases e284
      (try simp only [show (1 : Int).toNat = 1 from rfl, Nat.reduceMul, Nat.reduceEqDiff, Go.Addr.add, ↓reduceIte] at hx284_0)
      have qi284 : (1 < ((rd_T81 l0 0).f1).length) = True := eq_true (by omega)
      (try rw [show ((1 : Int)).toNat = 1 from rfl] at hx284_0)
      replace hx284_0 := (HB.out.cell (World.block_lt_of_cell? w _ hx284_0)).trans hx284_0
      replace p284 := eq_true p284
      replace q284 := eq_true q284
      refine start_ (n := 9) (S := fun w' => w'.cell? ad283 = some (.int .i64 ((rd_T81 l0 0).f0)) ∧ w'.cell? ⟨ad283.block, ad283.off + 1, none⟩ = some (.slice (some ad284) ((rd_T81 l0 0).f1).length c283_1) ∧ w'.cell? ⟨ad284.block, ad284.off + 1, none⟩ = some (.string (rdOf ByteArray.empty ((rd_T81 l0 0).f1) 1))) (ds := []) (bs 9 0) (by kernel_rfl) rfl rfl ⟨((HB.out.cell (World.block_lt_of_cell? w _ hw283_0)).trans hw283_0), ((HB.out.cell (World.block_lt_of_cell? w _ hw283_1)).trans hw283_1), ((HB.out.cell (World.block_lt_of_cell? w _ hw284_0)).trans hw284_0)⟩ (fun hHeld => ?_); refine with_tabW text_head.tab7 text_head.bits7 (fun HT_ HW_ => ?_)
      generalize wr.drew = w18 at BK278 BK279 HB HR283_1 hx283_0 hx283_1 hx284_0 hHeld ⊢
      refine pure_ (i := 0) (N := some 33) (v := ?_) (a' := ?_) (bs 9 1) rfl rfl (any_of HT_.out (by kernel_rfl)) (fun _ _ _ h => h) (Or.inl ⟨by rfl, ?_⟩) ?_ ?_
      rotate_left
      · intro w'
        go_simp
        with_reducible rfl
      rotate_left
      · simp only [Act.put, List.setIfInBounds_toArray, List.set_cons_zero, List.set_cons_succ, i64_w, i32_w]
        rfl
      refine pure_ (i := 1) (N := some 34) (v := ?_) (a' := ?_) (bs 9 3) rfl rfl (any_of HT_.out (by kernel_rfl)) (fun _ _ _ h => h) (Or.inl ⟨by rfl, ?_⟩) ?_ ?_
      rotate_left
      · intro w'
        go_simp
        with_reducible rfl
      rotate_left
      · simp only [Act.put, List.setIfInBounds_toArray, List.set_cons_zero, List.set_cons_succ, i64_w, i32_w]
        rfl
      refine pure_ (i := 2) (N := some 35) (v := ?_) (a' := ?_) (bs 9 7) rfl rfl (any_of HT_.out (by kernel_rfl)) (fun _ _ _ h => h) (Or.inl ⟨by rfl, ?_⟩) ?_ ?_
      rotate_left
      · intro w'
        go_simp
        with_reducible rfl
      rotate_left
      · simp only [Act.put, List.setIfInBounds_toArray, List.set_cons_zero, List.set_cons_succ, i64_w, i32_w]
        rfl
      refine pure_ (i := 6) (N := some 39) (v := ?_) (a' := ?_) (bs 9 71) rfl rfl (any_of HT_.out (by kernel_rfl)) (fun _ _ _ h => h) (Or.inl ⟨by rfl, ?_⟩) ?_ ?_
      rotate_left
      · intro w'
        go_simp
        with_reducible rfl
      rotate_left
      · simp only [Act.put, List.setIfInBounds_toArray, List.set_cons_zero, List.set_cons_succ, i64_w, i32_w]
        rfl
      refine take_ (i := 3) (N := some 36) (v := ?_) (a' := ?_) (bs 9 79) rfl rfl (take_ofW HT_.out HW_.out (by kernel_rfl)) (fun _ _ _ h => h) (Or.inl ⟨by rfl, ?_⟩) hHeld ?_ ?_
      rotate_left
      · rintro w' ⟨s0, s1, s2⟩
        go_simp
        with_reducible rfl
      rotate_left
      · simp only [Act.put, List.setIfInBounds_toArray, List.set_cons_zero, List.set_cons_succ, i64_w, i32_w]
        rfl
      refine pure_ (i := 4) (N := some 37) (v := ?_) (a' := ?_) (bs 9 95) rfl rfl (any_of HT_.out (by kernel_rfl)) (fun _ _ _ h => h) (Or.inl ⟨by rfl, ?_⟩) ?_ ?_
      rotate_left
      · intro w'
        go_simp
        with_reducible rfl
      rotate_left
      · simp only [Act.put, List.setIfInBounds_toArray, List.set_cons_zero, List.set_cons_succ, i64_w, i32_w]
        rfl
      refine take_ (i := 5) (N := some 38) (v := ?_) (a' := ?_) (bs 9 127) rfl rfl (take_ofW HT_.out HW_.out (by kernel_rfl)) (fun _ _ _ h => h) (Or.inl ⟨by rfl, ?_⟩) hHeld ?_ ?_
      rotate_left
      · rintro w' ⟨s0, s1, s2⟩
        go_simp
        with_reducible rfl
      rotate_left
      · simp only [Act.put, List.setIfInBounds_toArray, List.set_cons_zero, List.set_cons_succ, i64_w, i32_w]
        rfl
      refine one_ (i := 7) (N := some 40) (bs 9 255) rfl rfl (one_of HT_.out (by kernel_rfl)) (by decide) (fun K hK => ?_)
      refine goes_ Tryd.func35 (by kernel_rfl) rfl #[.int .i64 x6_2] (by rfl) rfl rfl (by (try simp only [List.map_toArray, List.map_cons, List.map_nil]); first | done | rfl | (simp only [List.length_drop, List.length_take]; rfl)) ?_
      with_reducible refine (text_protocol.calls x6_2 t285 _ A16.out).mono ?_
      rintro e w19 ⟨rfl, hb⟩
      refine ⟨_, rfl, ?_⟩
      have n0_ := Aside0.mk (blk_below BK278.out hb)
      have n1_ := Aside0.mk (blk_below BK279.out hb)
      have n2_ := Aside0.mk (below_step (HB.out) hb)
      clear BK278
      clear BK279
      clear HB
      have BK278 := n0_
      have BK279 := n1_
      have HB := n2_
      clear n0_ n1_ n2_
      (try clear hb)
      (try clear hb2)
      (try clear hk)
      (try clear hi)
      refine hK.out _ _ ⟨((HB.out.cell (World.block_lt_of_cell? w _ hw283_0)).trans hw283_0), ((HB.out.cell (World.block_lt_of_cell? w _ hw283_1)).trans hw283_1), ((HB.out.cell (World.block_lt_of_cell? w _ hw284_0)).trans hw284_0)⟩ (fun hHeld => ?_)
      clear hK K
      refine norm_ (a' := ?_) ?_ ?_
      rotate_left
      · show Act.put _ (some 40) _ = _
        simp only [Act.put, List.setIfInBounds_toArray, List.set_cons_zero, List.set_cons_succ, i64_w, i32_w]
        rfl
      refine pure_ (i := 8) (N := some 41) (v := ?_) (a' := ?_) (bs 9 511) rfl rfl (any_of HT_.out (by kernel_rfl)) (fun _ _ _ h => h) (Or.inl ⟨by rfl, ?_⟩) ?_ ?_
      rotate_left
      · intro w'
        go_simp
        with_reducible rfl
      rotate_left
      · simp only [Act.put, List.setIfInBounds_toArray, List.set_cons_zero, List.set_cons_succ, i64_w, i32_w]
        rfl
      refine done_ (done_of HT_.out (by kernel_rfl)) ?_
      try go_wp2
      go_roundg k2
      case measure => have := HJ1.out; have := HK2.out; omega
      case rel => exact ⟨(wrap64 (x6_2 + 1)), (x280000_2), (by first | rfl | (simp; done) | (simp [*]; done)), H', ⟨by have := HJ1.out; have := HK2.out; omega⟩, ⟨BK278.out⟩, ⟨BK279.out⟩, ⟨HB.out⟩⟩
    rw [if_pos c17] at H
    have c17b0 : ((rdOf ByteArray.empty ((rd_T81 l0 0).f1) 1).toList == t285.toList) = true := beq_iff_eq.mpr c17
    have c17b1 : ((rdOf ByteArray.empty ((rd_T81 l0 0).f1) 1).toList != t285.toList) = false := bne_eq_false_iff_eq.mpr c17
    clear c17
    have H' := Aside0.mk H
    clear H
    try go_wp2
    have n0_ := Aside0.mk (blk_drew BK278.out)
    have n1_ := Aside0.mk (blk_drew BK279.out)
    have n2_ := Aside0.mk (below_drew1 HB.out)
    clear BK278
    clear BK279
    clear HB
    have BK278 := n0_
    have BK279 := n1_
    have HB := n2_
    clear n0_ n1_ n2_
    have p283 : 0 ≤ (0 : Int) := (by omega)
    have q283 : 0 < (l0.length : Int) := of_decide_eq_true (by first | (with_reducible assumption) | assumption)
    obtain ⟨ad283, A283_1, c283_1, e283, hx283_0, hx283_1, hl283_1, hi283_1⟩ := at_T81 HR0.out 0 p283 q283
    have hw283_1 := hx283_1
    (try rw [show ((0 : Int)).toNat = 0 from rfl] at hw283_1)
    (try rw [show 0 * 2 = 0 from rfl] at hw283_1)
    (try rw [Addr.add_zero'] at hw283_1)
    have hw283_0 := hx283_0
    (try rw [show ((0 : Int)).toNat = 0 from rfl] at hw283_0)
    (try rw [show 0 * 2 = 0 from rfl] at hw283_0)
    (try rw [Addr.add_zero'] at hw283_0)
    cases e283
    have qi283 : (0 < l0.length) = True := eq_true (by omega)
    (try rw [show ((0 : Int)).toNat = 0 from rfl] at hx283_0)
    (try rw [show 0 * 2 = 0 from rfl] at hx283_0)
    (try rw [Addr.add_zero'] at hx283_0)
    (try rw [show ((0 : Int)).toNat = 0 from rfl] at hx283_1)
    (try rw [show 0 * 2 = 0 from rfl] at hx283_1)
    (try rw [Addr.add_zero'] at hx283_1)
    replace hx283_0 := (HB.out.cell (World.block_lt_of_cell? w _ hx283_0)).trans hx283_0
    replace hx283_1 := (HB.out.cell (World.block_lt_of_cell? w _ hx283_1)).trans hx283_1
    have HR283_1 := Aside0.mk hi283_1
    have HC283_1 := Aside0.mk hl283_1
    clear hi283_1 hl283_1
    replace p283 := eq_true p283
    replace q283 := eq_true q283
    have p284 : 0 ≤ (1 : Int) := (by omega)
    have q284 : 1 < (((rd_T81 l0 0).f1).length : Int) := of_decide_eq_true (by first | (with_reducible assumption) | assumption)
    obtain ⟨ad284, e284, hx284_0⟩ := Kd.at_string HR283_1.out 1 p284 q284
    have hw284_0 := hx284_0
    (try rw [show ((1 : Int)).toNat = 1 from rfl] at hw284_0)
    (try rw [show 1 * 1 = 1 from rfl] at hw284_0)
    (try simp only [Nat.reduceMul, Nat.reduceEqDiff, Go.Addr.add, ↓reduceIte] at hw284_0)
    cases e284
    (try simp only [show (1 : Int).toNat = 1 from rfl, Nat.reduceMul, Nat.reduceEqDiff, Go.Addr.add, ↓reduceIte] at hx284_0)
    have qi284 : (1 < ((rd_T81 l0 0).f1).length) = True := eq_true (by omega)
    (try rw [show ((1 : Int)).toNat = 1 from rfl] at hx284_0)
    replace hx284_0 := (HB.out.cell (World.block_lt_of_cell? w _ hx284_0)).trans hx284_0
    replace p284 := eq_true p284
    replace q284 := eq_true q284
    refine start_ (n := 9) (S := fun w' => w'.cell? ad283 = some (.int .i64 ((rd_T81 l0 0).f0)) ∧ w'.cell? ⟨ad283.block, ad283.off + 1, none⟩ = some (.slice (some ad284) ((rd_T81 l0 0).f1).length c283_1) ∧ w'.cell? ⟨ad284.block, ad284.off + 1, none⟩ = some (.string (rdOf ByteArray.empty ((rd_T81 l0 0).f1) 1))) (ds := []) (bs 9 0) (by kernel_rfl) rfl rfl ⟨((HB.out.cell (World.block_lt_of_cell? w _ hw283_0)).trans hw283_0), ((HB.out.cell (World.block_lt_of_cell? w _ hw283_1)).trans hw283_1), ((HB.out.cell (World.block_lt_of_cell? w _ hw284_0)).trans hw284_0)⟩ (fun hHeld => ?_); refine with_tabW text_head.tab7 text_head.bits7 (fun HT_ HW_ => ?_)
    generalize wr.drew = w20 at BK278 BK279 HB HR283_1 hx283_0 hx283_1 hx284_0 hHeld ⊢
    refine pure_ (i := 0) (N := some 33) (v := ?_) (a' := ?_) (bs 9 1) rfl rfl (any_of HT_.out (by kernel_rfl)) (fun _ _ _ h => h) (Or.inl ⟨by rfl, ?_⟩) ?_ ?_
    rotate_left
    · intro w'
      go_simp
      with_reducible rfl
    rotate_left
    · simp only [Act.put, List.setIfInBounds_toArray, List.set_cons_zero, List.set_cons_succ, i64_w, i32_w]
      rfl
    refine pure_ (i := 1) (N := some 34) (v := ?_) (a' := ?_) (bs 9 3) rfl rfl (any_of HT_.out (by kernel_rfl)) (fun _ _ _ h => h) (Or.inl ⟨by rfl, ?_⟩) ?_ ?_
    rotate_left
    · intro w'
      go_simp
      with_reducible rfl
    rotate_left
    · simp only [Act.put, List.setIfInBounds_toArray, List.set_cons_zero, List.set_cons_succ, i64_w, i32_w]
      rfl
    refine pure_ (i := 2) (N := some 35) (v := ?_) (a' := ?_) (bs 9 7) rfl rfl (any_of HT_.out (by kernel_rfl)) (fun _ _ _ h => h) (Or.inl ⟨by rfl, ?_⟩) ?_ ?_
    rotate_left
    · intro w'
      go_simp
      with_reducible rfl
    rotate_left
    · simp only [Act.put, List.setIfInBounds_toArray, List.set_cons_zero, List.set_cons_succ, i64_w, i32_w]
      rfl
    refine pure_ (i := 6) (N := some 39) (v := ?_) (a' := ?_) (bs 9 71) rfl rfl (any_of HT_.out (by kernel_rfl)) (fun _ _ _ h => h) (Or.inl ⟨by rfl, ?_⟩) ?_ ?_
    rotate_left
    · intro w'
      go_simp
      with_reducible rfl
    rotate_left
    · simp only [Act.put, List.setIfInBounds_toArray, List.set_cons_zero, List.set_cons_succ, i64_w, i32_w]
      rfl
    refine take_ (i := 3) (N := some 36) (v := ?_) (a' := ?_) (bs 9 79) rfl rfl (take_ofW HT_.out HW_.out (by kernel_rfl)) (fun _ _ _ h => h) (Or.inl ⟨by rfl, ?_⟩) hHeld ?_ ?_
    rotate_left
    · rintro w' ⟨s0, s1, s2⟩
      go_simp
      with_reducible rfl
    rotate_left
    · simp only [Act.put, List.setIfInBounds_toArray, List.set_cons_zero, List.set_cons_succ, i64_w, i32_w]
      rfl
    refine pure_ (i := 4) (N := some 37) (v := ?_) (a' := ?_) (bs 9 95) rfl rfl (any_of HT_.out (by kernel_rfl)) (fun _ _ _ h => h) (Or.inl ⟨by rfl, ?_⟩) ?_ ?_
    rotate_left
    · intro w'
      go_simp
      with_reducible rfl
    rotate_left
    · simp only [Act.put, List.setIfInBounds_toArray, List.set_cons_zero, List.set_cons_succ, i64_w, i32_w]
      rfl
    refine take_ (i := 5) (N := some 38) (v := ?_) (a' := ?_) (bs 9 127) rfl rfl (take_ofW HT_.out HW_.out (by kernel_rfl)) (fun _ _ _ h => h) (Or.inl ⟨by rfl, ?_⟩) hHeld ?_ ?_
    rotate_left
    · rintro w' ⟨s0, s1, s2⟩
      go_simp
      with_reducible rfl
    rotate_left
    · simp only [Act.put, List.setIfInBounds_toArray, List.set_cons_zero, List.set_cons_succ, i64_w, i32_w]
      rfl
    refine one_ (i := 7) (N := some 40) (bs 9 255) rfl rfl (one_of HT_.out (by kernel_rfl)) (by decide) (fun K hK => ?_)
    refine goes_ Tryd.func35 (by kernel_rfl) rfl #[.int .i64 x6_2] (by rfl) rfl rfl (by (try simp only [List.map_toArray, List.map_cons, List.map_nil]); first | done | rfl | (simp only [List.length_drop, List.length_take]; rfl)) ?_
    with_reducible refine (text_protocol.calls x6_2 t285 _ A16.out).mono ?_
    rintro e w21 ⟨rfl, hb⟩
    refine ⟨_, rfl, ?_⟩
    have n0_ := Aside0.mk (blk_below BK278.out hb)
    have n1_ := Aside0.mk (blk_below BK279.out hb)
    have n2_ := Aside0.mk (below_step (HB.out) hb)
    clear BK278
    clear BK279
    clear HB
    have BK278 := n0_
    have BK279 := n1_
    have HB := n2_
    clear n0_ n1_ n2_
    (try clear hb)
    (try clear hb2)
    (try clear hk)
    (try clear hi)
    refine hK.out _ _ ⟨((HB.out.cell (World.block_lt_of_cell? w _ hw283_0)).trans hw283_0), ((HB.out.cell (World.block_lt_of_cell? w _ hw283_1)).trans hw283_1), ((HB.out.cell (World.block_lt_of_cell? w _ hw284_0)).trans hw284_0)⟩ (fun hHeld => ?_)
    clear hK K
    refine norm_ (a' := ?_) ?_ ?_
    rotate_left
    · show Act.put _ (some 40) _ = _
      simp only [Act.put, List.setIfInBounds_toArray, List.set_cons_zero, List.set_cons_succ, i64_w, i32_w]
      rfl
    refine pure_ (i := 8) (N := some 41) (v := ?_) (a' := ?_) (bs 9 511) rfl rfl (any_of HT_.out (by kernel_rfl)) (fun _ _ _ h => h) (Or.inl ⟨by rfl, ?_⟩) ?_ ?_
    rotate_left
    · intro w'
      go_simp
      with_reducible rfl
    rotate_left
    · simp only [Act.put, List.setIfInBounds_toArray, List.set_cons_zero, List.set_cons_succ, i64_w, i32_w]
      rfl
    refine done_ (done_of HT_.out (by kernel_rfl)) ?_
    have hnb22 := NB279_278.out
    have hnc22 := NB278_279.out
    have hcz23_0 : w21.cell? ⟨gb279, 0, none⟩ = some (.int .i64 x280000_2) := (blk_cell BK279.out 0).trans rfl
    have hcz23_1 : w21.cell? ⟨gb279, 1, none⟩ = some (.slice none 0 0) := (blk_cell BK279.out 1).trans rfl
    have hcz23_2 : w21.cell? ⟨gb279, 2, none⟩ = some (.slice none 0 0) := (blk_cell BK279.out 2).trans rfl
    have hcz23_3 : w21.cell? ⟨gb279, 3, none⟩ = some (.slice none 0 0) := (blk_cell BK279.out 3).trans rfl
    have hfz23_0 := blk_frozen BK279.out 0
    have hfz23_1 := blk_frozen BK279.out 1
    have hfz23_2 := blk_frozen BK279.out 2
    have hfz23_3 := blk_frozen BK279.out 3
    try go_wp2
    go_roundg k2
    case measure => have := HJ1.out; have := HK2.out; omega
    case rel => exact ⟨(wrap64 (x6_2 + 1)), (x6_2), (by first | rfl | (simp; done) | (simp [*]; done)), H', ⟨by have := HJ1.out; have := HK2.out; omega⟩, ⟨by (with_reducible repeat (first | refine blk_drewN ?_ _ | refine blk_drew ?_ | refine blk_alloc ?_ _)); refine blk_far ?_ NB278_279.out _; (with_reducible repeat (first | refine blk_drewN ?_ _ | refine blk_drew ?_ | refine blk_alloc ?_ _)); exact BK278.out⟩, ⟨by (with_reducible repeat (first | refine blk_drewN ?_ _ | refine blk_drew ?_ | refine blk_alloc ?_ _)); refine blk_put (cs := #[.int .i64 x280000_2, .slice none 0 0, .slice none 0 0, .slice none 0 0]) ?_ 0 _ rfl; (with_reducible repeat (first | refine blk_drewN ?_ _ | refine blk_drew ?_ | refine blk_alloc ?_ _)); exact BK279.out⟩, ⟨by repeat (first | (with_reducible first | exact HB.out | apply below_alloc | apply pw_below_drewN | apply below_drew1 | refine below_set ?_ GE278.out | refine below_set ?_ GE279.out) | exact HB.out)⟩⟩
  rw [if_neg c13] at H
  have c13b0 : decide (x6_2 ≤ 3) = false := decide_eq_false c13
  clear c13
  by_cases c24 : x280000_2 = 0
  · rw [if_pos c24] at H
    have c24b0 : (x280000_2 == 0) = true := beq_iff_eq.mpr c24
    have c24b1 : (x280000_2 != 0) = false := bne_eq_false_iff_eq.mpr c24
    clear c24
    simp only [Option.some.injEq, Prod.mk.injEq] at H
    obtain ⟨rfl, rfl, rfl, rfl, rfl, rfl⟩ := H
    have hnb25 := NB279_278.out
    have hnc25 := NB278_279.out
    have hcz26_0 : wr.cell? ⟨gb279, 0, none⟩ = some (.int .i64 x280000_2) := (blk_cell BK279.out 0).trans rfl
    have hcz26_1 : wr.cell? ⟨gb279, 1, none⟩ = some (.slice none 0 0) := (blk_cell BK279.out 1).trans rfl
    have hcz26_2 : wr.cell? ⟨gb279, 2, none⟩ = some (.slice none 0 0) := (blk_cell BK279.out 2).trans rfl
    have hcz26_3 : wr.cell? ⟨gb279, 3, none⟩ = some (.slice none 0 0) := (blk_cell BK279.out 3).trans rfl
    have hfz26_0 := blk_frozen BK279.out 0
    have hfz26_1 := blk_frozen BK279.out 1
    have hfz26_2 := blk_frozen BK279.out 2
    have hfz26_3 := blk_frozen BK279.out 3
    have hcz27_0 : wr.cell? ⟨gb278, 0, none⟩ = some (.int .i64 0) := (blk_cell BK278.out 0).trans rfl
    have hcz27_1 : wr.cell? ⟨gb278, 1, none⟩ = some (.slice none 0 0) := (blk_cell BK278.out 1).trans rfl
    have hcz27_2 : wr.cell? ⟨gb278, 2, none⟩ = some (.slice none 0 0) := (blk_cell BK278.out 2).trans rfl
    have hcz27_3 : wr.cell? ⟨gb278, 3, none⟩ = some (.slice none 0 0) := (blk_cell BK278.out 3).trans rfl
    have hfz27_0 := blk_frozen BK278.out 0
    have hfz27_1 := blk_frozen BK278.out 1
    have hfz27_2 := blk_frozen BK278.out 2
    have hfz27_3 := blk_frozen BK278.out 3
    go_wp2
    refine bodyPost_ret (results_ctt rfl _ _ gb278 37 #[.int .i64 x280000_2, .slice none 0 0, .slice none 0 0, .slice none 0 0] (0, 0) _ rfl (by (with_reducible repeat (first | refine blk_drewN ?_ _ | refine blk_drew ?_ | refine blk_alloc ?_ _)); refine blk_put (cs := #[.int .i64 x280000_2, .slice none 0 0, .slice none 0 0, .slice none 0 0]) ?_ 3 _ rfl; (with_reducible repeat (first | refine blk_drewN ?_ _ | refine blk_drew ?_ | refine blk_alloc ?_ _)); refine blk_put (cs := #[.int .i64 x280000_2, .slice none 0 0, .slice none 0 0, .slice none 0 0]) ?_ 2 _ rfl; (with_reducible repeat (first | refine blk_drewN ?_ _ | refine blk_drew ?_ | refine blk_alloc ?_ _)); refine blk_put (cs := #[.int .i64 x280000_2, .slice none 0 0, .slice none 0 0, .slice none 0 0]) ?_ 1 _ rfl; (with_reducible repeat (first | refine blk_drewN ?_ _ | refine blk_drew ?_ | refine blk_alloc ?_ _)); refine blk_put (cs := #[.int .i64 0, .slice none 0 0, .slice none 0 0, .slice none 0 0]) ?_ 0 _ rfl; (with_reducible repeat (first | refine blk_drewN ?_ _ | refine blk_drew ?_ | refine blk_alloc ?_ _)); exact BK278.out) Tryd.underlying37 rfl (by kernel_rfl)) rfl ?_
    exact ⟨_, _, _, by first | rfl | (simp [errW_none, errW_some] <;> rfl) | (simp [*, errW_none, errW_some] <;> rfl), by first | exact Kd.R_nil _ _ _ _ _ | exact Kd.N_nil _ _ _ _ _ | exact Kd.V_nil _ _ _ _ _ | exact Kd.Q_nil _ _ _ _ _ | exact Kd.S_nil _ _ _ _ _, by first | exact Kd.R_nil _ _ _ _ _ | exact Kd.N_nil _ _ _ _ _ | exact Kd.V_nil _ _ _ _ _ | exact Kd.Q_nil _ _ _ _ _ | exact Kd.S_nil _ _ _ _ _, by first | exact Kd.S_nil _ _ _ _ _ | exact Kd.N_nil _ _ _ _ _ | exact Kd.V_nil _ _ _ _ _ | exact Kd.Q_nil _ _ _ _ _ | exact Kd.R_nil _ _ _ _ _, by repeat (first | (with_reducible first | exact HB.out | apply below_alloc | apply pw_below_drewN | apply below_drew1 | refine below_set ?_ GE278.out | refine below_set ?_ GE279.out) | exact HB.out)⟩
  rw [if_neg c24] at H
  have c24b0 : (x280000_2 == 0) = false := beq_eq_false_iff_ne.mpr c24
  have c24b1 : (x280000_2 != 0) = true := bne_iff_ne.mpr c24
  have HC28 := Aside0.mk H
  clear H
  have hnb29 := NB279_278.out
  have hnc29 := NB278_279.out
  have hcz30_0 : wr.cell? ⟨gb279, 0, none⟩ = some (.int .i64 x280000_2) := (blk_cell BK279.out 0).trans rfl
  have hcz30_1 : wr.cell? ⟨gb279, 1, none⟩ = some (.slice none 0 0) := (blk_cell BK279.out 1).trans rfl
  have hcz30_2 : wr.cell? ⟨gb279, 2, none⟩ = some (.slice none 0 0) := (blk_cell BK279.out 2).trans rfl
  have hcz30_3 : wr.cell? ⟨gb279, 3, none⟩ = some (.slice none 0 0) := (blk_cell BK279.out 3).trans rfl
  have hfz30_0 := blk_frozen BK279.out 0
  have hfz30_1 := blk_frozen BK279.out 1
  have hfz30_2 := blk_frozen BK279.out 2
  have hfz30_3 := blk_frozen BK279.out 3
  go_upto_region 12 with (fail)
  go_cut [59] (fun v59 wc => ∃ (kq : Nat) (x59_27 : Bool), v59 = .bool x59_27 ∧ Aside0 (text_head.j2 kq l0 false x59_27 x280000_2 = some (r1, r2, r3, r4, r5, r6)) ∧ Aside0 (kq ≤ k2) ∧ Aside0 (wc.heap[gb278]? = some (.cells #[.int .i64 0, (.slice none 0 0), (.slice none 0 0), (.slice none 0 0)] 37 (0, 0))) ∧ Aside0 (wc.heap[gb279]? = some (.cells #[.int .i64 x280000_2, (.slice none 0 0), (.slice none 0 0), (.slice none 0 0)] 37 (0, 0))) ∧ Aside0 (Below w.heap.size w wc))
  case first =>
    have H := HC28.out
    clear HC28
    by_cases c31 : (l0.length : Int) > 1
    rotate_left
    · rw [if_neg c31] at H
      have c31b0 : decide (1 < (l0.length : Int)) = false := decide_eq_false c31
      have c31b1 : decide (1 < l0.length) = false := decide_eq_false (by omega)
      clear c31
      (first | rw [c31b0] | (simp only [i64_w, i32_w]; rw [c31b0]) | skip)
      have H' := Aside0.mk H
      clear H
      go_wp2
      go_meet
      case rel => exact ⟨_, (false), (by first | rfl | (simp; done) | (simp [*]; done)), H', ⟨by have := HJ1.out; have := HK2.out; first | omega | exact Nat.le_refl _⟩, ⟨BK278.out⟩, ⟨BK279.out⟩, ⟨HB.out⟩⟩
    rw [if_pos c31] at H
    have c31b0 : decide (1 < (l0.length : Int)) = true := decide_eq_true c31
    have c31b1 : decide (1 < l0.length) = true := decide_eq_true (by omega)
    clear c31
    (first | rw [c31b0] | (simp only [i64_w, i32_w]; rw [c31b0]) | skip)
    by_cases c32 : 1 < (l0.length : Int)
    rotate_left
    · rw [if_neg c32] at H
      exact absurd H (by simp)
    rw [if_pos c32] at H
    have c32b0 : decide (1 < (l0.length : Int)) = true := decide_eq_true c32
    have c32b1 : decide (1 < l0.length) = true := decide_eq_true (by omega)
    clear c32
    by_cases c33 : 0 < (((rd_T81 l0 1).f1).length : Int)
    rotate_left
    · rw [if_neg c33] at H
      exact absurd H (by simp)
    rw [if_pos c33] at H
    have c33b0 : decide (0 < (((rd_T81 l0 1).f1).length : Int)) = true := decide_eq_true c33
    have c33b1 : decide (0 < ((rd_T81 l0 1).f1).length) = true := decide_eq_true (by omega)
    clear c33
    have H' := Aside0.mk H
    clear H
    have p286 : 0 ≤ (1 : Int) := (by omega)
    have q286 : 1 < (l0.length : Int) := of_decide_eq_true (by first | (with_reducible assumption) | assumption)
    obtain ⟨ad286, A286_1, c286_1, e286, hx286_0, hx286_1, hl286_1, hi286_1⟩ := at_T81 HR0.out 1 p286 q286
    cases e286
    (try simp only [show (1 : Int).toNat = 1 from rfl, Nat.reduceMul, Nat.reduceEqDiff, Go.Addr.add, ↓reduceIte] at hx286_0)
    (try simp only [show (1 : Int).toNat = 1 from rfl, Nat.reduceMul, Nat.reduceEqDiff, Go.Addr.add, ↓reduceIte] at hx286_1)
    have qi286 : (1 < l0.length) = True := eq_true (by omega)
    (try rw [show ((1 : Int)).toNat = 1 from rfl] at hx286_0)
    (try rw [show 1 * 2 = 2 from rfl] at hx286_0)
    (try rw [show ((1 : Int)).toNat = 1 from rfl] at hx286_1)
    (try rw [show 1 * 2 = 2 from rfl] at hx286_1)
    replace hx286_0 := (HB.out.cell (World.block_lt_of_cell? w _ hx286_0)).trans hx286_0
    replace hx286_1 := (HB.out.cell (World.block_lt_of_cell? w _ hx286_1)).trans hx286_1
    have HR286_1 := Aside0.mk hi286_1
    have HC286_1 := Aside0.mk hl286_1
    clear hi286_1 hl286_1
    replace p286 := eq_true p286
    replace q286 := eq_true q286
    have p287 : 0 ≤ (0 : Int) := (by omega)
    have q287 : 0 < (((rd_T81 l0 1).f1).length : Int) := of_decide_eq_true (by first | (with_reducible assumption) | assumption)
    obtain ⟨ad287, e287, hx287_0⟩ := Kd.at_string HR286_1.out 0 p287 q287
    cases e287
    have qi287 : (0 < ((rd_T81 l0 1).f1).length) = True := eq_true (by omega)
    (try rw [show ((0 : Int)).toNat = 0 from rfl] at hx287_0)
    (try rw [Addr.add_zero'] at hx287_0)
    replace hx287_0 := (HB.out.cell (World.block_lt_of_cell? w _ hx287_0)).trans hx287_0
    replace p287 := eq_true p287
    replace q287 := eq_true q287
    go_wp2
    go_meet
    case rel => exact ⟨_, (((rdOf ByteArray.empty ((rd_T81 l0 1).f1) 0).toList == ([99, 111, 114, 101, 115] : List UInt8))), (by first | rfl | (simp; done) | (simp [*]; done)), H', ⟨by have := HJ1.out; have := HK2.out; first | omega | exact Nat.le_refl _⟩, ⟨BK278.out⟩, ⟨BK279.out⟩, ⟨HB.out⟩⟩
  clear HC28
  (try clear c1); (try clear c2); (try clear p2); (try clear q2); (try clear hx2); (try clear qi2); (try clear c3); (try clear c4); (try clear c5); (try clear c5b0); (try clear c5b1); (try clear c5b2); (try clear c6); (try clear c6b0); (try clear c6b1); (try clear p6); (try clear c7); (try clear c7b0); (try clear c7b1); (try clear c8); (try clear c8b0); (try clear c8b1); (try clear c9); (try clear c10); (try clear c13); (try clear c13b0); (try clear c14); (try clear c14b0); (try clear c14b1); (try clear c15); (try clear c15b0); (try clear c15b1); (try clear c17); (try clear c17b0); (try clear c17b1); (try clear c22); (try clear c24); (try clear c24b0); (try clear c24b1); (try clear c25); (try clear c28); (try clear p28); (try clear q28); (try clear hx28); (try clear qi28); (try clear c29); (try clear c31); (try clear c31b0); (try clear c31b1); (try clear c32); (try clear c32b0); (try clear c32b1); (try clear c33); (try clear c33b0); (try clear c33b1); (try clear hcz11_0); (try clear hcz11_1); (try clear hcz11_2); (try clear hcz11_3); (try clear hcz12_0); (try clear hcz12_1); (try clear hcz12_2); (try clear hcz12_3); (try clear hcz23_0); (try clear hcz23_1); (try clear hcz23_2); (try clear hcz23_3); (try clear hcz26_0); (try clear hcz26_1); (try clear hcz26_2); (try clear hcz26_3); (try clear hcz27_0); (try clear hcz27_1); (try clear hcz27_2); (try clear hcz27_3); (try clear hcz30_0); (try clear hcz30_1); (try clear hcz30_2); (try clear hcz30_3); (try clear hfz11_0); (try clear hfz11_1); (try clear hfz11_2); (try clear hfz11_3); (try clear hfz12_0); (try clear hfz12_1); (try clear hfz12_2); (try clear hfz12_3); (try clear hfz23_0); (try clear hfz23_1); (try clear hfz23_2); (try clear hfz23_3); (try clear hfz26_0); (try clear hfz26_1); (try clear hfz26_2); (try clear hfz26_3); (try clear hfz27_0); (try clear hfz27_1); (try clear hfz27_2); (try clear hfz27_3); (try clear hfz30_0); (try clear hfz30_1); (try clear hfz30_2); (try clear hfz30_3); (try clear hx280_0); (try clear hx280_1); (try clear hx281_0); (try clear hx282_0); (try clear hx282_1); (try clear hx283_0); (try clear hx283_1); (try clear hx284_0); (try clear hx286_0); (try clear hx286_1); (try clear hx287_0); (try clear p2); (try clear p280); (try clear p281); (try clear p282); (try clear p283); (try clear p284); (try clear p286); (try clear p287); (try clear q2); (try clear q280); (try clear q281); (try clear q282); (try clear q283); (try clear q284); (try clear q286); (try clear q287)
  obtain ⟨kq, x59_27, rfl, HA, HJ27, BK278, BK279, HB⟩ := hcut
  cases kq with
  | zero => exact absurd HA.out (by simp [text_head.j2])
  | succ kj27 => ?_
  have H := HA.out
  clear HA
  simp only [text_head.j2] at H
  have HC34 := Aside0.mk H
  clear H
  go_upto_if 59 with (fail)
  go_cut [7] (fun v7 wc => ∃ (kq : Nat) (x7_33 : Bool) (x280001_33 : List Int) (u280001 : Value), v7 = .bool x7_33 ∧ Aside0 (text_head.j3 kq l0 x7_33 x280000_2 x280001_33 = some (r1, r2, r3, r4, r5, r6)) ∧ Aside0 (kq ≤ kj27) ∧ Aside0 (Kd.R (Kd.int .i64) 3 wc w.heap.size (fun _ => True) u280001 x280001_33) ∧ Aside0 (wc.heap[gb278]? = some (.cells #[.int .i64 0, (.slice none 0 0), (.slice none 0 0), (.slice none 0 0)] 37 (0, 0))) ∧ Aside0 (wc.heap[gb279]? = some (.cells #[.int .i64 x280000_2, u280001, (.slice none 0 0), (.slice none 0 0)] 37 (0, 0))) ∧ Aside0 (Below w.heap.size w wc))
  case first =>
    have H := HC34.out
    clear HC34
    by_cases c35 : x59_27 = true
    rotate_left
    · replace c35 := Bool.eq_false_iff.mpr c35
      subst c35
      have H1 : (text_head.j3 kj27 l0 false x280000_2 ([] : List Int)) = some (r1, r2, r3, r4, r5, r6) := by rw [if_neg (show ¬ (false = true) by decide)] at H; exact H
      clear H
      have H := H1
      clear H1
      have H' := Aside0.mk H
      clear H
      go_wp2
      go_meet
      case rel => exact ⟨_, (false), (([] : List Int)), (.slice none 0 0), (by first | rfl | (simp; done) | (simp [*]; done)), H', ⟨by have := HJ1.out; have := HK2.out; have := HJ27.out; first | omega | exact Nat.le_refl _⟩, ⟨by first | exact Kd.R_nil _ _ _ _ _ | exact Kd.N_nil _ _ _ _ _ | exact Kd.V_nil _ _ _ _ _ | exact Kd.Q_nil _ _ _ _ _ | exact Kd.S_nil _ _ _ _ _⟩, ⟨BK278.out⟩, ⟨BK279.out⟩, ⟨HB.out⟩⟩
    subst c35
    have H1 : (if 1 < (l0.length : Int) then (if 1 ≤ (((rd_T81 l0 1).f1).length : Int) then ((text_numbers.f kj27 (((rd_T81 l0 1).f1).drop 1)).bind fun bt290 => (text_head.j3 kj27 l0 bt290.2 x280000_2 bt290.1)) else (none)) else (none)) = some (r1, r2, r3, r4, r5, r6) := by rw [if_pos rfl] at H; exact H
    clear H
    have H := H1
    clear H1
    by_cases c36 : 1 < (l0.length : Int)
    rotate_left
    · rw [if_neg c36] at H
      exact absurd H (by simp)
    rw [if_pos c36] at H
    have c36b0 : decide (1 < (l0.length : Int)) = true := decide_eq_true c36
    have c36b1 : decide (1 < l0.length) = true := decide_eq_true (by omega)
    clear c36
    (first | rw [c36b0] | (simp only [i64_w, i32_w]; rw [c36b0]) | skip)
    by_cases c37 : 1 ≤ (((rd_T81 l0 1).f1).length : Int)
    rotate_left
    · rw [if_neg c37] at H
      exact absurd H (by simp)
    rw [if_pos c37] at H
    have c37b0 := eq_true c37
    have c37b1 : decide (1 ≤ (((rd_T81 l0 1).f1).length : Int)) = true := decide_eq_true c37
    clear c37
    replace H := Option.bind_eq_some_iff.mp H
    obtain ⟨⟨t290, t291⟩, A380, H⟩ := H
    replace H : (text_head.j3 kj27 l0 t291 x280000_2 t290) = some (r1, r2, r3, r4, r5, r6) := H
    have A38 := Aside0.mk A380
    clear A380
    have H' := Aside0.mk H
    clear H
    have p288 : 0 ≤ (1 : Int) := (by omega)
    have q288 : 1 < (l0.length : Int) := of_decide_eq_true (by first | (with_reducible assumption) | assumption)
    obtain ⟨ad288, A288_1, c288_1, e288, hx288_0, hx288_1, hl288_1, hi288_1⟩ := at_T81 HR0.out 1 p288 q288
    cases e288
    (try simp only [show (1 : Int).toNat = 1 from rfl, Nat.reduceMul, Nat.reduceEqDiff, Go.Addr.add, ↓reduceIte] at hx288_0)
    (try simp only [show (1 : Int).toNat = 1 from rfl, Nat.reduceMul, Nat.reduceEqDiff, Go.Addr.add, ↓reduceIte] at hx288_1)
    have qi288 : (1 < l0.length) = True := eq_true (by omega)
    (try rw [show ((1 : Int)).toNat = 1 from rfl] at hx288_0)
    (try rw [show 1 * 2 = 2 from rfl] at hx288_0)
    (try rw [show ((1 : Int)).toNat = 1 from rfl] at hx288_1)
    (try rw [show 1 * 2 = 2 from rfl] at hx288_1)
    replace hx288_0 := (HB.out.cell (World.block_lt_of_cell? w _ hx288_0)).trans hx288_0
    replace hx288_1 := (HB.out.cell (World.block_lt_of_cell? w _ hx288_1)).trans hx288_1
    have HR288_1 := Aside0.mk hi288_1
    have HC288_1 := Aside0.mk hl288_1
    clear hi288_1 hl288_1
    replace p288 := eq_true p288
    replace q288 := eq_true q288
    obtain ⟨i039, hi039, _, hsz39, _⟩ := info_parts info9
    obtain ⟨A39, hcut39, hA39, hC39⟩ := print_drop_of (P := Tryd.prog) Value.string (⟨#[]⟩ : ByteArray) 26 9 .i64 Tryd.underlying26 hi039 hsz39 A288_1 c288_1 ((rd_T81 l0 1).f1) 1 (by omega) (of_decide_eq_true (by first | (with_reducible assumption) | assumption)) HC288_1.out
    have HR289 := Aside0.mk (Kd.C_of_reads (h1 := fun _ => rfl) (hA39 _ (Kd.reads_of_C HR288_1.out)))
    have HC289 := Aside0.mk hC39
    clear hA39 hC39 hi039 hsz39
    go_wp2_with (first | ((with_reducible refine gate_callee (f := 56) rfl ?_); refine goesL_ (some 66) rfl rfl Tryd.func56 (by kernel_rfl) rfl #[.slice A39 (((rd_T81 l0 1).f1).drop 1).length (c288_1 - 1)] rfl (by (try simp only [List.map_toArray, List.map_cons, List.map_nil]); first | done | (rw [show (((rd_T81 l0 1).f1).drop 1).length = (((rd_T81 l0 1).f1).length - 1) from List.length_drop] <;> rfl) | rfl | (simp only [List.length_drop, List.length_take]; rfl)) ?_; (with_reducible refine (text_numbers.calls kj27 _ _ (((rd_T81 l0 1).f1).drop 1) t290 t291 _ ?side1 ?side2 ?side3 A38.out).mono ?_); (case side1 => repeat (first | exact (Kd.C_below HR289.out HB.out) | (with_reducible refine Kd.C_alloc ?_ _) | (with_reducible refine Kd.C_drewN ?_ _) | (with_reducible refine Kd.C_drew ?_))); (case side2 => exact HC289.out); (case side3 => first | exact Glob.below HG.out (HB.out) | (repeat (first | exact Glob.below HG.out HB.out | (with_reducible refine Glob.alloc ?_ _) | (with_reducible refine Glob.drewN ?_ _) | (with_reducible refine Glob.drew ?_)))); rintro e w40 ⟨v292, rfl, ho0, hb⟩; refine ⟨_, rfl, ?_⟩; have n0_ := Aside0.mk (Kd.R_lower ho0 (below_size (HB.out))); have n1_ := Aside0.mk (blk_below BK278.out hb); have n2_ := Aside0.mk (blk_below BK279.out hb); have n3_ := Aside0.mk (below_step (HB.out) hb); clear BK278; clear BK279; clear HB; have HO293 := n0_; have BK278 := n1_; have BK279 := n2_; have HB := n3_; clear n0_ n1_ n2_ n3_; (try clear hb); (try clear hb2); (try clear hk); (try clear hi); (try clear ho0); obtain ⟨Ao41, co41, eo41⟩ := Kd.R_slice HO293.out; subst eo41; have hnb42 := NB279_278.out; have hnc42 := NB278_279.out; have hcz43_0 : w40.cell? ⟨gb279, 0, none⟩ = some (.int .i64 x280000_2) := (blk_cell BK279.out 0).trans rfl; have hcz43_1 : w40.cell? ⟨gb279, 1, none⟩ = some (.slice none 0 0) := (blk_cell BK279.out 1).trans rfl; have hcz43_2 : w40.cell? ⟨gb279, 2, none⟩ = some (.slice none 0 0) := (blk_cell BK279.out 2).trans rfl; have hcz43_3 : w40.cell? ⟨gb279, 3, none⟩ = some (.slice none 0 0) := (blk_cell BK279.out 3).trans rfl; have hfz43_0 := blk_frozen BK279.out 0; have hfz43_1 := blk_frozen BK279.out 1; have hfz43_2 := blk_frozen BK279.out 2; have hfz43_3 := blk_frozen BK279.out 3))
    go_meet
    case rel => exact ⟨_, (t291), (t290), (.slice Ao41 t290.length co41), (by first | rfl | (simp; done) | (simp [*]; done)), H', ⟨by have := HJ1.out; have := HK2.out; have := HJ27.out; first | omega | exact Nat.le_refl _⟩, ⟨by (with_reducible repeat (first | apply Kd.R_alloc | apply Kd.R_drewN | apply Kd.R_drew)); exact Kd.R_mono (Kd.R_far (p := ⟨gb279, 1, none⟩) (Kd.R_types HO293.out BK279.out (by decide)) (fun _ hk => hk.2) (.slice Ao41 t290.length co41)) (fun _ hk => trivial)⟩, ⟨by (with_reducible repeat (first | refine blk_drewN ?_ _ | refine blk_drew ?_ | refine blk_alloc ?_ _)); refine blk_far ?_ NB278_279.out _; (with_reducible repeat (first | refine blk_drewN ?_ _ | refine blk_drew ?_ | refine blk_alloc ?_ _)); exact BK278.out⟩, ⟨by (with_reducible repeat (first | refine blk_drewN ?_ _ | refine blk_drew ?_ | refine blk_alloc ?_ _)); refine blk_put (cs := #[.int .i64 x280000_2, .slice none 0 0, .slice none 0 0, .slice none 0 0]) ?_ 1 _ rfl; (with_reducible repeat (first | refine blk_drewN ?_ _ | refine blk_drew ?_ | refine blk_alloc ?_ _)); exact BK279.out⟩, ⟨by repeat (first | (with_reducible first | exact HB.out | apply below_alloc | apply pw_below_drewN | apply below_drew1 | refine below_set ?_ GE278.out | refine below_set ?_ GE279.out) | exact HB.out)⟩⟩
  clear HC34
  (try clear c1); (try clear c2); (try clear p2); (try clear q2); (try clear hx2); (try clear qi2); (try clear c3); (try clear c4); (try clear c5); (try clear c5b0); (try clear c5b1); (try clear c5b2); (try clear c6); (try clear c6b0); (try clear c6b1); (try clear p6); (try clear c7); (try clear c7b0); (try clear c7b1); (try clear c8); (try clear c8b0); (try clear c8b1); (try clear c9); (try clear c10); (try clear c13); (try clear c13b0); (try clear c14); (try clear c14b0); (try clear c14b1); (try clear c15); (try clear c15b0); (try clear c15b1); (try clear c17); (try clear c17b0); (try clear c17b1); (try clear c22); (try clear c24); (try clear c24b0); (try clear c24b1); (try clear c25); (try clear c28); (try clear p28); (try clear q28); (try clear hx28); (try clear qi28); (try clear c29); (try clear c31); (try clear c31b0); (try clear c31b1); (try clear c32); (try clear c32b0); (try clear c32b1); (try clear c33); (try clear c33b0); (try clear c33b1); (try clear c35); (try clear c36); (try clear c36b0); (try clear c36b1); (try clear c37); (try clear c37b0); (try clear c37b1); (try clear c42); (try clear hcz11_0); (try clear hcz11_1); (try clear hcz11_2); (try clear hcz11_3); (try clear hcz12_0); (try clear hcz12_1); (try clear hcz12_2); (try clear hcz12_3); (try clear hcz23_0); (try clear hcz23_1); (try clear hcz23_2); (try clear hcz23_3); (try clear hcz26_0); (try clear hcz26_1); (try clear hcz26_2); (try clear hcz26_3); (try clear hcz27_0); (try clear hcz27_1); (try clear hcz27_2); (try clear hcz27_3); (try clear hcz30_0); (try clear hcz30_1); (try clear hcz30_2); (try clear hcz30_3); (try clear hcz43_0); (try clear hcz43_1); (try clear hcz43_2); (try clear hcz43_3); (try clear hfz11_0); (try clear hfz11_1); (try clear hfz11_2); (try clear hfz11_3); (try clear hfz12_0); (try clear hfz12_1); (try clear hfz12_2); (try clear hfz12_3); (try clear hfz23_0); (try clear hfz23_1); (try clear hfz23_2); (try clear hfz23_3); (try clear hfz26_0); (try clear hfz26_1); (try clear hfz26_2); (try clear hfz26_3); (try clear hfz27_0); (try clear hfz27_1); (try clear hfz27_2); (try clear hfz27_3); (try clear hfz30_0); (try clear hfz30_1); (try clear hfz30_2); (try clear hfz30_3); (try clear hfz43_0); (try clear hfz43_1); (try clear hfz43_2); (try clear hfz43_3); (try clear hx280_0); (try clear hx280_1); (try clear hx281_0); (try clear hx282_0); (try clear hx282_1); (try clear hx283_0); (try clear hx283_1); (try clear hx284_0); (try clear hx286_0); (try clear hx286_1); (try clear hx287_0); (try clear hx288_0); (try clear hx288_1); (try clear p2); (try clear p28); (try clear p280); (try clear p281); (try clear p282); (try clear p283); (try clear p284); (try clear p286); (try clear p287); (try clear p288); (try clear p6); (try clear q2); (try clear q28); (try clear q280); (try clear q281); (try clear q282); (try clear q283); (try clear q284); (try clear q286); (try clear q287); (try clear q288)
  obtain ⟨kq, x7_33, x280001_33, u280001, rfl, HA, HJ33, HO_280001, BK278, BK279, HB⟩ := hcut
  cases kq with
  | zero => exact absurd HA.out (by simp [text_head.j3])
  | succ kj33 => ?_
  have H := HA.out
  clear HA
  simp only [text_head.j3] at H
  have HC44 := Aside0.mk H
  clear H
  go_upto_region 14 with (fail)
  go_cut [77] (fun v77 wc => ∃ (kq : Nat) (x77_43 : Bool), v77 = .bool x77_43 ∧ Aside0 (text_head.j4 kq l0 x77_43 x280000_2 x280001_33 = some (r1, r2, r3, r4, r5, r6)) ∧ Aside0 (kq ≤ kj33) ∧ Aside0 (Kd.R (Kd.int .i64) 3 wc w.heap.size (fun _ => True) u280001 x280001_33) ∧ Aside0 (wc.heap[gb278]? = some (.cells #[.int .i64 0, (.slice none 0 0), (.slice none 0 0), (.slice none 0 0)] 37 (0, 0))) ∧ Aside0 (wc.heap[gb279]? = some (.cells #[.int .i64 x280000_2, u280001, (.slice none 0 0), (.slice none 0 0)] 37 (0, 0))) ∧ Aside0 (Below w.heap.size w wc))
  case first =>
    have H := HC44.out
    clear HC44
    by_cases c45 : x7_33 = true
    rotate_left
    · replace c45 := Bool.eq_false_iff.mpr c45
      subst c45
      have H1 : (text_head.j4 kj33 l0 true x280000_2 x280001_33) = some (r1, r2, r3, r4, r5, r6) := by rw [if_neg (show ¬ (false = true) by decide)] at H; exact H
      clear H
      have H := H1
      clear H1
      have H' := Aside0.mk H
      clear H
      go_wp2
      go_meet
      case rel => exact ⟨_, (true), (by first | rfl | (simp; done) | (simp [*]; done)), H', ⟨by have := HJ1.out; have := HK2.out; have := HJ27.out; have := HJ33.out; first | omega | exact Nat.le_refl _⟩, ⟨by (with_reducible repeat (first | apply Kd.R_alloc | apply Kd.R_drewN | apply Kd.R_drew)); exact HO_280001.out⟩, ⟨BK278.out⟩, ⟨BK279.out⟩, ⟨HB.out⟩⟩
    subst c45
    have H1 : (text_head.j4 kj33 l0 ((x280001_33.length : Int) == 0) x280000_2 x280001_33) = some (r1, r2, r3, r4, r5, r6) := by rw [if_pos rfl] at H; exact H
    clear H
    have H := H1
    clear H1
    have H' := Aside0.mk H
    clear H
    have hnb46 := NB279_278.out
    have hnc46 := NB278_279.out
    have hcz47_0 : wc.cell? ⟨gb279, 0, none⟩ = some (.int .i64 x280000_2) := (blk_cell BK279.out 0).trans rfl
    have hcz47_1 : wc.cell? ⟨gb279, 1, none⟩ = some (u280001) := (blk_cell BK279.out 1).trans rfl
    have hcz47_2 : wc.cell? ⟨gb279, 2, none⟩ = some (.slice none 0 0) := (blk_cell BK279.out 2).trans rfl
    have hcz47_3 : wc.cell? ⟨gb279, 3, none⟩ = some (.slice none 0 0) := (blk_cell BK279.out 3).trans rfl
    have hfz47_0 := blk_frozen BK279.out 0
    have hfz47_1 := blk_frozen BK279.out 1
    have hfz47_2 := blk_frozen BK279.out 2
    have hfz47_3 := blk_frozen BK279.out 3
    obtain ⟨Ao48, co48, eo48⟩ := Kd.R_slice HO_280001.out
    subst eo48
    go_wp2
    go_meet
    case rel => exact ⟨_, (((x280001_33.length : Int) == 0)), (by first | rfl | (simp; done) | (simp [*]; done)), H', ⟨by have := HJ1.out; have := HK2.out; have := HJ27.out; have := HJ33.out; first | omega | exact Nat.le_refl _⟩, ⟨by (with_reducible repeat (first | apply Kd.R_alloc | apply Kd.R_drewN | apply Kd.R_drew)); exact HO_280001.out⟩, ⟨BK278.out⟩, ⟨BK279.out⟩, ⟨HB.out⟩⟩
  clear HC44
  (try clear c1); (try clear c2); (try clear p2); (try clear q2); (try clear hx2); (try clear qi2); (try clear c3); (try clear c4); (try clear c5); (try clear c5b0); (try clear c5b1); (try clear c5b2); (try clear c6); (try clear c6b0); (try clear c6b1); (try clear p6); (try clear c7); (try clear c7b0); (try clear c7b1); (try clear c8); (try clear c8b0); (try clear c8b1); (try clear c9); (try clear c10); (try clear c13); (try clear c13b0); (try clear c14); (try clear c14b0); (try clear c14b1); (try clear c15); (try clear c15b0); (try clear c15b1); (try clear c17); (try clear c17b0); (try clear c17b1); (try clear c22); (try clear c24); (try clear c24b0); (try clear c24b1); (try clear c25); (try clear c28); (try clear p28); (try clear q28); (try clear hx28); (try clear qi28); (try clear c29); (try clear c31); (try clear c31b0); (try clear c31b1); (try clear c32); (try clear c32b0); (try clear c32b1); (try clear c33); (try clear c33b0); (try clear c33b1); (try clear c35); (try clear c36); (try clear c36b0); (try clear c36b1); (try clear c37); (try clear c37b0); (try clear c37b1); (try clear c42); (try clear c45); (try clear c46); (try clear hcz11_0); (try clear hcz11_1); (try clear hcz11_2); (try clear hcz11_3); (try clear hcz12_0); (try clear hcz12_1); (try clear hcz12_2); (try clear hcz12_3); (try clear hcz23_0); (try clear hcz23_1); (try clear hcz23_2); (try clear hcz23_3); (try clear hcz26_0); (try clear hcz26_1); (try clear hcz26_2); (try clear hcz26_3); (try clear hcz27_0); (try clear hcz27_1); (try clear hcz27_2); (try clear hcz27_3); (try clear hcz30_0); (try clear hcz30_1); (try clear hcz30_2); (try clear hcz30_3); (try clear hcz43_0); (try clear hcz43_1); (try clear hcz43_2); (try clear hcz43_3); (try clear hcz47_0); (try clear hcz47_1); (try clear hcz47_2); (try clear hcz47_3); (try clear hfz11_0); (try clear hfz11_1); (try clear hfz11_2); (try clear hfz11_3); (try clear hfz12_0); (try clear hfz12_1); (try clear hfz12_2); (try clear hfz12_3); (try clear hfz23_0); (try clear hfz23_1); (try clear hfz23_2); (try clear hfz23_3); (try clear hfz26_0); (try clear hfz26_1); (try clear hfz26_2); (try clear hfz26_3); (try clear hfz27_0); (try clear hfz27_1); (try clear hfz27_2); (try clear hfz27_3); (try clear hfz30_0); (try clear hfz30_1); (try clear hfz30_2); (try clear hfz30_3); (try clear hfz43_0); (try clear hfz43_1); (try clear hfz43_2); (try clear hfz43_3); (try clear hfz47_0); (try clear hfz47_1); (try clear hfz47_2); (try clear hfz47_3); (try clear hx280_0); (try clear hx280_1); (try clear hx281_0); (try clear hx282_0); (try clear hx282_1); (try clear hx283_0); (try clear hx283_1); (try clear hx284_0); (try clear hx286_0); (try clear hx286_1); (try clear hx287_0); (try clear hx288_0); (try clear hx288_1); (try clear p2); (try clear p28); (try clear p280); (try clear p281); (try clear p282); (try clear p283); (try clear p284); (try clear p286); (try clear p287); (try clear p288); (try clear p6); (try clear q2); (try clear q28); (try clear q280); (try clear q281); (try clear q282); (try clear q283); (try clear q284); (try clear q286); (try clear q287); (try clear q288)
  obtain ⟨kq, x77_43, rfl, HA, HJ43, HO_280001, BK278, BK279, HB⟩ := hcut
  cases kq with
  | zero => exact absurd HA.out (by simp [text_head.j4])
  | succ kj43 => ?_
  have H := HA.out
  clear HA
  simp only [text_head.j4] at H
  by_cases c49 : x77_43 = true
  · subst c49
    have H1 : (some (x280000_2, x280001_33, ([] : List Int), ([] : List (S53)), 1, false)) = some (r1, r2, r3, r4, r5, r6) := by rw [if_pos rfl] at H; exact H
    clear H
    have H := H1
    clear H1
    simp only [Option.some.injEq, Prod.mk.injEq] at H
    obtain ⟨rfl, rfl, rfl, rfl, rfl, rfl⟩ := H
    have hnb50 := NB279_278.out
    have hnc50 := NB278_279.out
    have hcz51_0 : wc.cell? ⟨gb279, 0, none⟩ = some (.int .i64 x280000_2) := (blk_cell BK279.out 0).trans rfl
    have hcz51_1 : wc.cell? ⟨gb279, 1, none⟩ = some (u280001) := (blk_cell BK279.out 1).trans rfl
    have hcz51_2 : wc.cell? ⟨gb279, 2, none⟩ = some (.slice none 0 0) := (blk_cell BK279.out 2).trans rfl
    have hcz51_3 : wc.cell? ⟨gb279, 3, none⟩ = some (.slice none 0 0) := (blk_cell BK279.out 3).trans rfl
    have hfz51_0 := blk_frozen BK279.out 0
    have hfz51_1 := blk_frozen BK279.out 1
    have hfz51_2 := blk_frozen BK279.out 2
    have hfz51_3 := blk_frozen BK279.out 3
    have hcz52_0 : wc.cell? ⟨gb278, 0, none⟩ = some (.int .i64 0) := (blk_cell BK278.out 0).trans rfl
    have hcz52_1 : wc.cell? ⟨gb278, 1, none⟩ = some (.slice none 0 0) := (blk_cell BK278.out 1).trans rfl
    have hcz52_2 : wc.cell? ⟨gb278, 2, none⟩ = some (.slice none 0 0) := (blk_cell BK278.out 2).trans rfl
    have hcz52_3 : wc.cell? ⟨gb278, 3, none⟩ = some (.slice none 0 0) := (blk_cell BK278.out 3).trans rfl
    have hfz52_0 := blk_frozen BK278.out 0
    have hfz52_1 := blk_frozen BK278.out 1
    have hfz52_2 := blk_frozen BK278.out 2
    have hfz52_3 := blk_frozen BK278.out 3
    obtain ⟨Ao53, co53, eo53⟩ := Kd.R_slice HO_280001.out
    subst eo53
    go_wp2
    refine bodyPost_ret (results_ctt rfl _ _ gb278 37 #[.int .i64 x280000_2, .slice Ao53 x280001_33.length co53, .slice none 0 0, .slice none 0 0] (0, 0) _ rfl (by (with_reducible repeat (first | refine blk_drewN ?_ _ | refine blk_drew ?_ | refine blk_alloc ?_ _)); refine blk_put (cs := #[.int .i64 x280000_2, .slice Ao53 x280001_33.length co53, .slice none 0 0, .slice none 0 0]) ?_ 3 _ rfl; (with_reducible repeat (first | refine blk_drewN ?_ _ | refine blk_drew ?_ | refine blk_alloc ?_ _)); refine blk_put (cs := #[.int .i64 x280000_2, .slice Ao53 x280001_33.length co53, .slice none 0 0, .slice none 0 0]) ?_ 2 _ rfl; (with_reducible repeat (first | refine blk_drewN ?_ _ | refine blk_drew ?_ | refine blk_alloc ?_ _)); refine blk_put (cs := #[.int .i64 x280000_2, .slice none 0 0, .slice none 0 0, .slice none 0 0]) ?_ 1 _ rfl; (with_reducible repeat (first | refine blk_drewN ?_ _ | refine blk_drew ?_ | refine blk_alloc ?_ _)); refine blk_put (cs := #[.int .i64 0, .slice none 0 0, .slice none 0 0, .slice none 0 0]) ?_ 0 _ rfl; (with_reducible repeat (first | refine blk_drewN ?_ _ | refine blk_drew ?_ | refine blk_alloc ?_ _)); exact BK278.out) Tryd.underlying37 rfl (by kernel_rfl)) rfl ?_
    exact ⟨_, _, _, by first | rfl | (simp [errW_none, errW_some] <;> rfl) | (simp [*, errW_none, errW_some] <;> rfl), by (with_reducible repeat (first | apply Kd.R_alloc | apply Kd.R_drewN | apply Kd.R_drew)); exact Kd.R_mono (Kd.R_far (p := ⟨gb278, 3, none⟩) (Kd.R_far (p := ⟨gb278, 2, none⟩) (Kd.R_far (p := ⟨gb278, 1, none⟩) (Kd.R_far (p := ⟨gb278, 0, none⟩) (Kd.R_types HO_280001.out BK278.out (by decide)) (fun _ hk => hk.2) (.int .i64 x280000_2)) (fun _ hk => hk.2) (.slice Ao53 x280001_33.length co53)) (fun _ hk => hk.2) (.slice none 0 0)) (fun _ hk => hk.2) (.slice none 0 0)) (fun _ hk => (by simp [Value.ownBlock])), by first | exact Kd.R_nil _ _ _ _ _ | exact Kd.N_nil _ _ _ _ _ | exact Kd.V_nil _ _ _ _ _ | exact Kd.Q_nil _ _ _ _ _ | exact Kd.S_nil _ _ _ _ _, by first | exact Kd.S_nil _ _ _ _ _ | exact Kd.N_nil _ _ _ _ _ | exact Kd.V_nil _ _ _ _ _ | exact Kd.Q_nil _ _ _ _ _ | exact Kd.R_nil _ _ _ _ _, by repeat (first | (with_reducible first | exact HB.out | apply below_alloc | apply pw_below_drewN | apply below_drew1 | refine below_set ?_ GE278.out | refine below_set ?_ GE279.out) | exact HB.out)⟩
  replace c49 := Bool.eq_false_iff.mpr c49
  subst c49
  have H1 : (if (l0.length : Int) = 2 then (text_head.j5 kj43 l0 true x280000_2 x280001_33) else (if 2 < (l0.length : Int) then (if 0 < (((rd_T81 l0 2).f1).length : Int) then (text_head.j5 kj43 l0 ((rdOf ByteArray.empty ((rd_T81 l0 2).f1) 0).toList != ([104, 111, 109, 101, 115] : List UInt8)) x280000_2 x280001_33) else (none)) else (none))) = some (r1, r2, r3, r4, r5, r6) := by rw [if_neg (show ¬ (false = true) by decide)] at H; exact H
  clear H
  have H := H1
  clear H1
  have HC54 := Aside0.mk H
  clear H
  go_upto_region 16 with (fail)
  go_cut [90] (fun v90 wc => ∃ (kq : Nat) (x90_53 : Bool), v90 = .bool x90_53 ∧ Aside0 (text_head.j5 kq l0 x90_53 x280000_2 x280001_33 = some (r1, r2, r3, r4, r5, r6)) ∧ Aside0 (kq ≤ kj43) ∧ Aside0 (Kd.R (Kd.int .i64) 3 wc w.heap.size (fun _ => True) u280001 x280001_33) ∧ Aside0 (wc.heap[gb278]? = some (.cells #[.int .i64 0, (.slice none 0 0), (.slice none 0 0), (.slice none 0 0)] 37 (0, 0))) ∧ Aside0 (wc.heap[gb279]? = some (.cells #[.int .i64 x280000_2, u280001, (.slice none 0 0), (.slice none 0 0)] 37 (0, 0))) ∧ Aside0 (Below w.heap.size w wc))
  case first =>
    have H := HC54.out
    clear HC54
    by_cases c55 : (l0.length : Int) = 2
    · rw [if_pos c55] at H
      have c55b0 : ((l0.length : Int) == 2) = true := beq_iff_eq.mpr c55
      have c55b1 : ((l0.length : Int) != 2) = false := bne_eq_false_iff_eq.mpr c55
      clear c55
      (first | rw [c55b0] | (simp only [i64_w, i32_w]; rw [c55b0]) | skip)
      have H' := Aside0.mk H
      clear H
      go_wp2
      go_meet
      case rel => exact ⟨_, (true), (by first | rfl | (simp; done) | (simp [*]; done)), H', ⟨by have := HJ1.out; have := HK2.out; have := HJ27.out; have := HJ33.out; have := HJ43.out; first | omega | exact Nat.le_refl _⟩, ⟨by (with_reducible repeat (first | apply Kd.R_alloc | apply Kd.R_drewN | apply Kd.R_drew)); exact HO_280001.out⟩, ⟨BK278.out⟩, ⟨BK279.out⟩, ⟨HB.out⟩⟩
    rw [if_neg c55] at H
    have c55b0 : ((l0.length : Int) == 2) = false := beq_eq_false_iff_ne.mpr c55
    have c55b1 : ((l0.length : Int) != 2) = true := bne_iff_ne.mpr c55
    (first | rw [c55b0] | (simp only [i64_w, i32_w]; rw [c55b0]) | skip)
    by_cases c56 : 2 < (l0.length : Int)
    rotate_left
    · rw [if_neg c56] at H
      exact absurd H (by simp)
    rw [if_pos c56] at H
    have c56b0 : decide (2 < (l0.length : Int)) = true := decide_eq_true c56
    have c56b1 : decide (2 < l0.length) = true := decide_eq_true (by omega)
    clear c56
    by_cases c57 : 0 < (((rd_T81 l0 2).f1).length : Int)
    rotate_left
    · rw [if_neg c57] at H
      exact absurd H (by simp)
    rw [if_pos c57] at H
    have c57b0 : decide (0 < (((rd_T81 l0 2).f1).length : Int)) = true := decide_eq_true c57
    have c57b1 : decide (0 < ((rd_T81 l0 2).f1).length) = true := decide_eq_true (by omega)
    clear c57
    have H' := Aside0.mk H
    clear H
    have p294 : 0 ≤ (2 : Int) := (by omega)
    have q294 : 2 < (l0.length : Int) := of_decide_eq_true (by first | (with_reducible assumption) | assumption)
    obtain ⟨ad294, A294_1, c294_1, e294, hx294_0, hx294_1, hl294_1, hi294_1⟩ := at_T81 HR0.out 2 p294 q294
    cases e294
    (try simp only [show (2 : Int).toNat = 2 from rfl, Nat.reduceMul, Nat.reduceEqDiff, Go.Addr.add, ↓reduceIte] at hx294_0)
    (try simp only [show (2 : Int).toNat = 2 from rfl, Nat.reduceMul, Nat.reduceEqDiff, Go.Addr.add, ↓reduceIte] at hx294_1)
    have qi294 : (2 < l0.length) = True := eq_true (by omega)
    (try rw [show ((2 : Int)).toNat = 2 from rfl] at hx294_0)
    (try rw [show 2 * 2 = 4 from rfl] at hx294_0)
    (try rw [show ((2 : Int)).toNat = 2 from rfl] at hx294_1)
    (try rw [show 2 * 2 = 4 from rfl] at hx294_1)
    replace hx294_0 := (HB.out.cell (World.block_lt_of_cell? w _ hx294_0)).trans hx294_0
    replace hx294_1 := (HB.out.cell (World.block_lt_of_cell? w _ hx294_1)).trans hx294_1
    have HR294_1 := Aside0.mk hi294_1
    have HC294_1 := Aside0.mk hl294_1
    clear hi294_1 hl294_1
    replace p294 := eq_true p294
    replace q294 := eq_true q294
    have p295 : 0 ≤ (0 : Int) := (by omega)
    have q295 : 0 < (((rd_T81 l0 2).f1).length : Int) := of_decide_eq_true (by first | (with_reducible assumption) | assumption)
    obtain ⟨ad295, e295, hx295_0⟩ := Kd.at_string HR294_1.out 0 p295 q295
    cases e295
    have qi295 : (0 < ((rd_T81 l0 2).f1).length) = True := eq_true (by omega)
    (try rw [show ((0 : Int)).toNat = 0 from rfl] at hx295_0)
    (try rw [Addr.add_zero'] at hx295_0)
    replace hx295_0 := (HB.out.cell (World.block_lt_of_cell? w _ hx295_0)).trans hx295_0
    replace p295 := eq_true p295
    replace q295 := eq_true q295
    go_wp2
    go_meet
    case rel => exact ⟨_, (((rdOf ByteArray.empty ((rd_T81 l0 2).f1) 0).toList != ([104, 111, 109, 101, 115] : List UInt8))), (by first | rfl | (simp; done) | (simp [*]; done)), H', ⟨by have := HJ1.out; have := HK2.out; have := HJ27.out; have := HJ33.out; have := HJ43.out; first | omega | exact Nat.le_refl _⟩, ⟨by (with_reducible repeat (first | apply Kd.R_alloc | apply Kd.R_drewN | apply Kd.R_drew)); exact HO_280001.out⟩, ⟨BK278.out⟩, ⟨BK279.out⟩, ⟨HB.out⟩⟩
  clear HC54
  (try clear c1); (try clear c2); (try clear p2); (try clear q2); (try clear hx2); (try clear qi2); (try clear c3); (try clear c4); (try clear c5); (try clear c5b0); (try clear c5b1); (try clear c5b2); (try clear c6); (try clear c6b0); (try clear c6b1); (try clear p6); (try clear c7); (try clear c7b0); (try clear c7b1); (try clear c8); (try clear c8b0); (try clear c8b1); (try clear c9); (try clear c10); (try clear c13); (try clear c13b0); (try clear c14); (try clear c14b0); (try clear c14b1); (try clear c15); (try clear c15b0); (try clear c15b1); (try clear c17); (try clear c17b0); (try clear c17b1); (try clear c22); (try clear c24); (try clear c24b0); (try clear c24b1); (try clear c25); (try clear c28); (try clear p28); (try clear q28); (try clear hx28); (try clear qi28); (try clear c29); (try clear p29); (try clear q29); (try clear hx29); (try clear qi29); (try clear c31); (try clear c31b0); (try clear c31b1); (try clear c32); (try clear c32b0); (try clear c32b1); (try clear c33); (try clear c33b0); (try clear c33b1); (try clear c35); (try clear c36); (try clear c36b0); (try clear c36b1); (try clear c37); (try clear c37b0); (try clear c37b1); (try clear c42); (try clear c45); (try clear c46); (try clear c49); (try clear c50); (try clear c55); (try clear c55b0); (try clear c55b1); (try clear c56); (try clear c56b0); (try clear c56b1); (try clear c57); (try clear c57b0); (try clear c57b1); (try clear hcz11_0); (try clear hcz11_1); (try clear hcz11_2); (try clear hcz11_3); (try clear hcz12_0); (try clear hcz12_1); (try clear hcz12_2); (try clear hcz12_3); (try clear hcz23_0); (try clear hcz23_1); (try clear hcz23_2); (try clear hcz23_3); (try clear hcz26_0); (try clear hcz26_1); (try clear hcz26_2); (try clear hcz26_3); (try clear hcz27_0); (try clear hcz27_1); (try clear hcz27_2); (try clear hcz27_3); (try clear hcz30_0); (try clear hcz30_1); (try clear hcz30_2); (try clear hcz30_3); (try clear hcz43_0); (try clear hcz43_1); (try clear hcz43_2); (try clear hcz43_3); (try clear hcz47_0); (try clear hcz47_1); (try clear hcz47_2); (try clear hcz47_3); (try clear hcz51_0); (try clear hcz51_1); (try clear hcz51_2); (try clear hcz51_3); (try clear hcz52_0); (try clear hcz52_1); (try clear hcz52_2); (try clear hcz52_3); (try clear hfz11_0); (try clear hfz11_1); (try clear hfz11_2); (try clear hfz11_3); (try clear hfz12_0); (try clear hfz12_1); (try clear hfz12_2); (try clear hfz12_3); (try clear hfz23_0); (try clear hfz23_1); (try clear hfz23_2); (try clear hfz23_3); (try clear hfz26_0); (try clear hfz26_1); (try clear hfz26_2); (try clear hfz26_3); (try clear hfz27_0); (try clear hfz27_1); (try clear hfz27_2); (try clear hfz27_3); (try clear hfz30_0); (try clear hfz30_1); (try clear hfz30_2); (try clear hfz30_3); (try clear hfz43_0); (try clear hfz43_1); (try clear hfz43_2); (try clear hfz43_3); (try clear hfz47_0); (try clear hfz47_1); (try clear hfz47_2); (try clear hfz47_3); (try clear hfz51_0); (try clear hfz51_1); (try clear hfz51_2); (try clear hfz51_3); (try clear hfz52_0); (try clear hfz52_1); (try clear hfz52_2); (try clear hfz52_3); (try clear hx280_0); (try clear hx280_1); (try clear hx281_0); (try clear hx282_0); (try clear hx282_1); (try clear hx283_0); (try clear hx283_1); (try clear hx284_0); (try clear hx286_0); (try clear hx286_1); (try clear hx287_0); (try clear hx288_0); (try clear hx288_1); (try clear hx294_0); (try clear hx294_1); (try clear hx295_0); (try clear p2); (try clear p28); (try clear p280); (try clear p281); (try clear p282); (try clear p283); (try clear p284); (try clear p286); (try clear p287); (try clear p288); (try clear p294); (try clear p295); (try clear p6); (try clear q2); (try clear q28); (try clear q280); (try clear q281); (try clear q282); (try clear q283); (try clear q284); (try clear q286); (try clear q287); (try clear q288); (try clear q294); (try clear q295)
  obtain ⟨kq, x90_53, rfl, HA, HJ53, HO_280001, BK278, BK279, HB⟩ := hcut
  cases kq with
  | zero => exact absurd HA.out (by simp [text_head.j5])
  | succ kj53 => ?_
  have H := HA.out
  clear HA
  simp only [text_head.j5] at H
  by_cases c58 : x90_53 = true
  · subst c58
    have H1 : (some (x280000_2, x280001_33, ([] : List Int), ([] : List (S53)), 2, true)) = some (r1, r2, r3, r4, r5, r6) := by rw [if_pos rfl] at H; exact H
    clear H
    have H := H1
    clear H1
    simp only [Option.some.injEq, Prod.mk.injEq] at H
    obtain ⟨rfl, rfl, rfl, rfl, rfl, rfl⟩ := H
    have hnb59 := NB279_278.out
    have hnc59 := NB278_279.out
    have hcz60_0 : wc.cell? ⟨gb279, 0, none⟩ = some (.int .i64 x280000_2) := (blk_cell BK279.out 0).trans rfl
    have hcz60_1 : wc.cell? ⟨gb279, 1, none⟩ = some (u280001) := (blk_cell BK279.out 1).trans rfl
    have hcz60_2 : wc.cell? ⟨gb279, 2, none⟩ = some (.slice none 0 0) := (blk_cell BK279.out 2).trans rfl
    have hcz60_3 : wc.cell? ⟨gb279, 3, none⟩ = some (.slice none 0 0) := (blk_cell BK279.out 3).trans rfl
    have hfz60_0 := blk_frozen BK279.out 0
    have hfz60_1 := blk_frozen BK279.out 1
    have hfz60_2 := blk_frozen BK279.out 2
    have hfz60_3 := blk_frozen BK279.out 3
    have hcz61_0 : wc.cell? ⟨gb278, 0, none⟩ = some (.int .i64 0) := (blk_cell BK278.out 0).trans rfl
    have hcz61_1 : wc.cell? ⟨gb278, 1, none⟩ = some (.slice none 0 0) := (blk_cell BK278.out 1).trans rfl
    have hcz61_2 : wc.cell? ⟨gb278, 2, none⟩ = some (.slice none 0 0) := (blk_cell BK278.out 2).trans rfl
    have hcz61_3 : wc.cell? ⟨gb278, 3, none⟩ = some (.slice none 0 0) := (blk_cell BK278.out 3).trans rfl
    have hfz61_0 := blk_frozen BK278.out 0
    have hfz61_1 := blk_frozen BK278.out 1
    have hfz61_2 := blk_frozen BK278.out 2
    have hfz61_3 := blk_frozen BK278.out 3
    obtain ⟨Ao62, co62, eo62⟩ := Kd.R_slice HO_280001.out
    subst eo62
    go_wp2
    refine bodyPost_ret (results_ctt rfl _ _ gb278 37 #[.int .i64 x280000_2, .slice Ao62 x280001_33.length co62, .slice none 0 0, .slice none 0 0] (0, 0) _ rfl (by (with_reducible repeat (first | refine blk_drewN ?_ _ | refine blk_drew ?_ | refine blk_alloc ?_ _)); refine blk_put (cs := #[.int .i64 x280000_2, .slice Ao62 x280001_33.length co62, .slice none 0 0, .slice none 0 0]) ?_ 3 _ rfl; (with_reducible repeat (first | refine blk_drewN ?_ _ | refine blk_drew ?_ | refine blk_alloc ?_ _)); refine blk_put (cs := #[.int .i64 x280000_2, .slice Ao62 x280001_33.length co62, .slice none 0 0, .slice none 0 0]) ?_ 2 _ rfl; (with_reducible repeat (first | refine blk_drewN ?_ _ | refine blk_drew ?_ | refine blk_alloc ?_ _)); refine blk_put (cs := #[.int .i64 x280000_2, .slice none 0 0, .slice none 0 0, .slice none 0 0]) ?_ 1 _ rfl; (with_reducible repeat (first | refine blk_drewN ?_ _ | refine blk_drew ?_ | refine blk_alloc ?_ _)); refine blk_put (cs := #[.int .i64 0, .slice none 0 0, .slice none 0 0, .slice none 0 0]) ?_ 0 _ rfl; (with_reducible repeat (first | refine blk_drewN ?_ _ | refine blk_drew ?_ | refine blk_alloc ?_ _)); exact BK278.out) Tryd.underlying37 rfl (by kernel_rfl)) rfl ?_
    exact ⟨_, _, _, by first | rfl | (simp [errW_none, errW_some] <;> rfl) | (simp [*, errW_none, errW_some] <;> rfl), by (with_reducible repeat (first | apply Kd.R_alloc | apply Kd.R_drewN | apply Kd.R_drew)); exact Kd.R_mono (Kd.R_far (p := ⟨gb278, 3, none⟩) (Kd.R_far (p := ⟨gb278, 2, none⟩) (Kd.R_far (p := ⟨gb278, 1, none⟩) (Kd.R_far (p := ⟨gb278, 0, none⟩) (Kd.R_types HO_280001.out BK278.out (by decide)) (fun _ hk => hk.2) (.int .i64 x280000_2)) (fun _ hk => hk.2) (.slice Ao62 x280001_33.length co62)) (fun _ hk => hk.2) (.slice none 0 0)) (fun _ hk => hk.2) (.slice none 0 0)) (fun _ hk => (by simp [Value.ownBlock])), by first | exact Kd.R_nil _ _ _ _ _ | exact Kd.N_nil _ _ _ _ _ | exact Kd.V_nil _ _ _ _ _ | exact Kd.Q_nil _ _ _ _ _ | exact Kd.S_nil _ _ _ _ _, by first | exact Kd.S_nil _ _ _ _ _ | exact Kd.N_nil _ _ _ _ _ | exact Kd.V_nil _ _ _ _ _ | exact Kd.Q_nil _ _ _ _ _ | exact Kd.R_nil _ _ _ _ _, by repeat (first | (with_reducible first | exact HB.out | apply below_alloc | apply pw_below_drewN | apply below_drew1 | refine below_set ?_ GE278.out | refine below_set ?_ GE279.out) | exact HB.out)⟩
  replace c58 := Bool.eq_false_iff.mpr c58
  subst c58
  have H1 : (if 2 < (l0.length : Int) then (if 1 ≤ (((rd_T81 l0 2).f1).length : Int) then ((text_numbers.f kj53 (((rd_T81 l0 2).f1).drop 1)).bind fun bt298 => (if bt298.2 = true then (if (bt298.1.length : Int) = 0 then (some (x280000_2, x280001_33, bt298.1, ([] : List (S53)), 2, false)) else (some (x280000_2, x280001_33, bt298.1, ([] : List (S53)), 3, true))) else (some (x280000_2, x280001_33, bt298.1, ([] : List (S53)), 2, false)))) else (none)) else (none)) = some (r1, r2, r3, r4, r5, r6) := by rw [if_neg (show ¬ (false = true) by decide)] at H; exact H
  clear H
  have H := H1
  clear H1
  by_cases c63 : 2 < (l0.length : Int)
  rotate_left
  · rw [if_neg c63] at H
    exact absurd H (by simp)
  rw [if_pos c63] at H
  have c63b0 : decide (2 < (l0.length : Int)) = true := decide_eq_true c63
  have c63b1 : decide (2 < l0.length) = true := decide_eq_true (by omega)
  clear c63
  by_cases c64 : 1 ≤ (((rd_T81 l0 2).f1).length : Int)
  rotate_left
  · rw [if_neg c64] at H
    exact absurd H (by simp)
  rw [if_pos c64] at H
  have c64b0 := eq_true c64
  have c64b1 : decide (1 ≤ (((rd_T81 l0 2).f1).length : Int)) = true := decide_eq_true c64
  clear c64
  replace H := Option.bind_eq_some_iff.mp H
  obtain ⟨⟨t298, t299⟩, A650, H⟩ := H
  replace H : (if t299 = true then (if (t298.length : Int) = 0 then (some (x280000_2, x280001_33, t298, ([] : List (S53)), 2, false)) else (some (x280000_2, x280001_33, t298, ([] : List (S53)), 3, true))) else (some (x280000_2, x280001_33, t298, ([] : List (S53)), 2, false))) = some (r1, r2, r3, r4, r5, r6) := H
  have A65 := Aside0.mk A650
  clear A650
  by_cases c66 : t299 = true
  rotate_left
  · replace c66 := Bool.eq_false_iff.mpr c66
    subst c66
    have H1 : (some (x280000_2, x280001_33, t298, ([] : List (S53)), 2, false)) = some (r1, r2, r3, r4, r5, r6) := by rw [if_neg (show ¬ (false = true) by decide)] at H; exact H
    clear H
    have H := H1
    clear H1
    simp only [Option.some.injEq, Prod.mk.injEq] at H
    obtain ⟨rfl, rfl, rfl, rfl, rfl, rfl⟩ := H
    have p296 : 0 ≤ (2 : Int) := (by omega)
    have q296 : 2 < (l0.length : Int) := of_decide_eq_true (by first | (with_reducible assumption) | assumption)
    obtain ⟨ad296, A296_1, c296_1, e296, hx296_0, hx296_1, hl296_1, hi296_1⟩ := at_T81 HR0.out 2 p296 q296
    cases e296
    (try simp only [show (2 : Int).toNat = 2 from rfl, Nat.reduceMul, Nat.reduceEqDiff, Go.Addr.add, ↓reduceIte] at hx296_0)
    (try simp only [show (2 : Int).toNat = 2 from rfl, Nat.reduceMul, Nat.reduceEqDiff, Go.Addr.add, ↓reduceIte] at hx296_1)
    have qi296 : (2 < l0.length) = True := eq_true (by omega)
    (try rw [show ((2 : Int)).toNat = 2 from rfl] at hx296_0)
    (try rw [show 2 * 2 = 4 from rfl] at hx296_0)
    (try rw [show ((2 : Int)).toNat = 2 from rfl] at hx296_1)
    (try rw [show 2 * 2 = 4 from rfl] at hx296_1)
    replace hx296_0 := (HB.out.cell (World.block_lt_of_cell? w _ hx296_0)).trans hx296_0
    replace hx296_1 := (HB.out.cell (World.block_lt_of_cell? w _ hx296_1)).trans hx296_1
    have HR296_1 := Aside0.mk hi296_1
    have HC296_1 := Aside0.mk hl296_1
    clear hi296_1 hl296_1
    replace p296 := eq_true p296
    replace q296 := eq_true q296
    obtain ⟨i067, hi067, _, hsz67, _⟩ := info_parts info9
    obtain ⟨A67, hcut67, hA67, hC67⟩ := print_drop_of (P := Tryd.prog) Value.string (⟨#[]⟩ : ByteArray) 26 9 .i64 Tryd.underlying26 hi067 hsz67 A296_1 c296_1 ((rd_T81 l0 2).f1) 1 (by omega) (of_decide_eq_true (by first | (with_reducible assumption) | assumption)) HC296_1.out
    have HR297 := Aside0.mk (Kd.C_of_reads (h1 := fun _ => rfl) (hA67 _ (Kd.reads_of_C HR296_1.out)))
    have HC297 := Aside0.mk hC67
    clear hA67 hC67 hi067 hsz67
    go_wp2_with (first | ((with_reducible refine gate_callee (f := 56) rfl ?_); refine goesL_ (some 98) rfl rfl Tryd.func56 (by kernel_rfl) rfl #[.slice A67 (((rd_T81 l0 2).f1).drop 1).length (c296_1 - 1)] rfl (by (try simp only [List.map_toArray, List.map_cons, List.map_nil]); first | done | (rw [show (((rd_T81 l0 2).f1).drop 1).length = (((rd_T81 l0 2).f1).length - 1) from List.length_drop] <;> rfl) | rfl | (simp only [List.length_drop, List.length_take]; rfl)) ?_; (with_reducible refine (text_numbers.calls kj53 _ _ (((rd_T81 l0 2).f1).drop 1) t298 false _ ?side1 ?side2 ?side3 A65.out).mono ?_); (case side1 => repeat (first | exact (Kd.C_below HR297.out HB.out) | (with_reducible refine Kd.C_alloc ?_ _) | (with_reducible refine Kd.C_drewN ?_ _) | (with_reducible refine Kd.C_drew ?_))); (case side2 => exact HC297.out); (case side3 => first | exact Glob.below HG.out (HB.out) | (repeat (first | exact Glob.below HG.out HB.out | (with_reducible refine Glob.alloc ?_ _) | (with_reducible refine Glob.drewN ?_ _) | (with_reducible refine Glob.drew ?_)))); rintro e w68 ⟨v300, rfl, ho0, hb⟩; refine ⟨_, rfl, ?_⟩; have n0_ := Aside0.mk (Kd.R_elder' (by (with_reducible repeat (first | apply Kd.R_alloc | apply Kd.R_drewN | apply Kd.R_drew)); exact HO_280001.out) (Kd.R_base ho0) hb); have n1_ := Aside0.mk (Kd.R_lower (Kd.R_new' ho0 (Kd.R_lt (by (with_reducible repeat (first | apply Kd.R_alloc | apply Kd.R_drewN | apply Kd.R_drew)); exact HO_280001.out))) (below_size (HB.out))); have n2_ := Aside0.mk (blk_below BK278.out hb); have n3_ := Aside0.mk (blk_below BK279.out hb); have n4_ := Aside0.mk (below_step (HB.out) hb); clear HO_280001; clear BK278; clear BK279; clear HB; have HO_280001 := n0_; have HO301 := n1_; have BK278 := n2_; have BK279 := n3_; have HB := n4_; clear n0_ n1_ n2_ n3_ n4_; (try clear hb); (try clear hb2); (try clear hk); (try clear hi); (try clear ho0); obtain ⟨Ao69, co69, eo69⟩ := Kd.R_slice HO301.out; subst eo69; have hnb70 := NB279_278.out; have hnc70 := NB278_279.out; have hcz71_0 : w68.cell? ⟨gb279, 0, none⟩ = some (.int .i64 x280000_2) := (blk_cell BK279.out 0).trans rfl; have hcz71_1 : w68.cell? ⟨gb279, 1, none⟩ = some (u280001) := (blk_cell BK279.out 1).trans rfl; have hcz71_2 : w68.cell? ⟨gb279, 2, none⟩ = some (.slice none 0 0) := (blk_cell BK279.out 2).trans rfl; have hcz71_3 : w68.cell? ⟨gb279, 3, none⟩ = some (.slice none 0 0) := (blk_cell BK279.out 3).trans rfl; have hfz71_0 := blk_frozen BK279.out 0; have hfz71_1 := blk_frozen BK279.out 1; have hfz71_2 := blk_frozen BK279.out 2; have hfz71_3 := blk_frozen BK279.out 3; have hcz72_0 : w68.cell? ⟨gb278, 0, none⟩ = some (.int .i64 0) := (blk_cell BK278.out 0).trans rfl; have hcz72_1 : w68.cell? ⟨gb278, 1, none⟩ = some (.slice none 0 0) := (blk_cell BK278.out 1).trans rfl; have hcz72_2 : w68.cell? ⟨gb278, 2, none⟩ = some (.slice none 0 0) := (blk_cell BK278.out 2).trans rfl; have hcz72_3 : w68.cell? ⟨gb278, 3, none⟩ = some (.slice none 0 0) := (blk_cell BK278.out 3).trans rfl; have hfz72_0 := blk_frozen BK278.out 0; have hfz72_1 := blk_frozen BK278.out 1; have hfz72_2 := blk_frozen BK278.out 2; have hfz72_3 := blk_frozen BK278.out 3; obtain ⟨Ao73, co73, eo73⟩ := Kd.R_slice HO_280001.out; subst eo73))
    refine bodyPost_ret (results_ctt rfl _ _ gb278 37 #[.int .i64 x280000_2, .slice Ao73 x280001_33.length co73, .slice Ao69 t298.length co69, .slice none 0 0] (0, 0) _ rfl (by (with_reducible repeat (first | refine blk_drewN ?_ _ | refine blk_drew ?_ | refine blk_alloc ?_ _)); refine blk_put (cs := #[.int .i64 x280000_2, .slice Ao73 x280001_33.length co73, .slice Ao69 t298.length co69, .slice none 0 0]) ?_ 3 _ rfl; (with_reducible repeat (first | refine blk_drewN ?_ _ | refine blk_drew ?_ | refine blk_alloc ?_ _)); refine blk_put (cs := #[.int .i64 x280000_2, .slice Ao73 x280001_33.length co73, .slice none 0 0, .slice none 0 0]) ?_ 2 _ rfl; (with_reducible repeat (first | refine blk_drewN ?_ _ | refine blk_drew ?_ | refine blk_alloc ?_ _)); refine blk_put (cs := #[.int .i64 x280000_2, .slice none 0 0, .slice none 0 0, .slice none 0 0]) ?_ 1 _ rfl; (with_reducible repeat (first | refine blk_drewN ?_ _ | refine blk_drew ?_ | refine blk_alloc ?_ _)); refine blk_put (cs := #[.int .i64 0, .slice none 0 0, .slice none 0 0, .slice none 0 0]) ?_ 0 _ rfl; (with_reducible repeat (first | refine blk_drewN ?_ _ | refine blk_drew ?_ | refine blk_alloc ?_ _)); refine blk_far ?_ NB278_279.out _; (with_reducible repeat (first | refine blk_drewN ?_ _ | refine blk_drew ?_ | refine blk_alloc ?_ _)); exact BK278.out) Tryd.underlying37 rfl (by kernel_rfl)) rfl ?_
    exact ⟨_, _, _, by first | rfl | (simp [errW_none, errW_some] <;> rfl) | (simp [*, errW_none, errW_some] <;> rfl), by (with_reducible repeat (first | apply Kd.R_alloc | apply Kd.R_drewN | apply Kd.R_drew)); exact Kd.R_mono (Kd.R_far (p := ⟨gb278, 3, none⟩) (Kd.R_far (p := ⟨gb278, 2, none⟩) (Kd.R_far (p := ⟨gb278, 1, none⟩) (Kd.R_far (p := ⟨gb278, 0, none⟩) (Kd.R_far (p := ⟨gb279, 2, none⟩) (Kd.R_types (Kd.R_types HO_280001.out BK279.out (by decide)) BK278.out (by decide)) (fun _ hk => hk.1.2) (.slice Ao69 t298.length co69)) (fun _ hk => hk.2) (.int .i64 x280000_2)) (fun _ hk => hk.2) (.slice Ao73 x280001_33.length co73)) (fun _ hk => hk.2) (.slice Ao69 t298.length co69)) (fun _ hk => hk.2) (.slice none 0 0)) (fun _ hk => hk.1.1.2), by (with_reducible repeat (first | apply Kd.R_alloc | apply Kd.R_drewN | apply Kd.R_drew)); exact Kd.R_mono (Kd.R_far (p := ⟨gb278, 3, none⟩) (Kd.R_far (p := ⟨gb278, 2, none⟩) (Kd.R_far (p := ⟨gb278, 1, none⟩) (Kd.R_far (p := ⟨gb278, 0, none⟩) (Kd.R_far (p := ⟨gb279, 2, none⟩) (Kd.R_types (Kd.R_types HO301.out BK279.out (by decide)) BK278.out (by decide)) (fun _ hk => hk.1.2) (.slice Ao69 t298.length co69)) (fun _ hk => hk.2) (.int .i64 x280000_2)) (fun _ hk => hk.2) (.slice Ao73 x280001_33.length co73)) (fun _ hk => hk.2) (.slice Ao69 t298.length co69)) (fun _ hk => hk.2) (.slice none 0 0)) (fun _ hk => hk.1.1.2), by first | exact Kd.S_nil _ _ _ _ _ | exact Kd.N_nil _ _ _ _ _ | exact Kd.V_nil _ _ _ _ _ | exact Kd.Q_nil _ _ _ _ _ | exact Kd.R_nil _ _ _ _ _, by repeat (first | (with_reducible first | exact HB.out | apply below_alloc | apply pw_below_drewN | apply below_drew1 | refine below_set ?_ GE278.out | refine below_set ?_ GE279.out) | exact HB.out)⟩
  subst c66
  have H1 : (if (t298.length : Int) = 0 then (some (x280000_2, x280001_33, t298, ([] : List (S53)), 2, false)) else (some (x280000_2, x280001_33, t298, ([] : List (S53)), 3, true))) = some (r1, r2, r3, r4, r5, r6) := by rw [if_pos rfl] at H; exact H
  clear H
  have H := H1
  clear H1
  by_cases c74 : (t298.length : Int) = 0
  rotate_left
  · rw [if_neg c74] at H
    have c74b0 : ((t298.length : Int) == 0) = false := beq_eq_false_iff_ne.mpr c74
    have c74b1 : ((t298.length : Int) != 0) = true := bne_iff_ne.mpr c74
    have c74b2 : ¬ (t298 = []) := fun h_ => c74 (by rw [h_]; rfl)
    simp only [Option.some.injEq, Prod.mk.injEq] at H
    obtain ⟨rfl, rfl, rfl, rfl, rfl, rfl⟩ := H
    have p296 : 0 ≤ (2 : Int) := (by omega)
    have q296 : 2 < (l0.length : Int) := of_decide_eq_true (by first | (with_reducible assumption) | assumption)
    obtain ⟨ad296, A296_1, c296_1, e296, hx296_0, hx296_1, hl296_1, hi296_1⟩ := at_T81 HR0.out 2 p296 q296
    cases e296
    (try simp only [show (2 : Int).toNat = 2 from rfl, Nat.reduceMul, Nat.reduceEqDiff, Go.Addr.add, ↓reduceIte] at hx296_0)
    (try simp only [show (2 : Int).toNat = 2 from rfl, Nat.reduceMul, Nat.reduceEqDiff, Go.Addr.add, ↓reduceIte] at hx296_1)
    have qi296 : (2 < l0.length) = True := eq_true (by omega)
    (try rw [show ((2 : Int)).toNat = 2 from rfl] at hx296_0)
    (try rw [show 2 * 2 = 4 from rfl] at hx296_0)
    (try rw [show ((2 : Int)).toNat = 2 from rfl] at hx296_1)
    (try rw [show 2 * 2 = 4 from rfl] at hx296_1)
    replace hx296_0 := (HB.out.cell (World.block_lt_of_cell? w _ hx296_0)).trans hx296_0
    replace hx296_1 := (HB.out.cell (World.block_lt_of_cell? w _ hx296_1)).trans hx296_1
    have HR296_1 := Aside0.mk hi296_1
    have HC296_1 := Aside0.mk hl296_1
    clear hi296_1 hl296_1
    replace p296 := eq_true p296
    replace q296 := eq_true q296
    obtain ⟨i075, hi075, _, hsz75, _⟩ := info_parts info9
    obtain ⟨A75, hcut75, hA75, hC75⟩ := print_drop_of (P := Tryd.prog) Value.string (⟨#[]⟩ : ByteArray) 26 9 .i64 Tryd.underlying26 hi075 hsz75 A296_1 c296_1 ((rd_T81 l0 2).f1) 1 (by omega) (of_decide_eq_true (by first | (with_reducible assumption) | assumption)) HC296_1.out
    have HR297 := Aside0.mk (Kd.C_of_reads (h1 := fun _ => rfl) (hA75 _ (Kd.reads_of_C HR296_1.out)))
    have HC297 := Aside0.mk hC75
    clear hA75 hC75 hi075 hsz75
    go_wp2_with (first | ((with_reducible refine gate_callee (f := 56) rfl ?_); refine goesL_ (some 98) rfl rfl Tryd.func56 (by kernel_rfl) rfl #[.slice A75 (((rd_T81 l0 2).f1).drop 1).length (c296_1 - 1)] rfl (by (try simp only [List.map_toArray, List.map_cons, List.map_nil]); first | done | (rw [show (((rd_T81 l0 2).f1).drop 1).length = (((rd_T81 l0 2).f1).length - 1) from List.length_drop] <;> rfl) | rfl | (simp only [List.length_drop, List.length_take]; rfl)) ?_; (with_reducible refine (text_numbers.calls kj53 _ _ (((rd_T81 l0 2).f1).drop 1) t298 true _ ?side1 ?side2 ?side3 A65.out).mono ?_); (case side1 => repeat (first | exact (Kd.C_below HR297.out HB.out) | (with_reducible refine Kd.C_alloc ?_ _) | (with_reducible refine Kd.C_drewN ?_ _) | (with_reducible refine Kd.C_drew ?_))); (case side2 => exact HC297.out); (case side3 => first | exact Glob.below HG.out (HB.out) | (repeat (first | exact Glob.below HG.out HB.out | (with_reducible refine Glob.alloc ?_ _) | (with_reducible refine Glob.drewN ?_ _) | (with_reducible refine Glob.drew ?_)))); rintro e w76 ⟨v300, rfl, ho0, hb⟩; refine ⟨_, rfl, ?_⟩; have n0_ := Aside0.mk (Kd.R_elder' (by (with_reducible repeat (first | apply Kd.R_alloc | apply Kd.R_drewN | apply Kd.R_drew)); exact HO_280001.out) (Kd.R_base ho0) hb); have n1_ := Aside0.mk (Kd.R_lower (Kd.R_new' ho0 (Kd.R_lt (by (with_reducible repeat (first | apply Kd.R_alloc | apply Kd.R_drewN | apply Kd.R_drew)); exact HO_280001.out))) (below_size (HB.out))); have n2_ := Aside0.mk (blk_below BK278.out hb); have n3_ := Aside0.mk (blk_below BK279.out hb); have n4_ := Aside0.mk (below_step (HB.out) hb); clear HO_280001; clear BK278; clear BK279; clear HB; have HO_280001 := n0_; have HO301 := n1_; have BK278 := n2_; have BK279 := n3_; have HB := n4_; clear n0_ n1_ n2_ n3_ n4_; (try clear hb); (try clear hb2); (try clear hk); (try clear hi); (try clear ho0); obtain ⟨Ao77, co77, eo77⟩ := Kd.R_slice HO301.out; subst eo77; have hnb78 := NB279_278.out; have hnc78 := NB278_279.out; have hcz79_0 : w76.cell? ⟨gb279, 0, none⟩ = some (.int .i64 x280000_2) := (blk_cell BK279.out 0).trans rfl; have hcz79_1 : w76.cell? ⟨gb279, 1, none⟩ = some (u280001) := (blk_cell BK279.out 1).trans rfl; have hcz79_2 : w76.cell? ⟨gb279, 2, none⟩ = some (.slice none 0 0) := (blk_cell BK279.out 2).trans rfl; have hcz79_3 : w76.cell? ⟨gb279, 3, none⟩ = some (.slice none 0 0) := (blk_cell BK279.out 3).trans rfl; have hfz79_0 := blk_frozen BK279.out 0; have hfz79_1 := blk_frozen BK279.out 1; have hfz79_2 := blk_frozen BK279.out 2; have hfz79_3 := blk_frozen BK279.out 3; have hcz80_0 : w76.cell? ⟨gb278, 0, none⟩ = some (.int .i64 0) := (blk_cell BK278.out 0).trans rfl; have hcz80_1 : w76.cell? ⟨gb278, 1, none⟩ = some (.slice none 0 0) := (blk_cell BK278.out 1).trans rfl; have hcz80_2 : w76.cell? ⟨gb278, 2, none⟩ = some (.slice none 0 0) := (blk_cell BK278.out 2).trans rfl; have hcz80_3 : w76.cell? ⟨gb278, 3, none⟩ = some (.slice none 0 0) := (blk_cell BK278.out 3).trans rfl; have hfz80_0 := blk_frozen BK278.out 0; have hfz80_1 := blk_frozen BK278.out 1; have hfz80_2 := blk_frozen BK278.out 2; have hfz80_3 := blk_frozen BK278.out 3; obtain ⟨Ao81, co81, eo81⟩ := Kd.R_slice HO_280001.out; subst eo81))
    refine bodyPost_ret (results_ctt rfl _ _ gb278 37 #[.int .i64 x280000_2, .slice Ao81 x280001_33.length co81, .slice Ao77 t298.length co77, .slice none 0 0] (0, 0) _ rfl (by (with_reducible repeat (first | refine blk_drewN ?_ _ | refine blk_drew ?_ | refine blk_alloc ?_ _)); refine blk_put (cs := #[.int .i64 x280000_2, .slice Ao81 x280001_33.length co81, .slice Ao77 t298.length co77, .slice none 0 0]) ?_ 3 _ rfl; (with_reducible repeat (first | refine blk_drewN ?_ _ | refine blk_drew ?_ | refine blk_alloc ?_ _)); refine blk_put (cs := #[.int .i64 x280000_2, .slice Ao81 x280001_33.length co81, .slice none 0 0, .slice none 0 0]) ?_ 2 _ rfl; (with_reducible repeat (first | refine blk_drewN ?_ _ | refine blk_drew ?_ | refine blk_alloc ?_ _)); refine blk_put (cs := #[.int .i64 x280000_2, .slice none 0 0, .slice none 0 0, .slice none 0 0]) ?_ 1 _ rfl; (with_reducible repeat (first | refine blk_drewN ?_ _ | refine blk_drew ?_ | refine blk_alloc ?_ _)); refine blk_put (cs := #[.int .i64 0, .slice none 0 0, .slice none 0 0, .slice none 0 0]) ?_ 0 _ rfl; (with_reducible repeat (first | refine blk_drewN ?_ _ | refine blk_drew ?_ | refine blk_alloc ?_ _)); refine blk_far ?_ NB278_279.out _; (with_reducible repeat (first | refine blk_drewN ?_ _ | refine blk_drew ?_ | refine blk_alloc ?_ _)); exact BK278.out) Tryd.underlying37 rfl (by kernel_rfl)) rfl ?_
    exact ⟨_, _, _, by first | rfl | (simp [errW_none, errW_some] <;> rfl) | (simp [*, errW_none, errW_some] <;> rfl), by (with_reducible repeat (first | apply Kd.R_alloc | apply Kd.R_drewN | apply Kd.R_drew)); exact Kd.R_mono (Kd.R_far (p := ⟨gb278, 3, none⟩) (Kd.R_far (p := ⟨gb278, 2, none⟩) (Kd.R_far (p := ⟨gb278, 1, none⟩) (Kd.R_far (p := ⟨gb278, 0, none⟩) (Kd.R_far (p := ⟨gb279, 2, none⟩) (Kd.R_types (Kd.R_types HO_280001.out BK279.out (by decide)) BK278.out (by decide)) (fun _ hk => hk.1.2) (.slice Ao77 t298.length co77)) (fun _ hk => hk.2) (.int .i64 x280000_2)) (fun _ hk => hk.2) (.slice Ao81 x280001_33.length co81)) (fun _ hk => hk.2) (.slice Ao77 t298.length co77)) (fun _ hk => hk.2) (.slice none 0 0)) (fun _ hk => hk.1.1.2), by (with_reducible repeat (first | apply Kd.R_alloc | apply Kd.R_drewN | apply Kd.R_drew)); exact Kd.R_mono (Kd.R_far (p := ⟨gb278, 3, none⟩) (Kd.R_far (p := ⟨gb278, 2, none⟩) (Kd.R_far (p := ⟨gb278, 1, none⟩) (Kd.R_far (p := ⟨gb278, 0, none⟩) (Kd.R_far (p := ⟨gb279, 2, none⟩) (Kd.R_types (Kd.R_types HO301.out BK279.out (by decide)) BK278.out (by decide)) (fun _ hk => hk.1.2) (.slice Ao77 t298.length co77)) (fun _ hk => hk.2) (.int .i64 x280000_2)) (fun _ hk => hk.2) (.slice Ao81 x280001_33.length co81)) (fun _ hk => hk.2) (.slice Ao77 t298.length co77)) (fun _ hk => hk.2) (.slice none 0 0)) (fun _ hk => hk.1.1.2), by first | exact Kd.S_nil _ _ _ _ _ | exact Kd.N_nil _ _ _ _ _ | exact Kd.V_nil _ _ _ _ _ | exact Kd.Q_nil _ _ _ _ _ | exact Kd.R_nil _ _ _ _ _, by repeat (first | (with_reducible first | exact HB.out | apply below_alloc | apply pw_below_drewN | apply below_drew1 | refine below_set ?_ GE278.out | refine below_set ?_ GE279.out) | exact HB.out)⟩
  rw [if_pos c74] at H
  have c74b0 : ((t298.length : Int) == 0) = true := beq_iff_eq.mpr c74
  have c74b1 : ((t298.length : Int) != 0) = false := bne_eq_false_iff_eq.mpr c74
  clear c74
  simp only [Option.some.injEq, Prod.mk.injEq] at H
  obtain ⟨rfl, rfl, rfl, rfl, rfl, rfl⟩ := H
  have p296 : 0 ≤ (2 : Int) := (by omega)
  have q296 : 2 < (l0.length : Int) := of_decide_eq_true (by first | (with_reducible assumption) | assumption)
  obtain ⟨ad296, A296_1, c296_1, e296, hx296_0, hx296_1, hl296_1, hi296_1⟩ := at_T81 HR0.out 2 p296 q296
  cases e296
  (try simp only [show (2 : Int).toNat = 2 from rfl, Nat.reduceMul, Nat.reduceEqDiff, Go.Addr.add, ↓reduceIte] at hx296_0)
  (try simp only [show (2 : Int).toNat = 2 from rfl, Nat.reduceMul, Nat.reduceEqDiff, Go.Addr.add, ↓reduceIte] at hx296_1)
  have qi296 : (2 < l0.length) = True := eq_true (by omega)
  (try rw [show ((2 : Int)).toNat = 2 from rfl] at hx296_0)
  (try rw [show 2 * 2 = 4 from rfl] at hx296_0)
  (try rw [show ((2 : Int)).toNat = 2 from rfl] at hx296_1)
  (try rw [show 2 * 2 = 4 from rfl] at hx296_1)
  replace hx296_0 := (HB.out.cell (World.block_lt_of_cell? w _ hx296_0)).trans hx296_0
  replace hx296_1 := (HB.out.cell (World.block_lt_of_cell? w _ hx296_1)).trans hx296_1
  have HR296_1 := Aside0.mk hi296_1
  have HC296_1 := Aside0.mk hl296_1
  clear hi296_1 hl296_1
  replace p296 := eq_true p296
  replace q296 := eq_true q296
  obtain ⟨i082, hi082, _, hsz82, _⟩ := info_parts info9
  obtain ⟨A82, hcut82, hA82, hC82⟩ := print_drop_of (P := Tryd.prog) Value.string (⟨#[]⟩ : ByteArray) 26 9 .i64 Tryd.underlying26 hi082 hsz82 A296_1 c296_1 ((rd_T81 l0 2).f1) 1 (by omega) (of_decide_eq_true (by first | (with_reducible assumption) | assumption)) HC296_1.out
  have HR297 := Aside0.mk (Kd.C_of_reads (h1 := fun _ => rfl) (hA82 _ (Kd.reads_of_C HR296_1.out)))
  have HC297 := Aside0.mk hC82
  clear hA82 hC82 hi082 hsz82
  go_wp2_with (first | ((with_reducible refine gate_callee (f := 56) rfl ?_); refine goesL_ (some 98) rfl rfl Tryd.func56 (by kernel_rfl) rfl #[.slice A82 (((rd_T81 l0 2).f1).drop 1).length (c296_1 - 1)] rfl (by (try simp only [List.map_toArray, List.map_cons, List.map_nil]); first | done | (rw [show (((rd_T81 l0 2).f1).drop 1).length = (((rd_T81 l0 2).f1).length - 1) from List.length_drop] <;> rfl) | rfl | (simp only [List.length_drop, List.length_take]; rfl)) ?_; (with_reducible refine (text_numbers.calls kj53 _ _ (((rd_T81 l0 2).f1).drop 1) t298 true _ ?side1 ?side2 ?side3 A65.out).mono ?_); (case side1 => repeat (first | exact (Kd.C_below HR297.out HB.out) | (with_reducible refine Kd.C_alloc ?_ _) | (with_reducible refine Kd.C_drewN ?_ _) | (with_reducible refine Kd.C_drew ?_))); (case side2 => exact HC297.out); (case side3 => first | exact Glob.below HG.out (HB.out) | (repeat (first | exact Glob.below HG.out HB.out | (with_reducible refine Glob.alloc ?_ _) | (with_reducible refine Glob.drewN ?_ _) | (with_reducible refine Glob.drew ?_)))); rintro e w83 ⟨v300, rfl, ho0, hb⟩; refine ⟨_, rfl, ?_⟩; have n0_ := Aside0.mk (Kd.R_elder' (by (with_reducible repeat (first | apply Kd.R_alloc | apply Kd.R_drewN | apply Kd.R_drew)); exact HO_280001.out) (Kd.R_base ho0) hb); have n1_ := Aside0.mk (Kd.R_lower (Kd.R_new' ho0 (Kd.R_lt (by (with_reducible repeat (first | apply Kd.R_alloc | apply Kd.R_drewN | apply Kd.R_drew)); exact HO_280001.out))) (below_size (HB.out))); have n2_ := Aside0.mk (blk_below BK278.out hb); have n3_ := Aside0.mk (blk_below BK279.out hb); have n4_ := Aside0.mk (below_step (HB.out) hb); clear HO_280001; clear BK278; clear BK279; clear HB; have HO_280001 := n0_; have HO301 := n1_; have BK278 := n2_; have BK279 := n3_; have HB := n4_; clear n0_ n1_ n2_ n3_ n4_; (try clear hb); (try clear hb2); (try clear hk); (try clear hi); (try clear ho0); obtain ⟨Ao84, co84, eo84⟩ := Kd.R_slice HO301.out; subst eo84; have hnb85 := NB279_278.out; have hnc85 := NB278_279.out; have hcz86_0 : w83.cell? ⟨gb279, 0, none⟩ = some (.int .i64 x280000_2) := (blk_cell BK279.out 0).trans rfl; have hcz86_1 : w83.cell? ⟨gb279, 1, none⟩ = some (u280001) := (blk_cell BK279.out 1).trans rfl; have hcz86_2 : w83.cell? ⟨gb279, 2, none⟩ = some (.slice none 0 0) := (blk_cell BK279.out 2).trans rfl; have hcz86_3 : w83.cell? ⟨gb279, 3, none⟩ = some (.slice none 0 0) := (blk_cell BK279.out 3).trans rfl; have hfz86_0 := blk_frozen BK279.out 0; have hfz86_1 := blk_frozen BK279.out 1; have hfz86_2 := blk_frozen BK279.out 2; have hfz86_3 := blk_frozen BK279.out 3; have hcz87_0 : w83.cell? ⟨gb278, 0, none⟩ = some (.int .i64 0) := (blk_cell BK278.out 0).trans rfl; have hcz87_1 : w83.cell? ⟨gb278, 1, none⟩ = some (.slice none 0 0) := (blk_cell BK278.out 1).trans rfl; have hcz87_2 : w83.cell? ⟨gb278, 2, none⟩ = some (.slice none 0 0) := (blk_cell BK278.out 2).trans rfl; have hcz87_3 : w83.cell? ⟨gb278, 3, none⟩ = some (.slice none 0 0) := (blk_cell BK278.out 3).trans rfl; have hfz87_0 := blk_frozen BK278.out 0; have hfz87_1 := blk_frozen BK278.out 1; have hfz87_2 := blk_frozen BK278.out 2; have hfz87_3 := blk_frozen BK278.out 3; obtain ⟨Ao88, co88, eo88⟩ := Kd.R_slice HO_280001.out; subst eo88))
  refine bodyPost_ret (results_ctt rfl _ _ gb278 37 #[.int .i64 x280000_2, .slice Ao88 x280001_33.length co88, .slice Ao84 t298.length co84, .slice none 0 0] (0, 0) _ rfl (by (with_reducible repeat (first | refine blk_drewN ?_ _ | refine blk_drew ?_ | refine blk_alloc ?_ _)); refine blk_put (cs := #[.int .i64 x280000_2, .slice Ao88 x280001_33.length co88, .slice Ao84 t298.length co84, .slice none 0 0]) ?_ 3 _ rfl; (with_reducible repeat (first | refine blk_drewN ?_ _ | refine blk_drew ?_ | refine blk_alloc ?_ _)); refine blk_put (cs := #[.int .i64 x280000_2, .slice Ao88 x280001_33.length co88, .slice none 0 0, .slice none 0 0]) ?_ 2 _ rfl; (with_reducible repeat (first | refine blk_drewN ?_ _ | refine blk_drew ?_ | refine blk_alloc ?_ _)); refine blk_put (cs := #[.int .i64 x280000_2, .slice none 0 0, .slice none 0 0, .slice none 0 0]) ?_ 1 _ rfl; (with_reducible repeat (first | refine blk_drewN ?_ _ | refine blk_drew ?_ | refine blk_alloc ?_ _)); refine blk_put (cs := #[.int .i64 0, .slice none 0 0, .slice none 0 0, .slice none 0 0]) ?_ 0 _ rfl; (with_reducible repeat (first | refine blk_drewN ?_ _ | refine blk_drew ?_ | refine blk_alloc ?_ _)); refine blk_far ?_ NB278_279.out _; (with_reducible repeat (first | refine blk_drewN ?_ _ | refine blk_drew ?_ | refine blk_alloc ?_ _)); exact BK278.out) Tryd.underlying37 rfl (by kernel_rfl)) rfl ?_
  exact ⟨_, _, _, by first | rfl | (simp [errW_none, errW_some] <;> rfl) | (simp [*, errW_none, errW_some] <;> rfl), by (with_reducible repeat (first | apply Kd.R_alloc | apply Kd.R_drewN | apply Kd.R_drew)); exact Kd.R_mono (Kd.R_far (p := ⟨gb278, 3, none⟩) (Kd.R_far (p := ⟨gb278, 2, none⟩) (Kd.R_far (p := ⟨gb278, 1, none⟩) (Kd.R_far (p := ⟨gb278, 0, none⟩) (Kd.R_far (p := ⟨gb279, 2, none⟩) (Kd.R_types (Kd.R_types HO_280001.out BK279.out (by decide)) BK278.out (by decide)) (fun _ hk => hk.1.2) (.slice Ao84 t298.length co84)) (fun _ hk => hk.2) (.int .i64 x280000_2)) (fun _ hk => hk.2) (.slice Ao88 x280001_33.length co88)) (fun _ hk => hk.2) (.slice Ao84 t298.length co84)) (fun _ hk => hk.2) (.slice none 0 0)) (fun _ hk => hk.1.1.2), by (with_reducible repeat (first | apply Kd.R_alloc | apply Kd.R_drewN | apply Kd.R_drew)); exact Kd.R_mono (Kd.R_far (p := ⟨gb278, 3, none⟩) (Kd.R_far (p := ⟨gb278, 2, none⟩) (Kd.R_far (p := ⟨gb278, 1, none⟩) (Kd.R_far (p := ⟨gb278, 0, none⟩) (Kd.R_far (p := ⟨gb279, 2, none⟩) (Kd.R_types (Kd.R_types HO301.out BK279.out (by decide)) BK278.out (by decide)) (fun _ hk => hk.1.2) (.slice Ao84 t298.length co84)) (fun _ hk => hk.2) (.int .i64 x280000_2)) (fun _ hk => hk.2) (.slice Ao88 x280001_33.length co88)) (fun _ hk => hk.2) (.slice Ao84 t298.length co84)) (fun _ hk => hk.2) (.slice none 0 0)) (fun _ hk => hk.1.1.2), by first | exact Kd.S_nil _ _ _ _ _ | exact Kd.N_nil _ _ _ _ _ | exact Kd.V_nil _ _ _ _ _ | exact Kd.Q_nil _ _ _ _ _ | exact Kd.R_nil _ _ _ _ _, by repeat (first | (with_reducible first | exact HB.out | apply below_alloc | apply pw_below_drewN | apply below_drew1 | refine below_set ?_ GE278.out | refine below_set ?_ GE279.out) | exact HB.out)⟩
end Go.Proofs.YtgkjoodlcojkkaaDoor.QD
end
section
namespace Go.Proofs.YtgkjoodlcojkkaaDoor.QD
open Go.RowKit Go.Proofs.YtgkjoodlcojkkaaDoorW.PrintWords Go.Proofs.YtgkjoodlcojkkaaDoorW.PrintLast Go.Proofs.YtgkjoodlcojkkaaDoorW.PrintMore
attribute [local go_sem] max2_int min2_int max_two min_two max_three min_three max_four min_four
set_option linter.unusedVariables false
set_option linter.unusedSimpArgs false
def text_line.f (l0 : List (S81)) (a1 : Int) (a2 : Int) : Option (Int) := if a1 ≥ (l0.length : Int) then (some a2) else (if 0 ≤ a1 then (if a1 < (l0.length : Int) then (some ((rd_T81 l0 a1).f0)) else (none)) else (none))
set_option maxHeartbeats 8000000 in
set_option maxRecDepth 100000 in
theorem text_line.calls (A0 : Option Addr) (c0 : Nat) (l0 : List (S81)) (a1 : Int) (a2 : Int) (r : Int) (w : World) (hr0 : Kd.C k81 w A0 l0.length l0) (hc0 : l0.length ≤ c0) (h : text_line.f l0 a1 a2 = some r) :
    Calls Tryd.prog 41 #[.slice A0 l0.length c0, .int .i64 a1, .int .i64 a2] w fun e w' => e = .returned (.int .i64 r) ∧ Drawn0 w w' := by
  have HR0 := Aside0.mk hr0
  have HC0 := Aside0.mk hc0
  clear hr0 hc0
  have H : (if a1 ≥ (l0.length : Int) then (some a2) else (if 0 ≤ a1 then (if a1 < (l0.length : Int) then (some ((rd_T81 l0 a1).f0)) else (none)) else (none))) = some r := h
  clear h
  by_cases c4 : a1 ≥ (l0.length : Int)
  · rw [if_pos c4] at H
    have c4b0 : decide ((l0.length : Int) ≤ a1) = true := decide_eq_true c4
    clear c4
    obtain rfl := Option.some.inj H
    go_enter Tryd.func41, Tryd.ntmps41
    go_wp2
    go_ret
    exact ⟨by first | rfl | (simp; done) | (simp [*]; done), by repeat (first | exact Drawn0.refl _ | apply Drawn0.step)⟩
  rw [if_neg c4] at H
  have c4b0 : decide ((l0.length : Int) ≤ a1) = false := decide_eq_false c4
  clear c4
  by_cases c5 : 0 ≤ a1
  rotate_left
  · rw [if_neg c5] at H
    exact absurd H (by simp)
  rw [if_pos c5] at H
  have c5b0 : decide (0 ≤ a1) = true := decide_eq_true c5
  clear c5
  by_cases c6 : a1 < (l0.length : Int)
  rotate_left
  · rw [if_neg c6] at H
    exact absurd H (by simp)
  rw [if_pos c6] at H
  have c6b0 : decide (a1 < (l0.length : Int)) = true := decide_eq_true c6
  clear c6
  obtain rfl := Option.some.inj H
  have p302 : 0 ≤ (a1 : Int) := of_decide_eq_true (by first | (with_reducible assumption) | assumption)
  have q302 : a1 < (l0.length : Int) := of_decide_eq_true (by first | (with_reducible assumption) | assumption)
  obtain ⟨ad302, A302_1, c302_1, e302, hx302_0, hx302_1, hl302_1, hi302_1⟩ := at_T81 HR0.out a1 p302 q302
  cases e302
  have HR302_1 := Aside0.mk hi302_1
  have HC302_1 := Aside0.mk hl302_1
  clear hi302_1 hl302_1
  replace p302 := eq_true p302
  replace q302 := eq_true q302
  go_enter Tryd.func41, Tryd.ntmps41
  go_wp2
  go_ret
  exact ⟨by first | rfl | (simp; done) | (simp [*]; done), by repeat (first | exact Drawn0.refl _ | apply Drawn0.step)⟩
end Go.Proofs.YtgkjoodlcojkkaaDoor.QD
end
section
namespace Go.Proofs.YtgkjoodlcojkkaaDoor.Y
open Go.RowKit Go.Proofs.YtgkjoodlcojkkaaDoorW.PrintWords Go.Proofs.YtgkjoodlcojkkaaDoorW.PrintLast Go.Proofs.YtgkjoodlcojkkaaDoorW.PrintMore Go.Proofs.YtgkjoodlcojkkaaDoor.QD
set_option linter.unusedVariables false
set_option linter.unusedSimpArgs false
def numbersS : List Bs → Option (List Int)
  | [] => some []
  | w :: ws => if (numS w).2 = true then (numbersS ws).map ((numS w).1 :: ·) else none
def nR : Option (List Int) → List Int × Bool
  | some l => (l, true)
  | none => ([], false)
theorem numbersS_cons (w : Bs) (ws : List Bs) : numbersS (w :: ws) = if (numS w).2 = true then (numbersS ws).map ((numS w).1 :: ·) else none := rfl
theorem numbers_loop (ps : List Bs) (hs : ∀ p ∈ ps, p.length ≤ 281474976710656) (hl : ps.length < 17592186044416) : ∀ (n : Nat) (out : List Int) (i k : Nat), i + n = ps.length → n < k → out.length ≤ i →
    text_numbers.l0 k out (ps.map B) (ps.length : Int) (i : Int) = some (match numbersS (ps.drop i) with | some l => (out ++ l, true) | none => ([], false))
  | n, out, i, 0, hn, hk, ho => by omega
  | 0, out, i, k + 1, hn, hk, ho => by
    unfold text_numbers.l0
    rw [if_neg (by omega), List.drop_eq_nil_of_le (by omega)]
    simp [numbersS]
  | n + 1, out, i, k + 1, hn, hk, ho => by
    unfold text_numbers.l0
    have hi : i < ps.length := by omega
    have e0 : ps.getD i [] = ps[i] := by simp [hi]
    rw [if_pos (by omega), if_pos (by omega), List.length_map, if_pos (by omega), rdOf_B, e0, words_Num_eq _ (hs _ (List.getElem_mem hi)), Option.bind_some, w64s i (by omega), List.drop_eq_getElem_cons hi, numbersS_cons]
    by_cases h : (numS ps[i]).2 = true
    · rw [if_pos h, if_pos h, if_pos (by omega), numbers_loop ps hs hl n _ (i + 1) k (by omega) (by omega) (by simp; omega)]
      cases numbersS (ps.drop (i + 1)) <;> simp
    · rw [if_neg h, if_neg h]
theorem numbers_eq (ps : List Bs) (hs : ∀ p ∈ ps, p.length ≤ 281474976710656) (hl : ps.length < 17592186044416) (k : Nat) (hk : ps.length < k) : text_numbers.f k (ps.map B) = some (nR (numbersS ps)) := by
  unfold text_numbers.f
  rw [List.length_map]
  have := numbers_loop ps hs hl ps.length [] 0 k (by omega) hk (Nat.zero_le _)
  rw [List.drop_zero] at this
  refine Eq.trans this ?_
  cases numbersS ps <;> simp [nR]
def rowsS : Nat → List Bs → List (Nat × List Bs)
  | _, [] => []
  | i, s :: ss => if wordsL s = [] then rowsS (i + 1) ss else (i, wordsL s) :: rowsS (i + 1) ss
def R81 (r : Nat × List Bs) : S81 := ⟨((r.1 : Nat) : Int), r.2.map B⟩
theorem rowsS_cons (i : Nat) (s : Bs) (ss : List Bs) : rowsS i (s :: ss) = if wordsL s = [] then rowsS (i + 1) ss else (i, wordsL s) :: rowsS (i + 1) ss := rfl
theorem rowsS_len : ∀ (l : List Bs) (i : Nat), (rowsS i l).length ≤ l.length
  | [], i => by simp [rowsS]
  | s :: ss, i => by
    rw [rowsS_cons]
    have := rowsS_len ss (i + 1)
    split
    · simp; omega
    · simp; omega
theorem rows_loop (ps : List Bs) (m : Nat) (hs : ∀ p ∈ ps, p.length ≤ m) (hm : m < 4294967281) (hl : ps.length < 4398046511104) : ∀ (n : Nat) (out : List (Nat × List Bs)) (i k : Nat), i + n = ps.length → n + m + 1 < k → out.length ≤ i →
    text_rows.l0 k (out.map R81) (ps.map B) (ps.length : Int) (i : Int) = some ((out ++ rowsS i (ps.drop i)).map R81)
  | n, out, i, 0, hn, hk, ho => by omega
  | 0, out, i, k + 1, hn, hk, ho => by
    unfold text_rows.l0
    rw [if_neg (by omega), List.drop_eq_nil_of_le (by omega)]
    simp [rowsS]
  | n + 1, out, i, k + 1, hn, hk, ho => by
    unfold text_rows.l0
    have hi : i < ps.length := by omega
    have e0 : ps.getD i [] = ps[i] := by simp [hi]
    have hp := hs _ (List.getElem_mem hi)
    rw [if_pos (by omega), if_pos (by omega), List.length_map, if_pos (by omega), rdOf_B, e0, words_Words_eq _ (by omega) k (by omega), Option.bind_some, w64s i (by omega), List.drop_eq_getElem_cons hi, rowsS_cons, List.length_map]
    by_cases h : wordsL ps[i] = []
    · rw [if_pos (by rw [h]; rfl), if_pos h, rows_loop ps m hs hm hl n out (i + 1) k (by omega) (by omega) (by omega)]
    · have hlen : (wordsL ps[i]).length ≠ 0 := fun e => h (List.length_eq_zero_iff.1 e)
      rw [if_neg (by omega), if_neg h, List.length_map, if_pos (by omega)]
      have := rows_loop ps m hs hm hl n (out ++ [(i, wordsL ps[i])]) (i + 1) k (by omega) (by omega) (by simp; omega)
      rw [List.map_append] at this
      rw [show List.map R81 [(i, wordsL ps[i])] = [(⟨(i : Int), (wordsL ps[i]).map B⟩ : S81)] from rfl] at this
      rw [this, List.append_assoc]
      rfl
theorem rows_eq (ps : List Bs) (m : Nat) (hs : ∀ p ∈ ps, p.length ≤ m) (hm : m < 4294967281) (hl : ps.length < 4398046511104) (k : Nat) (hk : ps.length + m + 1 < k) : text_rows.f k (ps.map B) = some ((rowsS 0 ps).map R81) := by
  unfold text_rows.f
  rw [List.length_map]
  have := rows_loop ps m hs hm hl ps.length [] 0 k (by omega) hk (Nat.zero_le _)
  simpa using this
def fairB : Bs := [102, 97, 105, 114]
def agentB : Bs := [97, 103, 101, 110, 116]
def tokenB : Bs := [116, 111, 107, 101, 110]
def protocolB : Bs := [112, 114, 111, 116, 111, 99, 111, 108]
def coresB : Bs := [99, 111, 114, 101, 115]
def homesB : Bs := [104, 111, 109, 101, 115]
def taskB : Bs := [116, 97, 115, 107]
def pWord (w : Bs) : Int := if w = tokenB then 3 else if w = agentB then 2 else if w = fairB then 1 else 0
theorem rd_R81 (rs : List (Nat × List Bs)) (i : Nat) : rd_T81 (rs.map R81) (i : Int) = R81 (rs.getD i (0, [])) := by
  unfold rd_T81
  simp only [Int.toNat_natCast, List.getD_eq_getElem?_getD, List.getElem?_map]
  cases rs[i]? <;> rfl
theorem rd_R81_0 (rs : List (Nat × List Bs)) : rd_T81 (rs.map R81) 0 = R81 (rs.getD 0 (0, [])) := rd_R81 rs 0
theorem rd_R81_1 (rs : List (Nat × List Bs)) : rd_T81 (rs.map R81) 1 = R81 (rs.getD 1 (0, [])) := rd_R81 rs 1
theorem rd_R81_2 (rs : List (Nat × List Bs)) : rd_T81 (rs.map R81) 2 = R81 (rs.getD 2 (0, [])) := rd_R81 rs 2
theorem rdw (ws : List Bs) (i : Nat) : (rdOf ByteArray.empty (ws.map B) (i : Int)).toList = ws.getD i [] := by rw [rdOf_B, toList_B]
theorem rdw0 (ws : List Bs) : (rdOf ByteArray.empty (ws.map B) 0).toList = ws.getD 0 [] := rdw ws 0
theorem rdw1 (ws : List Bs) : (rdOf ByteArray.empty (ws.map B) 1).toList = ws.getD 1 [] := rdw ws 1
theorem R81_f1 (r : Nat × List Bs) : (R81 r).f1 = r.2.map B := rfl
theorem R81_f0 (r : Nat × List Bs) : (R81 r).f0 = ((r.1 : Nat) : Int) := rfl
theorem line_eq (rs : List (Nat × List Bs)) (n : Nat) (all : Int) : text_line.f (rs.map R81) (n : Int) all = some (if n < rs.length then (((rs.getD n (0, [])).1 : Nat) : Int) else all) := by
  unfold text_line.f
  rw [List.length_map]
  by_cases h : n < rs.length
  · rw [if_neg (by omega), if_pos (by omega), if_pos (by omega), rd_R81, if_pos h]; rfl
  · rw [if_pos (by omega), if_neg h]
def headT (rs : List (Nat × List Bs)) (p : Int) : Int × List Int × List Int × Nat × Bool :=
  match rs with
  | [] => (p, [], [], 1, false)
  | [_] => (p, [], [], 1, false)
  | _ :: r1 :: rest =>
    if r1.2.getD 0 [] = coresB then
      match numbersS (r1.2.drop 1) with
      | none => (p, [], [], 1, false)
      | some [] => (p, [], [], 1, false)
      | some (c :: cs) => match rest with
        | [] => (p, c :: cs, [], 2, true)
        | r2 :: _ => if r2.2.getD 0 [] = homesB then
            match numbersS (r2.2.drop 1) with
            | none => (p, c :: cs, [], 2, false)
            | some [] => (p, c :: cs, [], 2, false)
            | some (h :: hs) => (p, c :: cs, h :: hs, 3, true)
          else (p, c :: cs, [], 2, true)
    else (p, [], [], 1, false)
def headS (rs : List (Nat × List Bs)) : Int × List Int × List Int × Nat × Bool :=
  match rs with
  | [] => (0, [], [], 0, false)
  | r0 :: rest =>
    if r0.2.getD 0 [] = protocolB then
      if r0.2.length = 2 then
        if pWord (r0.2.getD 1 []) = 0 then (0, [], [], 0, false) else headT (r0 :: rest) (pWord (r0.2.getD 1 []))
      else (0, [], [], 0, false)
    else (0, [], [], 0, false)
def hR (x : Int × List Int × List Int × Nat × Bool) : Int × List Int × List Int × List S53 × Int × Bool := (x.1, x.2.1, x.2.2.1, [], ((x.2.2.2.1 : Nat) : Int), x.2.2.2.2)
theorem head_step (rs : List (Nat × List Bs)) (h0 : 0 < rs.length) (h1 : 1 < (rs.getD 0 (0, [])).2.length) (n : Int) (hn : n ≤ 3) (b : Bs) (hb : text_protocol.f n = some (B b)) (p : Int) (k : Nat) :
    text_head.l0 (k + 1) (rs.map R81) n p = text_head.l0 k (rs.map R81) (wrap64 (n + 1)) (if (rs.getD 0 (0, [])).2.getD 1 [] = b then n else p) := by
  rw [text_head.l0]
  rw [if_pos hn, List.length_map, if_pos (by omega), rd_R81_0, R81_f1, List.length_map, if_pos (by omega), hb, Option.bind_some, rdw1, toList_B]
  by_cases h : (rs.getD 0 (0, [])).2.getD 1 [] = b
  · rw [if_pos h, if_pos h]
  · rw [if_neg h, if_neg h]
theorem head_j3 (rs : List (Nat × List Bs)) (h2 : 1 < rs.length) (hne : ∀ r ∈ rs, r.2 ≠ []) (hs : ∀ r ∈ rs, ∀ p ∈ r.2, p.length ≤ 281474976710656) (m : Nat) (hl : ∀ r ∈ rs, r.2.length ≤ m) (hm : m < 17592186044416) (p : Int) (c : List Int) (ok : Bool) (k : Nat) (hk : m + 4 < k) :
    text_head.j3 k (rs.map R81) ok p c = some (hR (if ok = true ∧ c ≠ [] then
      (match rs.drop 2 with
        | [] => (p, c, [], 2, true)
        | r2 :: _ => if r2.2.getD 0 [] = homesB then
            match numbersS (r2.2.drop 1) with
            | none => (p, c, [], 2, false)
            | some [] => (p, c, [], 2, false)
            | some (h :: hs) => (p, c, h :: hs, 3, true)
          else (p, c, [], 2, true)) else (p, c, [], 1, false))) := by
  obtain ⟨k, rfl⟩ : ∃ j, k = j + 3 := ⟨k - 3, by omega⟩
  have hbad : text_head.j4 (k + 2) (rs.map R81) true p c = some (hR (p, c, [], 1, false)) := by
    rw [text_head.j4]; rw [if_pos rfl]; rfl
  rw [text_head.j3]
  by_cases h1 : ok = true
  · rw [if_pos h1]
    by_cases hc : c = []
    · rw [if_neg (fun h => h.2 hc), hc]
      rw [hc] at hbad
      exact hbad
    · rw [if_pos ⟨h1, hc⟩]
      have hcl : ((c.length : Int) == 0) = false := by
        have : c.length ≠ 0 := fun e => hc (List.length_eq_zero_iff.1 e)
        rw [beq_eq_false_iff_ne]; omega
      rw [hcl]
      rw [text_head.j4]
      rw [if_neg Bool.false_ne_true, List.length_map]
      have htrue : text_head.j5 (k + 1) (rs.map R81) true p c = some (hR (p, c, [], 2, true)) := by
        rw [text_head.j5]; rw [if_pos rfl]; rfl
      by_cases h3 : (rs.length : Int) = 2
      · rw [if_pos h3, htrue, List.drop_eq_nil_of_le (by omega)]
      · have hi : 2 < rs.length := by omega
        have e2 : rs.getD 2 (0, []) = rs[2] := by simp [hi]
        have hw : 0 < rs[2].2.length := List.length_pos_iff.2 (hne _ (List.getElem_mem hi))
        rw [if_neg h3, if_pos (by omega), rd_R81_2, e2, R81_f1, List.length_map, if_pos (by omega), rdw0, List.drop_eq_getElem_cons hi]
        by_cases hh : rs[2].2.getD 0 [] = homesB
        · have hb : (rs[2].2.getD 0 [] != ([104, 111, 109, 101, 115] : List UInt8)) = false := by rw [bne_eq_false_iff_eq]; exact hh
          rw [hb]
          rw [text_head.j5]
          rw [if_neg Bool.false_ne_true, List.length_map, if_pos (by omega), rd_R81_2, e2, R81_f1, List.length_map, if_pos (by omega), ← List.map_drop,
            numbers_eq _ (fun q hq => hs _ (List.getElem_mem hi) q (List.drop_subset _ _ hq)) (by have := hl _ (List.getElem_mem hi); rw [List.length_drop]; omega) k (by have := hl _ (List.getElem_mem hi); rw [List.length_drop]; omega), Option.bind_some]
          simp only [if_pos hh]
          rcases numbersS (rs[2].2.drop 1) with _ | _ | ⟨h, hs⟩
          · rfl
          · rfl
          · rfl
        · have hb : (rs[2].2.getD 0 [] != ([104, 111, 109, 101, 115] : List UInt8)) = true := by rw [bne_iff_ne]; exact hh
          rw [hb, htrue]
          simp only [if_neg hh]
  · rw [if_neg h1, if_neg (fun h => h1 h.1)]
    exact hbad
set_option maxRecDepth 10000 in
theorem head_eq (rs : List (Nat × List Bs)) (hne : ∀ r ∈ rs, r.2 ≠ []) (hs : ∀ r ∈ rs, ∀ p ∈ r.2, p.length ≤ 281474976710656) (m : Nat) (hl : ∀ r ∈ rs, r.2.length ≤ m) (hm : m < 17592186044416) (k : Nat) (hk : m + 20 < k) :
    text_head.f k (rs.map R81) = some (hR (headS rs)) := by
  obtain ⟨k, rfl⟩ : ∃ j, k = j + 6 := ⟨k - 6, by omega⟩
  have hbad : text_head.j0 (k + 6) (rs.map R81) true 0 = some (hR (0, [], [], 0, false)) := by
    rw [text_head.j0]; rw [if_pos rfl]; rfl
  unfold text_head.f
  rw [List.length_map]
  cases hrs : rs with
  | nil => rw [hrs] at hbad; rw [if_pos (by simp)]; exact hbad
  | cons r0 rest =>
    have hr0 : rs.getD 0 (0, []) = r0 := by rw [hrs]; rfl
    have hlen : 0 < rs.length := by rw [hrs]; simp
    rw [← hrs]
    have hsp : headS rs = if r0.2.getD 0 [] = protocolB then
      if r0.2.length = 2 then
        if pWord (r0.2.getD 1 []) = 0 then (0, [], [], 0, false) else headT rs (pWord (r0.2.getD 1 []))
      else (0, [], [], 0, false)
    else (0, [], [], 0, false) := by rw [hrs]; rfl
    have hw : 0 < r0.2.length := List.length_pos_iff.2 (hne _ (by rw [hrs]; simp))
    rw [if_neg (by omega), if_pos (by omega), rd_R81_0, hr0, R81_f1, List.length_map, if_pos (by omega), rdw0, hsp]
    by_cases h1 : r0.2.getD 0 [] = protocolB
    · have h1L : r0.2.getD 0 [] = ([112, 114, 111, 116, 111, 99, 111, 108] : List UInt8) := h1
      rw [if_pos h1L, if_pos h1]
      by_cases h2 : r0.2.length = 2
      · have hb : ((r0.2.length : Int) != 2) = false := by rw [bne_eq_false_iff_eq]; omega
        rw [if_pos h2, hb]
        rw [text_head.j0]
        have hl1 : 1 < (rs.getD 0 (0, [])).2.length := by rw [hr0]; omega
        rw [if_neg Bool.false_ne_true, head_step rs hlen hl1 1 (by decide) fairB rfl 0 (k + 4), show wrap64 (1 + 1) = 2 from by unfold wrap64; omega,
          head_step rs hlen hl1 2 (by decide) agentB rfl _ (k + 3), show wrap64 (2 + 1) = 3 from by unfold wrap64; omega, head_step rs hlen hl1 3 (by decide) tokenB rfl _ (k + 2), show wrap64 (3 + 1) = 4 from by unfold wrap64; omega, hr0]
        have hpw : (if r0.2.getD 1 [] = tokenB then (3 : Int) else if r0.2.getD 1 [] = agentB then 2 else if r0.2.getD 1 [] = fairB then 1 else 0) = pWord (r0.2.getD 1 []) := rfl
        rw [hpw]
        generalize pWord (r0.2.getD 1 []) = p
        rw [text_head.l0]
        rw [if_neg (by decide)]
        by_cases hp : p = 0
        · rw [if_pos hp, if_pos hp, hp]; rfl
        · rw [if_neg hp, if_neg hp, List.length_map]
          by_cases h3 : (rs.length : Int) > 1
          · have hi : 1 < rs.length := by omega
            have e1 : rs.getD 1 (0, []) = rs[1] := by simp [hi]
            have hw1 : 0 < rs[1].2.length := List.length_pos_iff.2 (hne _ (List.getElem_mem hi))
            have hT : headT rs p = if rs[1].2.getD 0 [] = coresB then
                (match numbersS (rs[1].2.drop 1) with
                | none => (p, [], [], 1, false)
                | some [] => (p, [], [], 1, false)
                | some (c :: cs) => match rs.drop 2 with
                  | [] => (p, c :: cs, [], 2, true)
                  | r2 :: _ => if r2.2.getD 0 [] = homesB then
                      match numbersS (r2.2.drop 1) with
                      | none => (p, c :: cs, [], 2, false)
                      | some [] => (p, c :: cs, [], 2, false)
                      | some (h :: hs) => (p, c :: cs, h :: hs, 3, true)
                    else (p, c :: cs, [], 2, true)) else (p, [], [], 1, false) := by
              subst hrs
              cases rest with
              | nil => simp at hi
              | cons r1 rest => rfl
            rw [if_pos h3, if_pos (by omega), rd_R81_1, e1, R81_f1, List.length_map, if_pos (by omega), rdw0, hT]
            rw [text_head.j2]
            by_cases hc : rs[1].2.getD 0 [] = coresB
            · have hb : (rs[1].2.getD 0 [] == ([99, 111, 114, 101, 115] : List UInt8)) = true := by rw [beq_iff_eq]; exact hc
              rw [if_pos hc, hb, if_pos rfl, List.length_map, if_pos (by omega), rd_R81_1, e1, R81_f1, List.length_map, if_pos (by omega), ← List.map_drop,
                numbers_eq _ (fun q hq => hs _ (List.getElem_mem hi) q (List.drop_subset _ _ hq)) (by have := hl _ (List.getElem_mem hi); rw [List.length_drop]; omega) k (by have := hl _ (List.getElem_mem hi); rw [List.length_drop]; omega), Option.bind_some]
              rw [head_j3 rs hi hne hs m hl hm p _ _ k (by omega)]
              rcases numbersS (rs[1].2.drop 1) with _ | _ | ⟨c, cs⟩
              · rfl
              · rfl
              · simp [nR]
            · have hb : (rs[1].2.getD 0 [] == ([99, 111, 114, 101, 115] : List UInt8)) = false := by rw [beq_eq_false_iff_ne]; exact hc
              rw [if_neg hc, hb, if_neg Bool.false_ne_true]
              rw [head_j3 rs hi hne hs m hl hm p _ _ k (by omega)]
              rfl
          · have hT : headT rs p = (p, [], [], 1, false) := by
              subst hrs
              cases rest with
              | nil => rfl
              | cons r1 rest => simp at h3; omega
            rw [if_neg h3, hT]
            rw [text_head.j2]
            rw [if_neg Bool.false_ne_true]
            obtain ⟨k, rfl⟩ : ∃ j, k = j + 2 := ⟨k - 2, by omega⟩
            rw [text_head.j3]
            rw [if_neg Bool.false_ne_true]
            rw [text_head.j4]
            rw [if_pos rfl]
            rfl
      · have hb : ((r0.2.length : Int) != 2) = true := by rw [bne_iff_ne]; omega
        rw [if_neg h2, hb]
        exact hbad
    · have h1L : ¬ r0.2.getD 0 [] = ([112, 114, 111, 116, 111, 99, 111, 108] : List UInt8) := h1
      rw [if_neg h1L, if_neg h1]
      exact hbad
def partOkS (nh : Nat) (p : S50) : Bool := btw p.f0 1 3 && btw p.f1 1 60 && (if p.f0 = 3 then btw p.f2 0 ((nh : Int) - 1) else decide (p.f2 = 0))
def partedS (nh : Nat) (l : List S50) : Bool := l.all (partOkS nh) && btw (l.length : Int) 1 6
theorem between_eq (a b c : Int) : task_between.f a b c = some (btw a b c) := by
  unfold task_between.f btw
  by_cases h : a ≥ b
  · rw [if_pos h]; have h' : b ≤ a := h; simp [h']
  · rw [if_neg h]; have h' : ¬ b ≤ a := h; simp [h']
theorem rd50 (l : List S50) (i : Nat) (h : i < l.length) : rd_T50 l (i : Int) = l[i] := by unfold rd_T50; simp [h]
theorem rd53 (l : List S53) (i : Nat) (h : i < l.length) : rd_T53 l (i : Int) = l[i] := by unfold rd_T53; simp [h]
theorem parted_loop (l : List S50) (hl : l.length < 9223372036854775807) (p : Int) (cs hs : List Int) (hh : hs.length < 9223372036854775807) (ts : List S53) : ∀ (n i k : Nat), i + n = l.length → 3 * n < k →
    task_parted.l0 k l l (l.length : Int) (i : Int) p cs hs ts = some ((l.drop i).all (partOkS hs.length) && btw (l.length : Int) 1 6)
  | n, i, 0, hn, hk => by omega
  | 0, i, k + 1, hn, hk => by
    unfold task_parted.l0
    rw [if_neg (by omega), between_eq, Option.bind_some, List.drop_eq_nil_of_le (by omega)]
    rfl
  | n + 1, i, k + 1, hn, hk => by
    have hi : i < l.length := by omega
    obtain ⟨k, rfl⟩ : ∃ j, k = j + 2 := ⟨k - 2, by omega⟩
    have ih := parted_loop l hl p cs hs hh ts n (i + 1) k (by omega) (by omega)
    unfold task_parted.l0
    rw [if_pos (by omega), if_pos (by omega), if_pos (by omega), rd50 l i hi, between_eq, Option.bind_some, between_eq, Option.bind_some, List.drop_eq_getElem_cons hi, List.all_cons]
    have ew : wrap64 ((hs.length : Int) - 1) = (hs.length : Int) - 1 := w64 (by omega)
    have key : ∀ b : Bool, task_parted.j2 (k + 1) l l (l.length : Int) (i : Int) b p cs hs ts l[i].f0 l[i].f1 l[i].f2 = some ((b || (l[i].f0 != 3 && decide (l[i].f2 = 0))) && ((l.drop (i + 1)).all (partOkS hs.length) && btw (l.length : Int) 1 6)) := by
      intro b
      unfold task_parted.j2
      rw [w64s i (by omega), ih]
      cases b with
      | true => simp
      | false =>
        rw [if_neg Bool.false_ne_true]
        by_cases h3 : l[i].f0 = 3
        · rw [if_pos h3]; simp [h3]
        · rw [if_neg h3]
          by_cases h4 : l[i].f2 = 0
          · rw [if_pos h4]; simp [h3, h4]
          · rw [if_neg h4]; simp [h4]
    have key1 : ∀ b : Bool, task_parted.j1 (k + 2) l l (l.length : Int) (i : Int) b p cs hs ts l[i].f0 l[i].f1 l[i].f2 = some (!b && (if l[i].f0 = 3 then btw l[i].f2 0 ((hs.length : Int) - 1) else decide (l[i].f2 = 0)) && ((l.drop (i + 1)).all (partOkS hs.length) && btw (l.length : Int) 1 6)) := by
      intro b
      unfold task_parted.j1
      cases b with
      | true => simp
      | false =>
        rw [if_neg Bool.false_ne_true]
        by_cases h3 : l[i].f0 = 3
        · rw [if_pos h3, between_eq, Option.bind_some, key, ew, if_pos h3]; simp [h3]
        · have h3b : (l[i].f0 != 3) = true := by rw [bne_iff_ne]; exact h3
          rw [if_neg h3, key, if_neg h3, h3b]; simp
    generalize (List.drop (i + 1) l).all (partOkS hs.length) = R at key1 ⊢
    unfold partOkS
    by_cases b1 : btw l[i].f0 1 3 = true
    · rw [if_pos b1, key1, b1]; simp [Bool.and_assoc]
    · rw [if_neg b1, key1, Bool.eq_false_iff.2 b1]; simp
theorem parted_eq (l : List S50) (hl : l.length < 9223372036854775807) (p : Int) (cs hs : List Int) (hh : hs.length < 9223372036854775807) (ts : List S53) (k : Nat) (hk : 3 * l.length < k) :
    task_parted.f k p cs hs ts l = some (partedS hs.length l) := by
  unfold task_parted.f
  have := parted_loop l hl p cs hs hh ts l.length 0 k (by omega) hk
  simpa [partedS] using this
theorem len_data (s : ByteArray) : s.data.toList.length = s.size := by rw [Array.length_toList]; rfl
def oneS (cs hs : List Int) (ts : List S53) (t : S53) (i : Nat) : Int :=
  if badForm (nameS t.f0.data.toList) t = true then 10
  else if btw t.f4 0 ((cs.length : Int) - 1) = false then 16
  else if ((ts.take i).any fun o => twb o.f0 o.f3 t.f0 t.f3) = true then 17
  else if partedS hs.length t.f5 = true then 0 else 15
theorem one_eq (p : Int) (cs hs : List Int) (ts : List S53) (i : Nat) (hi : i < ts.length) (hc : cs.length ≤ 4611686018427387904) (hh : hs.length < 9223372036854775807) (ht : ts.length ≤ 4611686018427387904) (k : Nat) (hn : ts[i].f0.size < k) (hp : 3 * ts[i].f5.length < k) (hk : k < 9223372036854775807) :
    task_one.f k p cs hs ts (i : Int) = some (oneS cs hs ts ts[i] i) := by
  have hnm : words_Name.f k ts[i].f0 = some (nameS ts[i].f0.data.toList) := by
    have := words_Name_eq ts[i].f0.data.toList (by rw [len_data]; omega) k (by rw [len_data]; omega)
    rwa [B_data] at this
  unfold task_one.f oneS
  rw [if_pos hc, if_pos ht, if_pos (by omega), if_pos (by omega), rd53 ts i hi, hnm, Option.bind_some, Int.toNat_natCast]
  by_cases h1 : badForm (nameS ts[i].f0.data.toList) ts[i] = true
  · rw [if_pos h1, if_pos h1]
  · rw [if_neg h1, if_neg h1]
    by_cases h2 : btw ts[i].f4 0 ((cs.length : Int) - 1) = false
    · rw [if_pos h2, if_pos h2]
    · rw [if_neg h2, if_neg h2]
      by_cases h3 : ((ts.take i).any fun o => twb o.f0 o.f3 ts[i].f0 ts[i].f3) = true
      · rw [if_pos h3, if_pos h3]
      · rw [if_neg h3, if_neg h3, parted_eq _ (by omega) _ _ _ hh _ k hp, Option.bind_some]
        by_cases h4 : partedS hs.length ts[i].f5 = true
        · rw [if_pos h4, if_pos h4]
        · rw [if_neg h4, if_neg h4]
def checkGo (cs hs : List Int) (ts : List S53) : Nat → List S53 → Int × Int
  | _, [] => (-1, 0)
  | i, t :: r => if oneS cs hs ts t i = 0 then checkGo cs hs ts (i + 1) r else ((i : Int), oneS cs hs ts t i)
def checkS (p : Int) (cs hs : List Int) (ts : List S53) : Int × Int :=
  if btw p 1 3 = true then if plB cs hs = true then if ts.length > 6 then (-1, 11) else if ts.length = 0 then (-1, 14) else checkGo cs hs ts 0 ts else (-1, 16) else (-1, 10)
theorem check_loop (p : Int) (cs hs : List Int) (ts : List S53) (hc : cs.length ≤ 4611686018427387904) (hh : hs.length < 9223372036854775807) (ht : ts.length ≤ 4611686018427387904) (m : Nat) (hb : ∀ t ∈ ts, t.f0.size < m ∧ 3 * t.f5.length < m) : ∀ (n i k : Nat), i + n = ts.length → n + m < k → k < 9223372036854775807 →
    task_Check.l0 k (ts.length : Int) (i : Int) p cs hs ts = some (checkGo cs hs ts i (ts.drop i))
  | n, i, 0, hn, hk, _ => by omega
  | 0, i, k + 1, hn, hk, _ => by
    unfold task_Check.l0
    rw [if_neg (by omega), List.drop_eq_nil_of_le (by omega)]
    rfl
  | n + 1, i, k + 1, hn, hk, hk2 => by
    have hi : i < ts.length := by omega
    have := hb _ (List.getElem_mem hi)
    unfold task_Check.l0
    rw [if_pos (by omega), one_eq p cs hs ts i hi hc hh ht k (by omega) (by omega) (by omega), Option.bind_some, w64s i (by omega), check_loop p cs hs ts hc hh ht m hb n (i + 1) k (by omega) (by omega) (by omega), List.drop_eq_getElem_cons hi]
    conv => rhs; unfold checkGo
    by_cases h : oneS cs hs ts ts[i] i = 0
    · rw [if_pos h, if_pos h]
    · rw [if_neg h, if_neg h]
theorem check_eq (p : Int) (cs hs : List Int) (ts : List S53) (m : Nat) (hb : ∀ t ∈ ts, t.f0.size < m ∧ 3 * t.f5.length < m) (k : Nat) (hk : m + 10 < k) (hk2 : k < 9223372036854775807) :
    task_Check.f k p cs hs ts = some (checkS p cs hs ts) := by
  unfold task_Check.f checkS
  rw [between_eq, Option.bind_some]
  by_cases h1 : btw p 1 3 = true
  · rw [if_pos h1, if_pos h1]
    unfold task_placed.f
    rw [Option.bind_some]
    by_cases h2 : plB cs hs = true
    · rw [if_pos h2, if_pos h2]
      by_cases h3 : ts.length > 6
      · rw [if_pos (by omega), if_pos h3]
      · rw [if_neg (by omega), if_neg h3]
        by_cases h4 : ts.length = 0
        · rw [if_pos (by omega), if_pos h4]
        · rw [if_neg (by omega), if_neg h4]
          have hp := h2
          unfold plB btw at hp
          simp only [Bool.and_eq_true, decide_eq_true_eq] at hp
          have := check_loop p cs hs ts (by omega) (by omega) (by omega) m hb ts.length 0 k (by omega) (by omega) hk2
          simpa using this
    · rw [if_neg h2, if_neg h2]
  · rw [if_neg h1, if_neg h1]
def numsS : List Int → Bs
  | [] => []
  | n :: ns => 32 :: textS n ++ numsS ns
theorem textS_len (n : Int) : (textS n).length ≤ 10 := by
  unfold textS
  split
  · simp
  · split
    · simp
    · rename_i h1 h2
      have h := nDig_le 7 n.toNat (by omega)
      rw [Lib.decDigits_length]
      omega
theorem nums_loop (l : List Int) (hl : l.length < 1000000000) : ∀ (n : Nat) (out : Bs) (i k : Nat), i + n = l.length → n < k → out.length ≤ 11 * i →
    text_nums.l0 k (B out) l (l.length : Int) (i : Int) = some (B (out ++ numsS (l.drop i)))
  | n, out, i, 0, hn, hk, ho => by omega
  | 0, out, i, k + 1, hn, hk, ho => by
    unfold text_nums.l0
    rw [if_neg (by omega), List.drop_eq_nil_of_le (by omega)]
    simp [numsS]
  | n + 1, out, i, k + 1, hn, hk, ho => by
    unfold text_nums.l0
    have hi : i < l.length := by omega
    have e0 : rd l (i : Int) = l[i] := by simp [rd, hi]
    have ht := textS_len l[i]
    rw [if_pos (by omega), if_pos (by omega), if_pos (by omega), e0, words_Text_eq, Option.bind_some, show (⟨#[32]⟩ : ByteArray) = B [32] from rfl, append_B, size_B, size_B, size_B, if_pos (by omega), if_pos (by simp; omega), append_B, w64s i (by omega),
      nums_loop l hl n _ (i + 1) k (by omega) (by omega) (by simp; omega), List.drop_eq_getElem_cons hi]
    simp [numsS]
theorem nums_eq (l : List Int) (hl : l.length < 1000000000) (k : Nat) (hk : l.length < k) : text_nums.f k l = some (B (numsS l)) := by
  unfold text_nums.f
  have := nums_loop l hl l.length [] 0 k (by omega) hk (Nat.zero_le _)
  rw [List.drop_zero, List.nil_append] at this
  exact this
end Go.Proofs.YtgkjoodlcojkkaaDoor.Y
end
section
namespace Go.Proofs.YtgkjoodlcojkkaaDoor.Y
open Go.RowKit Go.Proofs.YtgkjoodlcojkkaaDoorW.PrintWords Go.Proofs.YtgkjoodlcojkkaaDoorW.PrintLast Go.Proofs.YtgkjoodlcojkkaaDoorW.PrintMore Go.Proofs.YtgkjoodlcojkkaaDoor.QD
set_option linter.unusedVariables false
set_option linter.unusedSimpArgs false
theorem splitL_cons (c x : UInt8) (xs : Bs) : splitL c (x :: xs) = if x = c then [] :: splitL c xs else match splitL c xs with
    | [] => [[x]]
    | p :: ps => (x :: p) :: ps := rfl
theorem splitL_app (c : UInt8) : ∀ (a b : Bs), splitL c (a ++ c :: b) = splitL c a ++ splitL c b
  | [], b => by rw [List.nil_append, splitL_cons, if_pos rfl]; rfl
  | x :: xs, b => by
    have ih := splitL_app c xs b
    rw [List.cons_append, splitL_cons, splitL_cons, ih]
    by_cases h : x = c
    · rw [if_pos h, if_pos h]; rfl
    · rw [if_neg h, if_neg h]
      have hne := splitL_ne c xs
      generalize splitL c xs = ps at hne ⊢
      cases ps with
      | nil => exact absurd rfl hne
      | cons p ps => rfl
def wordsW (l : Bs) : List Bs := (splitL 32 l).filter ne
theorem wordsW_app (a b : Bs) : wordsW (a ++ 32 :: b) = wordsW a ++ wordsW b := by unfold wordsW; rw [splitL_app, List.filter_append]
theorem wordsW_one {w : Bs} (h : w ≠ []) (h32 : 32 ∉ w) : wordsW w = [w] := by
  unfold wordsW
  rw [splitL_no 32 h32]
  cases w with
  | nil => exact absurd rfl h
  | cons x xs => rfl
theorem wordsL_of {l : Bs} (h : 35 ∉ l) : wordsL l = wordsW l := by unfold wordsL wordsW upto; rw [takeWhile_none 35 h]
end Go.Proofs.YtgkjoodlcojkkaaDoor.Y
end
section
namespace Go.Proofs.YtgkjoodlcojkkaaDoor.Y
open Go.RowKit Go.Proofs.YtgkjoodlcojkkaaDoorW.PrintWords Go.Proofs.YtgkjoodlcojkkaaDoorW.PrintLast Go.Proofs.YtgkjoodlcojkkaaDoorW.PrintMore Go.Proofs.YtgkjoodlcojkkaaDoor.QD
set_option linter.unusedVariables false
set_option linter.unusedSimpArgs false
def runB : Bs := [114, 117, 110]
def sleepB : Bs := [115, 108, 101, 101, 112]
def lockW : Bs := [108, 111, 99, 107]
def lockB : Bs := [108, 111, 99, 107, 58]
def nestB (w : Bs) : Bool := Lib.hasPrefix w lockB && Lib.contains (w.drop 5) lockB
def partOf (hd : Bs) (n : List Int) : S50 × Int :=
  if hd = runB ∧ n.length = 1 then (⟨1, n.getD 0 0, 0⟩, 0)
  else if hd = sleepB ∧ n.length = 1 then (⟨2, n.getD 0 0, 0⟩, 0)
  else if hd = lockW ∧ n.length = 2 then (⟨3, n.getD 1 0, n.getD 0 0⟩, 0)
  else (z50, 10)
def readsS (w : Bs) : S50 × Int :=
  if nestB w = true then (z50, 18)
  else match numbersS ((splitL 58 w).drop 1) with
    | none => (z50, 10)
    | some n => partOf ((splitL 58 w).getD 0 []) n
def partsS : List Bs → Option (List S50)
  | [] => some []
  | w :: ws => if (readsS w).2 = 0 then (partsS ws).map ((readsS w).1 :: ·) else none
def badS (w : List Bs) : Int := if (w.drop 1).any nestB = true then 18 else 10
def taskedS (w : List Bs) : S53 × Int :=
  if w.length < 6 then (z53, badS w)
  else match numbersS ((w.take 6).drop 2) with
    | none => (z53, badS w)
    | some n => match partsS (w.drop 6) with
      | none => (z53, badS w)
      | some ps => (⟨B (w.getD 1 []), n.getD 0 0, n.getD 1 0, n.getD 2 0, n.getD 3 0, ps⟩, 0)
def tasksS : List (Nat × List Bs) → List S53 × Nat × Int
  | [] => ([], 0, 0)
  | r :: rs => if r.2.getD 0 [] = taskB then
      if (taskedS r.2).2 = 0 then ((taskedS r.2).1 :: (tasksS rs).1, (tasksS rs).2) else ([], r.1, (taskedS r.2).2)
    else ([], r.1, 10)
abbrev PR := Int × List Int × List Int × List S53 × Int × Int
def bad (n : Nat) (e : Int) : PR := (0, [], [], [], (n : Int), e)
def finS (rs : List (Nat × List Bs)) (all : Nat) (p : Int) (cs hs : List Int) (first : Nat) (ts : List S53) : PR :=
  if (checkS p cs hs ts).2 = 0 then (p, cs, hs, ts, (all : Int), 0)
  else if 0 ≤ (checkS p cs hs ts).1 then bad (rs.getD (first + (checkS p cs hs ts).1.toNat) (0, [])).1 (checkS p cs hs ts).2
  else if (checkS p cs hs ts).2 = 14 ∨ (checkS p cs hs ts).2 = 11 then bad all (checkS p cs hs ts).2
  else bad (rs.getD 1 (0, [])).1 (checkS p cs hs ts).2
def parseR (rs : List (Nat × List Bs)) (all : Nat) : PR :=
  if (headS rs).2.2.2.2 = true then
    if (tasksS (rs.drop (headS rs).2.2.2.1)).2.2 = 0 then finS rs all (headS rs).1 (headS rs).2.1 (headS rs).2.2.1 (headS rs).2.2.2.1 (tasksS (rs.drop (headS rs).2.2.2.1)).1
    else bad (tasksS (rs.drop (headS rs).2.2.2.1)).2.1 (tasksS (rs.drop (headS rs).2.2.2.1)).2.2
  else bad (if (headS rs).2.2.2.1 < rs.length then (rs.getD (headS rs).2.2.2.1 (0, [])).1 else all) 10
def parseS (l : Bs) : PR := if l.length > 2000 then bad 0 11 else parseR (rowsS 0 (cutL 10 l)) (cutL 10 l).length
def protoW (p : Int) : Bs := if p = 1 then fairB else if p = 2 then agentB else tokenB
def partW (p : S50) : Bs := if p.f0 = 1 then runB ++ 58 :: textS p.f1 else if p.f0 = 2 then sleepB ++ 58 :: textS p.f1 else lockW ++ 58 :: (textS p.f2 ++ 58 :: textS p.f1)
def taskWs (t : S53) : List Bs := taskB :: t.f0.data.toList :: ([t.f1, t.f2, t.f3, t.f4].map textS ++ t.f5.map partW)
def setWs (p : Int) (cs hs : List Int) (ts : List S53) : List (List Bs) :=
  [protocolB, protoW p] :: (coresB :: cs.map textS) :: ((if hs = [] then [] else [homesB :: hs.map textS]) ++ ts.map taskWs)
def joinW : List Bs → Bs
  | [] => []
  | w :: ws => w ++ ws.flatMap (32 :: ·)
def linesT (ls : List (List Bs)) : Bs := ls.flatMap fun ws => joinW ws ++ [10]
def printS (p : Int) (cs hs : List Int) (ts : List S53) : Bs := if (checkS p cs hs ts).2 = 0 then linesT (setWs p cs hs ts) else []
def wok (w : Bs) : Prop := w ≠ [] ∧ 32 ∉ w ∧ 35 ∉ w ∧ 10 ∉ w
theorem digits_ok {l : Bs} (h : l.all digit = true) (c : UInt8) (hc : c.toNat < 48 ∨ 57 < c.toNat) : c ∉ l := by
  intro hm
  have := List.all_eq_true.1 h c hm
  rw [digit_iff] at this
  omega
theorem textS_val {n : Int} (h0 : 0 ≤ n) (h1 : n ≤ 9999999) : textS n = Lib.decDigits n.toNat := by unfold textS; rw [if_neg (by omega), if_neg (by omega)]
theorem textS_digits (n : Int) : (textS n).all digit = true := by
  unfold textS
  split
  · rfl
  · split
    · rfl
    · exact (dec_facts _).1
theorem textS_ne {n : Int} (h0 : 0 ≤ n) (h1 : n ≤ 9999999) : textS n ≠ [] := by rw [textS_val h0 h1]; exact (dec_facts _).2.2.1
theorem dec_len7 {n : Nat} (h : n ≤ 9999999) : (Lib.decDigits n).length ≤ 7 := by
  have hf := dec_facts n
  rcases Nat.eq_zero_or_pos n with rfl | hp
  · rw [dec_small (by omega)]; simp
  · rw [Lib.decDigits_length]
    have key : ∀ (j n : Nat), 0 < j → n < 10 ^ j → Lib.nDigits n ≤ j := by
      intro j
      induction j with
      | zero => intro n h; omega
      | succ j ih =>
        intro n _ hn
        have e := Lib.decDigits_length n
        by_cases h10 : n < 10
        · rw [dec_small h10] at e; simp at e; omega
        · rw [dec_big h10, List.length_append, Lib.decDigits_length] at e
          rcases Nat.eq_zero_or_pos j with rfl | hj
          · simp at hn; omega
          · have := ih (n / 10) hj (by rw [Nat.pow_succ] at hn; omega)
            simp at e; omega
    exact key 7 n (by omega) (by omega)
theorem numS_textS {n : Int} (h0 : 0 ≤ n) (h1 : n ≤ 9999999) : numS (textS n) = (n, true) := by
  rw [textS_val h0 h1]
  unfold numS
  have h := dec_len7 (n := n.toNat) (by omega)
  rw [good_dec, if_pos (by simpa using h), (dec_facts _).2.1]
  congr 1
  omega
theorem textS_wok {n : Int} (h0 : 0 ≤ n) (h1 : n ≤ 9999999) : wok (textS n) :=
  ⟨textS_ne h0 h1, digits_ok (textS_digits n) _ (by decide), digits_ok (textS_digits n) _ (by decide), digits_ok (textS_digits n) _ (by decide)⟩
theorem numbersS_text : ∀ (l : List Int), (∀ n ∈ l, 0 ≤ n ∧ n ≤ 9999999) → numbersS (l.map textS) = some l
  | [], _ => rfl
  | n :: l, h => by
    have hn := h n (by simp)
    rw [List.map_cons, numbersS_cons, numS_textS hn.1 hn.2, if_pos rfl, numbersS_text l (fun m hm => h m (by simp [hm]))]
    rfl
theorem splitL_lines : ∀ (ls : List Bs), (∀ l ∈ ls, (10 : UInt8) ∉ l) → splitL 10 (ls.flatMap (· ++ [10])) = ls ++ [[]]
  | [], _ => rfl
  | l :: ls, h => by
    have h1 := h l (by simp)
    have e : (l :: ls).flatMap (· ++ [10]) = l ++ 10 :: ls.flatMap (· ++ [10]) := by simp
    rw [e, splitL_hit 10 _ h1, splitL_lines ls (fun x hx => h x (by simp [hx]))]
    rfl
theorem cutL_lines (ls : List Bs) (h : ∀ l ∈ ls, (10 : UInt8) ∉ l) : cutL 10 (ls.flatMap (· ++ [10])) = ls := by
  unfold cutL dropLastE
  rw [splitL_lines ls h]
  simp
theorem wordsW_join : ∀ (ws : List Bs), (∀ w ∈ ws, wok w) → wordsW (joinW ws) = ws
  | [], _ => rfl
  | [w], h => by
    have hw := h w (by simp)
    simp only [joinW, List.flatMap_nil, List.append_nil]
    exact wordsW_one hw.1 hw.2.1
  | w :: v :: ws, h => by
    have hw := h w (by simp)
    have e : joinW (w :: v :: ws) = w ++ 32 :: joinW (v :: ws) := by simp [joinW]
    rw [e, wordsW_app, wordsW_one hw.1 hw.2.1, wordsW_join (v :: ws) (fun x hx => h x (by simp [hx]))]
    rfl
theorem join_no (c : UInt8) (hc : c ≠ 32) : ∀ (ws : List Bs), (∀ w ∈ ws, c ∉ w) → c ∉ joinW ws
  | [], _ => by simp [joinW]
  | w :: ws, h => by
    simp only [joinW, List.mem_append, List.mem_flatMap, List.mem_cons, not_or, not_exists, not_and]
    exact ⟨h w (by simp), fun x hx => ⟨hc, h x (by simp [hx])⟩⟩
theorem wordsL_join (ws : List Bs) (h : ∀ w ∈ ws, wok w) : wordsL (joinW ws) = ws := by
  rw [wordsL_of (join_no 35 (by decide) ws (fun w hw => (h w hw).2.2.1)), wordsW_join ws h]
theorem cutL_linesT (ls : List (List Bs)) (h : ∀ ws ∈ ls, ∀ w ∈ ws, wok w) : cutL 10 (linesT ls) = ls.map joinW := by
  unfold linesT
  have e : (ls.flatMap fun ws => joinW ws ++ [10]) = (ls.map joinW).flatMap (· ++ [10]) := by rw [List.flatMap_map]
  rw [e, cutL_lines]
  intro l hl
  obtain ⟨ws, hws, rfl⟩ := List.mem_map.1 hl
  exact join_no 10 (by decide) ws (fun w hw => (h ws hws w hw).2.2.2)
theorem rowsS_map : ∀ (l : List Bs) (i : Nat), (rowsS i l).map (·.2) = (l.map wordsL).filter (fun w => !w.isEmpty)
  | [], i => rfl
  | s :: ss, i => by
    rw [rowsS_cons, List.map_cons]
    by_cases h : wordsL s = []
    · rw [if_pos h, rowsS_map ss, List.filter_cons_of_neg (by simp [h])]
    · rw [if_neg h, List.map_cons, rowsS_map ss, List.filter_cons_of_pos (by simp [h])]
theorem pWord_proto {p : Int} (h : btw p 1 3 = true) : pWord (protoW p) = p := by
  unfold btw at h
  simp only [Bool.and_eq_true, decide_eq_true_eq] at h
  have : p = 1 ∨ p = 2 ∨ p = 3 := by omega
  rcases this with rfl | rfl | rfl <;> decide
theorem protoW_wok (p : Int) : wok (protoW p) := by
  unfold protoW wok
  split
  · decide
  · split <;> decide
theorem contains_mem {w : Bs} (h : Lib.contains w lockB = true) : (108 : UInt8) ∈ w := by
  unfold Lib.contains at h
  rcases Lib.index_spec w lockB with ⟨h1, _⟩ | ⟨i, h1, h2, h3, _⟩
  · rw [h1] at h; simp at h
  · unfold Lib.occAt at h3
    have hp : lockB <+: w.drop i := List.isPrefixOf_iff_prefix.1 h3
    exact List.drop_subset _ _ (hp.subset (by decide))
theorem nest_no {w : Bs} (h : (108 : UInt8) ∉ w.drop 5) : nestB w = false := by
  unfold nestB
  have : Lib.contains (w.drop 5) lockB = false := Bool.eq_false_iff.2 (fun e => h (contains_mem e))
  rw [this, Bool.and_false]
theorem digits_no58 {l : Bs} (h : l.all digit = true) : (58 : UInt8) ∉ l := digits_ok h _ (by decide)
theorem digits_no108 {l : Bs} (h : l.all digit = true) : (108 : UInt8) ∉ l := digits_ok h _ (by decide)
theorem partW_ok {nh : Nat} (hnh : nh ≤ 9999999) {p : S50} (h : partOkS nh p = true) : readsS (partW p) = (p, 0) ∧ wok (partW p) ∧ nestB (partW p) = false := by
  unfold partOkS btw at h
  simp only [Bool.and_eq_true, decide_eq_true_eq] at h
  obtain ⟨⟨⟨h1, h2⟩, h3, h4⟩, h5⟩ := h
  have d1 := textS_digits p.f1
  have d2 := textS_digits p.f2
  have w1 := textS_wok (n := p.f1) (by omega) (by omega)
  have n1 := numS_textS (n := p.f1) (by omega) (by omega)
  have hk : p.f0 = 1 ∨ p.f0 = 2 ∨ p.f0 = 3 := by omega
  rcases hk with hk | hk | hk
  · rw [hk, if_neg (by decide)] at h5
    have h5' : p.f2 = 0 := by simpa using h5
    have e : partW p = runB ++ 58 :: textS p.f1 := by unfold partW; rw [if_pos hk]
    have hn : nestB (partW p) = false := by
      rw [e]; refine nest_no (fun hm => ?_)
      exact digits_no108 d1 (List.drop_subset 1 _ (by simpa [runB] using hm))
    refine ⟨?_, ?_, hn⟩
    · unfold readsS
      rw [hn, if_neg Bool.false_ne_true, e, splitL_hit 58 _ (by decide), splitL_no 58 (digits_no58 d1)]
      simp only [List.drop_succ_cons, List.drop_zero, numbersS_cons, n1, if_pos, numbersS, Option.map_some, List.getD_cons_zero]
      unfold partOf
      rw [if_pos ⟨rfl, rfl⟩]
      cases p
      simp_all
    · rw [e]; exact ⟨by simp [runB], by simp [runB, w1.2.1], by simp [runB, w1.2.2.1], by simp [runB, w1.2.2.2]⟩
  · rw [hk, if_neg (by decide)] at h5
    have h5' : p.f2 = 0 := by simpa using h5
    have e : partW p = sleepB ++ 58 :: textS p.f1 := by unfold partW; rw [if_neg (by omega), if_pos hk]
    have hn : nestB (partW p) = false := by
      rw [e]; refine nest_no (fun hm => ?_)
      have : (108 : UInt8) ∈ 58 :: textS p.f1 := by simpa [sleepB] using hm
      rcases List.mem_cons.1 this with h | h
      · exact absurd h (by decide)
      · exact digits_no108 d1 h
    refine ⟨?_, ?_, hn⟩
    · unfold readsS
      rw [hn, if_neg Bool.false_ne_true, e, splitL_hit 58 _ (by decide), splitL_no 58 (digits_no58 d1)]
      simp only [List.drop_succ_cons, List.drop_zero, numbersS_cons, n1, if_pos, numbersS, Option.map_some, List.getD_cons_zero]
      unfold partOf
      rw [if_neg (fun h => absurd h.1 (by decide)), if_pos ⟨rfl, rfl⟩]
      cases p
      simp_all
    · rw [e]; exact ⟨by simp [sleepB], by simp [sleepB, w1.2.1], by simp [sleepB, w1.2.2.1], by simp [sleepB, w1.2.2.2]⟩
  · rw [hk, if_pos rfl] at h5
    simp only [Bool.and_eq_true, decide_eq_true_eq] at h5
    have w2 := textS_wok (n := p.f2) (by omega) (by omega)
    have n2 := numS_textS (n := p.f2) (by omega) (by omega)
    have e : partW p = lockW ++ 58 :: (textS p.f2 ++ 58 :: textS p.f1) := by unfold partW; rw [if_neg (by omega), if_neg (by omega)]
    have hn : nestB (partW p) = false := by
      rw [e]; refine nest_no (fun hm => ?_)
      have : (108 : UInt8) ∈ textS p.f2 ++ 58 :: textS p.f1 := by simpa [lockW] using hm
      rcases List.mem_append.1 this with h | h
      · exact digits_no108 d2 h
      · rcases List.mem_cons.1 h with h | h
        · exact absurd h (by decide)
        · exact digits_no108 d1 h
    refine ⟨?_, ?_, hn⟩
    · unfold readsS
      rw [hn, if_neg Bool.false_ne_true, e, splitL_hit 58 _ (by decide), splitL_hit 58 _ (digits_no58 d2), splitL_no 58 (digits_no58 d1)]
      simp only [List.drop_succ_cons, List.drop_zero, numbersS_cons, n1, n2, if_pos, numbersS, Option.map_some, List.getD_cons_zero]
      unfold partOf
      rw [if_neg (fun h => absurd h.1 (by decide)), if_neg (fun h => absurd h.1 (by decide)), if_pos ⟨rfl, rfl⟩]
      cases p
      simp_all
    · rw [e]; exact ⟨by simp [lockW], by simp [lockW, w1.2.1, w2.2.1], by simp [lockW, w1.2.2.1, w2.2.2.1], by simp [lockW, w1.2.2.2, w2.2.2.2]⟩
theorem partsS_ok {nh : Nat} (hnh : nh ≤ 9999999) : ∀ (ps : List S50), ps.all (partOkS nh) = true → partsS (ps.map partW) = some ps
  | [], _ => rfl
  | p :: ps, h => by
    rw [List.all_cons, Bool.and_eq_true] at h
    have hp := (partW_ok hnh h.1).1
    rw [List.map_cons]
    unfold partsS
    rw [hp, if_pos rfl, partsS_ok hnh ps h.2]
    rfl
theorem nameGo_mem : ∀ {l : Bs} {b : Bool}, nameGo b l = true → ∀ x ∈ l, letter x = true ∨ digit x = true
  | [], _, _, x, hx => by simp at hx
  | y :: ys, b, h, x, hx => by
    rw [nameGo_cons, Bool.and_eq_true] at h
    rcases List.mem_cons.1 hx with rfl | hx
    · have := h.1
      simp only [Bool.or_eq_true, Bool.and_eq_true] at this
      rcases this with h | h
      · exact .inl h
      · exact .inr h.2
    · exact nameGo_mem h.2 x hx
theorem name_wok {l : Bs} (h : nameS l = true) : wok l ∧ (58 : UInt8) ∉ l := by
  unfold nameS at h
  simp only [Bool.and_eq_true] at h
  have key : ∀ c : UInt8, letter c = false → digit c = false → c ∉ l := by
    intro c h1 h2 hm
    rcases nameGo_mem h.1 c hm with h' | h'
    · rw [h1] at h'; cases h'
    · rw [h2] at h'; cases h'
  refine ⟨⟨?_, key _ (by decide) (by decide), key _ (by decide) (by decide), key _ (by decide) (by decide)⟩, key _ (by decide) (by decide)⟩
  intro e; rw [e] at h; simp at h
structure OkT (cs hs : List Int) (t : S53) : Prop where
  name : nameS t.f0.data.toList = true
  f1 : 1 ≤ t.f1 ∧ t.f1 ≤ 3000
  f2 : 1 ≤ t.f2 ∧ t.f2 ≤ t.f1
  f3 : 1 ≤ t.f3 ∧ t.f3 ≤ 1000
  f4 : 0 ≤ t.f4 ∧ t.f4 ≤ (cs.length : Int) - 1
  parts : t.f5.all (partOkS hs.length) = true
  np : 1 ≤ t.f5.length ∧ t.f5.length ≤ 6
structure OkS (p : Int) (cs hs : List Int) (ts : List S53) : Prop where
  kp : btw p 1 3 = true
  ncs : 1 ≤ cs.length ∧ cs.length ≤ 3
  nhs : hs.length ≤ 4
  core : ∀ n ∈ cs, 1 ≤ n ∧ n ≤ 3
  home : ∀ n ∈ hs, 0 ≤ n ∧ n ≤ (cs.length : Int) - 1
  nts : 1 ≤ ts.length ∧ ts.length ≤ 6
  each : ∀ t ∈ ts, OkT cs hs t
theorem okT_of {cs hs : List Int} {ts : List S53} {t : S53} {i : Nat} (h : oneS cs hs ts t i = 0) : OkT cs hs t := by
  unfold oneS at h
  by_cases h1 : badForm (nameS t.f0.data.toList) t = true
  · rw [if_pos h1] at h; exact absurd h (by decide)
  rw [if_neg h1] at h
  by_cases h2 : btw t.f4 0 ((cs.length : Int) - 1) = false
  · rw [if_pos h2] at h; exact absurd h (by decide)
  rw [if_neg h2] at h
  by_cases h3 : ((ts.take i).any fun o => twb o.f0 o.f3 t.f0 t.f3) = true
  · rw [if_pos h3] at h; exact absurd h (by decide)
  rw [if_neg h3] at h
  by_cases h4 : partedS hs.length t.f5 = true
  · unfold badForm at h1
    unfold partedS at h4
    simp only [btw, Bool.not_eq_true, Bool.or_eq_false_iff, Bool.not_eq_false', Bool.and_eq_true, decide_eq_true_eq, Bool.not_eq_false] at h1 h2 h4
    exact ⟨h1.1.1.1, by omega, by omega, by omega, by omega, h4.1, by omega⟩
  · rw [if_neg h4] at h; exact absurd h (by decide)
theorem checkGo_ok {cs hs : List Int} {ts : List S53} : ∀ (l : List S53) (i : Nat), (checkGo cs hs ts i l).2 = 0 → ∀ t ∈ l, OkT cs hs t
  | [], _, _, t, ht => by simp at ht
  | x :: l, i, h, t, ht => by
    unfold checkGo at h
    by_cases h1 : oneS cs hs ts x i = 0
    · rw [if_pos h1] at h
      rcases List.mem_cons.1 ht with rfl | ht
      · exact okT_of h1
      · exact checkGo_ok l _ h t ht
    · rw [if_neg h1] at h; exact absurd h h1
theorem okS_of {p : Int} {cs hs : List Int} {ts : List S53} (h : (checkS p cs hs ts).2 = 0) : OkS p cs hs ts := by
  unfold checkS at h
  by_cases h1 : btw p 1 3 = true
  · rw [if_pos h1] at h
    by_cases h2 : plB cs hs = true
    · rw [if_pos h2] at h
      by_cases h3 : ts.length > 6
      · rw [if_pos h3] at h; exact absurd h (by decide)
      · rw [if_neg h3] at h
        by_cases h4 : ts.length = 0
        · rw [if_pos h4] at h; exact absurd h (by decide)
        · rw [if_neg h4] at h
          unfold plB at h2
          simp only [Bool.and_eq_true, decide_eq_true_eq, Bool.not_eq_true', List.any_eq_false, Bool.not_eq_false, Bool.not_eq_true'] at h2
          obtain ⟨⟨⟨a, b⟩, c⟩, d⟩ := h2
          refine ⟨h1, ?_, b, fun n hn => ?_, fun n hn => ?_, by omega, checkGo_ok ts 0 h⟩
          · unfold btw at a; simp only [Bool.and_eq_true, decide_eq_true_eq] at a; omega
          · have := c n hn; unfold btw at this; simp at this; omega
          · have := d n hn; unfold btw at this; simp at this; omega
    · rw [if_neg h2] at h; exact absurd h (by decide)
  · rw [if_neg h1] at h; exact absurd h (by decide)
theorem taskWs_ok {cs hs : List Int} (hc : cs.length ≤ 3) (hh : hs.length ≤ 4) {t : S53} (h : OkT cs hs t) : taskedS (taskWs t) = (t, 0) ∧ ∀ w ∈ taskWs t, wok w := by
  have e4 : ∀ n ∈ [t.f1, t.f2, t.f3, t.f4], 0 ≤ n ∧ n ≤ 9999999 := by
    have h1 := h.f1; have h2 := h.f2; have h3 := h.f3; have h4 := h.f4
    intro n hn
    simp only [List.mem_cons, List.not_mem_nil, or_false] at hn
    rcases hn with rfl | rfl | rfl | rfl <;> omega
  constructor
  · unfold taskedS
    have hn := numbersS_text _ e4
    have hp := partsS_ok (by omega) _ h.parts
    have hlen : ¬ (taskWs t).length < 6 := by unfold taskWs; simp
    rw [if_neg hlen]
    have d1 : ((taskWs t).take 6).drop 2 = [t.f1, t.f2, t.f3, t.f4].map textS := by unfold taskWs; simp
    have d2 : (taskWs t).drop 6 = t.f5.map partW := by unfold taskWs; simp
    have d3 : (taskWs t).getD 1 [] = t.f0.data.toList := rfl
    rw [d1, d2, d3, hn, hp, B_data]
    cases t
    rfl
  · intro w hw
    unfold taskWs at hw
    rcases List.mem_cons.1 hw with rfl | hw
    · unfold wok; decide
    rcases List.mem_cons.1 hw with rfl | hw
    · exact (name_wok h.name).1
    rcases List.mem_append.1 hw with hw | hw
    · obtain ⟨n, hn, rfl⟩ := List.mem_map.1 hw
      exact textS_wok (e4 n hn).1 (e4 n hn).2
    · obtain ⟨q, hq, rfl⟩ := List.mem_map.1 hw
      exact (partW_ok (by omega) (List.all_eq_true.1 h.parts q hq)).2.1
theorem setWs_ok {p : Int} {cs hs : List Int} {ts : List S53} (h : OkS p cs hs ts) : ∀ ws ∈ setWs p cs hs ts, ws ≠ [] ∧ ∀ w ∈ ws, wok w := by
  intro ws hws
  unfold setWs at hws
  rcases List.mem_cons.1 hws with rfl | hws
  · refine ⟨by simp, fun w hw => ?_⟩
    simp only [List.mem_cons, List.not_mem_nil, or_false] at hw
    rcases hw with rfl | rfl
    · unfold wok; decide
    · exact protoW_wok p
  rcases List.mem_cons.1 hws with rfl | hws
  · refine ⟨by simp, fun w hw => ?_⟩
    rcases List.mem_cons.1 hw with rfl | hw
    · unfold wok; decide
    · obtain ⟨n, hn, rfl⟩ := List.mem_map.1 hw
      have := h.core n hn
      exact textS_wok (by omega) (by omega)
  rcases List.mem_append.1 hws with hws | hws
  · by_cases hh : hs = []
    · rw [if_pos hh] at hws; simp at hws
    · rw [if_neg hh] at hws
      obtain rfl : ws = homesB :: hs.map textS := by simpa using hws
      refine ⟨by simp, fun w hw => ?_⟩
      rcases List.mem_cons.1 hw with rfl | hw
      · unfold wok; decide
      · obtain ⟨n, hn, rfl⟩ := List.mem_map.1 hw
        have := h.home n hn
        have := h.ncs
        exact textS_wok (by omega) (by omega)
  · obtain ⟨t, ht, rfl⟩ := List.mem_map.1 hws
    exact ⟨by simp [taskWs], (taskWs_ok h.ncs.2 h.nhs (h.each t ht)).2⟩
theorem tasksS_ok {cs hs : List Int} (hc : cs.length ≤ 3) (hh : hs.length ≤ 4) : ∀ (ts : List S53) (rs : List (Nat × List Bs)), (∀ t ∈ ts, OkT cs hs t) → rs.map (·.2) = ts.map taskWs → tasksS rs = (ts, 0, 0)
  | [], [], _, _ => rfl
  | [], r :: rs, _, e => by simp at e
  | t :: ts, [], _, e => by simp at e
  | t :: ts, r :: rs, h, e => by
    rw [List.map_cons, List.map_cons, List.cons.injEq] at e
    have ht := (taskWs_ok hc hh (h t (by simp))).1
    unfold tasksS
    rw [e.1, ht, if_pos (show (taskWs t).getD 0 [] = taskB from rfl), if_pos (show ((t, (0 : Int)).2 = 0) from rfl), tasksS_ok hc hh ts rs (fun x hx => h x (by simp [hx])) e.2]
theorem parseR_ok {p : Int} {cs hs : List Int} {ts : List S53} (hck : (checkS p cs hs ts).2 = 0) (rs : List (Nat × List Bs)) (all : Nat) (e : rs.map (·.2) = setWs p cs hs ts) : parseR rs all = (p, cs, hs, ts, (all : Int), 0) := by
  have h := okS_of hck
  have hcs : numbersS (cs.map textS) = some cs := numbersS_text cs (fun n hn => by have := h.core n hn; omega)
  have hhs : numbersS (hs.map textS) = some hs := numbersS_text hs (fun n hn => by have := h.home n hn; have := h.ncs; omega)
  have hpw := pWord_proto h.kp
  have hp0 : p ≠ 0 := by intro e; rw [e] at h; exact absurd h.kp (by decide)
  obtain ⟨c, cs', rfl⟩ : ∃ c cs', cs = c :: cs' := by
    cases cs with
    | nil => exact absurd h.ncs.1 (by simp)
    | cons c cs' => exact ⟨c, cs', rfl⟩
  obtain ⟨t0, ts', rfl⟩ : ∃ t ts', ts = t :: ts' := by
    cases ts with
    | nil => exact absurd h.nts.1 (by simp)
    | cons t ts' => exact ⟨t, ts', rfl⟩
  match rs, e with
  | [], e => simp [setWs] at e
  | [r0], e => simp [setWs] at e
  | r0 :: r1 :: rest, e =>
    unfold setWs at e
    rw [List.map_cons, List.map_cons, List.cons.injEq, List.cons.injEq] at e
    obtain ⟨e0, e1, e⟩ := e
    have hh : headS (r0 :: r1 :: rest) = headT (r0 :: r1 :: rest) p := by
      simp only [headS, e0, List.getD_cons_zero, List.getD_cons_succ, hpw, if_neg hp0]
      rfl
    have key : ∀ (f : Nat), headS (r0 :: r1 :: rest) = (p, c :: cs', hs, f, true) → tasksS ((r0 :: r1 :: rest).drop f) = (t0 :: ts', 0, 0) → parseR (r0 :: r1 :: rest) all = (p, c :: cs', hs, t0 :: ts', (all : Int), 0) := by
      intro f h1 h2
      unfold parseR
      rw [h1]
      simp only [if_true]
      rw [h2]
      simp only [if_true]
      unfold finS
      rw [if_pos hck]
    by_cases hhe : hs = []
    · subst hhe
      rw [if_pos rfl, List.nil_append] at e
      refine key 2 ?_ (tasksS_ok h.ncs.2 h.nhs _ _ h.each e)
      rw [hh]
      cases rest with
      | nil => simp at e
      | cons r2 rest =>
        rw [List.map_cons, List.map_cons, List.cons.injEq] at e
        have d1 : List.drop 1 (coresB :: List.map textS (c :: cs')) = List.map textS (c :: cs') := rfl
        have ne1 : ¬ taskB = homesB := by decide
        simp only [headT, e1, e.1, taskWs, List.getD_cons_zero, d1, hcs, if_neg ne1]
        rfl
    · rw [if_neg hhe] at e
      obtain ⟨y, hs', rfl⟩ : ∃ y hs', hs = y :: hs' := by
        cases hs with
        | nil => exact absurd rfl hhe
        | cons y hs' => exact ⟨y, hs', rfl⟩
      cases rest with
      | nil => simp at e
      | cons r2 rest =>
        rw [List.map_cons, List.cons_append, List.nil_append, List.cons.injEq] at e
        refine key 3 ?_ (tasksS_ok h.ncs.2 h.nhs _ _ h.each e.2)
        rw [hh]
        have d1 : List.drop 1 (coresB :: List.map textS (c :: cs')) = List.map textS (c :: cs') := rfl
        have d2 : List.drop 1 (homesB :: List.map textS (y :: hs')) = List.map textS (y :: hs') := rfl
        simp only [headT, e1, e.1, List.getD_cons_zero, d1, d2, hcs, hhs]
        rfl
theorem rows_set {p : Int} {cs hs : List Int} {ts : List S53} (h : OkS p cs hs ts) : (rowsS 0 (cutL 10 (linesT (setWs p cs hs ts)))).map (·.2) = setWs p cs hs ts := by
  have hok := setWs_ok h
  rw [cutL_linesT _ (fun ws hws => (hok ws hws).2), rowsS_map, List.map_map]
  have e : List.map (wordsL ∘ joinW) (setWs p cs hs ts) = setWs p cs hs ts := by
    conv => rhs; rw [← List.map_id (setWs p cs hs ts)]
    exact List.map_congr_left (fun ws hws => wordsL_join ws (hok ws hws).2)
  rw [e, List.filter_eq_self]
  intro ws hws
  simp [(hok ws hws).1]
end Go.Proofs.YtgkjoodlcojkkaaDoor.Y
end
section
namespace Go.Proofs.YtgkjoodlcojkkaaDoor.Y
open Go.RowKit Go.Proofs.YtgkjoodlcojkkaaDoorW.PrintWords Go.Proofs.YtgkjoodlcojkkaaDoorW.PrintLast Go.Proofs.YtgkjoodlcojkkaaDoorW.PrintMore Go.Proofs.YtgkjoodlcojkkaaDoor.QD
set_option linter.unusedVariables false
set_option linter.unusedSimpArgs false
theorem joinW_len (m : Nat) : ∀ (ws : List Bs), (∀ w ∈ ws, w.length ≤ m) → (joinW ws).length ≤ ws.length * (m + 1)
  | [], _ => by simp [joinW]
  | w :: ws, h => by
    have key : ∀ (l : List Bs), (∀ w ∈ l, w.length ≤ m) → (l.flatMap (32 :: ·)).length ≤ l.length * (m + 1) := by
      intro l
      induction l with
      | nil => intro _; simp
      | cons a l ih =>
        intro hl
        have h1 := hl a (by simp)
        have h2 := ih (fun x hx => hl x (by simp [hx]))
        rw [List.flatMap_cons, List.length_append, List.length_cons, List.length_cons, Nat.add_mul, Nat.one_mul]
        omega
    have h1 := h w (by simp)
    have h2 := key ws (fun x hx => h x (by simp [hx]))
    simp only [joinW, List.length_append, List.length_cons, Nat.add_mul, Nat.one_mul]
    omega
theorem textS_len7 {n : Int} (h1 : n ≤ 9999999) : (textS n).length ≤ 7 := by
  by_cases h0 : 0 ≤ n
  · rw [textS_val h0 h1]; exact dec_len7 (by omega)
  · unfold textS; rw [if_pos (by omega)]; simp
theorem lines_len (m : Nat) : ∀ (ls : List (List Bs)), (∀ ws ∈ ls, (joinW ws).length ≤ m) → (linesT ls).length ≤ ls.length * (m + 1)
  | [], _ => by simp [linesT]
  | ws :: ls, h => by
    have h1 := h ws (by simp)
    have h2 := lines_len m ls (fun x hx => h x (by simp [hx]))
    unfold linesT at h2 ⊢
    rw [List.flatMap_cons, List.length_append, List.length_append, List.length_cons (a := ws), Nat.add_mul, Nat.one_mul]
    simp only [List.length_cons, List.length_nil]
    omega
theorem set_len {p : Int} {cs hs : List Int} {ts : List S53} (h : OkS p cs hs ts) : (linesT (setWs p cs hs ts)).length ≤ 2000 := by
  have e : setWs p cs hs ts = ([[protocolB, protoW p], coresB :: cs.map textS] ++ (if hs = [] then [] else [homesB :: hs.map textS])) ++ ts.map taskWs := by
    unfold setWs; simp
  have hA : ∀ (a b : List (List Bs)), linesT (a ++ b) = linesT a ++ linesT b := by intro a b; unfold linesT; rw [List.flatMap_append]
  have h1 : (linesT ([[protocolB, protoW p], coresB :: cs.map textS] ++ (if hs = [] then [] else [homesB :: hs.map textS]))).length ≤ 3 * (45 + 1) := by
    refine Nat.le_trans (lines_len 45 _ ?_) ?_
    · intro ws hws
      rcases List.mem_append.1 hws with hws | hws
      · simp only [List.mem_cons, List.not_mem_nil, or_false] at hws
        rcases hws with rfl | rfl
        · refine Nat.le_trans (joinW_len 8 _ ?_) (by simp)
          intro w hw
          simp only [List.mem_cons, List.not_mem_nil, or_false] at hw
          rcases hw with rfl | rfl
          · decide
          · unfold protoW; split
            · decide
            · split <;> decide
        · refine Nat.le_trans (joinW_len 7 _ ?_) ?_
          · intro w hw
            rcases List.mem_cons.1 hw with rfl | hw
            · decide
            · obtain ⟨n, hn, rfl⟩ := List.mem_map.1 hw
              exact textS_len7 (by have := h.core n hn; omega)
          · have := h.ncs
            simp only [List.length_cons, List.length_map]; omega
      · by_cases hh : hs = []
        · rw [if_pos hh] at hws; simp at hws
        · rw [if_neg hh] at hws
          obtain rfl : ws = homesB :: hs.map textS := by simpa using hws
          refine Nat.le_trans (joinW_len 7 _ ?_) ?_
          · intro w hw
            rcases List.mem_cons.1 hw with rfl | hw
            · decide
            · obtain ⟨n, hn, rfl⟩ := List.mem_map.1 hw
              exact textS_len7 (by have := h.home n hn; have := h.ncs; omega)
          · have := h.nhs
            simp only [List.length_cons, List.length_map]; omega
    · have : (([[protocolB, protoW p], coresB :: cs.map textS] ++ (if hs = [] then [] else [homesB :: hs.map textS])) : List (List Bs)).length ≤ 3 := by
        split <;> simp
      exact Nat.mul_le_mul_right _ this
  have h2 : (linesT (ts.map taskWs)).length ≤ 6 * (252 + 1) := by
    refine Nat.le_trans (lines_len 252 _ ?_) ?_
    · intro ws hws
      obtain ⟨t, ht, rfl⟩ := List.mem_map.1 hws
      have ok := h.each t ht
      refine Nat.le_trans (joinW_len 20 _ ?_) ?_
      · intro w hw
        unfold taskWs at hw
        rcases List.mem_cons.1 hw with rfl | hw
        · decide
        rcases List.mem_cons.1 hw with rfl | hw
        · have := ok.name
          unfold nameS at this
          simp only [Bool.and_eq_true, decide_eq_true_eq] at this
          omega
        rcases List.mem_append.1 hw with hw | hw
        · obtain ⟨n, hn, rfl⟩ := List.mem_map.1 hw
          have := textS_len n
          omega
        · obtain ⟨q, hq, rfl⟩ := List.mem_map.1 hw
          have hq := List.all_eq_true.1 ok.parts q hq
          have hhs := h.nhs
          unfold partOkS btw at hq
          simp only [Bool.and_eq_true, decide_eq_true_eq] at hq
          obtain ⟨⟨⟨a1, a2⟩, a3, a4⟩, a5⟩ := hq
          have l1 := textS_len7 (n := q.f1) (by omega)
          have l2 : (textS q.f2).length ≤ 7 := by
            refine textS_len7 ?_
            by_cases c : q.f0 = 3
            · rw [if_pos c] at a5; simp only [Bool.and_eq_true, decide_eq_true_eq] at a5; omega
            · rw [if_neg c] at a5; have : q.f2 = 0 := by simpa using a5
              omega
          unfold partW
          split
          · simp [runB]; omega
          · split
            · simp [sleepB]; omega
            · simp [lockW]; omega
      · have := ok.np
        unfold taskWs
        simp only [List.length_cons, List.length_append, List.length_map, List.length_nil]
        omega
    · rw [List.length_map]
      exact Nat.mul_le_mul_right _ h.nts.2
  rw [e, hA, List.length_append]
  omega
theorem parse_print {p : Int} {cs hs : List Int} {ts : List S53} (hck : (checkS p cs hs ts).2 = 0) : parseS (linesT (setWs p cs hs ts)) = (p, cs, hs, ts, ((setWs p cs hs ts).length : Int), 0) := by
  have h := okS_of hck
  unfold parseS
  rw [if_neg (by have := set_len h; omega), parseR_ok hck _ _ (rows_set h), cutL_linesT _ (fun ws hws => (setWs_ok h ws hws).2), List.length_map]
end Go.Proofs.YtgkjoodlcojkkaaDoor.Y
end
