import Derived.Test.YtgkjoodlcojkkaaDoorMS2
section
-- written by a program of this session (wip/tools): the functions that the laws reach, as plain Lean, and their walks
namespace Go.Proofs.YtgkjoodlcojkkaaDoor.QD
open Go.RowKit Go.Proofs.YtgkjoodlcojkkaaDoorW.PrintWords Go.Proofs.YtgkjoodlcojkkaaDoorW.PrintLast Go.Proofs.YtgkjoodlcojkkaaDoorW.PrintMore
attribute [local go_sem] max2_int min2_int max_two min_two max_three min_three max_four min_four   -- for this text's walks alone
set_option linter.unusedVariables false
set_option linter.unusedSimpArgs false

/-! ### task_parted: function 75 -/
mutual
def task_parted.l0 : Nat → List (S50) → List (S50) → Int → Int → Int → List Int → List Int → List (S53) → Option (Bool)
  | 0, _, _, _, _, _, _, _, _ => none
  | k + 1, x1, x7, x8, x9, x248000, x248001, x248002, x248003 => if x9 < x8 then (if 0 ≤ x9 then (if x9 < (x7.length : Int) then ((task_between.f ((rd_T50 x7 x9).f0) 1 3).bind fun t251 => (if t251 = true then ((task_between.f ((rd_T50 x7 x9).f1) 1 60).bind fun t252 => (task_parted.j1 k x1 x7 x8 x9 (!t252) x248000 x248001 x248002 x248003 ((rd_T50 x7 x9).f0) ((rd_T50 x7 x9).f1) ((rd_T50 x7 x9).f2))) else (task_parted.j1 k x1 x7 x8 x9 true x248000 x248001 x248002 x248003 ((rd_T50 x7 x9).f0) ((rd_T50 x7 x9).f1) ((rd_T50 x7 x9).f2)))) else (none)) else (none)) else ((task_between.f (x1.length : Int) 1 6).bind fun t248 => (some t248))
def task_parted.j1 : Nat → List (S50) → List (S50) → Int → Int → Bool → Int → List Int → List Int → List (S53) → Int → Int → Int → Option (Bool)
  | 0, _, _, _, _, _, _, _, _, _, _, _, _ => none
  | k + 1, x1, x7, x8, x9, x13, x248000, x248001, x248002, x248003, x251000, x251001, x251002 => if x13 = true then (some false) else (if x251000 = 3 then ((task_between.f x251002 0 (wrap64 ((x248002.length : Int) - 1))).bind fun t253 => (task_parted.j2 k x1 x7 x8 x9 t253 x248000 x248001 x248002 x248003 x251000 x251001 x251002)) else (task_parted.j2 k x1 x7 x8 x9 false x248000 x248001 x248002 x248003 x251000 x251001 x251002))
def task_parted.j2 : Nat → List (S50) → List (S50) → Int → Int → Bool → Int → List Int → List Int → List (S53) → Int → Int → Int → Option (Bool)
  | 0, _, _, _, _, _, _, _, _, _, _, _, _ => none
  | k + 1, x1, x7, x8, x9, x24, x248000, x248001, x248002, x248003, x251000, x251001, x251002 => if x24 = true then (task_parted.l0 k x1 x7 x8 (wrap64 (x9 + 1)) x248000 x248001 x248002 x248003) else (if x251000 = 3 then (some false) else (if x251002 = 0 then (task_parted.l0 k x1 x7 x8 (wrap64 (x9 + 1)) x248000 x248001 x248002 x248003) else (some false)))
end
def task_parted.f (k : Nat) (a0_0 : Int) (l0_1 : List Int) (l0_2 : List Int) (l0_3 : List (S53)) (l1 : List (S50)) : Option (Bool) := task_parted.l0 k l1 l1 (l1.length : Int) 0 a0_0 l0_1 l0_2 l0_3
theorem task_parted.mono_l : ∀ k, (∀ y0 y1 y2 y3 y4 y5 y6 y7, LeO (task_parted.l0 k y0 y1 y2 y3 y4 y5 y6 y7) (task_parted.l0 (k + 1) y0 y1 y2 y3 y4 y5 y6 y7)) ∧ (∀ y0 y1 y2 y3 y4 y5 y6 y7 y8 y9 y10 y11, LeO (task_parted.j1 k y0 y1 y2 y3 y4 y5 y6 y7 y8 y9 y10 y11) (task_parted.j1 (k + 1) y0 y1 y2 y3 y4 y5 y6 y7 y8 y9 y10 y11)) ∧ (∀ y0 y1 y2 y3 y4 y5 y6 y7 y8 y9 y10 y11, LeO (task_parted.j2 k y0 y1 y2 y3 y4 y5 y6 y7 y8 y9 y10 y11) (task_parted.j2 (k + 1) y0 y1 y2 y3 y4 y5 y6 y7 y8 y9 y10 y11))
  | 0 => ⟨fun _ _ _ _ _ _ _ _ r h => by simp [task_parted.l0] at h, fun _ _ _ _ _ _ _ _ _ _ _ _ r h => by simp [task_parted.j1] at h, fun _ _ _ _ _ _ _ _ _ _ _ _ r h => by simp [task_parted.j2] at h⟩
  | k + 1 => by
    obtain ⟨ih0, ih1, ih2⟩ := task_parted.mono_l k
    refine ⟨?_, ?_, ?_⟩
    · intro y0 y1 y2 y3 y4 y5 y6 y7
      unfold task_parted.l0
      repeat' first
      | (with_reducible exact ih0 _ _ _ _ _ _ _ _)
      | (with_reducible exact ih1 _ _ _ _ _ _ _ _ _ _ _ _)
      | (with_reducible exact ih2 _ _ _ _ _ _ _ _ _ _ _ _)
      | (with_reducible exact LeO.refl _)
      | (with_reducible exact LeO.none _)
      | (with_reducible refine LeO.ite ?_ ?_)
      | (with_reducible refine LeO.bind ?_ (fun _ => ?_))
      | exact ih0 _ _ _ _ _ _ _ _
      | exact ih1 _ _ _ _ _ _ _ _ _ _ _ _
      | exact ih2 _ _ _ _ _ _ _ _ _ _ _ _
      | exact LeO.none _
      | refine LeO.ite ?_ ?_
      | refine LeO.bind ?_ (fun _ => ?_)
    · intro y0 y1 y2 y3 y4 y5 y6 y7 y8 y9 y10 y11
      unfold task_parted.j1
      repeat' first
      | (with_reducible exact ih0 _ _ _ _ _ _ _ _)
      | (with_reducible exact ih1 _ _ _ _ _ _ _ _ _ _ _ _)
      | (with_reducible exact ih2 _ _ _ _ _ _ _ _ _ _ _ _)
      | (with_reducible exact LeO.refl _)
      | (with_reducible exact LeO.none _)
      | (with_reducible refine LeO.ite ?_ ?_)
      | (with_reducible refine LeO.bind ?_ (fun _ => ?_))
      | exact ih0 _ _ _ _ _ _ _ _
      | exact ih1 _ _ _ _ _ _ _ _ _ _ _ _
      | exact ih2 _ _ _ _ _ _ _ _ _ _ _ _
      | exact LeO.none _
      | refine LeO.ite ?_ ?_
      | refine LeO.bind ?_ (fun _ => ?_)
    · intro y0 y1 y2 y3 y4 y5 y6 y7 y8 y9 y10 y11
      unfold task_parted.j2
      repeat' first
      | (with_reducible exact ih0 _ _ _ _ _ _ _ _)
      | (with_reducible exact ih1 _ _ _ _ _ _ _ _ _ _ _ _)
      | (with_reducible exact ih2 _ _ _ _ _ _ _ _ _ _ _ _)
      | (with_reducible exact LeO.refl _)
      | (with_reducible exact LeO.none _)
      | (with_reducible refine LeO.ite ?_ ?_)
      | (with_reducible refine LeO.bind ?_ (fun _ => ?_))
      | exact ih0 _ _ _ _ _ _ _ _
      | exact ih1 _ _ _ _ _ _ _ _ _ _ _ _
      | exact ih2 _ _ _ _ _ _ _ _ _ _ _ _
      | exact LeO.none _
      | refine LeO.ite ?_ ?_
      | refine LeO.bind ?_ (fun _ => ?_)
theorem task_parted.mono : ∀ a0 a1 a2 a3 a4 k, LeO (task_parted.f k a0 a1 a2 a3 a4) (task_parted.f (k + 1) a0 a1 a2 a3 a4) := by
  intro a0 a1 a2 a3 a4 k
  obtain ⟨ih0, ih1, ih2⟩ := task_parted.mono_l k
  unfold task_parted.f
  repeat' first
      | (with_reducible exact ih0 _ _ _ _ _ _ _ _)
      | (with_reducible exact ih1 _ _ _ _ _ _ _ _ _ _ _ _)
      | (with_reducible exact ih2 _ _ _ _ _ _ _ _ _ _ _ _)
      | (with_reducible exact LeO.refl _)
      | (with_reducible exact LeO.none _)
      | (with_reducible refine LeO.ite ?_ ?_)
      | (with_reducible refine LeO.bind ?_ (fun _ => ?_))
      | exact ih0 _ _ _ _ _ _ _ _
      | exact ih1 _ _ _ _ _ _ _ _ _ _ _ _
      | exact ih2 _ _ _ _ _ _ _ _ _ _ _ _
      | exact LeO.none _
      | refine LeO.ite ?_ ?_
      | refine LeO.bind ?_ (fun _ => ?_)
set_option maxHeartbeats 8000000 in
set_option maxRecDepth 100000 in
theorem task_parted.calls (k : Nat) (a0_0 : Int) (A0_1 : Option Addr) (c0_1 : Nat) (l0_1 : List Int) (A0_2 : Option Addr) (c0_2 : Nat) (l0_2 : List Int) (A0_3 : Option Addr) (c0_3 : Nat) (l0_3 : List (S53)) (A1 : Option Addr) (c1 : Nat) (l1 : List (S50)) (r : Bool) (w : World) (hr0_1 : Kd.C (Kd.int .i64) w A0_1 l0_1.length l0_1) (hc0_1 : l0_1.length ≤ c0_1) (hr0_2 : Kd.C (Kd.int .i64) w A0_2 l0_2.length l0_2) (hc0_2 : l0_2.length ≤ c0_2) (hr0_3 : Kd.C k53 w A0_3 l0_3.length l0_3) (hc0_3 : l0_3.length ≤ c0_3) (hr1 : Kd.C k50 w A1 l1.length l1) (hc1 : l1.length ≤ c1) (h : task_parted.f k a0_0 l0_1 l0_2 l0_3 l1 = some r) :
    Calls Tryd.prog 75 #[.agg #[.int .i64 a0_0, .slice A0_1 l0_1.length c0_1, .slice A0_2 l0_2.length c0_2, .slice A0_3 l0_3.length c0_3], .slice A1 l1.length c1] w fun e w' => e = .returned (.bool r) ∧ Below w.heap.size w w' := by
  have hu37 := Tryd.underlying37
  have hu50 := Tryd.underlying50
  have HR0_1 := Aside0.mk hr0_1
  have HC0_1 := Aside0.mk hc0_1
  clear hr0_1 hc0_1
  have HR0_2 := Aside0.mk hr0_2
  have HC0_2 := Aside0.mk hc0_2
  clear hr0_2 hc0_2
  have HR0_3 := Aside0.mk hr0_3
  have HC0_3 := Aside0.mk hc0_3
  clear hr0_3 hc0_3
  have HR1 := Aside0.mk hr1
  have HC1 := Aside0.mk hc1
  clear hr1 hc1
  have HB := Aside0.mk (Below.refl w.heap.size w)
  have H : (task_parted.l0 k l1 l1 (l1.length : Int) 0 a0_0 l0_1 l0_2 l0_3) = some r := h
  clear h
  have H' := Aside0.mk H
  clear H
  go_enter Tryd.func75, Tryd.ntmps75
  go_wp2_with (first | ((with_reducible refine gate_dst (N := 2) rfl ?_); (try (refine gate_guard (by rfl) ?_; dsimp only)); refine box_event ?hg (N := 2) ?hd (cs := #[.int .i64 a0_0, .slice A0_1 l0_1.length c0_1, .slice A0_2 l0_2.length c0_2, .slice A0_3 l0_3.length c0_3]) (t := 37) ?hr ?_; (case hd => rfl); (case hg => rfl); (case hr => first | (go_simp; done) | (go_simp; rfl)); intro gb247 hg w3 hbox hb; have n0_ := Aside0.mk (below_step (HB.out) hb); have n1_ := Aside0.mk (hbox); have n2_ := Aside0.mk ((by rw [hg]; exact (below_size (HB.out)) : w.heap.size ≤ gb247)); have n3_ := Aside0.mk ((by rw [hg]; exact (below_size (HB.out)) : w.heap.size ≤ gb247)); clear HB; have HB := n0_; have BK247 := n1_; have GW247 := n2_; have GE247 := n3_; clear n0_ n1_ n2_ n3_; clear hb hbox hg))
  repeat (go_step3; try go_wp2_with (first | ((with_reducible refine gate_dst (N := 2) rfl ?_); (try (refine gate_guard (by rfl) ?_; dsimp only)); refine box_event ?hg (N := 2) ?hd (cs := #[.int .i64 a0_0, .slice A0_1 l0_1.length c0_1, .slice A0_2 l0_2.length c0_2, .slice A0_3 l0_3.length c0_3]) (t := 37) ?hr ?_; (case hd => rfl); (case hg => rfl); (case hr => first | (go_simp; done) | (go_simp; rfl)); intro gb247 hg w3 hbox hb; have n0_ := Aside0.mk (below_step (HB.out) hb); have n1_ := Aside0.mk (hbox); have n2_ := Aside0.mk ((by rw [hg]; exact (below_size (HB.out)) : w.heap.size ≤ gb247)); have n3_ := Aside0.mk ((by rw [hg]; exact (below_size (HB.out)) : w.heap.size ≤ gb247)); clear HB; have HB := n0_; have BK247 := n1_; have GW247 := n2_; have GE247 := n3_; clear n0_ n1_ n2_ n3_; clear hb hbox hg)))
  go_loopg [9] k (fun kq v9 w' => ∃ (x9_1 : Int), v9 = .int .i64 x9_1 ∧ Aside0 (task_parted.l0 kq l1 l1 (l1.length : Int) x9_1 a0_0 l0_1 l0_2 l0_3 = some r) ∧ Aside0 (kq ≤ k) ∧ Aside0 (w'.heap[gb247]? = some (.cells #[.int .i64 a0_0, (.slice A0_1 l0_1.length c0_1), (.slice A0_2 l0_2.length c0_2), (.slice A0_3 l0_3.length c0_3)] 37 (0, 0))) ∧ Aside0 (Below w.heap.size w w'))
  case atStart => exact ⟨(0), (by first | rfl | (simp; done) | (simp [*]; done)), H', ⟨Nat.le_refl _⟩, ⟨BK247.out⟩, ⟨HB.out⟩⟩
  clear H'
  (try clear c1); (try clear p2); (try clear p3)
  obtain ⟨x9_1, rfl, HA, HK1, BK247, HB⟩ := hrel
  cases gk with
  | zero => exact absurd HA.out (by simp [task_parted.l0])
  | succ k1 => ?_
  have H := HA.out
  clear HA
  simp only [task_parted.l0] at H
  by_cases c4 : x9_1 < (l1.length : Int)
  rotate_left
  · rw [if_neg c4] at H
    have c4b0 : decide (x9_1 < (l1.length : Int)) = false := decide_eq_false c4
    clear c4
    replace H := Option.bind_eq_some_iff.mp H
    obtain ⟨t248, A50, H⟩ := H
    replace H : (some t248) = some r := H
    have A5 := Aside0.mk A50
    clear A50
    obtain rfl := Option.some.inj H
    go_wp2_with (first | ((with_reducible refine gate_callee (f := 52) rfl ?_); refine goesL_ (some 49) rfl rfl Tryd.func52 (by kernel_rfl) rfl #[.int .i64 (l1.length : Int), .int .i64 1, .int .i64 6] rfl (by (try simp only [List.map_toArray, List.map_cons, List.map_nil]); first | done | rfl | (simp only [List.length_drop, List.length_take]; rfl)) ?_; (with_reducible refine (task_between.calls (l1.length : Int) 1 6 t248 _ A5.out).mono ?_); rintro e w' ⟨rfl, ⟨nd, rfl⟩⟩; refine ⟨_, rfl, ?_⟩))
    repeat (go_step3; try go_wp2_with (first | ((with_reducible refine gate_callee (f := 52) rfl ?_); refine goesL_ (some 49) rfl rfl Tryd.func52 (by kernel_rfl) rfl #[.int .i64 (l1.length : Int), .int .i64 1, .int .i64 6] rfl (by (try simp only [List.map_toArray, List.map_cons, List.map_nil]); first | done | rfl | (simp only [List.length_drop, List.length_take]; rfl)) ?_; (with_reducible refine (task_between.calls (l1.length : Int) 1 6 t248 _ A5.out).mono ?_); rintro e w' ⟨rfl, ⟨nd, rfl⟩⟩; refine ⟨_, rfl, ?_⟩)))
    go_ret
    exact ⟨by first | rfl | (simp [errW_none, errW_some] <;> rfl) | (simp [*, errW_none, errW_some] <;> rfl), by repeat (first | (with_reducible first | exact HB.out | apply below_alloc | apply pw_below_drewN | apply below_drew1 | refine below_set ?_ GE247.out) | exact HB.out)⟩
  rw [if_pos c4] at H
  have c4b0 : decide (x9_1 < (l1.length : Int)) = true := decide_eq_true c4
  clear c4
  by_cases c6 : 0 ≤ x9_1
  rotate_left
  · rw [if_neg c6] at H
    exact absurd H (by simp)
  rw [if_pos c6] at H
  have c6b0 : decide (0 ≤ x9_1) = true := decide_eq_true c6
  clear c6
  by_cases c7 : x9_1 < (l1.length : Int)
  rotate_left
  · rw [if_neg c7] at H
    exact absurd H (by simp)
  rw [if_pos c7] at H
  have c7b0 : decide (x9_1 < (l1.length : Int)) = true := decide_eq_true c7
  clear c7
  have HC8 := Aside0.mk H
  clear H
  have p249 : 0 ≤ (x9_1 : Int) := of_decide_eq_true (by first | (with_reducible assumption) | assumption)
  have q249 : x9_1 < (l1.length : Int) := of_decide_eq_true (by first | (with_reducible assumption) | assumption)
  obtain ⟨ad249, e249, hx249_0, hx249_1, hx249_2⟩ := at_T50 HR1.out x9_1 p249 q249
  cases e249
  replace hx249_0 := (HB.out.cell (World.block_lt_of_cell? w _ hx249_0)).trans hx249_0
  replace hx249_1 := (HB.out.cell (World.block_lt_of_cell? w _ hx249_1)).trans hx249_1
  replace hx249_2 := (HB.out.cell (World.block_lt_of_cell? w _ hx249_2)).trans hx249_2
  replace p249 := eq_true p249
  replace q249 := eq_true q249
  iterate 2 ((try go_step3); (try go_upto_region 4 with (first | ((with_reducible refine gate_dst (N := 6) rfl ?_); (try (refine gate_guard (by rfl) ?_; dsimp only)); refine box_event ?hg (N := 6) ?hd (cs := #[.int .i64 0, .int .i64 0, .int .i64 0]) (t := 50) ?hr ?_; (case hd => rfl); (case hg => rfl); (case hr => first | (go_simp; done) | (go_simp; rfl)); intro gb250 hg w9 hbox hb; have n0_ := Aside0.mk (blk_below BK247.out hb); have n1_ := Aside0.mk (below_step (HB.out) hb); have n2_ := Aside0.mk (hbox); have n3_ := Aside0.mk ((by rw [hg]; exact (below_size (HB.out)) : w.heap.size ≤ gb250)); have n4_ := Aside0.mk ((by rw [hg]; exact (below_size (HB.out)) : w.heap.size ≤ gb250)); have n5_ := Aside0.mk ((by rw [hg]; exact Nat.ne_of_lt (blk_lt BK247.out) : gb247 ≠ gb250)); have n6_ := Aside0.mk ((by rw [hg]; exact Nat.ne_of_gt (blk_lt BK247.out) : gb250 ≠ gb247)); clear BK247; clear HB; have BK247 := n0_; have HB := n1_; have BK250 := n2_; have GW250 := n3_; have GE250 := n4_; have NB247_250 := n5_; have NB250_247 := n6_; clear n0_ n1_ n2_ n3_ n4_ n5_ n6_; clear hb hbox hg; have hnb10 := NB250_247.out; have hnc10 := NB247_250.out; have hcz11_0 : w9.cell? ⟨gb250, 0, none⟩ = some (.int .i64 0) := (blk_cell BK250.out 0).trans rfl; have hcz11_1 : w9.cell? ⟨gb250, 1, none⟩ = some (.int .i64 0) := (blk_cell BK250.out 1).trans rfl; have hcz11_2 : w9.cell? ⟨gb250, 2, none⟩ = some (.int .i64 0) := (blk_cell BK250.out 2).trans rfl; have hfz11_0 := blk_frozen BK250.out 0; have hfz11_1 := blk_frozen BK250.out 1; have hfz11_2 := blk_frozen BK250.out 2))))
  (try simp only [Act.put, List.setIfInBounds_toArray, List.set_cons_zero, List.set_cons_succ])
  go_cut [13] (fun v13 wc => ∃ (kq : Nat) (x13_7 : Bool), v13 = .bool x13_7 ∧ Aside0 (task_parted.j1 kq l1 l1 (l1.length : Int) x9_1 x13_7 a0_0 l0_1 l0_2 l0_3 ((rd_T50 l1 x9_1).f0) ((rd_T50 l1 x9_1).f1) ((rd_T50 l1 x9_1).f2) = some r) ∧ Aside0 (kq ≤ k1) ∧ Aside0 (wc.heap[gb247]? = some (.cells #[.int .i64 a0_0, (.slice A0_1 l0_1.length c0_1), (.slice A0_2 l0_2.length c0_2), (.slice A0_3 l0_3.length c0_3)] 37 (0, 0))) ∧ Aside0 (wc.heap[gb250]? = some (.cells #[.int .i64 ((rd_T50 l1 x9_1).f0), .int .i64 ((rd_T50 l1 x9_1).f1), .int .i64 ((rd_T50 l1 x9_1).f2)] 50 (0, 0))) ∧ Aside0 (Below w.heap.size w wc))
  case first =>
    have H := HC8.out
    clear HC8
    replace H := Option.bind_eq_some_iff.mp H
    obtain ⟨t251, A120, H⟩ := H
    replace H : (if t251 = true then ((task_between.f ((rd_T50 l1 x9_1).f1) 1 60).bind fun t252 => (task_parted.j1 k1 l1 l1 (l1.length : Int) x9_1 (!t252) a0_0 l0_1 l0_2 l0_3 ((rd_T50 l1 x9_1).f0) ((rd_T50 l1 x9_1).f1) ((rd_T50 l1 x9_1).f2))) else (task_parted.j1 k1 l1 l1 (l1.length : Int) x9_1 true a0_0 l0_1 l0_2 l0_3 ((rd_T50 l1 x9_1).f0) ((rd_T50 l1 x9_1).f1) ((rd_T50 l1 x9_1).f2))) = some r := H
    have A12 := Aside0.mk A120
    clear A120
    by_cases c13 : t251 = true
    rotate_left
    · replace c13 := Bool.eq_false_iff.mpr c13
      subst c13
      have H1 : (task_parted.j1 k1 l1 l1 (l1.length : Int) x9_1 true a0_0 l0_1 l0_2 l0_3 ((rd_T50 l1 x9_1).f0) ((rd_T50 l1 x9_1).f1) ((rd_T50 l1 x9_1).f2)) = some r := by rw [if_neg (show ¬ (false = true) by decide)] at H; exact H
      clear H
      have H := H1
      clear H1
      have H' := Aside0.mk H
      clear H
      have hnb14 := NB250_247.out
      have hnc14 := NB247_250.out
      have hcz15_0 : w9.cell? ⟨gb250, 0, none⟩ = some (.int .i64 0) := (blk_cell BK250.out 0).trans rfl
      have hcz15_1 : w9.cell? ⟨gb250, 1, none⟩ = some (.int .i64 0) := (blk_cell BK250.out 1).trans rfl
      have hcz15_2 : w9.cell? ⟨gb250, 2, none⟩ = some (.int .i64 0) := (blk_cell BK250.out 2).trans rfl
      have hfz15_0 := blk_frozen BK250.out 0
      have hfz15_1 := blk_frozen BK250.out 1
      have hfz15_2 := blk_frozen BK250.out 2
      go_wp2_with (first | ((with_reducible refine gate_callee (f := 52) rfl ?_); refine goesL_ (some 16) rfl rfl Tryd.func52 (by kernel_rfl) rfl #[.int .i64 ((rd_T50 l1 x9_1).f0), .int .i64 1, .int .i64 3] rfl (by (try simp only [List.map_toArray, List.map_cons, List.map_nil]); first | done | rfl | (simp only [List.length_drop, List.length_take]; rfl)) ?_; (with_reducible refine (task_between.calls ((rd_T50 l1 x9_1).f0) 1 3 false _ A12.out).mono ?_); rintro e w' ⟨rfl, ⟨nd, rfl⟩⟩; refine ⟨_, rfl, ?_⟩))
      repeat (go_step3; try go_wp2_with (first | ((with_reducible refine gate_callee (f := 52) rfl ?_); refine goesL_ (some 16) rfl rfl Tryd.func52 (by kernel_rfl) rfl #[.int .i64 ((rd_T50 l1 x9_1).f0), .int .i64 1, .int .i64 3] rfl (by (try simp only [List.map_toArray, List.map_cons, List.map_nil]); first | done | rfl | (simp only [List.length_drop, List.length_take]; rfl)) ?_; (with_reducible refine (task_between.calls ((rd_T50 l1 x9_1).f0) 1 3 false _ A12.out).mono ?_); rintro e w' ⟨rfl, ⟨nd, rfl⟩⟩; refine ⟨_, rfl, ?_⟩)))
      go_meet
      case rel => exact ⟨_, (true), (by first | rfl | (simp; done) | (simp [*]; done)), H', ⟨by have := HK1.out; first | omega | exact Nat.le_refl _⟩, ⟨by (with_reducible repeat (first | refine blk_drewN ?_ _ | refine blk_drew ?_ | refine blk_alloc ?_ _)); refine blk_far ?_ NB247_250.out _; (with_reducible repeat (first | refine blk_drewN ?_ _ | refine blk_drew ?_ | refine blk_alloc ?_ _)); refine blk_far ?_ NB247_250.out _; (with_reducible repeat (first | refine blk_drewN ?_ _ | refine blk_drew ?_ | refine blk_alloc ?_ _)); refine blk_far ?_ NB247_250.out _; (with_reducible repeat (first | refine blk_drewN ?_ _ | refine blk_drew ?_ | refine blk_alloc ?_ _)); exact BK247.out⟩, ⟨by (with_reducible repeat (first | refine blk_drewN ?_ _ | refine blk_drew ?_ | refine blk_alloc ?_ _)); refine blk_put (cs := #[.int .i64 ((rd_T50 l1 x9_1).f0), .int .i64 ((rd_T50 l1 x9_1).f1), .int .i64 0]) ?_ 2 _ rfl; (with_reducible repeat (first | refine blk_drewN ?_ _ | refine blk_drew ?_ | refine blk_alloc ?_ _)); refine blk_put (cs := #[.int .i64 ((rd_T50 l1 x9_1).f0), .int .i64 0, .int .i64 0]) ?_ 1 _ rfl; (with_reducible repeat (first | refine blk_drewN ?_ _ | refine blk_drew ?_ | refine blk_alloc ?_ _)); refine blk_put (cs := #[.int .i64 0, .int .i64 0, .int .i64 0]) ?_ 0 _ rfl; (with_reducible repeat (first | refine blk_drewN ?_ _ | refine blk_drew ?_ | refine blk_alloc ?_ _)); exact BK250.out⟩, ⟨by repeat (first | (with_reducible first | exact HB.out | apply below_alloc | apply pw_below_drewN | apply below_drew1 | refine below_set ?_ GE247.out | refine below_set ?_ GE250.out) | exact HB.out)⟩⟩
    subst c13
    have H1 : ((task_between.f ((rd_T50 l1 x9_1).f1) 1 60).bind fun t252 => (task_parted.j1 k1 l1 l1 (l1.length : Int) x9_1 (!t252) a0_0 l0_1 l0_2 l0_3 ((rd_T50 l1 x9_1).f0) ((rd_T50 l1 x9_1).f1) ((rd_T50 l1 x9_1).f2))) = some r := by rw [if_pos rfl] at H; exact H
    clear H
    have H := H1
    clear H1
    replace H := Option.bind_eq_some_iff.mp H
    obtain ⟨t252, A160, H⟩ := H
    replace H : (task_parted.j1 k1 l1 l1 (l1.length : Int) x9_1 (!t252) a0_0 l0_1 l0_2 l0_3 ((rd_T50 l1 x9_1).f0) ((rd_T50 l1 x9_1).f1) ((rd_T50 l1 x9_1).f2)) = some r := H
    have A16 := Aside0.mk A160
    clear A160
    have H' := Aside0.mk H
    clear H
    have hnb17 := NB250_247.out
    have hnc17 := NB247_250.out
    have hcz18_0 : w9.cell? ⟨gb250, 0, none⟩ = some (.int .i64 0) := (blk_cell BK250.out 0).trans rfl
    have hcz18_1 : w9.cell? ⟨gb250, 1, none⟩ = some (.int .i64 0) := (blk_cell BK250.out 1).trans rfl
    have hcz18_2 : w9.cell? ⟨gb250, 2, none⟩ = some (.int .i64 0) := (blk_cell BK250.out 2).trans rfl
    have hfz18_0 := blk_frozen BK250.out 0
    have hfz18_1 := blk_frozen BK250.out 1
    have hfz18_2 := blk_frozen BK250.out 2
    go_wp2_with (first | ((with_reducible refine gate_callee (f := 52) rfl ?_); refine goesL_ (some 16) rfl rfl Tryd.func52 (by kernel_rfl) rfl #[.int .i64 ((rd_T50 l1 x9_1).f0), .int .i64 1, .int .i64 3] rfl (by (try simp only [List.map_toArray, List.map_cons, List.map_nil]); first | done | rfl | (simp only [List.length_drop, List.length_take]; rfl)) ?_; (with_reducible refine (task_between.calls ((rd_T50 l1 x9_1).f0) 1 3 true _ A12.out).mono ?_); rintro e w' ⟨rfl, ⟨nd, rfl⟩⟩; refine ⟨_, rfl, ?_⟩) | (go_at_call 52; (with_reducible refine (task_between.calls ((rd_T50 l1 x9_1).f1) 1 60 t252 _ A16.out).mono ?_); rintro e w' ⟨rfl, ⟨nd, rfl⟩⟩))
    repeat (go_step3; try go_wp2_with (first | ((with_reducible refine gate_callee (f := 52) rfl ?_); refine goesL_ (some 16) rfl rfl Tryd.func52 (by kernel_rfl) rfl #[.int .i64 ((rd_T50 l1 x9_1).f0), .int .i64 1, .int .i64 3] rfl (by (try simp only [List.map_toArray, List.map_cons, List.map_nil]); first | done | rfl | (simp only [List.length_drop, List.length_take]; rfl)) ?_; (with_reducible refine (task_between.calls ((rd_T50 l1 x9_1).f0) 1 3 true _ A12.out).mono ?_); rintro e w' ⟨rfl, ⟨nd, rfl⟩⟩; refine ⟨_, rfl, ?_⟩) | (go_at_call 52; (with_reducible refine (task_between.calls ((rd_T50 l1 x9_1).f1) 1 60 t252 _ A16.out).mono ?_); rintro e w' ⟨rfl, ⟨nd, rfl⟩⟩)))
    go_meet
    case rel => exact ⟨_, (!t252), (by first | rfl | (simp; done) | (simp [*]; done)), H', ⟨by have := HK1.out; first | omega | exact Nat.le_refl _⟩, ⟨by (with_reducible repeat (first | refine blk_drewN ?_ _ | refine blk_drew ?_ | refine blk_alloc ?_ _)); refine blk_far ?_ NB247_250.out _; (with_reducible repeat (first | refine blk_drewN ?_ _ | refine blk_drew ?_ | refine blk_alloc ?_ _)); refine blk_far ?_ NB247_250.out _; (with_reducible repeat (first | refine blk_drewN ?_ _ | refine blk_drew ?_ | refine blk_alloc ?_ _)); refine blk_far ?_ NB247_250.out _; (with_reducible repeat (first | refine blk_drewN ?_ _ | refine blk_drew ?_ | refine blk_alloc ?_ _)); exact BK247.out⟩, ⟨by (with_reducible repeat (first | refine blk_drewN ?_ _ | refine blk_drew ?_ | refine blk_alloc ?_ _)); refine blk_put (cs := #[.int .i64 ((rd_T50 l1 x9_1).f0), .int .i64 ((rd_T50 l1 x9_1).f1), .int .i64 0]) ?_ 2 _ rfl; (with_reducible repeat (first | refine blk_drewN ?_ _ | refine blk_drew ?_ | refine blk_alloc ?_ _)); refine blk_put (cs := #[.int .i64 ((rd_T50 l1 x9_1).f0), .int .i64 0, .int .i64 0]) ?_ 1 _ rfl; (with_reducible repeat (first | refine blk_drewN ?_ _ | refine blk_drew ?_ | refine blk_alloc ?_ _)); refine blk_put (cs := #[.int .i64 0, .int .i64 0, .int .i64 0]) ?_ 0 _ rfl; (with_reducible repeat (first | refine blk_drewN ?_ _ | refine blk_drew ?_ | refine blk_alloc ?_ _)); exact BK250.out⟩, ⟨by repeat (first | (with_reducible first | exact HB.out | apply below_alloc | apply pw_below_drewN | apply below_drew1 | refine below_set ?_ GE247.out | refine below_set ?_ GE250.out) | exact HB.out)⟩⟩
  clear HC8
  (try clear c1); (try clear p2); (try clear q2); (try clear hx2); (try clear p3); (try clear c4); (try clear c4b0); (try clear c5); (try clear c6); (try clear c6b0); (try clear c7); (try clear c7b0); (try clear c10); (try clear c13); (try clear c14); (try clear c17); (try clear hcz11_0); (try clear hcz11_1); (try clear hcz11_2); (try clear hcz15_0); (try clear hcz15_1); (try clear hcz15_2); (try clear hcz18_0); (try clear hcz18_1); (try clear hcz18_2); (try clear hfz11_0); (try clear hfz11_1); (try clear hfz11_2); (try clear hfz15_0); (try clear hfz15_1); (try clear hfz15_2); (try clear hfz18_0); (try clear hfz18_1); (try clear hfz18_2); (try clear hx249_0); (try clear hx249_1); (try clear hx249_2); (try clear p2); (try clear p249); (try clear p3); (try clear q249)
  obtain ⟨kq, x13_7, rfl, HA, HJ7, BK247, BK250, HB⟩ := hcut
  cases kq with
  | zero => exact absurd HA.out (by simp [task_parted.j1])
  | succ kj7 => ?_
  have H := HA.out
  clear HA
  simp only [task_parted.j1] at H
  by_cases c19 : x13_7 = true
  · subst c19
    have H1 : (some false) = some r := by rw [if_pos rfl] at H; exact H
    clear H
    have H := H1
    clear H1
    obtain rfl := Option.some.inj H
    go_wp2
    repeat (go_step3; try go_wp2)
    go_ret
    exact ⟨by first | rfl | (simp [errW_none, errW_some] <;> rfl) | (simp [*, errW_none, errW_some] <;> rfl), HB.out⟩
  replace c19 := Bool.eq_false_iff.mpr c19
  subst c19
  have H1 : (if ((rd_T50 l1 x9_1).f0) = 3 then ((task_between.f ((rd_T50 l1 x9_1).f2) 0 (wrap64 ((l0_2.length : Int) - 1))).bind fun t253 => (task_parted.j2 kj7 l1 l1 (l1.length : Int) x9_1 t253 a0_0 l0_1 l0_2 l0_3 ((rd_T50 l1 x9_1).f0) ((rd_T50 l1 x9_1).f1) ((rd_T50 l1 x9_1).f2))) else (task_parted.j2 kj7 l1 l1 (l1.length : Int) x9_1 false a0_0 l0_1 l0_2 l0_3 ((rd_T50 l1 x9_1).f0) ((rd_T50 l1 x9_1).f1) ((rd_T50 l1 x9_1).f2))) = some r := by rw [if_neg (show ¬ (false = true) by decide)] at H; exact H
  clear H
  have H := H1
  clear H1
  have HC20 := Aside0.mk H
  clear H
  go_upto_region 6 with (fail)
  go_cut [24] (fun v24 wc => ∃ (kq : Nat) (x24_19 : Bool), v24 = .bool x24_19 ∧ Aside0 (task_parted.j2 kq l1 l1 (l1.length : Int) x9_1 x24_19 a0_0 l0_1 l0_2 l0_3 ((rd_T50 l1 x9_1).f0) ((rd_T50 l1 x9_1).f1) ((rd_T50 l1 x9_1).f2) = some r) ∧ Aside0 (kq ≤ kj7) ∧ Aside0 (wc.heap[gb247]? = some (.cells #[.int .i64 a0_0, (.slice A0_1 l0_1.length c0_1), (.slice A0_2 l0_2.length c0_2), (.slice A0_3 l0_3.length c0_3)] 37 (0, 0))) ∧ Aside0 (wc.heap[gb250]? = some (.cells #[.int .i64 ((rd_T50 l1 x9_1).f0), .int .i64 ((rd_T50 l1 x9_1).f1), .int .i64 ((rd_T50 l1 x9_1).f2)] 50 (0, 0))) ∧ Aside0 (Below w.heap.size w wc))
  case first =>
    have H := HC20.out
    clear HC20
    by_cases c21 : ((rd_T50 l1 x9_1).f0) = 3
    rotate_left
    · rw [if_neg c21] at H
      have c21b0 : (((rd_T50 l1 x9_1).f0) == 3) = false := beq_eq_false_iff_ne.mpr c21
      have c21b1 : (((rd_T50 l1 x9_1).f0) != 3) = true := bne_iff_ne.mpr c21
      (first | rw [c21b0] | (simp only [i64_w, i32_w]; rw [c21b0]) | skip)
      have H' := Aside0.mk H
      clear H
      have hnb22 := NB250_247.out
      have hnc22 := NB247_250.out
      have hcz23_0 : wc.cell? ⟨gb250, 0, none⟩ = some (.int .i64 ((rd_T50 l1 x9_1).f0)) := (blk_cell BK250.out 0).trans rfl
      have hcz23_1 : wc.cell? ⟨gb250, 1, none⟩ = some (.int .i64 ((rd_T50 l1 x9_1).f1)) := (blk_cell BK250.out 1).trans rfl
      have hcz23_2 : wc.cell? ⟨gb250, 2, none⟩ = some (.int .i64 ((rd_T50 l1 x9_1).f2)) := (blk_cell BK250.out 2).trans rfl
      have hfz23_0 := blk_frozen BK250.out 0
      have hfz23_1 := blk_frozen BK250.out 1
      have hfz23_2 := blk_frozen BK250.out 2
      go_wp2
      repeat (go_step3; try go_wp2)
      go_meet
      case rel => exact ⟨_, (false), (by first | rfl | (simp; done) | (simp [*]; done)), H', ⟨by have := HK1.out; have := HJ7.out; first | omega | exact Nat.le_refl _⟩, ⟨BK247.out⟩, ⟨BK250.out⟩, ⟨HB.out⟩⟩
    rw [if_pos c21] at H
    have c21b0 : (((rd_T50 l1 x9_1).f0) == 3) = true := beq_iff_eq.mpr c21
    have c21b1 : (((rd_T50 l1 x9_1).f0) != 3) = false := bne_eq_false_iff_eq.mpr c21
    clear c21
    (first | rw [c21b0] | (simp only [i64_w, i32_w]; rw [c21b0]) | skip)
    replace H := Option.bind_eq_some_iff.mp H
    obtain ⟨t253, A240, H⟩ := H
    replace H : (task_parted.j2 kj7 l1 l1 (l1.length : Int) x9_1 t253 a0_0 l0_1 l0_2 l0_3 ((rd_T50 l1 x9_1).f0) ((rd_T50 l1 x9_1).f1) ((rd_T50 l1 x9_1).f2)) = some r := H
    have A24 := Aside0.mk A240
    clear A240
    have H' := Aside0.mk H
    clear H
    have hnb25 := NB250_247.out
    have hnc25 := NB247_250.out
    have hcz26_0 : wc.cell? ⟨gb250, 0, none⟩ = some (.int .i64 ((rd_T50 l1 x9_1).f0)) := (blk_cell BK250.out 0).trans rfl
    have hcz26_1 : wc.cell? ⟨gb250, 1, none⟩ = some (.int .i64 ((rd_T50 l1 x9_1).f1)) := (blk_cell BK250.out 1).trans rfl
    have hcz26_2 : wc.cell? ⟨gb250, 2, none⟩ = some (.int .i64 ((rd_T50 l1 x9_1).f2)) := (blk_cell BK250.out 2).trans rfl
    have hfz26_0 := blk_frozen BK250.out 0
    have hfz26_1 := blk_frozen BK250.out 1
    have hfz26_2 := blk_frozen BK250.out 2
    have hcz27_0 : wc.cell? ⟨gb247, 0, none⟩ = some (.int .i64 a0_0) := (blk_cell BK247.out 0).trans rfl
    have hcz27_1 : wc.cell? ⟨gb247, 1, none⟩ = some (.slice A0_1 l0_1.length c0_1) := (blk_cell BK247.out 1).trans rfl
    have hcz27_2 : wc.cell? ⟨gb247, 2, none⟩ = some (.slice A0_2 l0_2.length c0_2) := (blk_cell BK247.out 2).trans rfl
    have hcz27_3 : wc.cell? ⟨gb247, 3, none⟩ = some (.slice A0_3 l0_3.length c0_3) := (blk_cell BK247.out 3).trans rfl
    have hfz27_0 := blk_frozen BK247.out 0
    have hfz27_1 := blk_frozen BK247.out 1
    have hfz27_2 := blk_frozen BK247.out 2
    have hfz27_3 := blk_frozen BK247.out 3
    go_wp2_with (first | (go_at_call 52; (with_reducible refine (task_between.calls ((rd_T50 l1 x9_1).f2) 0 (wrap64 ((l0_2.length : Int) - 1)) t253 _ A24.out).mono ?_); rintro e w' ⟨rfl, ⟨nd, rfl⟩⟩))
    repeat (go_step3; try go_wp2_with (first | (go_at_call 52; (with_reducible refine (task_between.calls ((rd_T50 l1 x9_1).f2) 0 (wrap64 ((l0_2.length : Int) - 1)) t253 _ A24.out).mono ?_); rintro e w' ⟨rfl, ⟨nd, rfl⟩⟩)))
    go_meet
    case rel => exact ⟨_, (t253), (by first | rfl | (simp; done) | (simp [*]; done)), H', ⟨by have := HK1.out; have := HJ7.out; first | omega | exact Nat.le_refl _⟩, ⟨by (with_reducible repeat (first | refine blk_drewN ?_ _ | refine blk_drew ?_ | refine blk_alloc ?_ _)); exact BK247.out⟩, ⟨by (with_reducible repeat (first | refine blk_drewN ?_ _ | refine blk_drew ?_ | refine blk_alloc ?_ _)); exact BK250.out⟩, ⟨by repeat (first | (with_reducible first | exact HB.out | apply below_alloc | apply pw_below_drewN | apply below_drew1 | refine below_set ?_ GE247.out | refine below_set ?_ GE250.out) | exact HB.out)⟩⟩
  clear HC20
  (try clear c1); (try clear c2); (try clear p2); (try clear q2); (try clear hx2); (try clear p3); (try clear c4); (try clear c4b0); (try clear c5); (try clear c6); (try clear c6b0); (try clear p6); (try clear c7); (try clear c7b0); (try clear c10); (try clear c13); (try clear c14); (try clear c17); (try clear c19); (try clear c21); (try clear c21b0); (try clear c21b1); (try clear c22); (try clear p24); (try clear q24); (try clear hx24); (try clear c25); (try clear hcz11_0); (try clear hcz11_1); (try clear hcz11_2); (try clear hcz15_0); (try clear hcz15_1); (try clear hcz15_2); (try clear hcz18_0); (try clear hcz18_1); (try clear hcz18_2); (try clear hcz23_0); (try clear hcz23_1); (try clear hcz23_2); (try clear hcz26_0); (try clear hcz26_1); (try clear hcz26_2); (try clear hcz27_0); (try clear hcz27_1); (try clear hcz27_2); (try clear hcz27_3); (try clear hfz11_0); (try clear hfz11_1); (try clear hfz11_2); (try clear hfz15_0); (try clear hfz15_1); (try clear hfz15_2); (try clear hfz18_0); (try clear hfz18_1); (try clear hfz18_2); (try clear hfz23_0); (try clear hfz23_1); (try clear hfz23_2); (try clear hfz26_0); (try clear hfz26_1); (try clear hfz26_2); (try clear hfz27_0); (try clear hfz27_1); (try clear hfz27_2); (try clear hfz27_3); (try clear hx249_0); (try clear hx249_1); (try clear hx249_2); (try clear p2); (try clear p249); (try clear p3); (try clear q2); (try clear q249)
  obtain ⟨kq, x24_19, rfl, HA, HJ19, BK247, BK250, HB⟩ := hcut
  cases kq with
  | zero => exact absurd HA.out (by simp [task_parted.j2])
  | succ kj19 => ?_
  have H := HA.out
  clear HA
  simp only [task_parted.j2] at H
  by_cases c28 : x24_19 = true
  · subst c28
    have H1 : (task_parted.l0 kj19 l1 l1 (l1.length : Int) (wrap64 (x9_1 + 1)) a0_0 l0_1 l0_2 l0_3) = some r := by rw [if_pos rfl] at H; exact H
    clear H
    have H := H1
    clear H1
    have H' := Aside0.mk H
    clear H
    go_wp2
    repeat (go_step3; try go_wp2)
    go_roundg kj19
    case measure => have := HK1.out; have := HJ7.out; have := HJ19.out; omega
    case rel => exact ⟨(wrap64 (x9_1 + 1)), (by first | rfl | (simp; done) | (simp [*]; done)), H', ⟨by have := HK1.out; have := HJ7.out; have := HJ19.out; omega⟩, ⟨BK247.out⟩, ⟨HB.out⟩⟩
  replace c28 := Bool.eq_false_iff.mpr c28
  subst c28
  have H1 : (if ((rd_T50 l1 x9_1).f0) = 3 then (some false) else (if ((rd_T50 l1 x9_1).f2) = 0 then (task_parted.l0 kj19 l1 l1 (l1.length : Int) (wrap64 (x9_1 + 1)) a0_0 l0_1 l0_2 l0_3) else (some false))) = some r := by rw [if_neg (show ¬ (false = true) by decide)] at H; exact H
  clear H
  have H := H1
  clear H1
  by_cases c29 : ((rd_T50 l1 x9_1).f0) = 3
  · rw [if_pos c29] at H
    have c29b0 : (((rd_T50 l1 x9_1).f0) == 3) = true := beq_iff_eq.mpr c29
    have c29b1 : (((rd_T50 l1 x9_1).f0) != 3) = false := bne_eq_false_iff_eq.mpr c29
    clear c29
    obtain rfl := Option.some.inj H
    have hnb30 := NB250_247.out
    have hnc30 := NB247_250.out
    have hcz31_0 : wc.cell? ⟨gb250, 0, none⟩ = some (.int .i64 ((rd_T50 l1 x9_1).f0)) := (blk_cell BK250.out 0).trans rfl
    have hcz31_1 : wc.cell? ⟨gb250, 1, none⟩ = some (.int .i64 ((rd_T50 l1 x9_1).f1)) := (blk_cell BK250.out 1).trans rfl
    have hcz31_2 : wc.cell? ⟨gb250, 2, none⟩ = some (.int .i64 ((rd_T50 l1 x9_1).f2)) := (blk_cell BK250.out 2).trans rfl
    have hfz31_0 := blk_frozen BK250.out 0
    have hfz31_1 := blk_frozen BK250.out 1
    have hfz31_2 := blk_frozen BK250.out 2
    go_wp2
    repeat (go_step3; try go_wp2)
    go_ret
    exact ⟨by first | rfl | (simp [errW_none, errW_some] <;> rfl) | (simp [*, errW_none, errW_some] <;> rfl), HB.out⟩
  rw [if_neg c29] at H
  have c29b0 : (((rd_T50 l1 x9_1).f0) == 3) = false := beq_eq_false_iff_ne.mpr c29
  have c29b1 : (((rd_T50 l1 x9_1).f0) != 3) = true := bne_iff_ne.mpr c29
  by_cases c32 : ((rd_T50 l1 x9_1).f2) = 0
  rotate_left
  · rw [if_neg c32] at H
    have c32b0 : (((rd_T50 l1 x9_1).f2) == 0) = false := beq_eq_false_iff_ne.mpr c32
    have c32b1 : (((rd_T50 l1 x9_1).f2) != 0) = true := bne_iff_ne.mpr c32
    obtain rfl := Option.some.inj H
    have hnb33 := NB250_247.out
    have hnc33 := NB247_250.out
    have hcz34_0 : wc.cell? ⟨gb250, 0, none⟩ = some (.int .i64 ((rd_T50 l1 x9_1).f0)) := (blk_cell BK250.out 0).trans rfl
    have hcz34_1 : wc.cell? ⟨gb250, 1, none⟩ = some (.int .i64 ((rd_T50 l1 x9_1).f1)) := (blk_cell BK250.out 1).trans rfl
    have hcz34_2 : wc.cell? ⟨gb250, 2, none⟩ = some (.int .i64 ((rd_T50 l1 x9_1).f2)) := (blk_cell BK250.out 2).trans rfl
    have hfz34_0 := blk_frozen BK250.out 0
    have hfz34_1 := blk_frozen BK250.out 1
    have hfz34_2 := blk_frozen BK250.out 2
    go_wp2
    repeat (go_step3; try go_wp2)
    go_ret
    exact ⟨by first | rfl | (simp [errW_none, errW_some] <;> rfl) | (simp [*, errW_none, errW_some] <;> rfl), HB.out⟩
  rw [if_pos c32] at H
  have c32b0 : (((rd_T50 l1 x9_1).f2) == 0) = true := beq_iff_eq.mpr c32
  have c32b1 : (((rd_T50 l1 x9_1).f2) != 0) = false := bne_eq_false_iff_eq.mpr c32
  clear c32
  have H' := Aside0.mk H
  clear H
  have hnb35 := NB250_247.out
  have hnc35 := NB247_250.out
  have hcz36_0 : wc.cell? ⟨gb250, 0, none⟩ = some (.int .i64 ((rd_T50 l1 x9_1).f0)) := (blk_cell BK250.out 0).trans rfl
  have hcz36_1 : wc.cell? ⟨gb250, 1, none⟩ = some (.int .i64 ((rd_T50 l1 x9_1).f1)) := (blk_cell BK250.out 1).trans rfl
  have hcz36_2 : wc.cell? ⟨gb250, 2, none⟩ = some (.int .i64 ((rd_T50 l1 x9_1).f2)) := (blk_cell BK250.out 2).trans rfl
  have hfz36_0 := blk_frozen BK250.out 0
  have hfz36_1 := blk_frozen BK250.out 1
  have hfz36_2 := blk_frozen BK250.out 2
  go_wp2
  repeat (go_step3; try go_wp2)
  go_roundg kj19
  case measure => have := HK1.out; have := HJ7.out; have := HJ19.out; omega
  case rel => exact ⟨(wrap64 (x9_1 + 1)), (by first | rfl | (simp; done) | (simp [*]; done)), H', ⟨by have := HK1.out; have := HJ7.out; have := HJ19.out; omega⟩, ⟨BK247.out⟩, ⟨HB.out⟩⟩

end Go.Proofs.YtgkjoodlcojkkaaDoor.QD
end
section
/- The contracts of task.placed and task.one (functions that hand closures to slices.ContainsFunc), in the form of the printed ones. No conditions beside those of the printed form. -/
namespace Go.Proofs.YtgkjoodlcojkkaaDoor.QD
open Go.RowKit Go.Proofs.YtgkjoodlcojkkaaDoorW.PrintWords Go.Proofs.YtgkjoodlcojkkaaDoorW.PrintLast Go.Proofs.YtgkjoodlcojkkaaDoorW.PrintMore
attribute [local go_sem] max2_int min2_int max_two min_two max_three min_three max_four min_four
set_option linter.unusedVariables false
set_option linter.unusedSimpArgs false

/-- task.between's answer. -/
def btw (a b c : Int) : Bool := decide (b ≤ a) && decide (a ≤ c)
theorem between_any (a b c : Int) (w : World) : Calls Tryd.prog 52 #[.int .i64 a, .int .i64 b, .int .i64 c] w fun e w' => e = .returned (.bool (btw a b c)) ∧ Drawn0 w w' := by
  refine task_between.calls a b c (btw a b c) w ?_
  unfold task_between.f btw
  by_cases h : a ≥ b
  · rw [if_pos h]; have h' : b ≤ a := h; simp [h']
  · rw [if_neg h]; have h' : ¬ b ≤ a := h; simp [h']

theorem core_any (n : Int) (w : World) : Calls Tryd.prog 70 #[.int .i64 n] w fun e w' => e = .returned (.bool (!btw n 1 3)) ∧ Drawn0 w w' := by
  go_enter Tryd.func70, Tryd.ntmps70
  go_wp2_with (go_at_call 52; refine (between_any _ _ _ _).mono ?_; rintro e w' ⟨rfl, ⟨nd, rfl⟩⟩)
  go_ret
  exact ⟨rfl, ⟨⟨nd, rfl⟩⟩⟩

/-- An index that tells whether some element meets p. -/
def SomeIdx (b : Bool) (w : World) (e : Ending) (w' : World) : Prop := ∃ n : Int, e = .returned (.int .i64 n) ∧ decide (0 ≤ n) = b ∧ Below w.heap.size w w'

theorem any_step (p : Int → Bool) (xs : List Int) (k : Nat) (hk : k < xs.length) (h : (xs.take k).any p = false) (hp : p (rd xs k) = false) : (xs.take (k + 1)).any p = false := by
  rw [List.take_succ_eq_append_getElem hk, List.any_append, h]
  have e : rd xs (k : Int) = xs[k] := by simp [rd, hk]
  rw [e] at hp
  simp [hp]
theorem any_hit (p : Int → Bool) (xs : List Int) (k : Nat) (hk : k < xs.length) (hp : p (rd xs k) = true) : xs.any p = true := by
  have e : rd xs (k : Int) = xs[k] := by simp [rd, hk]
  rw [e] at hp
  exact List.any_eq_true.2 ⟨xs[k], List.getElem_mem hk, hp⟩

set_option maxHeartbeats 1000000 in
theorem index_core (A : Option Addr) (c : Nat) (xs : List Int) (w : World) (hr : Kd.C (Kd.int .i64) w A xs.length xs) (hn : xs.length ≤ 4611686018427387904) :
    Calls Tryd.prog 93 #[.slice A xs.length c, .func (.func 70) #[] #[]] w (SomeIdx (xs.any fun n => !btw n 1 3) w) := by
  have HR := Aside0.mk hr
  clear hr
  go_enter Tryd.func93, Tryd.ntmps93
  go_wp2
  go_loopg [8] xs.length (fun kq v8 w' => ∃ (k : Nat), v8 = .int .i64 k ∧ Aside0 (kq + k = xs.length) ∧ Aside0 ((xs.take k).any (fun n => !btw n 1 3) = false) ∧ Drawn0 w w')
  case atStart => exact ⟨0, rfl, ⟨by omega⟩, ⟨rfl⟩, Drawn0.refl _⟩
  obtain ⟨k, rfl, HK, HN, ⟨m, rfl⟩⟩ := hrel
  by_cases hlt : k < xs.length
  · have p0 : (0 : Int) ≤ (k : Int) := by omega
    have q0 : (k : Int) < (xs.length : Int) := by omega
    obtain ⟨ad, e, hx⟩ := Kd.at_int HR.out (k : Int) p0 q0
    cases e
    simp only [Int.toNat_natCast] at hx
    have HS := Aside0.mk (any_step (fun n => !btw n 1 3) xs k hlt HN.out)
    have HH := Aside0.mk (any_hit (fun n => !btw n 1 3) xs k hlt)
    have HL := Aside0.mk hlt
    cases hb : btw (rd xs (k : Int)) 1 3 with
    | true =>
      have HBT := Aside0.mk hb
      go_wp2_with (go_at_call 70; refine (core_any _ _).mono ?_; rintro e w' ⟨rfl, ⟨nd, rfl⟩⟩)
      go_roundg (gk - 1)
      case measure => have := HL.out; have := HK.out; omega
      case rel => exact ⟨k + 1, by go_num, ⟨by have := HL.out; have := HK.out; omega⟩, ⟨HS.out (by simp [HBT.out])⟩, ⟨⟨_, rfl⟩⟩⟩
    | false =>
      have HBT := Aside0.mk hb
      go_wp2_with (go_at_call 70; refine (core_any _ _).mono ?_; rintro e w' ⟨rfl, ⟨nd, rfl⟩⟩)
      go_ret
      exact ⟨_, rfl, by rw [HH.out (by simp [HBT.out])]; simp, by repeat (first | exact Below.refl _ _ | apply pw_below_drewN | apply below_drew1)⟩
  · have hk : xs.length ≤ k := by omega
    have HE := Aside0.mk (show xs.any (fun n => !btw n 1 3) = false by have h := HN.out; rwa [List.take_of_length_le hk] at h)
    go_wp2
    go_ret
    exact ⟨_, rfl, by rw [HE.out]; simp, by repeat (first | exact Below.refl _ _ | apply pw_below_drewN | apply below_drew1)⟩

theorem home_any (n : Int) (g : Nat) (a0 : Int) (A1 : Option Addr) (n1 c1 : Nat) (A2 : Option Addr) (n2 c2 : Nat) (A3 : Option Addr) (n3 c3 : Nat) (w : World)
    (hbx : w.heap[g]? = some (.cells #[.int .i64 a0, .slice A1 n1 c1, .slice A2 n2 c2, .slice A3 n3 c3] 37 (0, 0))) (hn1 : n1 ≤ 4611686018427387904) :
    Calls Tryd.prog 71 #[.int .i64 n, .pointer (some ⟨g, 0, none⟩)] w fun e w' => e = .returned (.bool (!btw n 0 ((n1 : Int) - 1))) ∧ Drawn0 w w' := by
  have hu37 := Tryd.underlying37
  have hc1 : w.cell? ⟨g, 1, none⟩ = some (.slice A1 n1 c1) := (blk_cell hbx 1).trans rfl
  clear hbx
  go_enter Tryd.func71, Tryd.ntmps71
  go_wp2_with (go_at_call 52; refine (between_any _ _ _ _).mono ?_; rintro e w' ⟨rfl, ⟨nd, rfl⟩⟩)
  go_ret
  exact ⟨rfl, ⟨⟨nd, rfl⟩⟩⟩

set_option maxHeartbeats 1000000 in
theorem index_home (A : Option Addr) (c : Nat) (xs : List Int) (g : Nat) (a0 : Int) (A1 : Option Addr) (n1 c1 : Nat) (A2 : Option Addr) (n2 c2 : Nat) (A3 : Option Addr) (n3 c3 : Nat) (w : World) (hbx : w.heap[g]? = some (.cells #[.int .i64 a0, .slice A1 n1 c1, .slice A2 n2 c2, .slice A3 n3 c3] 37 (0, 0))) (hn1 : n1 ≤ 4611686018427387904) (hr : Kd.C (Kd.int .i64) w A xs.length xs) (hn : xs.length ≤ 4611686018427387904) :
    Calls Tryd.prog 93 #[.slice A xs.length c, .func (.func 71) #[] #[.pointer (some ⟨g, 0, none⟩)]] w (SomeIdx (xs.any fun n => !btw n 0 ((n1 : Int) - 1)) w) := by
  have HR := Aside0.mk hr
  have HBX := Aside0.mk hbx
  clear hr hbx
  go_enter Tryd.func93, Tryd.ntmps93
  go_wp2
  go_loopg [8] xs.length (fun kq v8 w' => ∃ (k : Nat), v8 = .int .i64 k ∧ Aside0 (kq + k = xs.length) ∧ Aside0 ((xs.take k).any (fun n => !btw n 0 ((n1 : Int) - 1)) = false) ∧ Drawn0 w w')
  case atStart => exact ⟨0, rfl, ⟨by omega⟩, ⟨rfl⟩, Drawn0.refl _⟩
  obtain ⟨k, rfl, HK, HN, ⟨m, rfl⟩⟩ := hrel
  by_cases hlt : k < xs.length
  · have p0 : (0 : Int) ≤ (k : Int) := by omega
    have q0 : (k : Int) < (xs.length : Int) := by omega
    obtain ⟨ad, e, hx⟩ := Kd.at_int HR.out (k : Int) p0 q0
    cases e
    simp only [Int.toNat_natCast] at hx
    have HS := Aside0.mk (any_step (fun n => !btw n 0 ((n1 : Int) - 1)) xs k hlt HN.out)
    have HH := Aside0.mk (any_hit (fun n => !btw n 0 ((n1 : Int) - 1)) xs k hlt)
    have HL := Aside0.mk hlt
    cases hb : btw (rd xs (k : Int)) 0 ((n1 : Int) - 1) with
    | true =>
      have HBT := Aside0.mk hb
      go_wp2_with (go_at_call 71; refine (home_any _ g a0 A1 n1 c1 A2 n2 c2 A3 n3 c3 _ (blk_drewN HBX.out _) hn1).mono ?_; rintro e w' ⟨rfl, ⟨nd, rfl⟩⟩)
      go_roundg (gk - 1)
      case measure => have := HL.out; have := HK.out; omega
      case rel => exact ⟨k + 1, by go_num, ⟨by have := HL.out; have := HK.out; omega⟩, ⟨HS.out (by simp [HBT.out])⟩, ⟨⟨_, rfl⟩⟩⟩
    | false =>
      have HBT := Aside0.mk hb
      go_wp2_with (go_at_call 71; refine (home_any _ g a0 A1 n1 c1 A2 n2 c2 A3 n3 c3 _ (blk_drewN HBX.out _) hn1).mono ?_; rintro e w' ⟨rfl, ⟨nd, rfl⟩⟩)
      go_ret
      exact ⟨_, rfl, by rw [HH.out (by simp [HBT.out])]; simp, by repeat (first | exact Below.refl _ _ | apply pw_below_drewN | apply below_drew1)⟩
  · have hk : xs.length ≤ k := by omega
    have HE := Aside0.mk (show xs.any (fun n => !btw n 0 ((n1 : Int) - 1)) = false by have h := HN.out; rwa [List.take_of_length_le hk] at h)
    go_wp2
    go_ret
    exact ⟨_, rfl, by rw [HE.out]; simp, by repeat (first | exact Below.refl _ _ | apply pw_below_drewN | apply below_drew1)⟩

/-- one$1's answer: the same name, or the same priority. -/
def twb (o0 : ByteArray) (o3 : Int) (t0 : ByteArray) (t3 : Int) : Bool := (o0.toList == t0.toList) || (o3 == t3)
set_option maxHeartbeats 1000000 in
theorem twice_any (o : S53) (Ao : Option Addr) (co : Nat) (g : Nat) (t0 : ByteArray) (t1 t2 t3 t4 : Int) (A5 : Option Addr) (n5 c5 : Nat) (w : World)
    (hbx : w.heap[g]? = some (.cells #[.string t0, .int .i64 t1, .int .i64 t2, .int .i64 t3, .int .i64 t4, .slice A5 n5 c5] 53 (0, 0))) :
    Calls Tryd.prog 73 #[.agg #[.string o.f0, .int .i64 o.f1, .int .i64 o.f2, .int .i64 o.f3, .int .i64 o.f4, .slice Ao o.f5.length co], .pointer (some ⟨g, 0, none⟩)] w fun e w' => e = .returned (.bool (twb o.f0 o.f3 t0 t3)) ∧ Below w.heap.size w w' := by
  have hu53 := Tryd.underlying53
  have HG := Aside0.mk (blk_lt hbx)
  have hc0 : ∀ ob, (w.alloc ob).cell? ⟨g, 0, none⟩ = some (.string t0) := fun ob => (blk_cell (blk_alloc hbx ob) 0).trans rfl
  have hc3 : ∀ ob, (w.alloc ob).cell? ⟨g, 3, none⟩ = some (.int .i64 t3) := fun ob => (blk_cell (blk_alloc hbx ob) 3).trans rfl
  clear hbx
  cases h1 : (o.f0.toList == t0.toList) with
  | true =>
    have HE : Aside0 (twb o.f0 o.f3 t0 t3 = true) := ⟨by unfold twb; simp only [h1, Bool.true_or]⟩
    go_enter Tryd.func73, Tryd.ntmps73
    go_wp2
    go_ret
    exact ⟨by rw [HE.out]; rfl, (Below.refl _ _).alloc (Nat.le_refl _) _⟩
  | false =>
    cases h2 : (o.f3 == t3) with
    | true =>
      have HE : Aside0 (twb o.f0 o.f3 t0 t3 = true) := ⟨by unfold twb; rw [h1, h2]; rfl⟩
      go_enter Tryd.func73, Tryd.ntmps73
      go_wp2
      go_ret
      exact ⟨by rw [HE.out]; rfl, (Below.refl _ _).alloc (Nat.le_refl _) _⟩
    | false =>
      have HE : Aside0 (twb o.f0 o.f3 t0 t3 = false) := ⟨by unfold twb; rw [h1, h2]; rfl⟩
      go_enter Tryd.func73, Tryd.ntmps73
      go_wp2
      go_ret
      exact ⟨by rw [HE.out]; rfl, (Below.refl _ _).alloc (Nat.le_refl _) _⟩

theorem any_stepT (p : S53 → Bool) (xs : List S53) (k : Nat) (hk : k < xs.length) (h : (xs.take k).any p = false) (hp : p (rd_T53 xs k) = false) : (xs.take (k + 1)).any p = false := by
  rw [List.take_succ_eq_append_getElem hk, List.any_append, h]
  have e : rd_T53 xs (k : Int) = xs[k] := by simp [rd_T53, hk]
  rw [e] at hp
  simp [hp]
theorem any_hitT (p : S53 → Bool) (xs : List S53) (k : Nat) (hk : k < xs.length) (hp : p (rd_T53 xs k) = true) : xs.any p = true := by
  have e : rd_T53 xs (k : Int) = xs[k] := by simp [rd_T53, hk]
  rw [e] at hp
  exact List.any_eq_true.2 ⟨xs[k], List.getElem_mem hk, hp⟩

set_option maxHeartbeats 2000000 in
theorem index_twice (A : Option Addr) (c : Nat) (xs : List S53) (g : Nat) (t0 : ByteArray) (t1 t2 t3 t4 : Int) (A5 : Option Addr) (n5 c5 : Nat) (w : World)
    (hbx : w.heap[g]? = some (.cells #[.string t0, .int .i64 t1, .int .i64 t2, .int .i64 t3, .int .i64 t4, .slice A5 n5 c5] 53 (0, 0))) (hr : Kd.C k53 w A xs.length xs) (hn : xs.length ≤ 4611686018427387904) :
    Calls Tryd.prog 94 #[.slice A xs.length c, .func (.func 73) #[] #[.pointer (some ⟨g, 0, none⟩)]] w (SomeIdx (xs.any fun o => twb o.f0 o.f3 t0 t3) w) := by
  have hu53 := Tryd.underlying53
  have HR := Aside0.mk hr
  have HBX := Aside0.mk hbx
  clear hr hbx
  go_enter Tryd.func94, Tryd.ntmps94
  go_wp2
  go_loopg [8] xs.length (fun kq v8 w' => ∃ (k : Nat), v8 = .int .i64 k ∧ Aside0 (kq + k = xs.length) ∧ Aside0 ((xs.take k).any (fun o => twb o.f0 o.f3 t0 t3) = false) ∧ Aside0 (Below w.heap.size w w'))
  case atStart => exact ⟨0, rfl, ⟨by omega⟩, ⟨rfl⟩, ⟨Below.refl _ _⟩⟩
  obtain ⟨k, rfl, HK, HN, HB⟩ := hrel
  by_cases hlt : k < xs.length
  · have p0 : (0 : Int) ≤ (k : Int) := by omega
    have q0 : (k : Int) < (xs.length : Int) := by omega
    obtain ⟨ad, A6, c6, e, hx0, hx1, hx2, hx3, hx4, hx5, hl6, hi6⟩ := at_T53 (Kd.C_below HR.out HB.out) (k : Int) p0 q0
    cases e
    simp only [Int.toNat_natCast] at hx0 hx1 hx2 hx3 hx4 hx5
    clear hl6 hi6
    have HS := Aside0.mk (any_stepT (fun o => twb o.f0 o.f3 t0 t3) xs k hlt HN.out)
    have HH := Aside0.mk (any_hitT (fun o => twb o.f0 o.f3 t0 t3) xs k hlt)
    have HL := Aside0.mk hlt
    have HBX2 := Aside0.mk (blk_below HBX.out HB.out)
    cases hb : twb (rd_T53 xs (k : Int)).f0 (rd_T53 xs (k : Int)).f3 t0 t3 with
    | true =>
      have HBT := Aside0.mk hb
      clear hb
      go_wp2_with (go_at_call 73; refine (twice_any (rd_T53 xs (k : Int)) A6 c6 g t0 t1 t2 t3 t4 A5 n5 c5 _ HBX2.out).mono ?_; rintro e w' ⟨rfl, hb⟩; rw [HBT.out]; have HB3 := Aside0.mk hb; clear hb)
      go_ret
      exact ⟨_, rfl, by rw [HH.out HBT.out]; simp, below_step HB.out HB3.out⟩
    | false =>
      have HBT := Aside0.mk hb
      clear hb
      go_wp2_with (go_at_call 73; refine (twice_any (rd_T53 xs (k : Int)) A6 c6 g t0 t1 t2 t3 t4 A5 n5 c5 _ HBX2.out).mono ?_; rintro e w' ⟨rfl, hb⟩; rw [HBT.out]; have HB3 := Aside0.mk hb; clear hb)
      go_roundg (gk - 1)
      case measure => have := HL.out; have := HK.out; omega
      case rel => exact ⟨k + 1, by go_num, ⟨by have := HL.out; have := HK.out; omega⟩, ⟨HS.out HBT.out⟩, ⟨below_step HB.out HB3.out⟩⟩
  · have hk : xs.length ≤ k := by omega
    have HE := Aside0.mk (show xs.any (fun o => twb o.f0 o.f3 t0 t3) = false by have h := HN.out; rwa [List.take_of_length_le hk] at h)
    go_wp2
    go_ret
    exact ⟨_, rfl, by rw [HE.out]; simp, HB.out⟩

theorem contains_core (A : Option Addr) (c : Nat) (xs : List Int) (w : World) (hr : Kd.C (Kd.int .i64) w A xs.length xs) (hn : xs.length ≤ 4611686018427387904) :
    Calls Tryd.prog 72 #[.slice A xs.length c, .func (.func 70) #[] #[]] w fun e w' => e = .returned (.bool (xs.any fun n => !btw n 1 3)) ∧ Below w.heap.size w w' := by
  have HR := Aside0.mk hr
  clear hr
  go_enter Tryd.func72, Tryd.ntmps72
  go_wp2_with (go_at_call 93; refine (index_core A c xs _ HR.out hn).mono ?_; rintro e w' ⟨n, rfl, hd, hb⟩; have HD := Aside0.mk hd; have HB := Aside0.mk hb; clear hd hb)
  go_ret
  exact ⟨by rw [HD.out]; rfl, HB.out⟩

theorem contains_home (A : Option Addr) (c : Nat) (xs : List Int) (g : Nat) (a0 : Int) (A1 : Option Addr) (n1 c1 : Nat) (A2 : Option Addr) (n2 c2 : Nat) (A3 : Option Addr) (n3 c3 : Nat) (w : World) (hbx : w.heap[g]? = some (.cells #[.int .i64 a0, .slice A1 n1 c1, .slice A2 n2 c2, .slice A3 n3 c3] 37 (0, 0))) (hn1 : n1 ≤ 4611686018427387904) (hr : Kd.C (Kd.int .i64) w A xs.length xs) (hn : xs.length ≤ 4611686018427387904) :
    Calls Tryd.prog 72 #[.slice A xs.length c, .func (.func 71) #[] #[.pointer (some ⟨g, 0, none⟩)]] w fun e w' => e = .returned (.bool (xs.any fun n => !btw n 0 ((n1 : Int) - 1))) ∧ Below w.heap.size w w' := by
  have HR := Aside0.mk hr
  have HBX := Aside0.mk hbx
  clear hr hbx
  go_enter Tryd.func72, Tryd.ntmps72
  go_wp2_with (go_at_call 93; refine (index_home A c xs g a0 A1 n1 c1 A2 n2 c2 A3 n3 c3 _ HBX.out hn1 HR.out hn).mono ?_; rintro e w' ⟨n, rfl, hd, hb⟩; have HD := Aside0.mk hd; have HB := Aside0.mk hb; clear hd hb)
  go_ret
  exact ⟨by rw [HD.out]; rfl, HB.out⟩

theorem contains_twice (A : Option Addr) (c : Nat) (xs : List S53) (g : Nat) (t0 : ByteArray) (t1 t2 t3 t4 : Int) (A5 : Option Addr) (n5 c5 : Nat) (w : World)
    (hbx : w.heap[g]? = some (.cells #[.string t0, .int .i64 t1, .int .i64 t2, .int .i64 t3, .int .i64 t4, .slice A5 n5 c5] 53 (0, 0))) (hr : Kd.C k53 w A xs.length xs) (hn : xs.length ≤ 4611686018427387904) :
    Calls Tryd.prog 74 #[.slice A xs.length c, .func (.func 73) #[] #[.pointer (some ⟨g, 0, none⟩)]] w fun e w' => e = .returned (.bool (xs.any fun o => twb o.f0 o.f3 t0 t3)) ∧ Below w.heap.size w w' := by
  have HR := Aside0.mk hr
  have HBX := Aside0.mk hbx
  clear hr hbx
  go_enter Tryd.func74, Tryd.ntmps74
  go_wp2_with (go_at_call 94; refine (index_twice A c xs g t0 t1 t2 t3 t4 A5 n5 c5 _ HBX.out HR.out hn).mono ?_; rintro e w' ⟨n, rfl, hd, hb⟩; have HD := Aside0.mk hd; have HB := Aside0.mk hb; clear hd hb)
  go_ret
  exact ⟨by rw [HD.out]; rfl, HB.out⟩

/-- task.placed's answer. -/
def plB (l1 l2 : List Int) : Bool := btw (l1.length : Int) 1 3 && decide (l2.length ≤ 4) && !(l1.any fun n => !btw n 1 3) && !(l2.any fun n => !btw n 0 ((l1.length : Int) - 1))
def task_placed.f (a0_0 : Int) (l0_1 : List Int) (l0_2 : List Int) (l0_3 : List (S53)) : Option (Bool) := some (plB l0_1 l0_2)
set_option maxHeartbeats 2000000 in
set_option maxRecDepth 100000 in
theorem task_placed.calls (a0_0 : Int) (A0_1 : Option Addr) (c0_1 : Nat) (l0_1 : List Int) (A0_2 : Option Addr) (c0_2 : Nat) (l0_2 : List Int) (A0_3 : Option Addr) (c0_3 : Nat) (l0_3 : List (S53)) (r : Bool) (w : World) (hr0_1 : Kd.C (Kd.int .i64) w A0_1 l0_1.length l0_1) (hc0_1 : l0_1.length ≤ c0_1) (hr0_2 : Kd.C (Kd.int .i64) w A0_2 l0_2.length l0_2) (hc0_2 : l0_2.length ≤ c0_2) (hr0_3 : Kd.C k53 w A0_3 l0_3.length l0_3) (hc0_3 : l0_3.length ≤ c0_3) (h : task_placed.f a0_0 l0_1 l0_2 l0_3 = some r) :
    Calls Tryd.prog 53 #[.agg #[.int .i64 a0_0, .slice A0_1 l0_1.length c0_1, .slice A0_2 l0_2.length c0_2, .slice A0_3 l0_3.length c0_3]] w fun e w' => e = .returned (.bool r) ∧ Below w.heap.size w w' := by
  have hu37 := Tryd.underlying37
  have HR1 := Aside0.mk hr0_1
  have HR2 := Aside0.mk hr0_2
  clear hr0_1 hr0_2 hr0_3 hc0_1 hc0_2 hc0_3
  obtain rfl := Option.some.inj h
  clear h
  cases hf1 : btw (l0_1.length : Int) 1 3 with
  | false =>
    have HE : Aside0 (plB l0_1 l0_2 = false) := ⟨by unfold plB; rw [hf1]; rfl⟩
    have HF := Aside0.mk hf1
    clear hf1
    go_enter Tryd.func53, Tryd.ntmps53
    go_wp2_with (first | ((with_reducible refine gate_dst (N := 1) rfl ?_); (try (refine gate_guard (by rfl) ?_; dsimp only)); refine box_event ?hg (N := 1) ?hd (cs := #[.int .i64 a0_0, .slice A0_1 l0_1.length c0_1, .slice A0_2 l0_2.length c0_2, .slice A0_3 l0_3.length c0_3]) (t := 37) ?hr ?_; (case hd => rfl); (case hg => rfl); (case hr => first | (go_simp; done) | (go_simp; rfl)); intro gb hg w1 hbox hb; have BK := Aside0.mk hbox; have HB := Aside0.mk hb; clear hg hbox hb; have hza_1 : w1.cell? ⟨gb, 1, none⟩ = some (.slice A0_1 l0_1.length c0_1) := (blk_cell BK.out 1).trans rfl; have hza_2 : w1.cell? ⟨gb, 2, none⟩ = some (.slice A0_2 l0_2.length c0_2) := (blk_cell BK.out 2).trans rfl) | (go_at_call 52; refine (between_any _ _ _ _).mono ?_; rintro e w' ⟨rfl, ⟨nd, rfl⟩⟩; rw [HF.out]))
    go_ret
    exact ⟨by rw [HE.out]; rfl, by repeat (first | exact HB.out | apply pw_below_drewN)⟩
  | true =>
    have HF := Aside0.mk hf1
    have HL1 : Aside0 (l0_1.length ≤ 4611686018427387904) := ⟨by have h := hf1; unfold btw at h; simp only [Bool.and_eq_true, decide_eq_true_eq] at h; omega⟩
    by_cases hf2 : l0_2.length ≤ 4
    rotate_left
    · have HE : Aside0 (plB l0_1 l0_2 = false) := ⟨by unfold plB; rw [hf1]; simp [hf2]⟩
      clear hf1
      go_enter Tryd.func53, Tryd.ntmps53
      go_wp2_with (first | ((with_reducible refine gate_dst (N := 1) rfl ?_); (try (refine gate_guard (by rfl) ?_; dsimp only)); refine box_event ?hg (N := 1) ?hd (cs := #[.int .i64 a0_0, .slice A0_1 l0_1.length c0_1, .slice A0_2 l0_2.length c0_2, .slice A0_3 l0_3.length c0_3]) (t := 37) ?hr ?_; (case hd => rfl); (case hg => rfl); (case hr => first | (go_simp; done) | (go_simp; rfl)); intro gb hg w1 hbox hb; have BK := Aside0.mk hbox; have HB := Aside0.mk hb; clear hg hbox hb; have hza_1 : w1.cell? ⟨gb, 1, none⟩ = some (.slice A0_1 l0_1.length c0_1) := (blk_cell BK.out 1).trans rfl; have hza_2 : w1.cell? ⟨gb, 2, none⟩ = some (.slice A0_2 l0_2.length c0_2) := (blk_cell BK.out 2).trans rfl) | (go_at_call 52; refine (between_any _ _ _ _).mono ?_; rintro e w' ⟨rfl, ⟨nd, rfl⟩⟩; rw [HF.out]))
      go_ret
      exact ⟨by rw [HE.out]; rfl, by repeat (first | exact HB.out | apply pw_below_drewN)⟩
    have HL2 : Aside0 (l0_2.length ≤ 4611686018427387904) := ⟨by omega⟩
    cases hf3 : (l0_1.any fun n => !btw n 1 3) with
    | true =>
      have HE : Aside0 (plB l0_1 l0_2 = false) := ⟨by unfold plB; rw [hf1, hf3]; simp⟩
      have HA := Aside0.mk hf3
      clear hf1 hf3
      go_enter Tryd.func53, Tryd.ntmps53
      go_wp2_with (first | ((with_reducible refine gate_dst (N := 1) rfl ?_); (try (refine gate_guard (by rfl) ?_; dsimp only)); refine box_event ?hg (N := 1) ?hd (cs := #[.int .i64 a0_0, .slice A0_1 l0_1.length c0_1, .slice A0_2 l0_2.length c0_2, .slice A0_3 l0_3.length c0_3]) (t := 37) ?hr ?_; (case hd => rfl); (case hg => rfl); (case hr => first | (go_simp; done) | (go_simp; rfl)); intro gb hg w1 hbox hb; have BK := Aside0.mk hbox; have HB := Aside0.mk hb; clear hg hbox hb; have hza_1 : w1.cell? ⟨gb, 1, none⟩ = some (.slice A0_1 l0_1.length c0_1) := (blk_cell BK.out 1).trans rfl; have hza_2 : w1.cell? ⟨gb, 2, none⟩ = some (.slice A0_2 l0_2.length c0_2) := (blk_cell BK.out 2).trans rfl) | (go_at_call 52; refine (between_any _ _ _ _).mono ?_; rintro e w' ⟨rfl, ⟨nd, rfl⟩⟩; rw [HF.out]) | ((go_at_call 72); (with_reducible refine (contains_core A0_1 c0_1 l0_1 _ (Kd.C_below HR1.out (pw_below_drewN HB.out _)) HL1.out).mono ?_); rintro e w2 ⟨rfl, hb⟩; have HB4 := Aside0.mk (below_step (pw_below_drewN HB.out nd) hb); have BK4 := Aside0.mk (blk_below (blk_drewN BK.out nd) hb); clear hb; rw [HA.out]; have hzb_1 : w2.cell? ⟨gb, 1, none⟩ = some (.slice A0_1 l0_1.length c0_1) := (blk_cell BK4.out 1).trans rfl; have hzb_2 : w2.cell? ⟨gb, 2, none⟩ = some (.slice A0_2 l0_2.length c0_2) := (blk_cell BK4.out 2).trans rfl))
      go_ret
      exact ⟨by rw [HE.out]; rfl, HB4.out⟩
    | false =>
      have HA := Aside0.mk hf3
      cases hf4 : (l0_2.any fun n => !btw n 0 ((l0_1.length : Int) - 1)) with
      | true =>
        have HE : Aside0 (plB l0_1 l0_2 = false) := ⟨by unfold plB; rw [hf1, hf3, hf4]; simp⟩
        have HC := Aside0.mk hf4
        clear hf1 hf3 hf4
        go_enter Tryd.func53, Tryd.ntmps53
        go_wp2_with (first | ((with_reducible refine gate_dst (N := 1) rfl ?_); (try (refine gate_guard (by rfl) ?_; dsimp only)); refine box_event ?hg (N := 1) ?hd (cs := #[.int .i64 a0_0, .slice A0_1 l0_1.length c0_1, .slice A0_2 l0_2.length c0_2, .slice A0_3 l0_3.length c0_3]) (t := 37) ?hr ?_; (case hd => rfl); (case hg => rfl); (case hr => first | (go_simp; done) | (go_simp; rfl)); intro gb hg w1 hbox hb; have BK := Aside0.mk hbox; have HB := Aside0.mk hb; clear hg hbox hb; have hza_1 : w1.cell? ⟨gb, 1, none⟩ = some (.slice A0_1 l0_1.length c0_1) := (blk_cell BK.out 1).trans rfl; have hza_2 : w1.cell? ⟨gb, 2, none⟩ = some (.slice A0_2 l0_2.length c0_2) := (blk_cell BK.out 2).trans rfl) | (go_at_call 52; refine (between_any _ _ _ _).mono ?_; rintro e w' ⟨rfl, ⟨nd, rfl⟩⟩; rw [HF.out]) | ((go_at_call 72); (with_reducible refine (contains_core A0_1 c0_1 l0_1 _ (Kd.C_below HR1.out (pw_below_drewN HB.out _)) HL1.out).mono ?_); rintro e w2 ⟨rfl, hb⟩; have HB4 := Aside0.mk (below_step (pw_below_drewN HB.out nd) hb); have BK4 := Aside0.mk (blk_below (blk_drewN BK.out nd) hb); clear hb; rw [HA.out]; have hzb_1 : w2.cell? ⟨gb, 1, none⟩ = some (.slice A0_1 l0_1.length c0_1) := (blk_cell BK4.out 1).trans rfl; have hzb_2 : w2.cell? ⟨gb, 2, none⟩ = some (.slice A0_2 l0_2.length c0_2) := (blk_cell BK4.out 2).trans rfl) | ((go_at_call 72); (with_reducible refine (contains_home A0_2 c0_2 l0_2 gb a0_0 A0_1 l0_1.length c0_1 A0_2 l0_2.length c0_2 A0_3 l0_3.length c0_3 _ BK4.out HL1.out (Kd.C_below HR2.out HB4.out) HL2.out).mono ?_); rintro e w3 ⟨rfl, hb⟩; have HB5 := Aside0.mk (below_step HB4.out hb); clear hb; rw [HC.out]))
        go_ret
        exact ⟨by rw [HE.out]; rfl, HB5.out⟩
      | false =>
        have HE : Aside0 (plB l0_1 l0_2 = true) := ⟨by unfold plB; rw [hf1, hf3, hf4]; simp [hf2]⟩
        have HC := Aside0.mk hf4
        clear hf1 hf3 hf4
        go_enter Tryd.func53, Tryd.ntmps53
        go_wp2_with (first | ((with_reducible refine gate_dst (N := 1) rfl ?_); (try (refine gate_guard (by rfl) ?_; dsimp only)); refine box_event ?hg (N := 1) ?hd (cs := #[.int .i64 a0_0, .slice A0_1 l0_1.length c0_1, .slice A0_2 l0_2.length c0_2, .slice A0_3 l0_3.length c0_3]) (t := 37) ?hr ?_; (case hd => rfl); (case hg => rfl); (case hr => first | (go_simp; done) | (go_simp; rfl)); intro gb hg w1 hbox hb; have BK := Aside0.mk hbox; have HB := Aside0.mk hb; clear hg hbox hb; have hza_1 : w1.cell? ⟨gb, 1, none⟩ = some (.slice A0_1 l0_1.length c0_1) := (blk_cell BK.out 1).trans rfl; have hza_2 : w1.cell? ⟨gb, 2, none⟩ = some (.slice A0_2 l0_2.length c0_2) := (blk_cell BK.out 2).trans rfl) | (go_at_call 52; refine (between_any _ _ _ _).mono ?_; rintro e w' ⟨rfl, ⟨nd, rfl⟩⟩; rw [HF.out]) | ((go_at_call 72); (with_reducible refine (contains_core A0_1 c0_1 l0_1 _ (Kd.C_below HR1.out (pw_below_drewN HB.out _)) HL1.out).mono ?_); rintro e w2 ⟨rfl, hb⟩; have HB4 := Aside0.mk (below_step (pw_below_drewN HB.out nd) hb); have BK4 := Aside0.mk (blk_below (blk_drewN BK.out nd) hb); clear hb; rw [HA.out]; have hzb_1 : w2.cell? ⟨gb, 1, none⟩ = some (.slice A0_1 l0_1.length c0_1) := (blk_cell BK4.out 1).trans rfl; have hzb_2 : w2.cell? ⟨gb, 2, none⟩ = some (.slice A0_2 l0_2.length c0_2) := (blk_cell BK4.out 2).trans rfl) | ((go_at_call 72); (with_reducible refine (contains_home A0_2 c0_2 l0_2 gb a0_0 A0_1 l0_1.length c0_1 A0_2 l0_2.length c0_2 A0_3 l0_3.length c0_3 _ BK4.out HL1.out (Kd.C_below HR2.out HB4.out) HL2.out).mono ?_); rintro e w3 ⟨rfl, hb⟩; have HB5 := Aside0.mk (below_step HB4.out hb); clear hb; rw [HC.out]))
        go_ret
        exact ⟨by rw [HE.out]; rfl, HB5.out⟩


end Go.Proofs.YtgkjoodlcojkkaaDoor.QD
end
section
/- The contract of task.one, in the form of the printed ones. No conditions beside those of the printed form. -/
namespace Go.Proofs.YtgkjoodlcojkkaaDoor.QD
open Go.RowKit Go.Proofs.YtgkjoodlcojkkaaDoorW.PrintWords Go.Proofs.YtgkjoodlcojkkaaDoorW.PrintLast Go.Proofs.YtgkjoodlcojkkaaDoorW.PrintMore
attribute [local go_sem] max2_int min2_int max_two min_two max_three min_three max_four min_four
set_option linter.unusedVariables false
set_option linter.unusedSimpArgs false

/-- what task.one asks first. -/
def badForm (nm : Bool) (t : S53) : Bool := !nm || !btw t.f1 1 3000 || !btw t.f2 1 t.f1 || !btw t.f3 1 1000
def task_one.f (k : Nat) (a0_0 : Int) (l0_1 : List Int) (l0_2 : List Int) (l0_3 : List (S53)) (a1 : Int) : Option (Int) :=
  if l0_1.length ≤ 4611686018427387904 then (if l0_3.length ≤ 4611686018427387904 then (if 0 ≤ a1 then (if a1 < (l0_3.length : Int) then
    ((words_Name.f k (rd_T53 l0_3 a1).f0).bind fun nm =>
      (if badForm nm (rd_T53 l0_3 a1) = true then some 10
      else (if btw (rd_T53 l0_3 a1).f4 0 ((l0_1.length : Int) - 1) = false then some 16
      else (if ((l0_3.take a1.toNat).any fun o => twb o.f0 o.f3 (rd_T53 l0_3 a1).f0 (rd_T53 l0_3 a1).f3) = true then some 17
      else (task_parted.f k a0_0 l0_1 l0_2 l0_3 (rd_T53 l0_3 a1).f5).bind fun b => (if b = true then some 0 else some 15)))))
  else none) else none) else none) else none
theorem task_one.mono : ∀ a0 a1 a2 a3 a4 k, LeO (task_one.f k a0 a1 a2 a3 a4) (task_one.f (k + 1) a0 a1 a2 a3 a4) := by
  intro a0 a1 a2 a3 a4 k
  unfold task_one.f
  repeat' first
      | (with_reducible exact words_Name.mono _ _)
      | (with_reducible exact task_parted.mono _ _ _ _ _ _)
      | (with_reducible exact LeO.refl _)
      | (with_reducible exact LeO.none _)
      | (with_reducible refine LeO.ite ?_ ?_)
      | (with_reducible refine LeO.bind ?_ (fun _ => ?_))
      | exact words_Name.mono _ _
      | exact task_parted.mono _ _ _ _ _ _
      | exact LeO.none _
      | refine LeO.ite ?_ ?_
      | refine LeO.bind ?_ (fun _ => ?_)

theorem contains_twice' (A : Option Addr) (n c : Nat) (xs : List S53) (g : Nat) (t0 : ByteArray) (t1 t2 t3 t4 : Int) (A5 : Option Addr) (n5 c5 : Nat) (w : World)
    (hbx : w.heap[g]? = some (.cells #[.string t0, .int .i64 t1, .int .i64 t2, .int .i64 t3, .int .i64 t4, .slice A5 n5 c5] 53 (0, 0))) (hr : Kd.C k53 w A xs.length xs) (hl : xs.length = n) (hn : n ≤ 4611686018427387904) :
    Calls Tryd.prog 74 #[.slice A n c, .func (.func 73) #[] #[.pointer (some ⟨g, 0, none⟩)]] w fun e w' => e = .returned (.bool (xs.any fun o => twb o.f0 o.f3 t0 t3)) ∧ Below w.heap.size w w' := by
  subst hl
  exact contains_twice A c xs g t0 t1 t2 t3 t4 A5 n5 c5 w hbx hr hn

set_option maxHeartbeats 4000000 in
set_option maxRecDepth 100000 in
theorem task_one.calls (k : Nat) (a0_0 : Int) (A0_1 : Option Addr) (c0_1 : Nat) (l0_1 : List Int) (A0_2 : Option Addr) (c0_2 : Nat) (l0_2 : List Int) (A0_3 : Option Addr) (c0_3 : Nat) (l0_3 : List (S53)) (a1 : Int) (r : Int) (w : World) (hr0_1 : Kd.C (Kd.int .i64) w A0_1 l0_1.length l0_1) (hc0_1 : l0_1.length ≤ c0_1) (hr0_2 : Kd.C (Kd.int .i64) w A0_2 l0_2.length l0_2) (hc0_2 : l0_2.length ≤ c0_2) (hr0_3 : Kd.C k53 w A0_3 l0_3.length l0_3) (hc0_3 : l0_3.length ≤ c0_3) (h : task_one.f k a0_0 l0_1 l0_2 l0_3 a1 = some r) :
    Calls Tryd.prog 54 #[.agg #[.int .i64 a0_0, .slice A0_1 l0_1.length c0_1, .slice A0_2 l0_2.length c0_2, .slice A0_3 l0_3.length c0_3], .int .i64 a1] w fun e w' => e = .returned (.int .i64 r) ∧ Below w.heap.size w w' := by
  have hu37 := Tryd.underlying37
  have hu53 := Tryd.underlying53
  unfold task_one.f at h
  by_cases g1 : l0_1.length ≤ 4611686018427387904
  rotate_left
  · rw [if_neg g1] at h; exact absurd h (by simp)
  rw [if_pos g1] at h
  by_cases g2 : l0_3.length ≤ 4611686018427387904
  rotate_left
  · rw [if_neg g2] at h; exact absurd h (by simp)
  rw [if_pos g2] at h
  by_cases g3 : 0 ≤ a1
  rotate_left
  · rw [if_neg g3] at h; exact absurd h (by simp)
  rw [if_pos g3] at h
  by_cases g4 : a1 < (l0_3.length : Int)
  rotate_left
  · rw [if_neg g4] at h; exact absurd h (by simp)
  rw [if_pos g4] at h
  obtain ⟨nm, hnm, h⟩ := Option.bind_eq_some_iff.1 h
  obtain ⟨ad, A6, c6, e, hx0, hx1, hx2, hx3, hx4, hx5, hl6, hi6⟩ := at_T53 hr0_3 a1 g3 g4
  cases e
  have HC6 := Aside0.mk hl6
  have HI6 := Aside0.mk hi6
  have HN := Aside0.mk hnm
  have HR1 := Aside0.mk hr0_1
  have HR2 := Aside0.mk hr0_2
  have HR3 := Aside0.mk hr0_3
  have HC1 := Aside0.mk hc0_1
  have HC2 := Aside0.mk hc0_2
  have HC3 := Aside0.mk hc0_3
  have H := Aside0.mk h
  clear h hnm hr0_1 hr0_2 hr0_3 hc0_1 hc0_2 hc0_3 hl6 hi6
  go_enter Tryd.func54, Tryd.ntmps54
  go_wp2_with (first | ((with_reducible refine gate_dst (N := 2) rfl ?_); (try (refine gate_guard (by rfl) ?_; dsimp only)); refine box_event ?hg (N := 2) ?hd (cs := #[.int .i64 a0_0, .slice A0_1 l0_1.length c0_1, .slice A0_2 l0_2.length c0_2, .slice (some ad) l0_3.length c0_3]) (t := 37) ?hr ?_; (case hd => rfl); (case hg => rfl); (case hr => first | (go_simp; done) | (go_simp; rfl)); intro gb hg w1 hbox hb; have BK := Aside0.mk hbox; have HB := Aside0.mk hb; clear hg hbox hb; have hz_1 : w1.cell? ⟨gb, 1, none⟩ = some (.slice A0_1 l0_1.length c0_1) := (blk_cell BK.out 1).trans rfl; have hz_3 : w1.cell? ⟨gb, 3, none⟩ = some (.slice (some ad) l0_3.length c0_3) := (blk_cell BK.out 3).trans rfl; have hy_0 : w1.cell? (ad.add (a1.toNat * 6)) = some (.string (rd_T53 l0_3 a1).f0) := (HB.out.cell (World.block_lt_of_cell? w _ hx0)).trans hx0; have hy_1 : w1.cell? ⟨(ad.add (a1.toNat * 6)).block, (ad.add (a1.toNat * 6)).off + 1, none⟩ = some (.int .i64 (rd_T53 l0_3 a1).f1) := (HB.out.cell (World.block_lt_of_cell? w _ hx1)).trans hx1; have hy_2 : w1.cell? ⟨(ad.add (a1.toNat * 6)).block, (ad.add (a1.toNat * 6)).off + 2, none⟩ = some (.int .i64 (rd_T53 l0_3 a1).f2) := (HB.out.cell (World.block_lt_of_cell? w _ hx2)).trans hx2; have hy_3 : w1.cell? ⟨(ad.add (a1.toNat * 6)).block, (ad.add (a1.toNat * 6)).off + 3, none⟩ = some (.int .i64 (rd_T53 l0_3 a1).f3) := (HB.out.cell (World.block_lt_of_cell? w _ hx3)).trans hx3; have hy_4 : w1.cell? ⟨(ad.add (a1.toNat * 6)).block, (ad.add (a1.toNat * 6)).off + 4, none⟩ = some (.int .i64 (rd_T53 l0_3 a1).f4) := (HB.out.cell (World.block_lt_of_cell? w _ hx4)).trans hx4; have hy_5 : w1.cell? ⟨(ad.add (a1.toNat * 6)).block, (ad.add (a1.toNat * 6)).off + 5, none⟩ = some (.slice A6 (rd_T53 l0_3 a1).f5.length c6) := (HB.out.cell (World.block_lt_of_cell? w _ hx5)).trans hx5))
  have bt := blk_new w1 (.cells #[.string (rd_T53 l0_3 a1).f0, .int .i64 (rd_T53 l0_3 a1).f1, .int .i64 (rd_T53 l0_3 a1).f2, .int .i64 (rd_T53 l0_3 a1).f3, .int .i64 (rd_T53 l0_3 a1).f4, .slice A6 (rd_T53 l0_3 a1).f5.length c6] 53 (0, 0))
  have hb2 := below_step HB.out (below_alloc (Below.refl w1.heap.size w1) (.cells #[.string (rd_T53 l0_3 a1).f0, .int .i64 (rd_T53 l0_3 a1).f1, .int .i64 (rd_T53 l0_3 a1).f2, .int .i64 (rd_T53 l0_3 a1).f3, .int .i64 (rd_T53 l0_3 a1).f4, .slice A6 (rd_T53 l0_3 a1).f5.length c6] 53 (0, 0)))
  have bs := blk_alloc BK.out (.cells #[.string (rd_T53 l0_3 a1).f0, .int .i64 (rd_T53 l0_3 a1).f1, .int .i64 (rd_T53 l0_3 a1).f2, .int .i64 (rd_T53 l0_3 a1).f3, .int .i64 (rd_T53 l0_3 a1).f4, .slice A6 (rd_T53 l0_3 a1).f5.length c6] 53 (0, 0))
  generalize w1.alloc (.cells #[.string (rd_T53 l0_3 a1).f0, .int .i64 (rd_T53 l0_3 a1).f1, .int .i64 (rd_T53 l0_3 a1).f2, .int .i64 (rd_T53 l0_3 a1).f3, .int .i64 (rd_T53 l0_3 a1).f4, .slice A6 (rd_T53 l0_3 a1).f5.length c6] 53 (0, 0)) = w2 at bt hb2 bs ⊢
  generalize w1.heap.size = gt at bt ⊢
  have BT := Aside0.mk bt
  have HB2 := Aside0.mk hb2
  have BS := Aside0.mk bs
  clear bt hb2 bs
  have ht_0 : w2.cell? ⟨gt, 0, none⟩ = some (.string (rd_T53 l0_3 a1).f0) := (blk_cell BT.out 0).trans rfl
  have ht_1 : w2.cell? ⟨gt, 1, none⟩ = some (.int .i64 (rd_T53 l0_3 a1).f1) := (blk_cell BT.out 1).trans rfl
  have ht_2 : w2.cell? ⟨gt, 2, none⟩ = some (.int .i64 (rd_T53 l0_3 a1).f2) := (blk_cell BT.out 2).trans rfl
  have ht_3 : w2.cell? ⟨gt, 3, none⟩ = some (.int .i64 (rd_T53 l0_3 a1).f3) := (blk_cell BT.out 3).trans rfl
  have ht_4 : w2.cell? ⟨gt, 4, none⟩ = some (.int .i64 (rd_T53 l0_3 a1).f4) := (blk_cell BT.out 4).trans rfl
  have ht_5 : w2.cell? ⟨gt, 5, none⟩ = some (.slice A6 (rd_T53 l0_3 a1).f5.length c6) := (blk_cell BT.out 5).trans rfl
  have hs_0 : w2.cell? ⟨gb, 0, none⟩ = some (.int .i64 a0_0) := (blk_cell BS.out 0).trans rfl
  have hs_1 : w2.cell? ⟨gb, 1, none⟩ = some (.slice A0_1 l0_1.length c0_1) := (blk_cell BS.out 1).trans rfl
  have hs_2 : w2.cell? ⟨gb, 2, none⟩ = some (.slice A0_2 l0_2.length c0_2) := (blk_cell BS.out 2).trans rfl
  have hs_3 : w2.cell? ⟨gb, 3, none⟩ = some (.slice (some ad) l0_3.length c0_3) := (blk_cell BS.out 3).trans rfl
  cases nm with
  | false =>
    have HRV : Aside0 (r = 10) := ⟨by have h := H.out; rw [if_pos (by unfold badForm; rfl)] at h; exact (Option.some.inj h).symm⟩
    clear H
    go_wp2_with (first | (go_at_call 17; (with_reducible refine (words_Name.calls k _ false _ HN.out).mono ?_); rintro e w' ⟨rfl, ⟨⟨nd, rfl⟩⟩⟩))
    go_ret
    exact ⟨by rw [HRV.out]; rfl, by repeat (first | exact HB2.out | apply pw_below_drewN)⟩
  | true =>
    cases h1 : btw (rd_T53 l0_3 a1).f1 1 3000 with
    | false =>
      have HRV : Aside0 (r = 10) := ⟨by have h := H.out; rw [if_pos (by unfold badForm; simp [h1])] at h; exact (Option.some.inj h).symm⟩
      have H1 := Aside0.mk h1
      clear H h1
      go_wp2_with (first | (go_at_call 17; (with_reducible refine (words_Name.calls k _ true _ HN.out).mono ?_); rintro e w' ⟨rfl, ⟨⟨nd, rfl⟩⟩⟩) | (go_at_call 52; refine (between_any _ _ _ _).mono ?_; rintro e w' ⟨rfl, ⟨⟨nd, rfl⟩⟩⟩; (first | rw [H1.out])))
      go_ret
      exact ⟨by rw [HRV.out]; rfl, by repeat (first | exact HB2.out | apply pw_below_drewN)⟩
    | true =>
      cases h2 : btw (rd_T53 l0_3 a1).f2 1 (rd_T53 l0_3 a1).f1 with
      | false =>
        have HRV : Aside0 (r = 10) := ⟨by have h := H.out; rw [if_pos (by unfold badForm; simp [h1, h2])] at h; exact (Option.some.inj h).symm⟩
        have H1 := Aside0.mk h1
        have H2 := Aside0.mk h2
        clear H h1 h2
        go_wp2_with (first | (go_at_call 17; (with_reducible refine (words_Name.calls k _ true _ HN.out).mono ?_); rintro e w' ⟨rfl, ⟨⟨nd, rfl⟩⟩⟩) | (go_at_call 52; refine (between_any _ _ _ _).mono ?_; rintro e w' ⟨rfl, ⟨⟨nd, rfl⟩⟩⟩; (first | rw [H1.out] | rw [H2.out])))
        go_ret
        exact ⟨by rw [HRV.out]; rfl, by repeat (first | exact HB2.out | apply pw_below_drewN)⟩
      | true =>
        cases h3 : btw (rd_T53 l0_3 a1).f3 1 1000 with
        | false =>
          have HRV : Aside0 (r = 10) := ⟨by have h := H.out; rw [if_pos (by unfold badForm; simp [h1, h2, h3])] at h; exact (Option.some.inj h).symm⟩
          have H1 := Aside0.mk h1
          have H2 := Aside0.mk h2
          have H3 := Aside0.mk h3
          clear H h1 h2 h3
          go_wp2_with (first | (go_at_call 17; (with_reducible refine (words_Name.calls k _ true _ HN.out).mono ?_); rintro e w' ⟨rfl, ⟨⟨nd, rfl⟩⟩⟩) | (go_at_call 52; refine (between_any _ _ _ _).mono ?_; rintro e w' ⟨rfl, ⟨⟨nd, rfl⟩⟩⟩; (first | rw [H1.out] | rw [H2.out] | rw [H3.out])))
          go_ret
          exact ⟨by rw [HRV.out]; rfl, by repeat (first | exact HB2.out | apply pw_below_drewN)⟩
        | true =>
          have h0 := H.out
          clear H
          rw [if_neg (by unfold badForm; simp [h1, h2, h3])] at h0
          have H1 := Aside0.mk h1
          have H2 := Aside0.mk h2
          have H3 := Aside0.mk h3
          clear h1 h2 h3
          cases h4 : btw (rd_T53 l0_3 a1).f4 0 ((l0_1.length : Int) - 1) with
          | false =>
            have HRV : Aside0 (r = 16) := ⟨by have h := h0; rw [if_pos h4] at h; exact (Option.some.inj h).symm⟩
            have H4 := Aside0.mk h4
            clear h0 h4
            go_wp2_with (first | (go_at_call 17; (with_reducible refine (words_Name.calls k _ true _ HN.out).mono ?_); rintro e w' ⟨rfl, ⟨⟨nd, rfl⟩⟩⟩) | (go_at_call 52; refine (between_any _ _ _ _).mono ?_; rintro e w' ⟨rfl, ⟨⟨nd, rfl⟩⟩⟩; (first | rw [H1.out] | rw [H2.out] | rw [H3.out] | rw [H4.out])))
            go_ret
            exact ⟨by rw [HRV.out]; rfl, by repeat (first | exact HB2.out | apply pw_below_drewN)⟩
          | true =>
            rw [if_neg (by rw [h4]; simp)] at h0
            have H4 := Aside0.mk h4
            clear h4
            have HTL : Aside0 (a1.toNat ≤ l0_3.length) := ⟨by omega⟩
            have HTN : Aside0 ((l0_3.take a1.toNat).length = a1.toNat) := ⟨by rw [List.length_take]; exact Nat.min_eq_left HTL.out⟩
            have HTB : Aside0 (a1.toNat ≤ 4611686018427387904) := ⟨by omega⟩
            have hs1 : a1 ≤ (c0_3 : Int) := by have := HC3.out; omega
            cases h5 : ((l0_3.take a1.toNat).any fun o => twb o.f0 o.f3 (rd_T53 l0_3 a1).f0 (rd_T53 l0_3 a1).f3) with
            | true =>
              have HRV : Aside0 (r = 17) := ⟨by have h := h0; rw [if_pos h5] at h; exact (Option.some.inj h).symm⟩
              have HTW := Aside0.mk h5
              clear h0 h5
              go_wp2_with (first | (go_at_call 17; (with_reducible refine (words_Name.calls k _ true _ HN.out).mono ?_); rintro e w' ⟨rfl, ⟨⟨nd, rfl⟩⟩⟩) | (go_at_call 52; refine (between_any _ _ _ _).mono ?_; rintro e w' ⟨rfl, ⟨⟨nd, rfl⟩⟩⟩; (first | rw [H1.out] | rw [H2.out] | rw [H3.out] | rw [H4.out])) | (go_at_call 74; (with_reducible refine (contains_twice' (some ad) a1.toNat c0_3 (l0_3.take a1.toNat) gt (rd_T53 l0_3 a1).f0 (rd_T53 l0_3 a1).f1 (rd_T53 l0_3 a1).f2 (rd_T53 l0_3 a1).f3 (rd_T53 l0_3 a1).f4 A6 (rd_T53 l0_3 a1).f5.length c6 _ (blk_drewN BT.out _) (Kd.C_below (Kd.C_take HR3.out HTL.out) (pw_below_drewN HB2.out _)) HTN.out HTB.out).mono ?_); rintro e w4 ⟨rfl, hb⟩; rw [HTW.out]; have HB4 := Aside0.mk (below_step (pw_below_drewN HB2.out _) hb); have BT4 := Aside0.mk (blk_below (blk_drewN BT.out _) hb); have BS4 := Aside0.mk (blk_below (blk_drewN BS.out _) hb); clear hb; have htd_0 : w4.cell? ⟨gt, 0, none⟩ = some (.string (rd_T53 l0_3 a1).f0) := (blk_cell BT4.out 0).trans rfl; have htd_1 : w4.cell? ⟨gt, 1, none⟩ = some (.int .i64 (rd_T53 l0_3 a1).f1) := (blk_cell BT4.out 1).trans rfl; have htd_2 : w4.cell? ⟨gt, 2, none⟩ = some (.int .i64 (rd_T53 l0_3 a1).f2) := (blk_cell BT4.out 2).trans rfl; have htd_3 : w4.cell? ⟨gt, 3, none⟩ = some (.int .i64 (rd_T53 l0_3 a1).f3) := (blk_cell BT4.out 3).trans rfl; have htd_4 : w4.cell? ⟨gt, 4, none⟩ = some (.int .i64 (rd_T53 l0_3 a1).f4) := (blk_cell BT4.out 4).trans rfl; have htd_5 : w4.cell? ⟨gt, 5, none⟩ = some (.slice A6 (rd_T53 l0_3 a1).f5.length c6) := (blk_cell BT4.out 5).trans rfl; have hsd_0 : w4.cell? ⟨gb, 0, none⟩ = some (.int .i64 a0_0) := (blk_cell BS4.out 0).trans rfl; have hsd_1 : w4.cell? ⟨gb, 1, none⟩ = some (.slice A0_1 l0_1.length c0_1) := (blk_cell BS4.out 1).trans rfl; have hsd_2 : w4.cell? ⟨gb, 2, none⟩ = some (.slice A0_2 l0_2.length c0_2) := (blk_cell BS4.out 2).trans rfl; have hsd_3 : w4.cell? ⟨gb, 3, none⟩ = some (.slice (some ad) l0_3.length c0_3) := (blk_cell BS4.out 3).trans rfl))
              go_ret
              exact ⟨by rw [HRV.out]; rfl, HB4.out⟩
            | false =>
              rw [if_neg (by rw [h5]; simp)] at h0
              have HTW := Aside0.mk h5
              clear h5
              obtain ⟨b, hb0, h0⟩ := Option.bind_eq_some_iff.1 h0
              cases b with
              | true =>
                have HRV : Aside0 (r = 0) := ⟨by have h := h0; rw [if_pos (by simp)] at h; exact (Option.some.inj h).symm⟩
                have HPT := Aside0.mk hb0
                clear h0 hb0
                go_wp2_with (first | (go_at_call 17; (with_reducible refine (words_Name.calls k _ true _ HN.out).mono ?_); rintro e w' ⟨rfl, ⟨⟨nd, rfl⟩⟩⟩) | (go_at_call 52; refine (between_any _ _ _ _).mono ?_; rintro e w' ⟨rfl, ⟨⟨nd, rfl⟩⟩⟩; (first | rw [H1.out] | rw [H2.out] | rw [H3.out] | rw [H4.out])) | (go_at_call 74; (with_reducible refine (contains_twice' (some ad) a1.toNat c0_3 (l0_3.take a1.toNat) gt (rd_T53 l0_3 a1).f0 (rd_T53 l0_3 a1).f1 (rd_T53 l0_3 a1).f2 (rd_T53 l0_3 a1).f3 (rd_T53 l0_3 a1).f4 A6 (rd_T53 l0_3 a1).f5.length c6 _ (blk_drewN BT.out _) (Kd.C_below (Kd.C_take HR3.out HTL.out) (pw_below_drewN HB2.out _)) HTN.out HTB.out).mono ?_); rintro e w4 ⟨rfl, hb⟩; rw [HTW.out]; have HB4 := Aside0.mk (below_step (pw_below_drewN HB2.out _) hb); have BT4 := Aside0.mk (blk_below (blk_drewN BT.out _) hb); have BS4 := Aside0.mk (blk_below (blk_drewN BS.out _) hb); clear hb; have htd_0 : w4.cell? ⟨gt, 0, none⟩ = some (.string (rd_T53 l0_3 a1).f0) := (blk_cell BT4.out 0).trans rfl; have htd_1 : w4.cell? ⟨gt, 1, none⟩ = some (.int .i64 (rd_T53 l0_3 a1).f1) := (blk_cell BT4.out 1).trans rfl; have htd_2 : w4.cell? ⟨gt, 2, none⟩ = some (.int .i64 (rd_T53 l0_3 a1).f2) := (blk_cell BT4.out 2).trans rfl; have htd_3 : w4.cell? ⟨gt, 3, none⟩ = some (.int .i64 (rd_T53 l0_3 a1).f3) := (blk_cell BT4.out 3).trans rfl; have htd_4 : w4.cell? ⟨gt, 4, none⟩ = some (.int .i64 (rd_T53 l0_3 a1).f4) := (blk_cell BT4.out 4).trans rfl; have htd_5 : w4.cell? ⟨gt, 5, none⟩ = some (.slice A6 (rd_T53 l0_3 a1).f5.length c6) := (blk_cell BT4.out 5).trans rfl; have hsd_0 : w4.cell? ⟨gb, 0, none⟩ = some (.int .i64 a0_0) := (blk_cell BS4.out 0).trans rfl; have hsd_1 : w4.cell? ⟨gb, 1, none⟩ = some (.slice A0_1 l0_1.length c0_1) := (blk_cell BS4.out 1).trans rfl; have hsd_2 : w4.cell? ⟨gb, 2, none⟩ = some (.slice A0_2 l0_2.length c0_2) := (blk_cell BS4.out 2).trans rfl; have hsd_3 : w4.cell? ⟨gb, 3, none⟩ = some (.slice (some ad) l0_3.length c0_3) := (blk_cell BS4.out 3).trans rfl) | (go_at_call 75; (with_reducible refine (task_parted.calls k a0_0 A0_1 c0_1 l0_1 A0_2 c0_2 l0_2 (some ad) c0_3 l0_3 A6 c6 (rd_T53 l0_3 a1).f5 true _ (Kd.C_below HR1.out HB4.out) HC1.out (Kd.C_below HR2.out HB4.out) HC2.out (Kd.C_below HR3.out HB4.out) HC3.out (Kd.C_below HI6.out HB4.out) HC6.out HPT.out).mono ?_); rintro e w5 ⟨rfl, hb⟩; have HB5 := Aside0.mk (below_step HB4.out hb); clear hb))
                go_ret
                exact ⟨by rw [HRV.out]; rfl, HB5.out⟩
              | false =>
                have HRV : Aside0 (r = 15) := ⟨by have h := h0; rw [if_neg (by simp)] at h; exact (Option.some.inj h).symm⟩
                have HPT := Aside0.mk hb0
                clear h0 hb0
                go_wp2_with (first | (go_at_call 17; (with_reducible refine (words_Name.calls k _ true _ HN.out).mono ?_); rintro e w' ⟨rfl, ⟨⟨nd, rfl⟩⟩⟩) | (go_at_call 52; refine (between_any _ _ _ _).mono ?_; rintro e w' ⟨rfl, ⟨⟨nd, rfl⟩⟩⟩; (first | rw [H1.out] | rw [H2.out] | rw [H3.out] | rw [H4.out])) | (go_at_call 74; (with_reducible refine (contains_twice' (some ad) a1.toNat c0_3 (l0_3.take a1.toNat) gt (rd_T53 l0_3 a1).f0 (rd_T53 l0_3 a1).f1 (rd_T53 l0_3 a1).f2 (rd_T53 l0_3 a1).f3 (rd_T53 l0_3 a1).f4 A6 (rd_T53 l0_3 a1).f5.length c6 _ (blk_drewN BT.out _) (Kd.C_below (Kd.C_take HR3.out HTL.out) (pw_below_drewN HB2.out _)) HTN.out HTB.out).mono ?_); rintro e w4 ⟨rfl, hb⟩; rw [HTW.out]; have HB4 := Aside0.mk (below_step (pw_below_drewN HB2.out _) hb); have BT4 := Aside0.mk (blk_below (blk_drewN BT.out _) hb); have BS4 := Aside0.mk (blk_below (blk_drewN BS.out _) hb); clear hb; have htd_0 : w4.cell? ⟨gt, 0, none⟩ = some (.string (rd_T53 l0_3 a1).f0) := (blk_cell BT4.out 0).trans rfl; have htd_1 : w4.cell? ⟨gt, 1, none⟩ = some (.int .i64 (rd_T53 l0_3 a1).f1) := (blk_cell BT4.out 1).trans rfl; have htd_2 : w4.cell? ⟨gt, 2, none⟩ = some (.int .i64 (rd_T53 l0_3 a1).f2) := (blk_cell BT4.out 2).trans rfl; have htd_3 : w4.cell? ⟨gt, 3, none⟩ = some (.int .i64 (rd_T53 l0_3 a1).f3) := (blk_cell BT4.out 3).trans rfl; have htd_4 : w4.cell? ⟨gt, 4, none⟩ = some (.int .i64 (rd_T53 l0_3 a1).f4) := (blk_cell BT4.out 4).trans rfl; have htd_5 : w4.cell? ⟨gt, 5, none⟩ = some (.slice A6 (rd_T53 l0_3 a1).f5.length c6) := (blk_cell BT4.out 5).trans rfl; have hsd_0 : w4.cell? ⟨gb, 0, none⟩ = some (.int .i64 a0_0) := (blk_cell BS4.out 0).trans rfl; have hsd_1 : w4.cell? ⟨gb, 1, none⟩ = some (.slice A0_1 l0_1.length c0_1) := (blk_cell BS4.out 1).trans rfl; have hsd_2 : w4.cell? ⟨gb, 2, none⟩ = some (.slice A0_2 l0_2.length c0_2) := (blk_cell BS4.out 2).trans rfl; have hsd_3 : w4.cell? ⟨gb, 3, none⟩ = some (.slice (some ad) l0_3.length c0_3) := (blk_cell BS4.out 3).trans rfl) | (go_at_call 75; (with_reducible refine (task_parted.calls k a0_0 A0_1 c0_1 l0_1 A0_2 c0_2 l0_2 (some ad) c0_3 l0_3 A6 c6 (rd_T53 l0_3 a1).f5 false _ (Kd.C_below HR1.out HB4.out) HC1.out (Kd.C_below HR2.out HB4.out) HC2.out (Kd.C_below HR3.out HB4.out) HC3.out (Kd.C_below HI6.out HB4.out) HC6.out HPT.out).mono ?_); rintro e w5 ⟨rfl, hb⟩; have HB5 := Aside0.mk (below_step HB4.out hb); clear hb))
                go_ret
                exact ⟨by rw [HRV.out]; rfl, HB5.out⟩
end Go.Proofs.YtgkjoodlcojkkaaDoor.QD
end
section
-- written by a program of this session (wip/tools): the functions that the laws reach, as plain Lean, and their walks
namespace Go.Proofs.YtgkjoodlcojkkaaDoor.QD
open Go.RowKit Go.Proofs.YtgkjoodlcojkkaaDoorW.PrintWords Go.Proofs.YtgkjoodlcojkkaaDoorW.PrintLast Go.Proofs.YtgkjoodlcojkkaaDoorW.PrintMore
attribute [local go_sem] max2_int min2_int max_two min_two max_three min_three max_four min_four   -- for this text's walks alone
set_option linter.unusedVariables false
set_option linter.unusedSimpArgs false

/-! ### task_Check: function 33 -/
def task_Check.l0 : Nat → Int → Int → Int → List Int → List Int → List (S53) → Option (Int × Int)
  | 0, _, _, _, _, _, _ => none
  | k + 1, x27, x28, x255000, x255001, x255002, x255003 => if x28 < x27 then ((task_one.f k x255000 x255001 x255002 x255003 x28).bind fun t257 => (if t257 = 0 then (task_Check.l0 k x27 (wrap64 (x28 + 1)) x255000 x255001 x255002 x255003) else (some (x28, t257)))) else (some ((-1), 0))
def task_Check.f (k : Nat) (a0_0 : Int) (l0_1 : List Int) (l0_2 : List Int) (l0_3 : List (S53)) : Option (Int × Int) := (task_between.f a0_0 1 3).bind fun t255 => (if t255 = true then ((task_placed.f a0_0 l0_1 l0_2 l0_3).bind fun t256 => (if t256 = true then (if (l0_3.length : Int) > 6 then (some ((-1), 11)) else (if (l0_3.length : Int) = 0 then (some ((-1), 14)) else (task_Check.l0 k (l0_3.length : Int) 0 a0_0 l0_1 l0_2 l0_3))) else (some ((-1), 16)))) else (some ((-1), 10)))
theorem task_Check.mono_l : ∀ k, (∀ y0 y1 y2 y3 y4 y5, LeO (task_Check.l0 k y0 y1 y2 y3 y4 y5) (task_Check.l0 (k + 1) y0 y1 y2 y3 y4 y5))
  | 0 => fun _ _ _ _ _ _ r h => by simp [task_Check.l0] at h
  | k + 1 => by
    have ih0 := task_Check.mono_l k
    · intro y0 y1 y2 y3 y4 y5
      unfold task_Check.l0
      repeat' first
      | (with_reducible exact ih0 _ _ _ _ _ _)
      | (with_reducible exact task_one.mono _ _ _ _ _ _)
      | (with_reducible exact LeO.refl _)
      | (with_reducible exact LeO.none _)
      | (with_reducible refine LeO.ite ?_ ?_)
      | (with_reducible refine LeO.bind ?_ (fun _ => ?_))
      | exact ih0 _ _ _ _ _ _
      | exact task_one.mono _ _ _ _ _ _
      | exact LeO.none _
      | refine LeO.ite ?_ ?_
      | refine LeO.bind ?_ (fun _ => ?_)
theorem task_Check.mono : ∀ a0 a1 a2 a3 k, LeO (task_Check.f k a0 a1 a2 a3) (task_Check.f (k + 1) a0 a1 a2 a3) := by
  intro a0 a1 a2 a3 k
  have ih0 := task_Check.mono_l k
  unfold task_Check.f
  repeat' first
      | (with_reducible exact ih0 _ _ _ _ _ _)
      | (with_reducible exact task_one.mono _ _ _ _ _ _)
      | (with_reducible exact LeO.refl _)
      | (with_reducible exact LeO.none _)
      | (with_reducible refine LeO.ite ?_ ?_)
      | (with_reducible refine LeO.bind ?_ (fun _ => ?_))
      | exact ih0 _ _ _ _ _ _
      | exact task_one.mono _ _ _ _ _ _
      | exact LeO.none _
      | refine LeO.ite ?_ ?_
      | refine LeO.bind ?_ (fun _ => ?_)
set_option maxHeartbeats 8000000 in
set_option maxRecDepth 100000 in
theorem task_Check.calls (k : Nat) (a0_0 : Int) (A0_1 : Option Addr) (c0_1 : Nat) (l0_1 : List Int) (A0_2 : Option Addr) (c0_2 : Nat) (l0_2 : List Int) (A0_3 : Option Addr) (c0_3 : Nat) (l0_3 : List (S53)) (r1 : Int) (r2 : Int) (w : World) (hr0_1 : Kd.C (Kd.int .i64) w A0_1 l0_1.length l0_1) (hc0_1 : l0_1.length ≤ c0_1) (hr0_2 : Kd.C (Kd.int .i64) w A0_2 l0_2.length l0_2) (hc0_2 : l0_2.length ≤ c0_2) (hr0_3 : Kd.C k53 w A0_3 l0_3.length l0_3) (hc0_3 : l0_3.length ≤ c0_3) (h : task_Check.f k a0_0 l0_1 l0_2 l0_3 = some (r1, r2)) :
    Calls Tryd.prog 33 #[.agg #[.int .i64 a0_0, .slice A0_1 l0_1.length c0_1, .slice A0_2 l0_2.length c0_2, .slice A0_3 l0_3.length c0_3]] w fun e w' => e = .returned (.tuple #[.int .i64 r1, .int .i64 r2]) ∧ Below w.heap.size w w' := by
  have hu37 := Tryd.underlying37
  have HR0_1 := Aside0.mk hr0_1
  have HC0_1 := Aside0.mk hc0_1
  clear hr0_1 hc0_1
  have HR0_2 := Aside0.mk hr0_2
  have HC0_2 := Aside0.mk hc0_2
  clear hr0_2 hc0_2
  have HR0_3 := Aside0.mk hr0_3
  have HC0_3 := Aside0.mk hc0_3
  clear hr0_3 hc0_3
  have HB := Aside0.mk (Below.refl w.heap.size w)
  have H : ((task_between.f a0_0 1 3).bind fun t255 => (if t255 = true then ((task_placed.f a0_0 l0_1 l0_2 l0_3).bind fun t256 => (if t256 = true then (if (l0_3.length : Int) > 6 then (some ((-1), 11)) else (if (l0_3.length : Int) = 0 then (some ((-1), 14)) else (task_Check.l0 k (l0_3.length : Int) 0 a0_0 l0_1 l0_2 l0_3))) else (some ((-1), 16)))) else (some ((-1), 10)))) = some (r1, r2) := h
  clear h
  replace H := Option.bind_eq_some_iff.mp H
  obtain ⟨t255, A20, H⟩ := H
  replace H : (if t255 = true then ((task_placed.f a0_0 l0_1 l0_2 l0_3).bind fun t256 => (if t256 = true then (if (l0_3.length : Int) > 6 then (some ((-1), 11)) else (if (l0_3.length : Int) = 0 then (some ((-1), 14)) else (task_Check.l0 k (l0_3.length : Int) 0 a0_0 l0_1 l0_2 l0_3))) else (some ((-1), 16)))) else (some ((-1), 10))) = some (r1, r2) := H
  have A2 := Aside0.mk A20
  clear A20
  by_cases c3 : t255 = true
  rotate_left
  · replace c3 := Bool.eq_false_iff.mpr c3
    subst c3
    have H1 : (some ((-1), 10)) = some (r1, r2) := by rw [if_neg (show ¬ (false = true) by decide)] at H; exact H
    clear H
    have H := H1
    clear H1
    simp only [Option.some.injEq, Prod.mk.injEq] at H
    obtain ⟨rfl, rfl⟩ := H
    go_enter Tryd.func33, Tryd.ntmps33
    go_wp2_with (first | ((with_reducible refine gate_dst (N := 1) rfl ?_); refine box_event ?hg (N := 1) ?hd (cs := #[.int .i64 a0_0, .slice A0_1 l0_1.length c0_1, .slice A0_2 l0_2.length c0_2, .slice A0_3 l0_3.length c0_3]) (t := 37) ?hr ?_; (case hd => rfl); (case hg => rfl); (case hr => first | (go_simp; done) | (go_simp; rfl)); intro gb254 hg w4 hbox hb; have n0_ := Aside0.mk (below_step (HB.out) hb); have n1_ := Aside0.mk (hbox); have n2_ := Aside0.mk ((by rw [hg]; exact (below_size (HB.out)) : w.heap.size ≤ gb254)); have n3_ := Aside0.mk ((by rw [hg]; exact (below_size (HB.out)) : w.heap.size ≤ gb254)); clear HB; have HB := n0_; have BK254 := n1_; have GW254 := n2_; have GE254 := n3_; clear n0_ n1_ n2_ n3_; clear hb hbox hg; have hcz5_0 : w4.cell? ⟨gb254, 0, none⟩ = some (.int .i64 a0_0) := (blk_cell BK254.out 0).trans rfl; have hcz5_1 : w4.cell? ⟨gb254, 1, none⟩ = some (.slice A0_1 l0_1.length c0_1) := (blk_cell BK254.out 1).trans rfl; have hcz5_2 : w4.cell? ⟨gb254, 2, none⟩ = some (.slice A0_2 l0_2.length c0_2) := (blk_cell BK254.out 2).trans rfl; have hcz5_3 : w4.cell? ⟨gb254, 3, none⟩ = some (.slice A0_3 l0_3.length c0_3) := (blk_cell BK254.out 3).trans rfl; have hfz5_0 := blk_frozen BK254.out 0; have hfz5_1 := blk_frozen BK254.out 1; have hfz5_2 := blk_frozen BK254.out 2; have hfz5_3 := blk_frozen BK254.out 3) | ((with_reducible refine gate_callee (f := 52) rfl ?_); refine goesL_ (some 9) rfl rfl Tryd.func52 (by kernel_rfl) rfl #[.int .i64 a0_0, .int .i64 1, .int .i64 3] rfl (by (try simp only [List.map_toArray, List.map_cons, List.map_nil]); first | done | rfl | (simp only [List.length_drop, List.length_take]; rfl)) ?_; (with_reducible refine (task_between.calls a0_0 1 3 false _ A2.out).mono ?_); rintro e w' ⟨rfl, ⟨nd, rfl⟩⟩; refine ⟨_, rfl, ?_⟩))
    go_ret2
    exact ⟨by first | rfl | (simp [errW_none, errW_some] <;> rfl) | (simp [*, errW_none, errW_some] <;> rfl), by repeat (first | (with_reducible first | exact HB.out | apply below_alloc | apply pw_below_drewN | apply below_drew1 | refine below_set ?_ GE254.out) | exact HB.out)⟩
  subst c3
  have H1 : ((task_placed.f a0_0 l0_1 l0_2 l0_3).bind fun t256 => (if t256 = true then (if (l0_3.length : Int) > 6 then (some ((-1), 11)) else (if (l0_3.length : Int) = 0 then (some ((-1), 14)) else (task_Check.l0 k (l0_3.length : Int) 0 a0_0 l0_1 l0_2 l0_3))) else (some ((-1), 16)))) = some (r1, r2) := by rw [if_pos rfl] at H; exact H
  clear H
  have H := H1
  clear H1
  replace H := Option.bind_eq_some_iff.mp H
  obtain ⟨t256, A60, H⟩ := H
  replace H : (if t256 = true then (if (l0_3.length : Int) > 6 then (some ((-1), 11)) else (if (l0_3.length : Int) = 0 then (some ((-1), 14)) else (task_Check.l0 k (l0_3.length : Int) 0 a0_0 l0_1 l0_2 l0_3))) else (some ((-1), 16))) = some (r1, r2) := H
  have A6 := Aside0.mk A60
  clear A60
  by_cases c7 : t256 = true
  rotate_left
  · replace c7 := Bool.eq_false_iff.mpr c7
    subst c7
    have H1 : (some ((-1), 16)) = some (r1, r2) := by rw [if_neg (show ¬ (false = true) by decide)] at H; exact H
    clear H
    have H := H1
    clear H1
    simp only [Option.some.injEq, Prod.mk.injEq] at H
    obtain ⟨rfl, rfl⟩ := H
    go_enter Tryd.func33, Tryd.ntmps33
    go_wp2_with (first | ((with_reducible refine gate_dst (N := 1) rfl ?_); refine box_event ?hg (N := 1) ?hd (cs := #[.int .i64 a0_0, .slice A0_1 l0_1.length c0_1, .slice A0_2 l0_2.length c0_2, .slice A0_3 l0_3.length c0_3]) (t := 37) ?hr ?_; (case hd => rfl); (case hg => rfl); (case hr => first | (go_simp; done) | (go_simp; rfl)); intro gb254 hg w8 hbox hb; have n0_ := Aside0.mk (below_step (HB.out) hb); have n1_ := Aside0.mk (hbox); have n2_ := Aside0.mk ((by rw [hg]; exact (below_size (HB.out)) : w.heap.size ≤ gb254)); have n3_ := n2_; clear HB; have HB := n0_; have BK254 := n1_; have GW254 := n2_; have GE254 := n3_; clear n0_ n1_ n2_ n3_; clear hb hbox hg; have hcz9_0 : w8.cell? ⟨gb254, 0, none⟩ = some (.int .i64 a0_0) := (blk_cell BK254.out 0).trans rfl; have hcz9_1 : w8.cell? ⟨gb254, 1, none⟩ = some (.slice A0_1 l0_1.length c0_1) := (blk_cell BK254.out 1).trans rfl; have hcz9_2 : w8.cell? ⟨gb254, 2, none⟩ = some (.slice A0_2 l0_2.length c0_2) := (blk_cell BK254.out 2).trans rfl; have hcz9_3 : w8.cell? ⟨gb254, 3, none⟩ = some (.slice A0_3 l0_3.length c0_3) := (blk_cell BK254.out 3).trans rfl; have hfz9_0 := blk_frozen BK254.out 0; have hfz9_1 := blk_frozen BK254.out 1; have hfz9_2 := blk_frozen BK254.out 2; have hfz9_3 := blk_frozen BK254.out 3) | ((with_reducible refine gate_callee (f := 52) rfl ?_); refine goesL_ (some 9) rfl rfl Tryd.func52 (by kernel_rfl) rfl #[.int .i64 a0_0, .int .i64 1, .int .i64 3] rfl (by (try simp only [List.map_toArray, List.map_cons, List.map_nil]); first | done | rfl | (simp only [List.length_drop, List.length_take]; rfl)) ?_; (with_reducible refine (task_between.calls a0_0 1 3 true _ A2.out).mono ?_); rintro e w' ⟨rfl, ⟨nd, rfl⟩⟩; refine ⟨_, rfl, ?_⟩) | ((with_reducible refine gate_callee (f := 53) rfl ?_); refine goesL_ (some 13) rfl rfl Tryd.func53 (by kernel_rfl) rfl #[.agg #[.int .i64 a0_0, .slice A0_1 l0_1.length c0_1, .slice A0_2 l0_2.length c0_2, .slice A0_3 l0_3.length c0_3]] rfl (by (try simp only [List.map_toArray, List.map_cons, List.map_nil]); first | done | rfl | (simp only [List.length_drop, List.length_take]; rfl)) ?_; (with_reducible refine (task_placed.calls a0_0 _ _ l0_1 _ _ l0_2 _ _ l0_3 false _ ?side1 ?side2 ?side3 ?side4 ?side5 ?side6 A6.out).mono ?_); (case side1 => repeat (first | exact (Kd.C_below HR0_1.out (by repeat (first | (with_reducible first | exact HB.out | apply below_alloc | apply pw_below_drewN | apply below_drew1 | refine below_set ?_ GE254.out) | exact HB.out))) | (with_reducible refine Kd.C_alloc ?_ _) | (with_reducible refine Kd.C_drewN ?_ _) | (with_reducible refine Kd.C_drew ?_))); (case side2 => exact HC0_1.out); (case side3 => repeat (first | exact (Kd.C_below HR0_2.out (by repeat (first | (with_reducible first | exact HB.out | apply below_alloc | apply pw_below_drewN | apply below_drew1 | refine below_set ?_ GE254.out) | exact HB.out))) | (with_reducible refine Kd.C_alloc ?_ _) | (with_reducible refine Kd.C_drewN ?_ _) | (with_reducible refine Kd.C_drew ?_))); (case side4 => exact HC0_2.out); (case side5 => repeat (first | exact (Kd.C_below HR0_3.out (by repeat (first | (with_reducible first | exact HB.out | apply below_alloc | apply pw_below_drewN | apply below_drew1 | refine below_set ?_ GE254.out) | exact HB.out))) | (with_reducible refine Kd.C_alloc ?_ _) | (with_reducible refine Kd.C_drewN ?_ _) | (with_reducible refine Kd.C_drew ?_))); (case side6 => exact HC0_3.out); rintro e w10 ⟨rfl, hb⟩; refine ⟨_, rfl, ?_⟩; have n0_ := Aside0.mk (blk_below (g := gb254) (o := .cells #[.int .i64 a0_0, .slice A0_1 l0_1.length c0_1, .slice A0_2 l0_2.length c0_2, .slice A0_3 l0_3.length c0_3] 37 (0, 0)) (by (with_reducible repeat (first | refine blk_drewN ?_ _ | refine blk_drew ?_ | refine blk_alloc ?_ _)); exact BK254.out) hb); have n1_ := Aside0.mk (below_step (by repeat (first | (with_reducible first | exact HB.out | apply below_alloc | apply pw_below_drewN | apply below_drew1 | refine below_set ?_ GE254.out) | exact HB.out)) hb); clear BK254; clear HB; have BK254 := n0_; have HB := n1_; clear n0_ n1_; (try clear hb); (try clear hb2); (try clear hk); (try clear hi)))
    go_ret2
    exact ⟨by first | rfl | (simp [errW_none, errW_some] <;> rfl) | (simp [*, errW_none, errW_some] <;> rfl), HB.out⟩
  subst c7
  have H1 : (if (l0_3.length : Int) > 6 then (some ((-1), 11)) else (if (l0_3.length : Int) = 0 then (some ((-1), 14)) else (task_Check.l0 k (l0_3.length : Int) 0 a0_0 l0_1 l0_2 l0_3))) = some (r1, r2) := by rw [if_pos rfl] at H; exact H
  clear H
  have H := H1
  clear H1
  by_cases c11 : (l0_3.length : Int) > 6
  · rw [if_pos c11] at H
    have c11b0 : decide (6 < (l0_3.length : Int)) = true := decide_eq_true c11
    have c11b1 : decide (6 < l0_3.length) = true := decide_eq_true (by omega)
    clear c11
    simp only [Option.some.injEq, Prod.mk.injEq] at H
    obtain ⟨rfl, rfl⟩ := H
    go_enter Tryd.func33, Tryd.ntmps33
    go_wp2_with (first | ((with_reducible refine gate_dst (N := 1) rfl ?_); refine box_event ?hg (N := 1) ?hd (cs := #[.int .i64 a0_0, .slice A0_1 l0_1.length c0_1, .slice A0_2 l0_2.length c0_2, .slice A0_3 l0_3.length c0_3]) (t := 37) ?hr ?_; (case hd => rfl); (case hg => rfl); (case hr => first | (go_simp; done) | (go_simp; rfl)); intro gb254 hg w12 hbox hb; have n0_ := Aside0.mk (below_step (HB.out) hb); have n1_ := Aside0.mk (hbox); have n2_ := Aside0.mk ((by rw [hg]; exact (below_size (HB.out)) : w.heap.size ≤ gb254)); have n3_ := n2_; clear HB; have HB := n0_; have BK254 := n1_; have GW254 := n2_; have GE254 := n3_; clear n0_ n1_ n2_ n3_; clear hb hbox hg; have hcz13_0 : w12.cell? ⟨gb254, 0, none⟩ = some (.int .i64 a0_0) := (blk_cell BK254.out 0).trans rfl; have hcz13_1 : w12.cell? ⟨gb254, 1, none⟩ = some (.slice A0_1 l0_1.length c0_1) := (blk_cell BK254.out 1).trans rfl; have hcz13_2 : w12.cell? ⟨gb254, 2, none⟩ = some (.slice A0_2 l0_2.length c0_2) := (blk_cell BK254.out 2).trans rfl; have hcz13_3 : w12.cell? ⟨gb254, 3, none⟩ = some (.slice A0_3 l0_3.length c0_3) := (blk_cell BK254.out 3).trans rfl; have hfz13_0 := blk_frozen BK254.out 0; have hfz13_1 := blk_frozen BK254.out 1; have hfz13_2 := blk_frozen BK254.out 2; have hfz13_3 := blk_frozen BK254.out 3) | ((with_reducible refine gate_callee (f := 52) rfl ?_); refine goesL_ (some 9) rfl rfl Tryd.func52 (by kernel_rfl) rfl #[.int .i64 a0_0, .int .i64 1, .int .i64 3] rfl (by (try simp only [List.map_toArray, List.map_cons, List.map_nil]); first | done | rfl | (simp only [List.length_drop, List.length_take]; rfl)) ?_; (with_reducible refine (task_between.calls a0_0 1 3 true _ A2.out).mono ?_); rintro e w' ⟨rfl, ⟨nd, rfl⟩⟩; refine ⟨_, rfl, ?_⟩) | ((with_reducible refine gate_callee (f := 53) rfl ?_); refine goesL_ (some 13) rfl rfl Tryd.func53 (by kernel_rfl) rfl #[.agg #[.int .i64 a0_0, .slice A0_1 l0_1.length c0_1, .slice A0_2 l0_2.length c0_2, .slice A0_3 l0_3.length c0_3]] rfl (by (try simp only [List.map_toArray, List.map_cons, List.map_nil]); first | done | rfl | (simp only [List.length_drop, List.length_take]; rfl)) ?_; (with_reducible refine (task_placed.calls a0_0 _ _ l0_1 _ _ l0_2 _ _ l0_3 true _ ?side1 ?side2 ?side3 ?side4 ?side5 ?side6 A6.out).mono ?_); (case side1 => repeat (first | exact (Kd.C_below HR0_1.out (by repeat (first | (with_reducible first | exact HB.out | apply below_alloc | apply pw_below_drewN | apply below_drew1 | refine below_set ?_ GE254.out) | exact HB.out))) | (with_reducible refine Kd.C_alloc ?_ _) | (with_reducible refine Kd.C_drewN ?_ _) | (with_reducible refine Kd.C_drew ?_))); (case side2 => exact HC0_1.out); (case side3 => repeat (first | exact (Kd.C_below HR0_2.out (by repeat (first | (with_reducible first | exact HB.out | apply below_alloc | apply pw_below_drewN | apply below_drew1 | refine below_set ?_ GE254.out) | exact HB.out))) | (with_reducible refine Kd.C_alloc ?_ _) | (with_reducible refine Kd.C_drewN ?_ _) | (with_reducible refine Kd.C_drew ?_))); (case side4 => exact HC0_2.out); (case side5 => repeat (first | exact (Kd.C_below HR0_3.out (by repeat (first | (with_reducible first | exact HB.out | apply below_alloc | apply pw_below_drewN | apply below_drew1 | refine below_set ?_ GE254.out) | exact HB.out))) | (with_reducible refine Kd.C_alloc ?_ _) | (with_reducible refine Kd.C_drewN ?_ _) | (with_reducible refine Kd.C_drew ?_))); (case side6 => exact HC0_3.out); rintro e w14 ⟨rfl, hb⟩; refine ⟨_, rfl, ?_⟩; have n0_ := Aside0.mk (blk_below (g := gb254) (o := .cells #[.int .i64 a0_0, .slice A0_1 l0_1.length c0_1, .slice A0_2 l0_2.length c0_2, .slice A0_3 l0_3.length c0_3] 37 (0, 0)) (by (with_reducible repeat (first | refine blk_drewN ?_ _ | refine blk_drew ?_ | refine blk_alloc ?_ _)); exact BK254.out) hb); have n1_ := Aside0.mk (below_step (by repeat (first | (with_reducible first | exact HB.out | apply below_alloc | apply pw_below_drewN | apply below_drew1 | refine below_set ?_ GE254.out) | exact HB.out)) hb); clear BK254; clear HB; have BK254 := n0_; have HB := n1_; clear n0_ n1_; (try clear hb); (try clear hb2); (try clear hk); (try clear hi); have hcz15_0 : w14.cell? ⟨gb254, 0, none⟩ = some (.int .i64 a0_0) := (blk_cell BK254.out 0).trans rfl; have hcz15_1 : w14.cell? ⟨gb254, 1, none⟩ = some (.slice A0_1 l0_1.length c0_1) := (blk_cell BK254.out 1).trans rfl; have hcz15_2 : w14.cell? ⟨gb254, 2, none⟩ = some (.slice A0_2 l0_2.length c0_2) := (blk_cell BK254.out 2).trans rfl; have hcz15_3 : w14.cell? ⟨gb254, 3, none⟩ = some (.slice A0_3 l0_3.length c0_3) := (blk_cell BK254.out 3).trans rfl; have hfz15_0 := blk_frozen BK254.out 0; have hfz15_1 := blk_frozen BK254.out 1; have hfz15_2 := blk_frozen BK254.out 2; have hfz15_3 := blk_frozen BK254.out 3))
    go_ret2
    exact ⟨by first | rfl | (simp [errW_none, errW_some] <;> rfl) | (simp [*, errW_none, errW_some] <;> rfl), HB.out⟩
  rw [if_neg c11] at H
  have c11b0 : decide (6 < (l0_3.length : Int)) = false := decide_eq_false c11
  have c11b1 : decide (6 < l0_3.length) = false := decide_eq_false (by omega)
  clear c11
  by_cases c16 : (l0_3.length : Int) = 0
  · rw [if_pos c16] at H
    have c16b0 : ((l0_3.length : Int) == 0) = true := beq_iff_eq.mpr c16
    have c16b1 : ((l0_3.length : Int) != 0) = false := bne_eq_false_iff_eq.mpr c16
    clear c16
    simp only [Option.some.injEq, Prod.mk.injEq] at H
    obtain ⟨rfl, rfl⟩ := H
    go_enter Tryd.func33, Tryd.ntmps33
    go_wp2_with (first | ((with_reducible refine gate_dst (N := 1) rfl ?_); refine box_event ?hg (N := 1) ?hd (cs := #[.int .i64 a0_0, .slice A0_1 l0_1.length c0_1, .slice A0_2 l0_2.length c0_2, .slice A0_3 l0_3.length c0_3]) (t := 37) ?hr ?_; (case hd => rfl); (case hg => rfl); (case hr => first | (go_simp; done) | (go_simp; rfl)); intro gb254 hg w17 hbox hb; have n0_ := Aside0.mk (below_step (HB.out) hb); have n1_ := Aside0.mk (hbox); have n2_ := Aside0.mk ((by rw [hg]; exact (below_size (HB.out)) : w.heap.size ≤ gb254)); have n3_ := n2_; clear HB; have HB := n0_; have BK254 := n1_; have GW254 := n2_; have GE254 := n3_; clear n0_ n1_ n2_ n3_; clear hb hbox hg; have hcz18_0 : w17.cell? ⟨gb254, 0, none⟩ = some (.int .i64 a0_0) := (blk_cell BK254.out 0).trans rfl; have hcz18_1 : w17.cell? ⟨gb254, 1, none⟩ = some (.slice A0_1 l0_1.length c0_1) := (blk_cell BK254.out 1).trans rfl; have hcz18_2 : w17.cell? ⟨gb254, 2, none⟩ = some (.slice A0_2 l0_2.length c0_2) := (blk_cell BK254.out 2).trans rfl; have hcz18_3 : w17.cell? ⟨gb254, 3, none⟩ = some (.slice A0_3 l0_3.length c0_3) := (blk_cell BK254.out 3).trans rfl; have hfz18_0 := blk_frozen BK254.out 0; have hfz18_1 := blk_frozen BK254.out 1; have hfz18_2 := blk_frozen BK254.out 2; have hfz18_3 := blk_frozen BK254.out 3) | ((with_reducible refine gate_callee (f := 52) rfl ?_); refine goesL_ (some 9) rfl rfl Tryd.func52 (by kernel_rfl) rfl #[.int .i64 a0_0, .int .i64 1, .int .i64 3] rfl (by (try simp only [List.map_toArray, List.map_cons, List.map_nil]); first | done | rfl | (simp only [List.length_drop, List.length_take]; rfl)) ?_; (with_reducible refine (task_between.calls a0_0 1 3 true _ A2.out).mono ?_); rintro e w' ⟨rfl, ⟨nd, rfl⟩⟩; refine ⟨_, rfl, ?_⟩) | ((with_reducible refine gate_callee (f := 53) rfl ?_); refine goesL_ (some 13) rfl rfl Tryd.func53 (by kernel_rfl) rfl #[.agg #[.int .i64 a0_0, .slice A0_1 l0_1.length c0_1, .slice A0_2 l0_2.length c0_2, .slice A0_3 l0_3.length c0_3]] rfl (by (try simp only [List.map_toArray, List.map_cons, List.map_nil]); first | done | rfl | (simp only [List.length_drop, List.length_take]; rfl)) ?_; (with_reducible refine (task_placed.calls a0_0 _ _ l0_1 _ _ l0_2 _ _ l0_3 true _ ?side1 ?side2 ?side3 ?side4 ?side5 ?side6 A6.out).mono ?_); (case side1 => repeat (first | exact (Kd.C_below HR0_1.out (by repeat (first | (with_reducible first | exact HB.out | apply below_alloc | apply pw_below_drewN | apply below_drew1 | refine below_set ?_ GE254.out) | exact HB.out))) | (with_reducible refine Kd.C_alloc ?_ _) | (with_reducible refine Kd.C_drewN ?_ _) | (with_reducible refine Kd.C_drew ?_))); (case side2 => exact HC0_1.out); (case side3 => repeat (first | exact (Kd.C_below HR0_2.out (by repeat (first | (with_reducible first | exact HB.out | apply below_alloc | apply pw_below_drewN | apply below_drew1 | refine below_set ?_ GE254.out) | exact HB.out))) | (with_reducible refine Kd.C_alloc ?_ _) | (with_reducible refine Kd.C_drewN ?_ _) | (with_reducible refine Kd.C_drew ?_))); (case side4 => exact HC0_2.out); (case side5 => repeat (first | exact (Kd.C_below HR0_3.out (by repeat (first | (with_reducible first | exact HB.out | apply below_alloc | apply pw_below_drewN | apply below_drew1 | refine below_set ?_ GE254.out) | exact HB.out))) | (with_reducible refine Kd.C_alloc ?_ _) | (with_reducible refine Kd.C_drewN ?_ _) | (with_reducible refine Kd.C_drew ?_))); (case side6 => exact HC0_3.out); rintro e w19 ⟨rfl, hb⟩; refine ⟨_, rfl, ?_⟩; have n0_ := Aside0.mk (blk_below (g := gb254) (o := .cells #[.int .i64 a0_0, .slice A0_1 l0_1.length c0_1, .slice A0_2 l0_2.length c0_2, .slice A0_3 l0_3.length c0_3] 37 (0, 0)) (by (with_reducible repeat (first | refine blk_drewN ?_ _ | refine blk_drew ?_ | refine blk_alloc ?_ _)); exact BK254.out) hb); have n1_ := Aside0.mk (below_step (by repeat (first | (with_reducible first | exact HB.out | apply below_alloc | apply pw_below_drewN | apply below_drew1 | refine below_set ?_ GE254.out) | exact HB.out)) hb); clear BK254; clear HB; have BK254 := n0_; have HB := n1_; clear n0_ n1_; (try clear hb); (try clear hb2); (try clear hk); (try clear hi); have hcz20_0 : w19.cell? ⟨gb254, 0, none⟩ = some (.int .i64 a0_0) := (blk_cell BK254.out 0).trans rfl; have hcz20_1 : w19.cell? ⟨gb254, 1, none⟩ = some (.slice A0_1 l0_1.length c0_1) := (blk_cell BK254.out 1).trans rfl; have hcz20_2 : w19.cell? ⟨gb254, 2, none⟩ = some (.slice A0_2 l0_2.length c0_2) := (blk_cell BK254.out 2).trans rfl; have hcz20_3 : w19.cell? ⟨gb254, 3, none⟩ = some (.slice A0_3 l0_3.length c0_3) := (blk_cell BK254.out 3).trans rfl; have hfz20_0 := blk_frozen BK254.out 0; have hfz20_1 := blk_frozen BK254.out 1; have hfz20_2 := blk_frozen BK254.out 2; have hfz20_3 := blk_frozen BK254.out 3))
    go_ret2
    exact ⟨by first | rfl | (simp [errW_none, errW_some] <;> rfl) | (simp [*, errW_none, errW_some] <;> rfl), HB.out⟩
  rw [if_neg c16] at H
  have c16b0 : ((l0_3.length : Int) == 0) = false := beq_eq_false_iff_ne.mpr c16
  have c16b1 : ((l0_3.length : Int) != 0) = true := bne_iff_ne.mpr c16
  have c16b2 : ¬ (l0_3 = []) := fun h_ => c16 (by rw [h_]; rfl)
  have H' := Aside0.mk H
  clear H
  go_enter Tryd.func33, Tryd.ntmps33
  go_wp2_with (first | ((with_reducible refine gate_dst (N := 1) rfl ?_); refine box_event ?hg (N := 1) ?hd (cs := #[.int .i64 a0_0, .slice A0_1 l0_1.length c0_1, .slice A0_2 l0_2.length c0_2, .slice A0_3 l0_3.length c0_3]) (t := 37) ?hr ?_; (case hd => rfl); (case hg => rfl); (case hr => first | (go_simp; done) | (go_simp; rfl)); intro gb254 hg w21 hbox hb; have n0_ := Aside0.mk (below_step (HB.out) hb); have n1_ := Aside0.mk (hbox); have n2_ := Aside0.mk ((by rw [hg]; exact (below_size (HB.out)) : w.heap.size ≤ gb254)); have n3_ := n2_; clear HB; have HB := n0_; have BK254 := n1_; have GW254 := n2_; have GE254 := n3_; clear n0_ n1_ n2_ n3_; clear hb hbox hg; have hcz22_0 : w21.cell? ⟨gb254, 0, none⟩ = some (.int .i64 a0_0) := (blk_cell BK254.out 0).trans rfl; have hcz22_1 : w21.cell? ⟨gb254, 1, none⟩ = some (.slice A0_1 l0_1.length c0_1) := (blk_cell BK254.out 1).trans rfl; have hcz22_2 : w21.cell? ⟨gb254, 2, none⟩ = some (.slice A0_2 l0_2.length c0_2) := (blk_cell BK254.out 2).trans rfl; have hcz22_3 : w21.cell? ⟨gb254, 3, none⟩ = some (.slice A0_3 l0_3.length c0_3) := (blk_cell BK254.out 3).trans rfl; have hfz22_0 := blk_frozen BK254.out 0; have hfz22_1 := blk_frozen BK254.out 1; have hfz22_2 := blk_frozen BK254.out 2; have hfz22_3 := blk_frozen BK254.out 3) | ((with_reducible refine gate_callee (f := 52) rfl ?_); refine goesL_ (some 9) rfl rfl Tryd.func52 (by kernel_rfl) rfl #[.int .i64 a0_0, .int .i64 1, .int .i64 3] rfl (by (try simp only [List.map_toArray, List.map_cons, List.map_nil]); first | done | rfl | (simp only [List.length_drop, List.length_take]; rfl)) ?_; (with_reducible refine (task_between.calls a0_0 1 3 true _ A2.out).mono ?_); rintro e w' ⟨rfl, ⟨nd, rfl⟩⟩; refine ⟨_, rfl, ?_⟩) | ((with_reducible refine gate_callee (f := 53) rfl ?_); refine goesL_ (some 13) rfl rfl Tryd.func53 (by kernel_rfl) rfl #[.agg #[.int .i64 a0_0, .slice A0_1 l0_1.length c0_1, .slice A0_2 l0_2.length c0_2, .slice A0_3 l0_3.length c0_3]] rfl (by (try simp only [List.map_toArray, List.map_cons, List.map_nil]); first | done | rfl | (simp only [List.length_drop, List.length_take]; rfl)) ?_; (with_reducible refine (task_placed.calls a0_0 _ _ l0_1 _ _ l0_2 _ _ l0_3 true _ ?side1 ?side2 ?side3 ?side4 ?side5 ?side6 A6.out).mono ?_); (case side1 => repeat (first | exact (Kd.C_below HR0_1.out (by repeat (first | (with_reducible first | exact HB.out | apply below_alloc | apply pw_below_drewN | apply below_drew1 | refine below_set ?_ GE254.out) | exact HB.out))) | (with_reducible refine Kd.C_alloc ?_ _) | (with_reducible refine Kd.C_drewN ?_ _) | (with_reducible refine Kd.C_drew ?_))); (case side2 => exact HC0_1.out); (case side3 => repeat (first | exact (Kd.C_below HR0_2.out (by repeat (first | (with_reducible first | exact HB.out | apply below_alloc | apply pw_below_drewN | apply below_drew1 | refine below_set ?_ GE254.out) | exact HB.out))) | (with_reducible refine Kd.C_alloc ?_ _) | (with_reducible refine Kd.C_drewN ?_ _) | (with_reducible refine Kd.C_drew ?_))); (case side4 => exact HC0_2.out); (case side5 => repeat (first | exact (Kd.C_below HR0_3.out (by repeat (first | (with_reducible first | exact HB.out | apply below_alloc | apply pw_below_drewN | apply below_drew1 | refine below_set ?_ GE254.out) | exact HB.out))) | (with_reducible refine Kd.C_alloc ?_ _) | (with_reducible refine Kd.C_drewN ?_ _) | (with_reducible refine Kd.C_drew ?_))); (case side6 => exact HC0_3.out); rintro e w23 ⟨rfl, hb⟩; refine ⟨_, rfl, ?_⟩; have n0_ := Aside0.mk (blk_below (g := gb254) (o := .cells #[.int .i64 a0_0, .slice A0_1 l0_1.length c0_1, .slice A0_2 l0_2.length c0_2, .slice A0_3 l0_3.length c0_3] 37 (0, 0)) (by (with_reducible repeat (first | refine blk_drewN ?_ _ | refine blk_drew ?_ | refine blk_alloc ?_ _)); exact BK254.out) hb); have n1_ := Aside0.mk (below_step (by repeat (first | (with_reducible first | exact HB.out | apply below_alloc | apply pw_below_drewN | apply below_drew1 | refine below_set ?_ GE254.out) | exact HB.out)) hb); clear BK254; clear HB; have BK254 := n0_; have HB := n1_; clear n0_ n1_; (try clear hb); (try clear hb2); (try clear hk); (try clear hi); have hcz24_0 : w23.cell? ⟨gb254, 0, none⟩ = some (.int .i64 a0_0) := (blk_cell BK254.out 0).trans rfl; have hcz24_1 : w23.cell? ⟨gb254, 1, none⟩ = some (.slice A0_1 l0_1.length c0_1) := (blk_cell BK254.out 1).trans rfl; have hcz24_2 : w23.cell? ⟨gb254, 2, none⟩ = some (.slice A0_2 l0_2.length c0_2) := (blk_cell BK254.out 2).trans rfl; have hcz24_3 : w23.cell? ⟨gb254, 3, none⟩ = some (.slice A0_3 l0_3.length c0_3) := (blk_cell BK254.out 3).trans rfl; have hfz24_0 := blk_frozen BK254.out 0; have hfz24_1 := blk_frozen BK254.out 1; have hfz24_2 := blk_frozen BK254.out 2; have hfz24_3 := blk_frozen BK254.out 3))
  go_loopg [28] k (fun kq v28 w' => ∃ (x28_1 : Int), v28 = .int .i64 x28_1 ∧ Aside0 (task_Check.l0 kq (l0_3.length : Int) x28_1 a0_0 l0_1 l0_2 l0_3 = some (r1, r2)) ∧ Aside0 (kq ≤ k) ∧ Aside0 (w'.heap[gb254]? = some (.cells #[.int .i64 a0_0, (.slice A0_1 l0_1.length c0_1), (.slice A0_2 l0_2.length c0_2), (.slice A0_3 l0_3.length c0_3)] 37 (0, 0))) ∧ Aside0 (Below w.heap.size w w'))
  case atStart => exact ⟨(0), (by first | rfl | (simp; done) | (simp [*]; done)), H', ⟨Nat.le_refl _⟩, ⟨BK254.out⟩, ⟨HB.out⟩⟩
  clear H'
  (try clear c1); (try clear p2); (try clear c3); (try clear c5); (try clear c7); (try clear c11); (try clear c11b0); (try clear c11b1); (try clear c16); (try clear c16b0); (try clear c16b1); (try clear c16b2); (try clear hcz13_0); (try clear hcz13_1); (try clear hcz13_2); (try clear hcz13_3); (try clear hcz15_0); (try clear hcz15_1); (try clear hcz15_2); (try clear hcz15_3); (try clear hcz18_0); (try clear hcz18_1); (try clear hcz18_2); (try clear hcz18_3); (try clear hcz20_0); (try clear hcz20_1); (try clear hcz20_2); (try clear hcz20_3); (try clear hcz22_0); (try clear hcz22_1); (try clear hcz22_2); (try clear hcz22_3); (try clear hcz24_0); (try clear hcz24_1); (try clear hcz24_2); (try clear hcz24_3); (try clear hcz5_0); (try clear hcz5_1); (try clear hcz5_2); (try clear hcz5_3); (try clear hcz9_0); (try clear hcz9_1); (try clear hcz9_2); (try clear hcz9_3); (try clear hfz13_0); (try clear hfz13_1); (try clear hfz13_2); (try clear hfz13_3); (try clear hfz15_0); (try clear hfz15_1); (try clear hfz15_2); (try clear hfz15_3); (try clear hfz18_0); (try clear hfz18_1); (try clear hfz18_2); (try clear hfz18_3); (try clear hfz20_0); (try clear hfz20_1); (try clear hfz20_2); (try clear hfz20_3); (try clear hfz22_0); (try clear hfz22_1); (try clear hfz22_2); (try clear hfz22_3); (try clear hfz24_0); (try clear hfz24_1); (try clear hfz24_2); (try clear hfz24_3); (try clear hfz5_0); (try clear hfz5_1); (try clear hfz5_2); (try clear hfz5_3); (try clear hfz9_0); (try clear hfz9_1); (try clear hfz9_2); (try clear hfz9_3)
  obtain ⟨x28_1, rfl, HA, HK1, BK254, HB⟩ := hrel
  cases gk with
  | zero => exact absurd HA.out (by simp [task_Check.l0])
  | succ k1 => ?_
  have H := HA.out
  clear HA
  simp only [task_Check.l0] at H
  by_cases c25 : x28_1 < (l0_3.length : Int)
  rotate_left
  · rw [if_neg c25] at H
    have c25b0 : decide (x28_1 < (l0_3.length : Int)) = false := decide_eq_false c25
    clear c25
    simp only [Option.some.injEq, Prod.mk.injEq] at H
    obtain ⟨rfl, rfl⟩ := H
    go_wp2
    go_ret2
    exact ⟨by first | rfl | (simp [errW_none, errW_some] <;> rfl) | (simp [*, errW_none, errW_some] <;> rfl), HB.out⟩
  rw [if_pos c25] at H
  have c25b0 : decide (x28_1 < (l0_3.length : Int)) = true := decide_eq_true c25
  clear c25
  replace H := Option.bind_eq_some_iff.mp H
  obtain ⟨t257, A260, H⟩ := H
  replace H : (if t257 = 0 then (task_Check.l0 k1 (l0_3.length : Int) (wrap64 (x28_1 + 1)) a0_0 l0_1 l0_2 l0_3) else (some (x28_1, t257))) = some (r1, r2) := H
  have A26 := Aside0.mk A260
  clear A260
  by_cases c27 : t257 = 0
  rotate_left
  · rw [if_neg c27] at H
    have c27b0 : (t257 == 0) = false := beq_eq_false_iff_ne.mpr c27
    have c27b1 : (t257 != 0) = true := bne_iff_ne.mpr c27
    simp only [Option.some.injEq, Prod.mk.injEq] at H
    obtain ⟨rfl, rfl⟩ := H
    have hcz28_0 : wr.cell? ⟨gb254, 0, none⟩ = some (.int .i64 a0_0) := (blk_cell BK254.out 0).trans rfl
    have hcz28_1 : wr.cell? ⟨gb254, 1, none⟩ = some (.slice A0_1 l0_1.length c0_1) := (blk_cell BK254.out 1).trans rfl
    have hcz28_2 : wr.cell? ⟨gb254, 2, none⟩ = some (.slice A0_2 l0_2.length c0_2) := (blk_cell BK254.out 2).trans rfl
    have hcz28_3 : wr.cell? ⟨gb254, 3, none⟩ = some (.slice A0_3 l0_3.length c0_3) := (blk_cell BK254.out 3).trans rfl
    have hfz28_0 := blk_frozen BK254.out 0
    have hfz28_1 := blk_frozen BK254.out 1
    have hfz28_2 := blk_frozen BK254.out 2
    have hfz28_3 := blk_frozen BK254.out 3
    go_wp2_with (first | ((with_reducible refine gate_callee (f := 54) rfl ?_); refine goesL_ (some 33) rfl rfl Tryd.func54 (by kernel_rfl) rfl #[.agg #[.int .i64 a0_0, .slice A0_1 l0_1.length c0_1, .slice A0_2 l0_2.length c0_2, .slice A0_3 l0_3.length c0_3], .int .i64 x28_1] rfl (by (try simp only [List.map_toArray, List.map_cons, List.map_nil]); first | done | rfl | (simp only [List.length_drop, List.length_take]; rfl)) ?_; (with_reducible refine (task_one.calls k1 a0_0 _ _ l0_1 _ _ l0_2 _ _ l0_3 x28_1 t257 _ ?side1 ?side2 ?side3 ?side4 ?side5 ?side6 A26.out).mono ?_); (case side1 => repeat (first | exact (Kd.C_below HR0_1.out HB.out) | (with_reducible refine Kd.C_alloc ?_ _) | (with_reducible refine Kd.C_drewN ?_ _) | (with_reducible refine Kd.C_drew ?_))); (case side2 => exact HC0_1.out); (case side3 => repeat (first | exact (Kd.C_below HR0_2.out HB.out) | (with_reducible refine Kd.C_alloc ?_ _) | (with_reducible refine Kd.C_drewN ?_ _) | (with_reducible refine Kd.C_drew ?_))); (case side4 => exact HC0_2.out); (case side5 => repeat (first | exact (Kd.C_below HR0_3.out HB.out) | (with_reducible refine Kd.C_alloc ?_ _) | (with_reducible refine Kd.C_drewN ?_ _) | (with_reducible refine Kd.C_drew ?_))); (case side6 => exact HC0_3.out); rintro e w29 ⟨rfl, hb⟩; refine ⟨_, rfl, ?_⟩; have n0_ := Aside0.mk (blk_below BK254.out hb); have n1_ := Aside0.mk (below_step (HB.out) hb); clear BK254; clear HB; have BK254 := n0_; have HB := n1_; clear n0_ n1_; (try clear hb); (try clear hb2); (try clear hk); (try clear hi)))
    go_ret2
    exact ⟨by first | rfl | (simp [errW_none, errW_some] <;> rfl) | (simp [*, errW_none, errW_some] <;> rfl), HB.out⟩
  rw [if_pos c27] at H
  have c27b0 : (t257 == 0) = true := beq_iff_eq.mpr c27
  have c27b1 : (t257 != 0) = false := bne_eq_false_iff_eq.mpr c27
  clear c27
  have H' := Aside0.mk H
  clear H
  have hcz30_0 : wr.cell? ⟨gb254, 0, none⟩ = some (.int .i64 a0_0) := (blk_cell BK254.out 0).trans rfl
  have hcz30_1 : wr.cell? ⟨gb254, 1, none⟩ = some (.slice A0_1 l0_1.length c0_1) := (blk_cell BK254.out 1).trans rfl
  have hcz30_2 : wr.cell? ⟨gb254, 2, none⟩ = some (.slice A0_2 l0_2.length c0_2) := (blk_cell BK254.out 2).trans rfl
  have hcz30_3 : wr.cell? ⟨gb254, 3, none⟩ = some (.slice A0_3 l0_3.length c0_3) := (blk_cell BK254.out 3).trans rfl
  have hfz30_0 := blk_frozen BK254.out 0
  have hfz30_1 := blk_frozen BK254.out 1
  have hfz30_2 := blk_frozen BK254.out 2
  have hfz30_3 := blk_frozen BK254.out 3
  go_wp2_with (first | ((with_reducible refine gate_callee (f := 54) rfl ?_); refine goesL_ (some 33) rfl rfl Tryd.func54 (by kernel_rfl) rfl #[.agg #[.int .i64 a0_0, .slice A0_1 l0_1.length c0_1, .slice A0_2 l0_2.length c0_2, .slice A0_3 l0_3.length c0_3], .int .i64 x28_1] rfl (by (try simp only [List.map_toArray, List.map_cons, List.map_nil]); first | done | rfl | (simp only [List.length_drop, List.length_take]; rfl)) ?_; (with_reducible refine (task_one.calls k1 a0_0 _ _ l0_1 _ _ l0_2 _ _ l0_3 x28_1 t257 _ ?side1 ?side2 ?side3 ?side4 ?side5 ?side6 A26.out).mono ?_); (case side1 => repeat (first | exact (Kd.C_below HR0_1.out HB.out) | (with_reducible refine Kd.C_alloc ?_ _) | (with_reducible refine Kd.C_drewN ?_ _) | (with_reducible refine Kd.C_drew ?_))); (case side2 => exact HC0_1.out); (case side3 => repeat (first | exact (Kd.C_below HR0_2.out HB.out) | (with_reducible refine Kd.C_alloc ?_ _) | (with_reducible refine Kd.C_drewN ?_ _) | (with_reducible refine Kd.C_drew ?_))); (case side4 => exact HC0_2.out); (case side5 => repeat (first | exact (Kd.C_below HR0_3.out HB.out) | (with_reducible refine Kd.C_alloc ?_ _) | (with_reducible refine Kd.C_drewN ?_ _) | (with_reducible refine Kd.C_drew ?_))); (case side6 => exact HC0_3.out); rintro e w31 ⟨rfl, hb⟩; refine ⟨_, rfl, ?_⟩; have n0_ := Aside0.mk (blk_below BK254.out hb); have n1_ := Aside0.mk (below_step (HB.out) hb); clear BK254; clear HB; have BK254 := n0_; have HB := n1_; clear n0_ n1_; (try clear hb); (try clear hb2); (try clear hk); (try clear hi)))
  go_roundg k1
  case measure => have := HK1.out; omega
  case rel => exact ⟨(wrap64 (x28_1 + 1)), (by first | rfl | (simp; done) | (simp [*]; done)), H', ⟨by have := HK1.out; omega⟩, ⟨BK254.out⟩, ⟨HB.out⟩⟩

end Go.Proofs.YtgkjoodlcojkkaaDoor.QD
end
section
-- written by a program of this session (wip/tools): the functions that the laws reach, as plain Lean, and their walks
namespace Go.Proofs.YtgkjoodlcojkkaaDoor.QD
open Go.RowKit Go.Proofs.YtgkjoodlcojkkaaDoorW.PrintWords Go.Proofs.YtgkjoodlcojkkaaDoorW.PrintLast Go.Proofs.YtgkjoodlcojkkaaDoorW.PrintMore
attribute [local go_sem] max2_int min2_int max_two min_two max_three min_three max_four min_four   -- for this text's walks alone
set_option linter.unusedVariables false
set_option linter.unusedSimpArgs false

/-! ### text_nums: function 36 -/
def text_nums.l0 : Nat → ByteArray → List Int → Int → Int → Option (ByteArray)
  | 0, _, _, _, _ => none
  | k + 1, x3, x6, x7, x8 => if x8 < x7 then (if 0 ≤ x8 then (if x8 < (x6.length : Int) then ((words_Text.f (rd x6 x8)).bind fun t259 => (if 1 + t259.size ≤ 9223372036854775807 then (if x3.size + ((⟨#[32]⟩ : ByteArray) ++ t259).size ≤ 9223372036854775807 then (text_nums.l0 k (x3 ++ ((⟨#[32]⟩ : ByteArray) ++ t259)) x6 x7 (wrap64 (x8 + 1))) else (none)) else (none))) else (none)) else (none)) else (some x3)
def text_nums.f (k : Nat) (l0 : List Int) : Option (ByteArray) := text_nums.l0 k (⟨#[]⟩ : ByteArray) l0 (l0.length : Int) 0
theorem text_nums.mono_l : ∀ k, (∀ y0 y1 y2 y3, LeO (text_nums.l0 k y0 y1 y2 y3) (text_nums.l0 (k + 1) y0 y1 y2 y3))
  | 0 => fun _ _ _ _ r h => by simp [text_nums.l0] at h
  | k + 1 => by
    have ih0 := text_nums.mono_l k
    · intro y0 y1 y2 y3
      unfold text_nums.l0
      repeat' first
      | (with_reducible exact ih0 _ _ _ _)
      | (with_reducible exact LeO.refl _)
      | (with_reducible exact LeO.none _)
      | (with_reducible refine LeO.ite ?_ ?_)
      | (with_reducible refine LeO.bind ?_ (fun _ => ?_))
      | exact ih0 _ _ _ _
      | exact LeO.none _
      | refine LeO.ite ?_ ?_
      | refine LeO.bind ?_ (fun _ => ?_)
theorem text_nums.mono : ∀ a0 k, LeO (text_nums.f k a0) (text_nums.f (k + 1) a0) := by
  intro a0 k
  have ih0 := text_nums.mono_l k
  unfold text_nums.f
  repeat' first
      | (with_reducible exact ih0 _ _ _ _)
      | (with_reducible exact LeO.refl _)
      | (with_reducible exact LeO.none _)
      | (with_reducible refine LeO.ite ?_ ?_)
      | (with_reducible refine LeO.bind ?_ (fun _ => ?_))
      | exact ih0 _ _ _ _
      | exact LeO.none _
      | refine LeO.ite ?_ ?_
      | refine LeO.bind ?_ (fun _ => ?_)
set_option maxHeartbeats 8000000 in
set_option maxRecDepth 100000 in
theorem text_nums.calls (k : Nat) (A0 : Option Addr) (c0 : Nat) (l0 : List Int) (r : ByteArray) (w : World) (hr0 : Kd.C (Kd.int .i64) w A0 l0.length l0) (hc0 : l0.length ≤ c0) (hG : Glob w) (h : text_nums.f k l0 = some r) :
    Calls Tryd.prog 36 #[.slice A0 l0.length c0] w fun e w' => e = .returned (.string r) ∧ Below w.heap.size w w' := by
  have HR0 := Aside0.mk hr0
  have HC0 := Aside0.mk hc0
  clear hr0 hc0
  have HG := Aside0.mk hG
  clear hG
  have HB := Aside0.mk (Below.refl w.heap.size w)
  have H : (text_nums.l0 k (⟨#[]⟩ : ByteArray) l0 (l0.length : Int) 0) = some r := h
  clear h
  have H' := Aside0.mk H
  clear H
  go_enter Tryd.func36, Tryd.ntmps36
  go_wp2
  go_loopg [3, 8] k (fun kq v3 v8 w' => ∃ (x3_1 : ByteArray) (x8_1 : Int), v3 = .string x3_1 ∧ v8 = .int .i64 x8_1 ∧ Aside0 (text_nums.l0 kq x3_1 l0 (l0.length : Int) x8_1 = some r) ∧ Aside0 (kq ≤ k) ∧ Aside0 (Below w.heap.size w w'))
  case atStart => exact ⟨((⟨#[]⟩ : ByteArray)), (0), (by first | rfl | (simp; done) | (simp [*]; done)), (by first | rfl | (simp; done) | (simp [*]; done)), H', ⟨Nat.le_refl _⟩, ⟨HB.out⟩⟩
  clear H'
  obtain ⟨x3_1, x8_1, rfl, rfl, HA, HK1, HB⟩ := hrel
  cases gk with
  | zero => exact absurd HA.out (by simp [text_nums.l0])
  | succ k1 => ?_
  have H := HA.out
  clear HA
  simp only [text_nums.l0] at H
  by_cases c2 : x8_1 < (l0.length : Int)
  rotate_left
  · rw [if_neg c2] at H
    have c2b0 : decide (x8_1 < (l0.length : Int)) = false := decide_eq_false c2
    clear c2
    obtain rfl := Option.some.inj H
    go_wp2
    go_ret
    exact ⟨by first | rfl | (simp [errW_none, errW_some] <;> rfl) | (simp [*, errW_none, errW_some] <;> rfl), HB.out⟩
  rw [if_pos c2] at H
  have c2b0 : decide (x8_1 < (l0.length : Int)) = true := decide_eq_true c2
  clear c2
  by_cases c3 : 0 ≤ x8_1
  rotate_left
  · rw [if_neg c3] at H
    exact absurd H (by simp)
  rw [if_pos c3] at H
  have c3b0 : decide (0 ≤ x8_1) = true := decide_eq_true c3
  clear c3
  by_cases c4 : x8_1 < (l0.length : Int)
  rotate_left
  · rw [if_neg c4] at H
    exact absurd H (by simp)
  rw [if_pos c4] at H
  have c4b0 : decide (x8_1 < (l0.length : Int)) = true := decide_eq_true c4
  clear c4
  replace H := Option.bind_eq_some_iff.mp H
  obtain ⟨t259, A50, H⟩ := H
  replace H : (if 1 + t259.size ≤ 9223372036854775807 then (if x3_1.size + ((⟨#[32]⟩ : ByteArray) ++ t259).size ≤ 9223372036854775807 then (text_nums.l0 k1 (x3_1 ++ ((⟨#[32]⟩ : ByteArray) ++ t259)) l0 (l0.length : Int) (wrap64 (x8_1 + 1))) else (none)) else (none)) = some r := H
  have A5 := Aside0.mk A50
  clear A50
  by_cases c6 : 1 + t259.size ≤ 9223372036854775807
  rotate_left
  · rw [if_neg c6] at H
    exact absurd H (by simp)
  rw [if_pos c6] at H
  have c6b0 := eq_true c6
  have c6b1 : decide (1 + t259.size ≤ 9223372036854775807) = true := decide_eq_true c6
  try have c6b2 : (9223372036854775807 < 1 + t259.size) = False := eq_false (Nat.not_lt.2 c6)
  by_cases c7 : x3_1.size + ((⟨#[32]⟩ : ByteArray) ++ t259).size ≤ 9223372036854775807
  rotate_left
  · rw [if_neg c7] at H
    exact absurd H (by simp)
  rw [if_pos c7] at H
  have c7b0 := eq_true c7
  have c7b1 : decide (x3_1.size + ((⟨#[32]⟩ : ByteArray) ++ t259).size ≤ 9223372036854775807) = true := decide_eq_true c7
  try have c7b2 : (9223372036854775807 < x3_1.size + ((⟨#[32]⟩ : ByteArray) ++ t259).size) = False := eq_false (Nat.not_lt.2 c7)
  try (have c7b3 := c7b2; rw [ByteArray.size_append] at c7b3)
  have H' := Aside0.mk H
  clear H
  have p258 : 0 ≤ (x8_1 : Int) := of_decide_eq_true (by first | (with_reducible assumption) | assumption)
  have q258 : x8_1 < (l0.length : Int) := of_decide_eq_true (by first | (with_reducible assumption) | assumption)
  obtain ⟨ad258, e258, hx258_0⟩ := Kd.at_int HR0.out x8_1 p258 q258
  cases e258
  replace hx258_0 := (HB.out.cell (World.block_lt_of_cell? w _ hx258_0)).trans hx258_0
  replace p258 := eq_true p258
  replace q258 := eq_true q258
  go_wp2_with (first | ((with_reducible refine gate_callee (f := 19) rfl ?_); refine goesL_ (some 14) rfl rfl Tryd.func19 (by kernel_rfl) rfl #[.int .i64 (rd l0 x8_1)] rfl (by (try simp only [List.map_toArray, List.map_cons, List.map_nil]); first | done | rfl | (simp only [List.length_drop, List.length_take]; rfl)) ?_; (with_reducible refine (words_Text.calls (rd l0 x8_1) t259 _ ?side1 A5.out).mono ?_); (case side1 => first | exact Glob.below HG.out (HB.out) | (repeat (first | exact Glob.below HG.out HB.out | (with_reducible refine Glob.alloc ?_ _) | (with_reducible refine Glob.drewN ?_ _) | (with_reducible refine Glob.drew ?_)))); rintro e w8 ⟨rfl, hb⟩; refine ⟨_, rfl, ?_⟩; have n0_ := Aside0.mk (below_step (HB.out) hb); clear HB; have HB := n0_; clear n0_; (try clear hb); (try clear hb2); (try clear hk); (try clear hi)))
  go_roundg k1
  case measure => have := HK1.out; omega
  case rel => exact ⟨(x3_1 ++ ((⟨#[32]⟩ : ByteArray) ++ t259)), (wrap64 (x8_1 + 1)), (by first | rfl | (simp; done) | (simp [*]; done)), (by first | rfl | (simp; done) | (simp [*]; done)), H', ⟨by have := HK1.out; omega⟩, ⟨HB.out⟩⟩

end Go.Proofs.YtgkjoodlcojkkaaDoor.QD
end
section
-- written by a program of this session (wip/tools): the functions that the laws reach, as plain Lean, and their walks
namespace Go.Proofs.YtgkjoodlcojkkaaDoor.QD
open Go.RowKit Go.Proofs.YtgkjoodlcojkkaaDoorW.PrintWords Go.Proofs.YtgkjoodlcojkkaaDoorW.PrintLast Go.Proofs.YtgkjoodlcojkkaaDoorW.PrintMore
attribute [local go_sem] max2_int min2_int max_two min_two max_three min_three max_four min_four   -- for this text's walks alone
set_option linter.unusedVariables false
set_option linter.unusedSimpArgs false

/-! ### text_rows: function 39 -/
def text_rows.l0 : Nat → List (S81) → List ByteArray → Int → Int → Option ((List (S81)))
  | 0, _, _, _, _ => none
  | k + 1, x3, x7, x8, x9 => if x9 < x8 then (if 0 ≤ x9 then (if x9 < (x7.length : Int) then ((words_Words.f k (rdOf ByteArray.empty x7 x9)).bind fun t266 => (if (t266.length : Int) = 0 then (text_rows.l0 k x3 x7 x8 (wrap64 (x9 + 1))) else (if x3.length < 4398046511104 then (text_rows.l0 k (x3 ++ [(⟨x9, t266⟩ : S81)]) x7 x8 (wrap64 (x9 + 1))) else (none)))) else (none)) else (none)) else (some x3)
def text_rows.f (k : Nat) (l0 : List ByteArray) : Option ((List (S81))) := text_rows.l0 k ([] : List (S81)) l0 (l0.length : Int) 0
theorem text_rows.mono_l : ∀ k, (∀ y0 y1 y2 y3, LeO (text_rows.l0 k y0 y1 y2 y3) (text_rows.l0 (k + 1) y0 y1 y2 y3))
  | 0 => fun _ _ _ _ r h => by simp [text_rows.l0] at h
  | k + 1 => by
    have ih0 := text_rows.mono_l k
    · intro y0 y1 y2 y3
      unfold text_rows.l0
      repeat' first
      | (with_reducible exact ih0 _ _ _ _)
      | (with_reducible exact words_Words.mono _ _)
      | (with_reducible exact LeO.refl _)
      | (with_reducible exact LeO.none _)
      | (with_reducible refine LeO.ite ?_ ?_)
      | (with_reducible refine LeO.bind ?_ (fun _ => ?_))
      | exact ih0 _ _ _ _
      | exact words_Words.mono _ _
      | exact LeO.none _
      | refine LeO.ite ?_ ?_
      | refine LeO.bind ?_ (fun _ => ?_)
theorem text_rows.mono : ∀ a0 k, LeO (text_rows.f k a0) (text_rows.f (k + 1) a0) := by
  intro a0 k
  have ih0 := text_rows.mono_l k
  unfold text_rows.f
  repeat' first
      | (with_reducible exact ih0 _ _ _ _)
      | (with_reducible exact words_Words.mono _ _)
      | (with_reducible exact LeO.refl _)
      | (with_reducible exact LeO.none _)
      | (with_reducible refine LeO.ite ?_ ?_)
      | (with_reducible refine LeO.bind ?_ (fun _ => ?_))
      | exact ih0 _ _ _ _
      | exact words_Words.mono _ _
      | exact LeO.none _
      | refine LeO.ite ?_ ?_
      | refine LeO.bind ?_ (fun _ => ?_)
set_option maxHeartbeats 8000000 in
set_option maxRecDepth 100000 in
theorem text_rows.calls (k : Nat) (A0 : Option Addr) (c0 : Nat) (l0 : List ByteArray) (r : List (S81)) (w : World) (hr0 : Kd.C Kd.string w A0 l0.length l0) (hc0 : l0.length ≤ c0) (hG : Glob w) (h : text_rows.f k l0 = some r) :
    Calls Tryd.prog 39 #[.slice A0 l0.length c0] w fun e w' => ∃ v0_ : Value, e = .returned (v0_) ∧ Kd.S k81 81 w' w.heap.size (fun _ => True) v0_ r ∧ Below w.heap.size w w' := by
  have hu81 := Tryd.underlying81
  have HR0 := Aside0.mk hr0
  have HC0 := Aside0.mk hc0
  clear hr0 hc0
  have HG := Aside0.mk hG
  clear hG
  have HB := Aside0.mk (Below.refl w.heap.size w)
  have H : (text_rows.l0 k ([] : List (S81)) l0 (l0.length : Int) 0) = some r := h
  clear h
  have H' := Aside0.mk H
  clear H
  go_enter Tryd.func39, Tryd.ntmps39
  go_wp2
  repeat (go_step3; try go_wp2)
  go_loopg [3, 9] k (fun kq v3 v9 w' => ∃ (x3_1 : List (S81)) (x9_1 : Int), v9 = .int .i64 x9_1 ∧ Aside0 (text_rows.l0 kq x3_1 l0 (l0.length : Int) x9_1 = some r) ∧ Aside0 (kq ≤ k) ∧ Aside0 (Kd.S k81 81 w' w.heap.size (fun _ => True) v3 x3_1) ∧ Aside0 (Below w.heap.size w w'))
  case atStart => exact ⟨(([] : List (S81))), (0), (by first | rfl | (simp; done) | (simp [*]; done)), H', ⟨Nat.le_refl _⟩, ⟨by first | exact Kd.S_nil _ _ _ _ _ | exact Kd.N_nil _ _ _ _ _ | exact Kd.V_nil _ _ _ _ _ | exact Kd.Q_nil _ _ _ _ _ | exact Kd.R_nil _ _ _ _ _⟩, ⟨HB.out⟩⟩
  clear H'
  obtain ⟨x3_1, x9_1, rfl, HA, HK1, HO_3, HB⟩ := hrel
  cases gk with
  | zero => exact absurd HA.out (by simp [text_rows.l0])
  | succ k1 => ?_
  have H := HA.out
  clear HA
  simp only [text_rows.l0] at H
  by_cases c2 : x9_1 < (l0.length : Int)
  rotate_left
  · rw [if_neg c2] at H
    have c2b0 : decide (x9_1 < (l0.length : Int)) = false := decide_eq_false c2
    clear c2
    obtain rfl := Option.some.inj H
    go_wp2
    repeat (go_step3; try go_wp2)
    go_ret
    exact ⟨_, by first | rfl | (simp [errW_none, errW_some] <;> rfl) | (simp [*, errW_none, errW_some] <;> rfl), by (with_reducible repeat (first | apply Kd.S_alloc | apply Kd.S_drewN | apply Kd.S_drew)); exact HO_3.out, HB.out⟩
  rw [if_pos c2] at H
  have c2b0 : decide (x9_1 < (l0.length : Int)) = true := decide_eq_true c2
  clear c2
  by_cases c3 : 0 ≤ x9_1
  rotate_left
  · rw [if_neg c3] at H
    exact absurd H (by simp)
  rw [if_pos c3] at H
  have c3b0 : decide (0 ≤ x9_1) = true := decide_eq_true c3
  clear c3
  by_cases c4 : x9_1 < (l0.length : Int)
  rotate_left
  · rw [if_neg c4] at H
    exact absurd H (by simp)
  rw [if_pos c4] at H
  have c4b0 : decide (x9_1 < (l0.length : Int)) = true := decide_eq_true c4
  clear c4
  replace H := Option.bind_eq_some_iff.mp H
  obtain ⟨t266, A50, H⟩ := H
  replace H : (if (t266.length : Int) = 0 then (text_rows.l0 k1 x3_1 l0 (l0.length : Int) (wrap64 (x9_1 + 1))) else (if x3_1.length < 4398046511104 then (text_rows.l0 k1 (x3_1 ++ [(⟨x9_1, t266⟩ : S81)]) l0 (l0.length : Int) (wrap64 (x9_1 + 1))) else (none))) = some r := H
  have A5 := Aside0.mk A50
  clear A50
  by_cases c6 : (t266.length : Int) = 0
  · rw [if_pos c6] at H
    have c6b0 : ((t266.length : Int) == 0) = true := beq_iff_eq.mpr c6
    have c6b1 : ((t266.length : Int) != 0) = false := bne_eq_false_iff_eq.mpr c6
    clear c6
    have H' := Aside0.mk H
    clear H
    have p265 : 0 ≤ (x9_1 : Int) := of_decide_eq_true (by first | (with_reducible assumption) | assumption)
    have q265 : x9_1 < (l0.length : Int) := of_decide_eq_true (by first | (with_reducible assumption) | assumption)
    obtain ⟨ad265, e265, hx265_0⟩ := Kd.at_string HR0.out x9_1 p265 q265
    cases e265
    replace hx265_0 := (HB.out.cell (World.block_lt_of_cell? w _ hx265_0)).trans hx265_0
    replace p265 := eq_true p265
    replace q265 := eq_true q265
    go_wp2_with (first | ((with_reducible refine gate_callee (f := 15) rfl ?_); refine goesL_ (some 15) rfl rfl Tryd.func15 (by kernel_rfl) rfl #[.string (rdOf ByteArray.empty l0 x9_1)] rfl (by (try simp only [List.map_toArray, List.map_cons, List.map_nil]); first | done | rfl | (simp only [List.length_drop, List.length_take]; rfl)) ?_; (with_reducible refine (words_Words.calls k1 (rdOf ByteArray.empty l0 x9_1) t266 _ ?side1 A5.out).mono ?_); (case side1 => first | exact Glob.below HG.out (HB.out) | (repeat (first | exact Glob.below HG.out HB.out | (with_reducible refine Glob.alloc ?_ _) | (with_reducible refine Glob.drewN ?_ _) | (with_reducible refine Glob.drew ?_)))); rintro e w7 ⟨v267, rfl, ho0, hb⟩; refine ⟨_, rfl, ?_⟩; have n0_ := Aside0.mk (Kd.S_elder' (by (with_reducible repeat (first | apply Kd.S_alloc | apply Kd.S_drewN | apply Kd.S_drew)); exact HO_3.out) (Kd.R_base ho0) hb); have n1_ := Aside0.mk (Kd.R_lower ho0 (below_size (HB.out))); have n2_ := Aside0.mk (below_step (HB.out) hb); clear HO_3; clear HB; have HO_3 := n0_; have HO268 := n1_; have HB := n2_; clear n0_ n1_ n2_; (try clear hb); (try clear hb2); (try clear hk); (try clear hi); (try clear ho0); obtain ⟨Ao8, co8, eo8⟩ := Kd.R_slice HO268.out; subst eo8))
    repeat (go_step3; try go_wp2_with (first | ((with_reducible refine gate_callee (f := 15) rfl ?_); refine goesL_ (some 15) rfl rfl Tryd.func15 (by kernel_rfl) rfl #[.string (rdOf ByteArray.empty l0 x9_1)] rfl (by (try simp only [List.map_toArray, List.map_cons, List.map_nil]); first | done | rfl | (simp only [List.length_drop, List.length_take]; rfl)) ?_; (with_reducible refine (words_Words.calls k1 (rdOf ByteArray.empty l0 x9_1) t266 _ ?side1 A5.out).mono ?_); (case side1 => first | exact Glob.below HG.out (HB.out) | (repeat (first | exact Glob.below HG.out HB.out | (with_reducible refine Glob.alloc ?_ _) | (with_reducible refine Glob.drewN ?_ _) | (with_reducible refine Glob.drew ?_)))); rintro e w7 ⟨v267, rfl, ho0, hb⟩; refine ⟨_, rfl, ?_⟩; have n0_ := Aside0.mk (Kd.S_elder' (by (with_reducible repeat (first | apply Kd.S_alloc | apply Kd.S_drewN | apply Kd.S_drew)); exact HO_3.out) (Kd.R_base ho0) hb); have n1_ := Aside0.mk (Kd.R_lower ho0 (below_size (HB.out))); have n2_ := Aside0.mk (below_step (HB.out) hb); clear HO_3; clear HB; have HO_3 := n0_; have HO268 := n1_; have HB := n2_; clear n0_ n1_ n2_; (try clear hb); (try clear hb2); (try clear hk); (try clear hi); (try clear ho0); obtain ⟨Ao8, co8, eo8⟩ := Kd.R_slice HO268.out; subst eo8)))
    go_roundg k1
    case measure => have := HK1.out; omega
    case rel => exact ⟨(x3_1), (wrap64 (x9_1 + 1)), (by first | rfl | (simp; done) | (simp [*]; done)), H', ⟨by have := HK1.out; omega⟩, ⟨by (with_reducible repeat (first | apply Kd.S_alloc | apply Kd.S_drewN | apply Kd.S_drew)); exact Kd.S_mono HO_3.out (fun _ hk => trivial)⟩, ⟨HB.out⟩⟩
  rw [if_neg c6] at H
  have c6b0 : ((t266.length : Int) == 0) = false := beq_eq_false_iff_ne.mpr c6
  have c6b1 : ((t266.length : Int) != 0) = true := bne_iff_ne.mpr c6
  have c6b2 : ¬ (t266 = []) := fun h_ => c6 (by rw [h_]; rfl)
  by_cases c9 : x3_1.length < 4398046511104
  rotate_left
  · rw [if_neg c9] at H
    exact absurd H (by simp)
  rw [if_pos c9] at H
  have LMc9 := Aside0.mk c9
  clear c9
  obtain ⟨y269, hy269⟩ : ∃ y_ : List (S81), y_ = (x3_1 ++ [(⟨x9_1, t266⟩ : S81)]) := ⟨_, rfl⟩
  replace H : (text_rows.l0 k1 y269 l0 (l0.length : Int) (wrap64 (x9_1 + 1))) = some r := by first | (rw [hy269]; with_reducible exact H) | (have H2_ := (Option.bind_some _ _).symm.trans H; rw [hy269]; with_reducible exact H2_) | (have H2_ := (Option.bind_some _ _).symm.trans H; with_reducible exact H2_) | with_reducible exact H | (rw [hy269]; exact H) | exact H
  have Ny269 := Aside0.mk hy269
  clear hy269
  have H' := Aside0.mk H
  clear H
  have p265 : 0 ≤ (x9_1 : Int) := of_decide_eq_true (by first | (with_reducible assumption) | assumption)
  have q265 : x9_1 < (l0.length : Int) := of_decide_eq_true (by first | (with_reducible assumption) | assumption)
  obtain ⟨ad265, e265, hx265_0⟩ := Kd.at_string HR0.out x9_1 p265 q265
  cases e265
  replace hx265_0 := (HB.out.cell (World.block_lt_of_cell? w _ hx265_0)).trans hx265_0
  replace p265 := eq_true p265
  replace q265 := eq_true q265
  go_wp2_with (first | ((with_reducible refine gate_callee (f := 15) rfl ?_); refine goesL_ (some 15) rfl rfl Tryd.func15 (by kernel_rfl) rfl #[.string (rdOf ByteArray.empty l0 x9_1)] rfl (by (try simp only [List.map_toArray, List.map_cons, List.map_nil]); first | done | rfl | (simp only [List.length_drop, List.length_take]; rfl)) ?_; (with_reducible refine (words_Words.calls k1 (rdOf ByteArray.empty l0 x9_1) t266 _ ?side1 A5.out).mono ?_); (case side1 => first | exact Glob.below HG.out (HB.out) | (repeat (first | exact Glob.below HG.out HB.out | (with_reducible refine Glob.alloc ?_ _) | (with_reducible refine Glob.drewN ?_ _) | (with_reducible refine Glob.drew ?_)))); rintro e w10 ⟨v267, rfl, ho0, hb⟩; refine ⟨_, rfl, ?_⟩; have n0_ := Aside0.mk (Kd.S_elder' (by (with_reducible repeat (first | apply Kd.S_alloc | apply Kd.S_drewN | apply Kd.S_drew)); exact HO_3.out) (Kd.R_base ho0) hb); have n1_ := Aside0.mk (Kd.R_lower ho0 (below_size (HB.out))); have n2_ := Aside0.mk (below_step (HB.out) hb); clear HO_3; clear HB; have HO_3 := n0_; have HO268 := n1_; have HB := n2_; clear n0_ n1_ n2_; (try clear hb); (try clear hb2); (try clear hk); (try clear hi); (try clear ho0); obtain ⟨Ao11, co11, eo11⟩ := Kd.R_slice HO268.out; subst eo11) | ((with_reducible refine gate_builtin (b := .append) (xs := #[.tmp 19, .tmp 23]) rfl ?_); at_builtin; refine Kd.S_append k81 (w0 := w) w.heap.size rfl (.tmp 19) (.tmp 23) 75 81 (.agg #[(.int .i64 0), (.slice none 0 0)]) 32 rfl Tryd.underlying75 info81 rfl (by decide) (by omega) u3 x3_1 (⟨x9_1, t266⟩ : S81) [.int .i64 x9_1, .slice Ao11 t266.length co11] (fun _ => True) (fun k_ => some k_ = (.slice Ao11 t266.length co11 : Value).ownBlock) rfl rfl ?aP (fun k_ hk_ => ((Kd.R_mono (ok' := fun k_ => ((fun _ => True)) k_ ∧ some k_ ≠ (u3 : Value).ownBlock) (Kd.R_apart' (HO268.out) (Kd.S_typed HO_3.out) (by decide)) (fun k_ hk => ⟨trivial, hk.2⟩))).1 k_ hk_.symm) ?aF ?aO ?aB ?aS ?aL ?_; (case aP => exact k81_mkM _ _ _ (⟨x9_1, t266⟩ : S81) (Kd.R_mono (Kd.R_tight rfl (Kd.R_mono (ok' := fun k_ => ((fun _ => True)) k_ ∧ some k_ ≠ (u3 : Value).ownBlock) (Kd.R_apart' (HO268.out) (Kd.S_typed HO_3.out) (by decide)) (fun k_ hk => ⟨trivial, hk.2⟩))) (fun _ h_ => h_))); (case aB => exact (HB.out)); (case aF => exact (fun _ _ => trivial)); (case aO => exact (by (with_reducible repeat (first | apply Kd.S_alloc | apply Kd.S_drewN | apply Kd.S_drew)); exact Kd.S_mono HO_3.out (fun k_ hk => ⟨trivial, fun e_ => hk.2 e_⟩))); (case aS => exact (below_size (HB.out))); (case aL => have := LMc9.out; omega); intro v270 w12 ho hb hg hat; rw [← Ny269.out] at ho; have n0_ := Aside0.mk (hb); have n1_ := Aside0.mk (ho); clear HB; clear HO_3; clear HO268; have HB := n0_; have HO271 := n1_; clear n0_ n1_; clear ho hb hg hat))
  repeat (go_step3; try go_wp2_with (first | ((with_reducible refine gate_callee (f := 15) rfl ?_); refine goesL_ (some 15) rfl rfl Tryd.func15 (by kernel_rfl) rfl #[.string (rdOf ByteArray.empty l0 x9_1)] rfl (by (try simp only [List.map_toArray, List.map_cons, List.map_nil]); first | done | rfl | (simp only [List.length_drop, List.length_take]; rfl)) ?_; (with_reducible refine (words_Words.calls k1 (rdOf ByteArray.empty l0 x9_1) t266 _ ?side1 A5.out).mono ?_); (case side1 => first | exact Glob.below HG.out (HB.out) | (repeat (first | exact Glob.below HG.out HB.out | (with_reducible refine Glob.alloc ?_ _) | (with_reducible refine Glob.drewN ?_ _) | (with_reducible refine Glob.drew ?_)))); rintro e w10 ⟨v267, rfl, ho0, hb⟩; refine ⟨_, rfl, ?_⟩; have n0_ := Aside0.mk (Kd.S_elder' (by (with_reducible repeat (first | apply Kd.S_alloc | apply Kd.S_drewN | apply Kd.S_drew)); exact HO_3.out) (Kd.R_base ho0) hb); have n1_ := Aside0.mk (Kd.R_lower ho0 (below_size (HB.out))); have n2_ := Aside0.mk (below_step (HB.out) hb); clear HO_3; clear HB; have HO_3 := n0_; have HO268 := n1_; have HB := n2_; clear n0_ n1_ n2_; (try clear hb); (try clear hb2); (try clear hk); (try clear hi); (try clear ho0); obtain ⟨Ao11, co11, eo11⟩ := Kd.R_slice HO268.out; subst eo11) | ((with_reducible refine gate_builtin (b := .append) (xs := #[.tmp 19, .tmp 23]) rfl ?_); at_builtin; refine Kd.S_append k81 (w0 := w) w.heap.size rfl (.tmp 19) (.tmp 23) 75 81 (.agg #[(.int .i64 0), (.slice none 0 0)]) 32 rfl Tryd.underlying75 info81 rfl (by decide) (by omega) u3 x3_1 (⟨x9_1, t266⟩ : S81) [.int .i64 x9_1, .slice Ao11 t266.length co11] (fun _ => True) (fun k_ => some k_ = (.slice Ao11 t266.length co11 : Value).ownBlock) rfl rfl ?aP (fun k_ hk_ => ((Kd.R_mono (ok' := fun k_ => ((fun _ => True)) k_ ∧ some k_ ≠ (u3 : Value).ownBlock) (Kd.R_apart' (HO268.out) (Kd.S_typed HO_3.out) (by decide)) (fun k_ hk => ⟨trivial, hk.2⟩))).1 k_ hk_.symm) ?aF ?aO ?aB ?aS ?aL ?_; (case aP => exact k81_mkM _ _ _ (⟨x9_1, t266⟩ : S81) (Kd.R_mono (Kd.R_tight rfl (Kd.R_mono (ok' := fun k_ => ((fun _ => True)) k_ ∧ some k_ ≠ (u3 : Value).ownBlock) (Kd.R_apart' (HO268.out) (Kd.S_typed HO_3.out) (by decide)) (fun k_ hk => ⟨trivial, hk.2⟩))) (fun _ h_ => h_))); (case aB => exact (HB.out)); (case aF => exact (fun _ _ => trivial)); (case aO => exact (by (with_reducible repeat (first | apply Kd.S_alloc | apply Kd.S_drewN | apply Kd.S_drew)); exact Kd.S_mono HO_3.out (fun k_ hk => ⟨trivial, fun e_ => hk.2 e_⟩))); (case aS => exact (below_size (HB.out))); (case aL => have := LMc9.out; omega); intro v270 w12 ho hb hg hat; rw [← Ny269.out] at ho; have n0_ := Aside0.mk (hb); have n1_ := Aside0.mk (ho); clear HB; clear HO_3; clear HO268; have HB := n0_; have HO271 := n1_; clear n0_ n1_; clear ho hb hg hat)))
  go_roundg k1
  case measure => have := HK1.out; omega
  case rel => exact ⟨(y269), (wrap64 (x9_1 + 1)), (by first | rfl | (simp; done) | (simp [*]; done)), H', ⟨by have := HK1.out; omega⟩, ⟨by (with_reducible repeat (first | apply Kd.S_alloc | apply Kd.S_drewN | apply Kd.S_drew)); exact HO271.out⟩, ⟨HB.out⟩⟩

end Go.Proofs.YtgkjoodlcojkkaaDoor.QD
end
section
-- written by a program of this session (wip/tools): the functions that the laws reach, as plain Lean, and their walks
namespace Go.Proofs.YtgkjoodlcojkkaaDoor.QD
open Go.RowKit Go.Proofs.YtgkjoodlcojkkaaDoorW.PrintWords Go.Proofs.YtgkjoodlcojkkaaDoorW.PrintLast Go.Proofs.YtgkjoodlcojkkaaDoorW.PrintMore
attribute [local go_sem] max2_int min2_int max_two min_two max_three min_three max_four min_four   -- for this text's walks alone
set_option linter.unusedVariables false
set_option linter.unusedSimpArgs false

/-! ### text_numbers: function 56 -/
def text_numbers.l0 : Nat → List Int → List ByteArray → Int → Int → Option (List Int × Bool)
  | 0, _, _, _, _ => none
  | k + 1, x4, x9, x10, x11 => if x11 < x10 then (if 0 ≤ x11 then (if x11 < (x9.length : Int) then ((words_Num.f (rdOf ByteArray.empty x9 x11)).bind fun bt273 => (if bt273.2 = true then (if x4.length < 17592186044416 then (text_numbers.l0 k (x4 ++ [bt273.1]) x9 x10 (wrap64 (x11 + 1))) else (none)) else (some (([] : List Int), false)))) else (none)) else (none)) else (some (x4, true))
def text_numbers.f (k : Nat) (l0 : List ByteArray) : Option (List Int × Bool) := text_numbers.l0 k ([] : List Int) l0 (l0.length : Int) 0
theorem text_numbers.mono_l : ∀ k, (∀ y0 y1 y2 y3, LeO (text_numbers.l0 k y0 y1 y2 y3) (text_numbers.l0 (k + 1) y0 y1 y2 y3))
  | 0 => fun _ _ _ _ r h => by simp [text_numbers.l0] at h
  | k + 1 => by
    have ih0 := text_numbers.mono_l k
    · intro y0 y1 y2 y3
      unfold text_numbers.l0
      repeat' first
      | (with_reducible exact ih0 _ _ _ _)
      | (with_reducible exact LeO.refl _)
      | (with_reducible exact LeO.none _)
      | (with_reducible refine LeO.ite ?_ ?_)
      | (with_reducible refine LeO.bind ?_ (fun _ => ?_))
      | exact ih0 _ _ _ _
      | exact LeO.none _
      | refine LeO.ite ?_ ?_
      | refine LeO.bind ?_ (fun _ => ?_)
theorem text_numbers.mono : ∀ a0 k, LeO (text_numbers.f k a0) (text_numbers.f (k + 1) a0) := by
  intro a0 k
  have ih0 := text_numbers.mono_l k
  unfold text_numbers.f
  repeat' first
      | (with_reducible exact ih0 _ _ _ _)
      | (with_reducible exact LeO.refl _)
      | (with_reducible exact LeO.none _)
      | (with_reducible refine LeO.ite ?_ ?_)
      | (with_reducible refine LeO.bind ?_ (fun _ => ?_))
      | exact ih0 _ _ _ _
      | exact LeO.none _
      | refine LeO.ite ?_ ?_
      | refine LeO.bind ?_ (fun _ => ?_)
set_option maxHeartbeats 8000000 in
set_option maxRecDepth 100000 in
theorem text_numbers.calls (k : Nat) (A0 : Option Addr) (c0 : Nat) (l0 : List ByteArray) (r1 : List Int) (r2 : Bool) (w : World) (hr0 : Kd.C Kd.string w A0 l0.length l0) (hc0 : l0.length ≤ c0) (hG : Glob w) (h : text_numbers.f k l0 = some (r1, r2)) :
    Calls Tryd.prog 56 #[.slice A0 l0.length c0] w fun e w' => ∃ v0_ : Value, e = .returned (.tuple #[v0_, .bool r2]) ∧ Kd.R (Kd.int .i64) 3 w' w.heap.size (fun _ => True) v0_ r1 ∧ Below w.heap.size w w' := by
  have HR0 := Aside0.mk hr0
  have HC0 := Aside0.mk hc0
  clear hr0 hc0
  have HG := Aside0.mk hG
  clear hG
  have HB := Aside0.mk (Below.refl w.heap.size w)
  have H : (text_numbers.l0 k ([] : List Int) l0 (l0.length : Int) 0) = some (r1, r2) := h
  clear h
  have H' := Aside0.mk H
  clear H
  go_enter Tryd.func56, Tryd.ntmps56
  go_wp2
  go_loopg [4, 11] k (fun kq v4 v11 w' => ∃ (x4_1 : List Int) (x11_1 : Int), v11 = .int .i64 x11_1 ∧ Aside0 (text_numbers.l0 kq x4_1 l0 (l0.length : Int) x11_1 = some (r1, r2)) ∧ Aside0 (kq ≤ k) ∧ Aside0 (Kd.R (Kd.int .i64) 3 w' w.heap.size (fun _ => True) v4 x4_1) ∧ Aside0 (Below w.heap.size w w'))
  case atStart => exact ⟨(([] : List Int)), (0), (by first | rfl | (simp; done) | (simp [*]; done)), H', ⟨Nat.le_refl _⟩, ⟨by first | exact Kd.R_nil _ _ _ _ _ | exact Kd.N_nil _ _ _ _ _ | exact Kd.V_nil _ _ _ _ _ | exact Kd.Q_nil _ _ _ _ _ | exact Kd.S_nil _ _ _ _ _⟩, ⟨HB.out⟩⟩
  clear H'
  obtain ⟨x4_1, x11_1, rfl, HA, HK1, HO_4, HB⟩ := hrel
  cases gk with
  | zero => exact absurd HA.out (by simp [text_numbers.l0])
  | succ k1 => ?_
  have H := HA.out
  clear HA
  simp only [text_numbers.l0] at H
  by_cases c2 : x11_1 < (l0.length : Int)
  rotate_left
  · rw [if_neg c2] at H
    have c2b0 : decide (x11_1 < (l0.length : Int)) = false := decide_eq_false c2
    clear c2
    simp only [Option.some.injEq, Prod.mk.injEq] at H
    obtain ⟨rfl, rfl⟩ := H
    go_wp2
    go_ret2
    exact ⟨_, by first | rfl | (simp [errW_none, errW_some] <;> rfl) | (simp [*, errW_none, errW_some] <;> rfl), by (with_reducible repeat (first | apply Kd.R_alloc | apply Kd.R_drewN | apply Kd.R_drew)); exact HO_4.out, HB.out⟩
  rw [if_pos c2] at H
  have c2b0 : decide (x11_1 < (l0.length : Int)) = true := decide_eq_true c2
  clear c2
  by_cases c3 : 0 ≤ x11_1
  rotate_left
  · rw [if_neg c3] at H
    exact absurd H (by simp)
  rw [if_pos c3] at H
  have c3b0 : decide (0 ≤ x11_1) = true := decide_eq_true c3
  clear c3
  by_cases c4 : x11_1 < (l0.length : Int)
  rotate_left
  · rw [if_neg c4] at H
    exact absurd H (by simp)
  rw [if_pos c4] at H
  have c4b0 : decide (x11_1 < (l0.length : Int)) = true := decide_eq_true c4
  clear c4
  replace H := Option.bind_eq_some_iff.mp H
  obtain ⟨⟨t273, t274⟩, A50, H⟩ := H
  replace H : (if t274 = true then (if x4_1.length < 17592186044416 then (text_numbers.l0 k1 (x4_1 ++ [t273]) l0 (l0.length : Int) (wrap64 (x11_1 + 1))) else (none)) else (some (([] : List Int), false))) = some (r1, r2) := H
  have A5 := Aside0.mk A50
  clear A50
  by_cases c6 : t274 = true
  rotate_left
  · replace c6 := Bool.eq_false_iff.mpr c6
    subst c6
    have H1 : (some (([] : List Int), false)) = some (r1, r2) := by rw [if_neg (show ¬ (false = true) by decide)] at H; exact H
    clear H
    have H := H1
    clear H1
    simp only [Option.some.injEq, Prod.mk.injEq] at H
    obtain ⟨rfl, rfl⟩ := H
    have p272 : 0 ≤ (x11_1 : Int) := of_decide_eq_true (by first | (with_reducible assumption) | assumption)
    have q272 : x11_1 < (l0.length : Int) := of_decide_eq_true (by first | (with_reducible assumption) | assumption)
    obtain ⟨ad272, e272, hx272_0⟩ := Kd.at_string HR0.out x11_1 p272 q272
    cases e272
    replace hx272_0 := (HB.out.cell (World.block_lt_of_cell? w _ hx272_0)).trans hx272_0
    replace p272 := eq_true p272
    replace q272 := eq_true q272
    go_wp2_with (first | ((with_reducible refine gate_callee (f := 10) rfl ?_); refine goesL_ (some 17) rfl rfl Tryd.func10 (by kernel_rfl) rfl #[.string (rdOf ByteArray.empty l0 x11_1)] rfl (by (try simp only [List.map_toArray, List.map_cons, List.map_nil]); first | done | rfl | (simp only [List.length_drop, List.length_take]; rfl)) ?_; (with_reducible refine (words_Num.calls (rdOf ByteArray.empty l0 x11_1) t273 false _ ?side1 A5.out).mono ?_); (case side1 => first | exact Glob.below HG.out (HB.out) | (repeat (first | exact Glob.below HG.out HB.out | (with_reducible refine Glob.alloc ?_ _) | (with_reducible refine Glob.drewN ?_ _) | (with_reducible refine Glob.drew ?_)))); rintro e w7 ⟨rfl, hb⟩; refine ⟨_, rfl, ?_⟩; have n0_ := Aside0.mk (Kd.R_below (by (with_reducible repeat (first | apply Kd.R_alloc | apply Kd.R_drewN | apply Kd.R_drew)); exact HO_4.out) hb); have n1_ := Aside0.mk (below_step (HB.out) hb); clear HO_4; clear HB; have HO_4 := n0_; have HB := n1_; clear n0_ n1_; (try clear hb); (try clear hb2); (try clear hk); (try clear hi)))
    go_ret2
    exact ⟨_, by first | rfl | (simp [errW_none, errW_some] <;> rfl) | (simp [*, errW_none, errW_some] <;> rfl), by first | exact Kd.R_nil _ _ _ _ _ | exact Kd.N_nil _ _ _ _ _ | exact Kd.V_nil _ _ _ _ _ | exact Kd.Q_nil _ _ _ _ _ | exact Kd.S_nil _ _ _ _ _, HB.out⟩
  subst c6
  have H1 : (if x4_1.length < 17592186044416 then (text_numbers.l0 k1 (x4_1 ++ [t273]) l0 (l0.length : Int) (wrap64 (x11_1 + 1))) else (none)) = some (r1, r2) := by rw [if_pos rfl] at H; exact H
  clear H
  have H := H1
  clear H1
  by_cases c8 : x4_1.length < 17592186044416
  rotate_left
  · rw [if_neg c8] at H
    exact absurd H (by simp)
  rw [if_pos c8] at H
  have LMc8 := Aside0.mk c8
  clear c8
  obtain ⟨y275, hy275⟩ : ∃ y_ : List Int, y_ = (x4_1 ++ [t273]) := ⟨_, rfl⟩
  replace H : (text_numbers.l0 k1 y275 l0 (l0.length : Int) (wrap64 (x11_1 + 1))) = some (r1, r2) := by first | (rw [hy275]; with_reducible exact H) | (have H2_ := (Option.bind_some _ _).symm.trans H; rw [hy275]; with_reducible exact H2_) | (have H2_ := (Option.bind_some _ _).symm.trans H; with_reducible exact H2_) | with_reducible exact H | (rw [hy275]; exact H) | exact H
  have Ny275 := Aside0.mk hy275
  clear hy275
  have H' := Aside0.mk H
  clear H
  have p272 : 0 ≤ (x11_1 : Int) := of_decide_eq_true (by first | (with_reducible assumption) | assumption)
  have q272 : x11_1 < (l0.length : Int) := of_decide_eq_true (by first | (with_reducible assumption) | assumption)
  obtain ⟨ad272, e272, hx272_0⟩ := Kd.at_string HR0.out x11_1 p272 q272
  cases e272
  replace hx272_0 := (HB.out.cell (World.block_lt_of_cell? w _ hx272_0)).trans hx272_0
  replace p272 := eq_true p272
  replace q272 := eq_true q272
  go_wp2_with (first | ((with_reducible refine gate_callee (f := 10) rfl ?_); refine goesL_ (some 17) rfl rfl Tryd.func10 (by kernel_rfl) rfl #[.string (rdOf ByteArray.empty l0 x11_1)] rfl (by (try simp only [List.map_toArray, List.map_cons, List.map_nil]); first | done | rfl | (simp only [List.length_drop, List.length_take]; rfl)) ?_; (with_reducible refine (words_Num.calls (rdOf ByteArray.empty l0 x11_1) t273 true _ ?side1 A5.out).mono ?_); (case side1 => first | exact Glob.below HG.out (HB.out) | (repeat (first | exact Glob.below HG.out HB.out | (with_reducible refine Glob.alloc ?_ _) | (with_reducible refine Glob.drewN ?_ _) | (with_reducible refine Glob.drew ?_)))); rintro e w9 ⟨rfl, hb⟩; refine ⟨_, rfl, ?_⟩; have n0_ := Aside0.mk (Kd.R_below (by (with_reducible repeat (first | apply Kd.R_alloc | apply Kd.R_drewN | apply Kd.R_drew)); exact HO_4.out) hb); have n1_ := Aside0.mk (below_step (HB.out) hb); clear HO_4; clear HB; have HO_4 := n0_; have HB := n1_; clear n0_ n1_; (try clear hb); (try clear hb2); (try clear hk); (try clear hi)) | ((with_reducible refine gate_builtin (b := .append) (xs := #[.tmp 22, .tmp 24]) rfl ?_); at_builtin; refine Kd.R_append (Kd.int .i64) (w0 := w) w.heap.size rfl (.tmp 22) (.tmp 24) 34 3 (.int .i64 0) 8 rfl Tryd.underlying34 info3 rfl (by decide) (by omega) u4 x4_1 t273 [.int .i64 t273] (fun _ => True) (fun _ => False) rfl rfl ?aP (fun _ hk => hk.elim) ?aF ?aO ?aB ?aS ?aL ?_; (case aP => exact rfl); (case aB => exact (HB.out)); (case aF => exact (fun _ _ => trivial)); (case aO => exact (by (with_reducible repeat (first | apply Kd.R_alloc | apply Kd.R_drewN | apply Kd.R_drew)); exact HO_4.out)); (case aS => exact (below_size (HB.out))); (case aL => have := LMc8.out; omega); intro v276 w10 ho hb hg hat; rw [← Ny275.out] at ho; have n0_ := Aside0.mk (hb); have n1_ := Aside0.mk (ho); clear HB; clear HO_4; have HB := n0_; have HO277 := n1_; clear n0_ n1_; clear ho hb hg hat))
  go_roundg k1
  case measure => have := HK1.out; omega
  case rel => exact ⟨(y275), (wrap64 (x11_1 + 1)), (by first | rfl | (simp; done) | (simp [*]; done)), H', ⟨by have := HK1.out; omega⟩, ⟨by (with_reducible repeat (first | apply Kd.R_alloc | apply Kd.R_drewN | apply Kd.R_drew)); exact HO277.out⟩, ⟨HB.out⟩⟩

end Go.Proofs.YtgkjoodlcojkkaaDoor.QD
end
