import Derived.Test.YtgkjoodlcojkkaaDoorMU2
import Derived.Test.YtgkjoodlcojkkaaDoorMU3
import Derived.Shelf.Strings.BuilderK
import Derived.Test.YtgkjoodlcojkkaaDoorProg
section
namespace Go.Proofs.YtgkjoodlcojkkaaDoor.QD
open Go.RowKit Go.Proofs.YtgkjoodlcojkkaaDoorW.PrintWords Go.Proofs.YtgkjoodlcojkkaaDoorW.PrintLast Go.Proofs.YtgkjoodlcojkkaaDoorW.PrintMore
attribute [local go_sem] max2_int min2_int max_two min_two max_three min_three max_four min_four
set_option linter.unusedVariables false
set_option linter.unusedSimpArgs false
mutual
def text_reads.j0 : Nat → List ByteArray → Bool → Option (Int × Int × Int × Int)
  | 0, _, _ => none
  | k + 1, x4, x15 => if x15 = true then (some (0, 0, 0, 18)) else (if 1 ≤ (x4.length : Int) then ((text_numbers.f k (x4.drop 1)).bind fun bt221 => (if bt221.2 = true then (if 0 < (x4.length : Int) then (if (rdOf ByteArray.empty x4 0).toList = ([114, 117, 110] : List UInt8) then (text_reads.j1 k x4 bt221.1 ((bt221.1.length : Int) == 1)) else (text_reads.j1 k x4 bt221.1 false)) else (none)) else (some (0, 0, 0, 10)))) else (none))
def text_reads.j1 : Nat → List ByteArray → List Int → Bool → Option (Int × Int × Int × Int)
  | 0, _, _, _ => none
  | k + 1, x4, x5, x26 => if x26 = true then (if 0 < (x5.length : Int) then (some (1, rd x5 0, 0, 0)) else (none)) else (if 0 < (x4.length : Int) then (if (rdOf ByteArray.empty x4 0).toList = ([115, 108, 101, 101, 112] : List UInt8) then (text_reads.j2 k x4 x5 ((x5.length : Int) == 1)) else (text_reads.j2 k x4 x5 false)) else (none))
def text_reads.j2 : Nat → List ByteArray → List Int → Bool → Option (Int × Int × Int × Int)
  | 0, _, _, _ => none
  | k + 1, x4, x5, x40 => if x40 = true then (if 0 < (x5.length : Int) then (some (2, rd x5 0, 0, 0)) else (none)) else (if 0 < (x4.length : Int) then (if (rdOf ByteArray.empty x4 0).toList = ([108, 111, 99, 107] : List UInt8) then (if (x5.length : Int) = 2 then (if 0 < (x5.length : Int) then (if 1 < (x5.length : Int) then (some (3, rd x5 1, rd x5 0, 0)) else (none)) else (none)) else (some (0, 0, 0, 10))) else (some (0, 0, 0, 10))) else (none))
end
def text_reads.f (k : Nat) (a0 : ByteArray) : Option (Int × Int × Int × Int) := (strings_Split.f a0 (⟨#[58]⟩ : ByteArray)).bind fun t212 => ((strings_HasPrefix.f a0 (⟨#[108, 111, 99, 107, 58]⟩ : ByteArray)).bind fun t215 => (if t215 = true then (if 5 ≤ (a0.size : Int) then ((strings_Contains.f (a0.extract 5 a0.size) (⟨#[108, 111, 99, 107, 58]⟩ : ByteArray)).bind fun t216 => (text_reads.j0 k t212 t216)) else (none)) else (text_reads.j0 k t212 false)))
theorem text_reads.mono_l : ∀ k, (∀ y0 y1, LeO (text_reads.j0 k y0 y1) (text_reads.j0 (k + 1) y0 y1)) ∧ (∀ y0 y1 y2, LeO (text_reads.j1 k y0 y1 y2) (text_reads.j1 (k + 1) y0 y1 y2)) ∧ (∀ y0 y1 y2, LeO (text_reads.j2 k y0 y1 y2) (text_reads.j2 (k + 1) y0 y1 y2))
  | 0 => ⟨fun _ _ r h => by simp [text_reads.j0] at h, fun _ _ _ r h => by simp [text_reads.j1] at h, fun _ _ _ r h => by simp [text_reads.j2] at h⟩
  | k + 1 => by
    obtain ⟨ih0, ih1, ih2⟩ := text_reads.mono_l k
    refine ⟨?_, ?_, ?_⟩
    · intro y0 y1
      unfold text_reads.j0
      repeat' first
      | (with_reducible exact ih0 _ _)
      | (with_reducible exact ih1 _ _ _)
      | (with_reducible exact ih2 _ _ _)
      | (with_reducible exact text_numbers.mono _ _)
      | (with_reducible exact LeO.refl _)
      | (with_reducible exact LeO.none _)
      | (with_reducible refine LeO.ite ?_ ?_)
      | (with_reducible refine LeO.bind ?_ (fun _ => ?_))
      | exact ih0 _ _
      | exact ih1 _ _ _
      | exact ih2 _ _ _
      | exact text_numbers.mono _ _
      | exact LeO.none _
      | refine LeO.ite ?_ ?_
      | refine LeO.bind ?_ (fun _ => ?_)
    · intro y0 y1 y2
      unfold text_reads.j1
      repeat' first
      | (with_reducible exact ih0 _ _)
      | (with_reducible exact ih1 _ _ _)
      | (with_reducible exact ih2 _ _ _)
      | (with_reducible exact text_numbers.mono _ _)
      | (with_reducible exact LeO.refl _)
      | (with_reducible exact LeO.none _)
      | (with_reducible refine LeO.ite ?_ ?_)
      | (with_reducible refine LeO.bind ?_ (fun _ => ?_))
      | exact ih0 _ _
      | exact ih1 _ _ _
      | exact ih2 _ _ _
      | exact text_numbers.mono _ _
      | exact LeO.none _
      | refine LeO.ite ?_ ?_
      | refine LeO.bind ?_ (fun _ => ?_)
    · intro y0 y1 y2
      unfold text_reads.j2
      repeat' first
      | (with_reducible exact ih0 _ _)
      | (with_reducible exact ih1 _ _ _)
      | (with_reducible exact ih2 _ _ _)
      | (with_reducible exact text_numbers.mono _ _)
      | (with_reducible exact LeO.refl _)
      | (with_reducible exact LeO.none _)
      | (with_reducible refine LeO.ite ?_ ?_)
      | (with_reducible refine LeO.bind ?_ (fun _ => ?_))
      | exact ih0 _ _
      | exact ih1 _ _ _
      | exact ih2 _ _ _
      | exact text_numbers.mono _ _
      | exact LeO.none _
      | refine LeO.ite ?_ ?_
      | refine LeO.bind ?_ (fun _ => ?_)
theorem text_reads.mono : ∀ a0 k, LeO (text_reads.f k a0) (text_reads.f (k + 1) a0) := by
  intro a0 k
  obtain ⟨ih0, ih1, ih2⟩ := text_reads.mono_l k
  unfold text_reads.f
  repeat' first
      | (with_reducible exact ih0 _ _)
      | (with_reducible exact ih1 _ _ _)
      | (with_reducible exact ih2 _ _ _)
      | (with_reducible exact text_numbers.mono _ _)
      | (with_reducible exact LeO.refl _)
      | (with_reducible exact LeO.none _)
      | (with_reducible refine LeO.ite ?_ ?_)
      | (with_reducible refine LeO.bind ?_ (fun _ => ?_))
      | exact ih0 _ _
      | exact ih1 _ _ _
      | exact ih2 _ _ _
      | exact text_numbers.mono _ _
      | exact LeO.none _
      | refine LeO.ite ?_ ?_
      | refine LeO.bind ?_ (fun _ => ?_)
def text_reads.T11 : Bool × List (List Nat × List Nat) := (true, [([], []), ([0], [0]), ([1], [1]), ([], []), ([3], [3]), ([4], [4]), ([2, 5], [2, 5]), ([6, 0, 1, 2, 3, 4, 5, 6], [6]), ([7, 0, 1, 2, 3, 4, 5, 6, 7], [])])
def text_reads.B11 : List Nat := [0, 1, 3, 0, 8, 24, 63, 127, 255]
theorem text_reads.tab11 : rtab .any (opsOf Tryd.f58 11) = text_reads.T11 := by kernel_rfl
theorem text_reads.bits11 : waitsOk text_reads.T11.2 text_reads.B11 = true := by kernel_rfl
set_option maxHeartbeats 8000000 in
set_option maxRecDepth 100000 in
theorem text_reads.calls (k : Nat) (a0 : ByteArray) (r1 : Int) (r2 : Int) (r3 : Int) (r4 : Int) (w : World) (hG : Glob w) (h : text_reads.f k a0 = some (r1, r2, r3, r4)) :
    Calls Tryd.prog 58 #[.string a0] w fun e w' => e = .returned (.tuple #[.agg #[.int .i64 r1, .int .i64 r2, .int .i64 r3], .int .i64 r4]) ∧ Below w.heap.size w w' := by
  have hu50 := Tryd.underlying50
  have HG := Aside0.mk hG
  clear hG
  have HB := Aside0.mk (Below.refl w.heap.size w)
  have H : ((strings_Split.f a0 (⟨#[58]⟩ : ByteArray)).bind fun t212 => ((strings_HasPrefix.f a0 (⟨#[108, 111, 99, 107, 58]⟩ : ByteArray)).bind fun t215 => (if t215 = true then (if 5 ≤ (a0.size : Int) then ((strings_Contains.f (a0.extract 5 a0.size) (⟨#[108, 111, 99, 107, 58]⟩ : ByteArray)).bind fun t216 => (text_reads.j0 k t212 t216)) else (none)) else (text_reads.j0 k t212 false)))) = some (r1, r2, r3, r4) := h
  clear h
  replace H := Option.bind_eq_some_iff.mp H
  obtain ⟨t212, A20, H⟩ := H
  replace H : ((strings_HasPrefix.f a0 (⟨#[108, 111, 99, 107, 58]⟩ : ByteArray)).bind fun t215 => (if t215 = true then (if 5 ≤ (a0.size : Int) then ((strings_Contains.f (a0.extract 5 a0.size) (⟨#[108, 111, 99, 107, 58]⟩ : ByteArray)).bind fun t216 => (text_reads.j0 k t212 t216)) else (none)) else (text_reads.j0 k t212 false))) = some (r1, r2, r3, r4) := H
  have A2 := Aside0.mk A20
  clear A20
  have HC3 := Aside0.mk H
  clear H
  go_enter Tryd.func58, Tryd.ntmps58
  go_upto_region 2 with (first | ((with_reducible refine gate_dst (N := 2) rfl ?_); (try (refine gate_guard (by rfl) ?_; dsimp only)); refine box_event ?hg (N := 2) ?hd (cs := #[.int .i64 0, .int .i64 0, .int .i64 0]) (t := 50) ?hr ?_; (case hd => rfl); (case hg => rfl); (case hr => first | (go_simp; done) | (go_simp; rfl)); intro gb211 hg w4 hbox hb; have n0_ := Aside0.mk (below_step (HB.out) hb); have n1_ := Aside0.mk (hbox); have n2_ := Aside0.mk ((by rw [hg]; exact (below_size (HB.out)) : w.heap.size ≤ gb211)); have n3_ := Aside0.mk ((by rw [hg]; exact (below_size (HB.out)) : w.heap.size ≤ gb211)); clear HB; have HB := n0_; have BK211 := n1_; have GW211 := n2_; have GE211 := n3_; clear n0_ n1_ n2_ n3_; clear hb hbox hg) | ((with_reducible refine gate_callee (f := 29) rfl ?_); refine goesL_ (some 8) rfl rfl Tryd.func29 (by kernel_rfl) rfl #[.string a0, .string (⟨#[58]⟩ : ByteArray)] rfl (by (try simp only [List.map_toArray, List.map_cons, List.map_nil]); first | done | rfl | (simp only [List.length_drop, List.length_take]; rfl)) ?_; (with_reducible refine (strings_Split.calls a0 (⟨#[58]⟩ : ByteArray) t212 _ ?side1 A2.out).mono ?_); (case side1 => first | exact Glob.below HG.out (HB.out) | (repeat (first | exact Glob.below HG.out HB.out | (with_reducible refine Glob.alloc ?_ _) | (with_reducible refine Glob.drewN ?_ _) | (with_reducible refine Glob.drew ?_)))); rintro e w5 ⟨v213, rfl, ho0, hb⟩; refine ⟨_, rfl, ?_⟩; have n0_ := Aside0.mk (Kd.R_lower ho0 (below_size (HB.out))); have n1_ := Aside0.mk (blk_below BK211.out hb); have n2_ := Aside0.mk (below_step (HB.out) hb); clear BK211; clear HB; have HO214 := n0_; have BK211 := n1_; have HB := n2_; clear n0_ n1_ n2_; (try clear hb); (try clear hb2); (try clear hk); (try clear hi); (try clear ho0)))
  (try simp only [Act.put, List.setIfInBounds_toArray, List.set_cons_zero, List.set_cons_succ])
  go_cut [15] (fun v15 wc => ∃ (kq : Nat) (x15_2 : Bool), v15 = .bool x15_2 ∧ Aside0 (text_reads.j0 kq t212 x15_2 = some (r1, r2, r3, r4)) ∧ Aside0 (kq ≤ k) ∧ Aside0 (Kd.R Kd.string 9 wc w.heap.size (fun _ => True) v213 t212) ∧ Aside0 (wc.heap[gb211]? = some (.cells #[.int .i64 0, .int .i64 0, .int .i64 0] 50 (0, 0))) ∧ Aside0 (Below w.heap.size w wc))
  case first =>
    have H := HC3.out
    clear HC3
    replace H := Option.bind_eq_some_iff.mp H
    obtain ⟨t215, A60, H⟩ := H
    replace H : (if t215 = true then (if 5 ≤ (a0.size : Int) then ((strings_Contains.f (a0.extract 5 a0.size) (⟨#[108, 111, 99, 107, 58]⟩ : ByteArray)).bind fun t216 => (text_reads.j0 k t212 t216)) else (none)) else (text_reads.j0 k t212 false)) = some (r1, r2, r3, r4) := H
    have A6 := Aside0.mk A60
    clear A60
    by_cases c7 : t215 = true
    rotate_left
    · replace c7 := Bool.eq_false_iff.mpr c7
      subst c7
      have H1 : (text_reads.j0 k t212 false) = some (r1, r2, r3, r4) := by rw [if_neg (show ¬ (false = true) by decide)] at H; exact H
      clear H
      have H := H1
      clear H1
      have H' := Aside0.mk H
      clear H
      go_wp2_with (first | ((with_reducible refine gate_callee (f := 77) rfl ?_); refine goesL_ (some 10) rfl rfl Tryd.func77 (by kernel_rfl) rfl #[.string a0, .string (⟨#[108, 111, 99, 107, 58]⟩ : ByteArray)] rfl (by (try simp only [List.map_toArray, List.map_cons, List.map_nil]); first | done | rfl | (simp only [List.length_drop, List.length_take]; rfl)) ?_; (with_reducible refine (strings_HasPrefix.calls a0 (⟨#[108, 111, 99, 107, 58]⟩ : ByteArray) false _ A6.out).mono ?_); rintro e w8 ⟨rfl, hb⟩; refine ⟨_, rfl, ?_⟩; have n0_ := Aside0.mk (Kd.R_below (by (with_reducible repeat (first | apply Kd.R_alloc | apply Kd.R_drewN | apply Kd.R_drew)); exact HO214.out) hb); have n1_ := Aside0.mk (blk_below BK211.out hb); have n2_ := Aside0.mk (below_step (HB.out) hb); clear HO214; clear BK211; clear HB; have HO214 := n0_; have BK211 := n1_; have HB := n2_; clear n0_ n1_ n2_; (try clear hb); (try clear hb2); (try clear hk); (try clear hi)))
      go_meet
      case rel => exact ⟨_, (false), (by first | rfl | (simp; done) | (simp [*]; done)), H', ⟨by first | omega | exact Nat.le_refl _⟩, ⟨by (with_reducible repeat (first | apply Kd.R_alloc | apply Kd.R_drewN | apply Kd.R_drew)); exact HO214.out⟩, ⟨BK211.out⟩, ⟨HB.out⟩⟩
    subst c7
    have H1 : (if 5 ≤ (a0.size : Int) then ((strings_Contains.f (a0.extract 5 a0.size) (⟨#[108, 111, 99, 107, 58]⟩ : ByteArray)).bind fun t216 => (text_reads.j0 k t212 t216)) else (none)) = some (r1, r2, r3, r4) := by rw [if_pos rfl] at H; exact H
    clear H
    have H := H1
    clear H1
    by_cases c9 : 5 ≤ (a0.size : Int)
    rotate_left
    · rw [if_neg c9] at H
      exact absurd H (by simp)
    rw [if_pos c9] at H
    have c9b0 := eq_true c9
    have c9b1 : decide (5 ≤ (a0.size : Int)) = true := decide_eq_true c9
    clear c9
    replace H := Option.bind_eq_some_iff.mp H
    obtain ⟨t216, A100, H⟩ := H
    replace H : (text_reads.j0 k t212 t216) = some (r1, r2, r3, r4) := H
    have A10 := Aside0.mk A100
    clear A100
    have H' := Aside0.mk H
    clear H
    go_wp2_with (first | ((with_reducible refine gate_callee (f := 77) rfl ?_); refine goesL_ (some 10) rfl rfl Tryd.func77 (by kernel_rfl) rfl #[.string a0, .string (⟨#[108, 111, 99, 107, 58]⟩ : ByteArray)] rfl (by (try simp only [List.map_toArray, List.map_cons, List.map_nil]); first | done | rfl | (simp only [List.length_drop, List.length_take]; rfl)) ?_; (with_reducible refine (strings_HasPrefix.calls a0 (⟨#[108, 111, 99, 107, 58]⟩ : ByteArray) true _ A6.out).mono ?_); rintro e w11 ⟨rfl, hb⟩; refine ⟨_, rfl, ?_⟩; have n0_ := Aside0.mk (Kd.R_below (by (with_reducible repeat (first | apply Kd.R_alloc | apply Kd.R_drewN | apply Kd.R_drew)); exact HO214.out) hb); have n1_ := Aside0.mk (blk_below BK211.out hb); have n2_ := Aside0.mk (below_step (HB.out) hb); clear HO214; clear BK211; clear HB; have HO214 := n0_; have BK211 := n1_; have HB := n2_; clear n0_ n1_ n2_; (try clear hb); (try clear hb2); (try clear hk); (try clear hi)) | (go_at_call 78; (with_reducible refine (strings_Contains.calls (a0.extract 5 a0.size) (⟨#[108, 111, 99, 107, 58]⟩ : ByteArray) t216 _ ?side1 A10.out).mono ?_); (case side1 => first | exact Glob.below HG.out (HB.out) | (repeat (first | exact Glob.below HG.out HB.out | (with_reducible refine Glob.alloc ?_ _) | (with_reducible refine Glob.drewN ?_ _) | (with_reducible refine Glob.drew ?_)))); rintro e w12 ⟨rfl, hb⟩; have n0_ := Aside0.mk (Kd.R_below (by (with_reducible repeat (first | apply Kd.R_alloc | apply Kd.R_drewN | apply Kd.R_drew)); exact HO214.out) hb); have n1_ := Aside0.mk (blk_below BK211.out hb); have n2_ := Aside0.mk (below_step (HB.out) hb); clear HO214; clear BK211; clear HB; have HO214 := n0_; have BK211 := n1_; have HB := n2_; clear n0_ n1_ n2_; (try clear hb); (try clear hb2); (try clear hk); (try clear hi)))
    go_meet
    case rel => exact ⟨_, (t216), (by first | rfl | (simp; done) | (simp [*]; done)), H', ⟨by first | omega | exact Nat.le_refl _⟩, ⟨by (with_reducible repeat (first | apply Kd.R_alloc | apply Kd.R_drewN | apply Kd.R_drew)); exact HO214.out⟩, ⟨BK211.out⟩, ⟨HB.out⟩⟩
  clear HC3
  (try clear c2); (try clear p2); (try clear c5); (try clear c7); (try clear c9); (try clear c9b0); (try clear c9b1)
  obtain ⟨kq, x15_2, rfl, HA, HJ2, HO_4, BK211, HB⟩ := hcut
  cases kq with
  | zero => exact absurd HA.out (by simp [text_reads.j0])
  | succ kj2 => ?_
  have H := HA.out
  clear HA
  simp only [text_reads.j0] at H
  by_cases c13 : x15_2 = true
  · subst c13
    have H1 : (some (0, 0, 0, 18)) = some (r1, r2, r3, r4) := by rw [if_pos rfl] at H; exact H
    clear H
    have H := H1
    clear H1
    simp only [Option.some.injEq, Prod.mk.injEq] at H
    obtain ⟨rfl, rfl, rfl, rfl⟩ := H
    have hcz14_0 : wc.cell? ⟨gb211, 0, none⟩ = some (.int .i64 0) := (blk_cell BK211.out 0).trans rfl
    have hcz14_1 : wc.cell? ⟨gb211, 1, none⟩ = some (.int .i64 0) := (blk_cell BK211.out 1).trans rfl
    have hcz14_2 : wc.cell? ⟨gb211, 2, none⟩ = some (.int .i64 0) := (blk_cell BK211.out 2).trans rfl
    have hfz14_0 := blk_frozen BK211.out 0
    have hfz14_1 := blk_frozen BK211.out 1
    have hfz14_2 := blk_frozen BK211.out 2
    go_wp2
    refine bodyPost_ret (results_ct rfl _ _ gb211 50 #[.int .i64 0, .int .i64 0, .int .i64 0] (0, 0) _ rfl (by (with_reducible repeat (first | refine blk_drewN ?_ _ | refine blk_drew ?_ | refine blk_alloc ?_ _)); refine blk_put (cs := #[.int .i64 0, .int .i64 0, .int .i64 0]) ?_ 2 _ rfl; (with_reducible repeat (first | refine blk_drewN ?_ _ | refine blk_drew ?_ | refine blk_alloc ?_ _)); refine blk_put (cs := #[.int .i64 0, .int .i64 0, .int .i64 0]) ?_ 1 _ rfl; (with_reducible repeat (first | refine blk_drewN ?_ _ | refine blk_drew ?_ | refine blk_alloc ?_ _)); refine blk_put (cs := #[.int .i64 0, .int .i64 0, .int .i64 0]) ?_ 0 _ rfl; (with_reducible repeat (first | refine blk_drewN ?_ _ | refine blk_drew ?_ | refine blk_alloc ?_ _)); exact BK211.out) Tryd.underlying50 rfl (by kernel_rfl)) rfl ?_
    exact ⟨by first | rfl | (simp [errW_none, errW_some] <;> rfl) | (simp [*, errW_none, errW_some] <;> rfl), by repeat (first | (with_reducible first | exact HB.out | apply below_alloc | apply pw_below_drewN | apply below_drew1 | refine below_set ?_ GE211.out) | exact HB.out)⟩
  replace c13 := Bool.eq_false_iff.mpr c13
  subst c13
  have H1 : (if 1 ≤ (t212.length : Int) then ((text_numbers.f kj2 (t212.drop 1)).bind fun bt221 => (if bt221.2 = true then (if 0 < (t212.length : Int) then (if (rdOf ByteArray.empty t212 0).toList = ([114, 117, 110] : List UInt8) then (text_reads.j1 kj2 t212 bt221.1 ((bt221.1.length : Int) == 1)) else (text_reads.j1 kj2 t212 bt221.1 false)) else (none)) else (some (0, 0, 0, 10)))) else (none)) = some (r1, r2, r3, r4) := by rw [if_neg (show ¬ (false = true) by decide)] at H; exact H
  clear H
  have H := H1
  clear H1
  by_cases c15 : 1 ≤ (t212.length : Int)
  rotate_left
  · rw [if_neg c15] at H
    exact absurd H (by simp)
  rw [if_pos c15] at H
  have c15b0 := eq_true c15
  have c15b1 : decide (1 ≤ (t212.length : Int)) = true := decide_eq_true c15
  clear c15
  obtain ⟨y217, hy217⟩ : ∃ y_ : List ByteArray, y_ = (t212.drop 1) := ⟨_, rfl⟩
  replace H : ((text_numbers.f kj2 y217).bind fun bt221 => (if bt221.2 = true then (if 0 < (t212.length : Int) then (if (rdOf ByteArray.empty t212 0).toList = ([114, 117, 110] : List UInt8) then (text_reads.j1 kj2 t212 bt221.1 ((bt221.1.length : Int) == 1)) else (text_reads.j1 kj2 t212 bt221.1 false)) else (none)) else (some (0, 0, 0, 10)))) = some (r1, r2, r3, r4) := by first | (rw [hy217]; with_reducible exact H) | (have H2_ := (Option.bind_some _ _).symm.trans H; rw [hy217]; with_reducible exact H2_) | (have H2_ := (Option.bind_some _ _).symm.trans H; with_reducible exact H2_) | with_reducible exact H | (rw [hy217]; exact H) | exact H
  have Ny217 := Aside0.mk hy217
  clear hy217
  replace H := Option.bind_eq_some_iff.mp H
  obtain ⟨⟨t221, t222⟩, A160, H⟩ := H
  replace H : (if t222 = true then (if 0 < (t212.length : Int) then (if (rdOf ByteArray.empty t212 0).toList = ([114, 117, 110] : List UInt8) then (text_reads.j1 kj2 t212 t221 ((t221.length : Int) == 1)) else (text_reads.j1 kj2 t212 t221 false)) else (none)) else (some (0, 0, 0, 10))) = some (r1, r2, r3, r4) := H
  have A16 := Aside0.mk A160
  clear A160
  by_cases c17 : t222 = true
  rotate_left
  · replace c17 := Bool.eq_false_iff.mpr c17
    subst c17
    have H1 : (some (0, 0, 0, 10)) = some (r1, r2, r3, r4) := by rw [if_neg (show ¬ (false = true) by decide)] at H; exact H
    clear H
    have H := H1
    clear H1
    simp only [Option.some.injEq, Prod.mk.injEq] at H
    obtain ⟨rfl, rfl, rfl, rfl⟩ := H
    obtain ⟨Ao19, co19, eo19⟩ := Kd.R_slice HO_4.out
    subst eo19
    have q18 : (1 : Int) ≤ ((t212.length : Int) : Int) := of_decide_eq_true (by first | (with_reducible assumption) | assumption)
    obtain ⟨i018, hi018, _, hsz18, _⟩ := info_parts info9
    have hroom18 : t212.length ≤ co19 := (Kd.R_reads' HO_4.out).2.1
    have hC18 : Kd.C Kd.string _ Ao19 t212.length t212 := (Kd.R_reads' HO_4.out).2.2
    have hcut18 := cut_from (P := Tryd.prog) 26 9 .i64 Tryd.underlying26 hi018 1 hsz18 Ao19 t212.length co19 1 (by omega) q18
    have hr18 := Kd.C_drop (m := (1 : Int).toNat) (c := co19) hC18 (by omega) hroom18
    obtain ⟨A18, hA18⟩ : ∃ A1, A1 = (if co19 = (1 : Int).toNat then Ao19 else (Ao19 : Option Addr).map (·.add ((1 : Int).toNat * 1))) := ⟨_, rfl⟩
    obtain ⟨c18, hc18⟩ : ∃ c1, c1 = co19 - (1 : Int).toNat := ⟨_, rfl⟩
    have hy18 : y217.length = t212.length - (1 : Int).toNat := (by rw [Ny217.out, List.length_drop] <;> omega)
    rw [show (t212).drop (1 : Int).toNat = y217 from Ny217.out.symm] at hr18
    replace hr18 : Kd.C Kd.string _ A18 y217.length y217 := (by rw [hA18]; exact hr18)
    rw [← hy18, ← hA18, ← hc18] at hcut18
    have HR220 := Aside0.mk hr18
    have HC220 := Aside0.mk (show y217.length ≤ c18 from by rw [hy18, hc18]; exact Nat.sub_le_sub_right hroom18 _)
    clear hr18 hC18 hroom18 hi018 hsz18 hc18
    have KY18 := Aside0.mk hy18
    have KA18 := Aside0.mk hA18
    clear hy18 hA18
    have KL18 := Aside0.mk (show 1 ≤ t212.length from by omega)
    replace q18 := eq_true q18
    go_wp2_with (first | ((with_reducible refine gate_callee (f := 56) rfl ?_); refine goesL_ (some 20) rfl rfl Tryd.func56 (by kernel_rfl) rfl #[.slice A18 y217.length c18] rfl (by (try simp only [List.map_toArray, List.map_cons, List.map_nil]); first | done | rfl | (simp only [List.length_drop, List.length_take]; rfl)) ?_; (with_reducible refine (text_numbers.calls kj2 _ _ y217 t221 false _ ?side1 ?side2 ?side3 A16.out).mono ?_); (case side1 => repeat (first | exact (by repeat (first | (with_reducible exact HR220.out) | (with_reducible refine Kd.C_alloc ?_ _) | (with_reducible refine Kd.C_drewN ?_ _) | (with_reducible refine Kd.C_drew ?_) | exact HR220.out)) | (with_reducible refine Kd.C_alloc ?_ _) | (with_reducible refine Kd.C_drewN ?_ _) | (with_reducible refine Kd.C_drew ?_))); (case side2 => exact HC220.out); (case side3 => first | exact Glob.below HG.out (HB.out) | (repeat (first | exact Glob.below HG.out HB.out | (with_reducible refine Glob.alloc ?_ _) | (with_reducible refine Glob.drewN ?_ _) | (with_reducible refine Glob.drew ?_)))); rintro e w20 ⟨v223, rfl, ho0, hb⟩; refine ⟨_, rfl, ?_⟩; have n0_ := Aside0.mk (Kd.R_below (by (with_reducible repeat (first | apply Kd.R_alloc | apply Kd.R_drewN | apply Kd.R_drew)); exact HO_4.out) hb); have n1_ := Aside0.mk (Kd.R_lower ho0 (below_size (HB.out))); have n2_ := Aside0.mk (blk_below BK211.out hb); have n3_ := Aside0.mk (Kd.C_below (by repeat (first | (with_reducible exact HR220.out) | (with_reducible refine Kd.C_alloc ?_ _) | (with_reducible refine Kd.C_drewN ?_ _) | (with_reducible refine Kd.C_drew ?_) | exact HR220.out)) hb); have n4_ := Aside0.mk (below_step (HB.out) hb); clear HO_4; clear BK211; clear HR220; clear HB; have HO_4 := n0_; have HO224 := n1_; have BK211 := n2_; have HR220 := n3_; have HB := n4_; clear n0_ n1_ n2_ n3_ n4_; (try clear hb); (try clear hb2); (try clear hk); (try clear hi); (try clear ho0); have hcz21_0 : w20.cell? ⟨gb211, 0, none⟩ = some (.int .i64 0) := (blk_cell BK211.out 0).trans rfl; have hcz21_1 : w20.cell? ⟨gb211, 1, none⟩ = some (.int .i64 0) := (blk_cell BK211.out 1).trans rfl; have hcz21_2 : w20.cell? ⟨gb211, 2, none⟩ = some (.int .i64 0) := (blk_cell BK211.out 2).trans rfl; have hfz21_0 := blk_frozen BK211.out 0; have hfz21_1 := blk_frozen BK211.out 1; have hfz21_2 := blk_frozen BK211.out 2))
    refine bodyPost_ret (results_ct rfl _ _ gb211 50 #[.int .i64 0, .int .i64 0, .int .i64 0] (0, 0) _ rfl (by (with_reducible repeat (first | refine blk_drewN ?_ _ | refine blk_drew ?_ | refine blk_alloc ?_ _)); refine blk_put (cs := #[.int .i64 0, .int .i64 0, .int .i64 0]) ?_ 2 _ rfl; (with_reducible repeat (first | refine blk_drewN ?_ _ | refine blk_drew ?_ | refine blk_alloc ?_ _)); refine blk_put (cs := #[.int .i64 0, .int .i64 0, .int .i64 0]) ?_ 1 _ rfl; (with_reducible repeat (first | refine blk_drewN ?_ _ | refine blk_drew ?_ | refine blk_alloc ?_ _)); refine blk_put (cs := #[.int .i64 0, .int .i64 0, .int .i64 0]) ?_ 0 _ rfl; (with_reducible repeat (first | refine blk_drewN ?_ _ | refine blk_drew ?_ | refine blk_alloc ?_ _)); exact BK211.out) Tryd.underlying50 rfl (by kernel_rfl)) rfl ?_
    exact ⟨by first | rfl | (simp [errW_none, errW_some] <;> rfl) | (simp [*, errW_none, errW_some] <;> rfl), by repeat (first | (with_reducible first | exact HB.out | apply below_alloc | apply pw_below_drewN | apply below_drew1 | refine below_set ?_ GE211.out) | exact HB.out)⟩
  subst c17
  have H1 : (if 0 < (t212.length : Int) then (if (rdOf ByteArray.empty t212 0).toList = ([114, 117, 110] : List UInt8) then (text_reads.j1 kj2 t212 t221 ((t221.length : Int) == 1)) else (text_reads.j1 kj2 t212 t221 false)) else (none)) = some (r1, r2, r3, r4) := by rw [if_pos rfl] at H; exact H
  clear H
  have H := H1
  clear H1
  have HC22 := Aside0.mk H
  clear H
  obtain ⟨Ao24, co24, eo24⟩ := Kd.R_slice HO_4.out
  subst eo24
  have q23 : (1 : Int) ≤ ((t212.length : Int) : Int) := of_decide_eq_true (by first | (with_reducible assumption) | assumption)
  obtain ⟨i023, hi023, _, hsz23, _⟩ := info_parts info9
  have hroom23 : t212.length ≤ co24 := (Kd.R_reads' HO_4.out).2.1
  have hC23 : Kd.C Kd.string _ Ao24 t212.length t212 := (Kd.R_reads' HO_4.out).2.2
  have hcut23 := cut_from (P := Tryd.prog) 26 9 .i64 Tryd.underlying26 hi023 1 hsz23 Ao24 t212.length co24 1 (by omega) q23
  have hr23 := Kd.C_drop (m := (1 : Int).toNat) (c := co24) hC23 (by omega) hroom23
  obtain ⟨A23, hA23⟩ : ∃ A1, A1 = (if co24 = (1 : Int).toNat then Ao24 else (Ao24 : Option Addr).map (·.add ((1 : Int).toNat * 1))) := ⟨_, rfl⟩
  obtain ⟨c23, hc23⟩ : ∃ c1, c1 = co24 - (1 : Int).toNat := ⟨_, rfl⟩
  have hy23 : y217.length = t212.length - (1 : Int).toNat := (by rw [Ny217.out, List.length_drop] <;> omega)
  rw [show (t212).drop (1 : Int).toNat = y217 from Ny217.out.symm] at hr23
  replace hr23 : Kd.C Kd.string _ A23 y217.length y217 := (by rw [hA23]; exact hr23)
  rw [← hy23, ← hA23, ← hc23] at hcut23
  have HR220 := Aside0.mk hr23
  have HC220 := Aside0.mk (show y217.length ≤ c23 from by rw [hy23, hc23]; exact Nat.sub_le_sub_right hroom23 _)
  clear hr23 hC23 hroom23 hi023 hsz23 hc23
  have KY23 := Aside0.mk hy23
  have KA23 := Aside0.mk hA23
  clear hy23 hA23
  have KL23 := Aside0.mk (show 1 ≤ t212.length from by omega)
  replace q23 := eq_true q23
  go_upto_region 6 with (first | ((with_reducible refine gate_callee (f := 56) rfl ?_); refine goesL_ (some 20) rfl rfl Tryd.func56 (by kernel_rfl) rfl #[.slice A23 y217.length c23] rfl (by (try simp only [List.map_toArray, List.map_cons, List.map_nil]); first | done | rfl | (simp only [List.length_drop, List.length_take]; rfl)) ?_; (with_reducible refine (text_numbers.calls kj2 _ _ y217 t221 true _ ?side1 ?side2 ?side3 A16.out).mono ?_); (case side1 => repeat (first | exact (by repeat (first | (with_reducible exact HR220.out) | (with_reducible refine Kd.C_alloc ?_ _) | (with_reducible refine Kd.C_drewN ?_ _) | (with_reducible refine Kd.C_drew ?_) | exact HR220.out)) | (with_reducible refine Kd.C_alloc ?_ _) | (with_reducible refine Kd.C_drewN ?_ _) | (with_reducible refine Kd.C_drew ?_))); (case side2 => exact HC220.out); (case side3 => first | exact Glob.below HG.out (HB.out) | (repeat (first | exact Glob.below HG.out HB.out | (with_reducible refine Glob.alloc ?_ _) | (with_reducible refine Glob.drewN ?_ _) | (with_reducible refine Glob.drew ?_)))); rintro e w25 ⟨v223, rfl, ho0, hb⟩; refine ⟨_, rfl, ?_⟩; have n0_ := Aside0.mk (Kd.R_below (by (with_reducible repeat (first | apply Kd.R_alloc | apply Kd.R_drewN | apply Kd.R_drew)); exact HO_4.out) hb); have n1_ := Aside0.mk (Kd.R_lower ho0 (below_size (HB.out))); have n2_ := Aside0.mk (blk_below BK211.out hb); have n3_ := Aside0.mk (Kd.C_below (by repeat (first | (with_reducible exact HR220.out) | (with_reducible refine Kd.C_alloc ?_ _) | (with_reducible refine Kd.C_drewN ?_ _) | (with_reducible refine Kd.C_drew ?_) | exact HR220.out)) hb); have n4_ := Aside0.mk (below_step (HB.out) hb); clear HO_4; clear BK211; clear HR220; clear HB; have HO_4 := n0_; have HO224 := n1_; have BK211 := n2_; have HR220 := n3_; have HB := n4_; clear n0_ n1_ n2_ n3_ n4_; (try clear hb); (try clear hb2); (try clear hk); (try clear hi); (try clear ho0)))
  (try simp only [Act.put, List.setIfInBounds_toArray, List.set_cons_zero, List.set_cons_succ])
  go_cut [26] (fun v26 wc => ∃ (kq : Nat) (x26_21 : Bool), v26 = .bool x26_21 ∧ Aside0 (text_reads.j1 kq t212 t221 x26_21 = some (r1, r2, r3, r4)) ∧ Aside0 (kq ≤ kj2) ∧ Aside0 (Kd.R Kd.string 9 wc w.heap.size (fun _ => True) (.slice Ao24 t212.length co24) t212) ∧ Aside0 (Kd.R (Kd.int .i64) 3 wc w.heap.size (fun _ => True) v223 t221) ∧ Aside0 (wc.heap[gb211]? = some (.cells #[.int .i64 0, .int .i64 0, .int .i64 0] 50 (0, 0))) ∧ Aside0 (Below w.heap.size w wc))
  case first =>
    have H := HC22.out
    clear HC22
    by_cases c26 : 0 < (t212.length : Int)
    rotate_left
    · rw [if_neg c26] at H
      exact absurd H (by simp)
    rw [if_pos c26] at H
    have c26b0 : decide (0 < (t212.length : Int)) = true := decide_eq_true c26
    have c26b1 : decide (0 < t212.length) = true := decide_eq_true (by omega)
    clear c26
    (first | rw [c26b0] | (simp only [i64_w, i32_w]; rw [c26b0]) | skip)
    by_cases c27 : (rdOf ByteArray.empty t212 0).toList = ([114, 117, 110] : List UInt8)
    rotate_left
    · rw [if_neg c27] at H
      have c27b0 : ((rdOf ByteArray.empty t212 0).toList == ([114, 117, 110] : List UInt8)) = false := beq_eq_false_iff_ne.mpr c27
      have c27b1 : ((rdOf ByteArray.empty t212 0).toList != ([114, 117, 110] : List UInt8)) = true := bne_iff_ne.mpr c27
      have H' := Aside0.mk H
      clear H
      have p225 : 0 ≤ (0 : Int) := (by omega)
      have q225 : 0 < (t212.length : Int) := of_decide_eq_true (by first | (with_reducible assumption) | assumption)
      obtain ⟨ad225, e225, hx225_0⟩ := Kd.at_string (Kd.R_reads' HO_4.out).2.2 0 p225 q225
      cases e225
      have qi225 : (0 < t212.length) = True := eq_true (by omega)
      (try rw [show ((0 : Int)).toNat = 0 from rfl] at hx225_0)
      (try rw [Addr.add_zero'] at hx225_0)
      replace p225 := eq_true p225
      replace q225 := eq_true q225
      go_wp2
      go_meet
      case rel => exact ⟨_, (false), (by first | rfl | (simp; done) | (simp [*]; done)), H', ⟨by have := HJ2.out; first | omega | exact Nat.le_refl _⟩, ⟨by (with_reducible repeat (first | apply Kd.R_alloc | apply Kd.R_drewN | apply Kd.R_drew)); exact HO_4.out⟩, ⟨by (with_reducible repeat (first | apply Kd.R_alloc | apply Kd.R_drewN | apply Kd.R_drew)); exact HO224.out⟩, ⟨BK211.out⟩, ⟨HB.out⟩⟩
    rw [if_pos c27] at H
    have c27b0 : ((rdOf ByteArray.empty t212 0).toList == ([114, 117, 110] : List UInt8)) = true := beq_iff_eq.mpr c27
    have c27b1 : ((rdOf ByteArray.empty t212 0).toList != ([114, 117, 110] : List UInt8)) = false := bne_eq_false_iff_eq.mpr c27
    clear c27
    have H' := Aside0.mk H
    clear H
    have p225 : 0 ≤ (0 : Int) := (by omega)
    have q225 : 0 < (t212.length : Int) := of_decide_eq_true (by first | (with_reducible assumption) | assumption)
    obtain ⟨ad225, e225, hx225_0⟩ := Kd.at_string (Kd.R_reads' HO_4.out).2.2 0 p225 q225
    cases e225
    have qi225 : (0 < t212.length) = True := eq_true (by omega)
    (try rw [show ((0 : Int)).toNat = 0 from rfl] at hx225_0)
    (try rw [Addr.add_zero'] at hx225_0)
    replace p225 := eq_true p225
    replace q225 := eq_true q225
    obtain ⟨Ao28, co28, eo28⟩ := Kd.R_slice HO224.out
    subst eo28
    go_wp2
    go_meet
    case rel => exact ⟨_, (((t221.length : Int) == 1)), (by first | rfl | (simp; done) | (simp [*]; done)), H', ⟨by have := HJ2.out; first | omega | exact Nat.le_refl _⟩, ⟨by (with_reducible repeat (first | apply Kd.R_alloc | apply Kd.R_drewN | apply Kd.R_drew)); exact HO_4.out⟩, ⟨by (with_reducible repeat (first | apply Kd.R_alloc | apply Kd.R_drewN | apply Kd.R_drew)); exact HO224.out⟩, ⟨BK211.out⟩, ⟨HB.out⟩⟩
  clear HC22
  (try clear c1); (try clear q1); (try clear c2); (try clear p2); (try clear q2); (try clear hx2); (try clear qi2); (try clear c5); (try clear c7); (try clear c9); (try clear c9b0); (try clear c9b1); (try clear c13); (try clear c15); (try clear c15b0); (try clear c15b1); (try clear c17); (try clear c18); (try clear q18); (try clear p22); (try clear q22); (try clear hx22); (try clear qi22); (try clear c23); (try clear q23); (try clear c26); (try clear c26b0); (try clear c26b1); (try clear c27); (try clear c27b0); (try clear c27b1); (try clear hcz14_0); (try clear hcz14_1); (try clear hcz14_2); (try clear hcz21_0); (try clear hcz21_1); (try clear hcz21_2); (try clear hfz14_0); (try clear hfz14_1); (try clear hfz14_2); (try clear hfz21_0); (try clear hfz21_1); (try clear hfz21_2); (try clear hx225_0); (try clear p2); (try clear p225); (try clear q18); (try clear q225); (try clear q23)
  obtain ⟨kq, x26_21, rfl, HA, HJ21, HO_4, HO_5, BK211, HB⟩ := hcut
  cases kq with
  | zero => exact absurd HA.out (by simp [text_reads.j1])
  | succ kj21 => ?_
  have H := HA.out
  clear HA
  simp only [text_reads.j1] at H
  by_cases c29 : x26_21 = true
  · subst c29
    have H1 : (if 0 < (t221.length : Int) then (some (1, rd t221 0, 0, 0)) else (none)) = some (r1, r2, r3, r4) := by rw [if_pos rfl] at H; exact H
    clear H
    have H := H1
    clear H1
    by_cases c30 : 0 < (t221.length : Int)
    rotate_left
    · rw [if_neg c30] at H
      exact absurd H (by simp)
    rw [if_pos c30] at H
    have c30b0 : decide (0 < (t221.length : Int)) = true := decide_eq_true c30
    have c30b1 : decide (0 < t221.length) = true := decide_eq_true (by omega)
    clear c30
    simp only [Option.some.injEq, Prod.mk.injEq] at H
    obtain ⟨rfl, rfl, rfl, rfl⟩ := H
    obtain ⟨Ao31, co31, eo31⟩ := Kd.R_slice HO_5.out
    subst eo31
    have p226 : 0 ≤ (0 : Int) := (by omega)
    have q226 : 0 < (t221.length : Int) := of_decide_eq_true (by first | (with_reducible assumption) | assumption)
    obtain ⟨ad226, e226, hx226_0⟩ := Kd.at_int (Kd.R_reads' HO_5.out).2.2 0 p226 q226
    cases e226
    have qi226 : (0 < t221.length) = True := eq_true (by omega)
    (try rw [show ((0 : Int)).toNat = 0 from rfl] at hx226_0)
    (try rw [Addr.add_zero'] at hx226_0)
    replace p226 := eq_true p226
    replace q226 := eq_true q226
    have hcz32_0 : wc.cell? ⟨gb211, 0, none⟩ = some (.int .i64 0) := (blk_cell BK211.out 0).trans rfl
    have hcz32_1 : wc.cell? ⟨gb211, 1, none⟩ = some (.int .i64 0) := (blk_cell BK211.out 1).trans rfl
    have hcz32_2 : wc.cell? ⟨gb211, 2, none⟩ = some (.int .i64 0) := (blk_cell BK211.out 2).trans rfl
    have hfz32_0 := blk_frozen BK211.out 0
    have hfz32_1 := blk_frozen BK211.out 1
    have hfz32_2 := blk_frozen BK211.out 2
    go_wp2
    refine bodyPost_ret (results_ct rfl _ _ gb211 50 #[.int .i64 1, .int .i64 (rd t221 0), .int .i64 0] (0, 0) _ rfl (by (with_reducible repeat (first | refine blk_drewN ?_ _ | refine blk_drew ?_ | refine blk_alloc ?_ _)); refine blk_put (cs := #[.int .i64 1, .int .i64 (rd t221 0), .int .i64 0]) ?_ 2 _ rfl; (with_reducible repeat (first | refine blk_drewN ?_ _ | refine blk_drew ?_ | refine blk_alloc ?_ _)); refine blk_put (cs := #[.int .i64 1, .int .i64 0, .int .i64 0]) ?_ 1 _ rfl; (with_reducible repeat (first | refine blk_drewN ?_ _ | refine blk_drew ?_ | refine blk_alloc ?_ _)); refine blk_put (cs := #[.int .i64 0, .int .i64 0, .int .i64 0]) ?_ 0 _ rfl; (with_reducible repeat (first | refine blk_drewN ?_ _ | refine blk_drew ?_ | refine blk_alloc ?_ _)); exact BK211.out) Tryd.underlying50 rfl (by kernel_rfl)) rfl ?_
    exact ⟨by first | rfl | (simp [errW_none, errW_some] <;> rfl) | (simp [*, errW_none, errW_some] <;> rfl), by repeat (first | (with_reducible first | exact HB.out | apply below_alloc | apply pw_below_drewN | apply below_drew1 | refine below_set ?_ GE211.out) | exact HB.out)⟩
  replace c29 := Bool.eq_false_iff.mpr c29
  subst c29
  have H1 : (if 0 < (t212.length : Int) then (if (rdOf ByteArray.empty t212 0).toList = ([115, 108, 101, 101, 112] : List UInt8) then (text_reads.j2 kj21 t212 t221 ((t221.length : Int) == 1)) else (text_reads.j2 kj21 t212 t221 false)) else (none)) = some (r1, r2, r3, r4) := by rw [if_neg (show ¬ (false = true) by decide)] at H; exact H
  clear H
  have H := H1
  clear H1
  have HC33 := Aside0.mk H
  clear H
  go_upto_region 8 with (fail)
  go_cut [40] (fun v40 wc => ∃ (kq : Nat) (x40_32 : Bool), v40 = .bool x40_32 ∧ Aside0 (text_reads.j2 kq t212 t221 x40_32 = some (r1, r2, r3, r4)) ∧ Aside0 (kq ≤ kj21) ∧ Aside0 (Kd.R Kd.string 9 wc w.heap.size (fun _ => True) (.slice Ao24 t212.length co24) t212) ∧ Aside0 (Kd.R (Kd.int .i64) 3 wc w.heap.size (fun _ => True) v223 t221) ∧ Aside0 (wc.heap[gb211]? = some (.cells #[.int .i64 0, .int .i64 0, .int .i64 0] 50 (0, 0))) ∧ Aside0 (Below w.heap.size w wc))
  case first =>
    have H := HC33.out
    clear HC33
    by_cases c34 : 0 < (t212.length : Int)
    rotate_left
    · rw [if_neg c34] at H
      exact absurd H (by simp)
    rw [if_pos c34] at H
    have c34b0 : decide (0 < (t212.length : Int)) = true := decide_eq_true c34
    have c34b1 : decide (0 < t212.length) = true := decide_eq_true (by omega)
    clear c34
    (first | rw [c34b0] | (simp only [i64_w, i32_w]; rw [c34b0]) | skip)
    by_cases c35 : (rdOf ByteArray.empty t212 0).toList = ([115, 108, 101, 101, 112] : List UInt8)
    rotate_left
    · rw [if_neg c35] at H
      have c35b0 : ((rdOf ByteArray.empty t212 0).toList == ([115, 108, 101, 101, 112] : List UInt8)) = false := beq_eq_false_iff_ne.mpr c35
      have c35b1 : ((rdOf ByteArray.empty t212 0).toList != ([115, 108, 101, 101, 112] : List UInt8)) = true := bne_iff_ne.mpr c35
      have H' := Aside0.mk H
      clear H
      have p227 : 0 ≤ (0 : Int) := (by omega)
      have q227 : 0 < (t212.length : Int) := of_decide_eq_true (by first | (with_reducible assumption) | assumption)
      obtain ⟨ad227, e227, hx227_0⟩ := Kd.at_string (Kd.R_reads' HO_4.out).2.2 0 p227 q227
      cases e227
      have qi227 : (0 < t212.length) = True := eq_true (by omega)
      (try rw [show ((0 : Int)).toNat = 0 from rfl] at hx227_0)
      (try rw [Addr.add_zero'] at hx227_0)
      replace p227 := eq_true p227
      replace q227 := eq_true q227
      go_wp2
      go_meet
      case rel => exact ⟨_, (false), (by first | rfl | (simp; done) | (simp [*]; done)), H', ⟨by have := HJ2.out; have := HJ21.out; first | omega | exact Nat.le_refl _⟩, ⟨by (with_reducible repeat (first | apply Kd.R_alloc | apply Kd.R_drewN | apply Kd.R_drew)); exact HO_4.out⟩, ⟨by (with_reducible repeat (first | apply Kd.R_alloc | apply Kd.R_drewN | apply Kd.R_drew)); exact HO_5.out⟩, ⟨BK211.out⟩, ⟨HB.out⟩⟩
    rw [if_pos c35] at H
    have c35b0 : ((rdOf ByteArray.empty t212 0).toList == ([115, 108, 101, 101, 112] : List UInt8)) = true := beq_iff_eq.mpr c35
    have c35b1 : ((rdOf ByteArray.empty t212 0).toList != ([115, 108, 101, 101, 112] : List UInt8)) = false := bne_eq_false_iff_eq.mpr c35
    clear c35
    have H' := Aside0.mk H
    clear H
    have p227 : 0 ≤ (0 : Int) := (by omega)
    have q227 : 0 < (t212.length : Int) := of_decide_eq_true (by first | (with_reducible assumption) | assumption)
    obtain ⟨ad227, e227, hx227_0⟩ := Kd.at_string (Kd.R_reads' HO_4.out).2.2 0 p227 q227
    cases e227
    have qi227 : (0 < t212.length) = True := eq_true (by omega)
    (try rw [show ((0 : Int)).toNat = 0 from rfl] at hx227_0)
    (try rw [Addr.add_zero'] at hx227_0)
    replace p227 := eq_true p227
    replace q227 := eq_true q227
    obtain ⟨Ao36, co36, eo36⟩ := Kd.R_slice HO_5.out
    subst eo36
    go_wp2
    go_meet
    case rel => exact ⟨_, (((t221.length : Int) == 1)), (by first | rfl | (simp; done) | (simp [*]; done)), H', ⟨by have := HJ2.out; have := HJ21.out; first | omega | exact Nat.le_refl _⟩, ⟨by (with_reducible repeat (first | apply Kd.R_alloc | apply Kd.R_drewN | apply Kd.R_drew)); exact HO_4.out⟩, ⟨by (with_reducible repeat (first | apply Kd.R_alloc | apply Kd.R_drewN | apply Kd.R_drew)); exact HO_5.out⟩, ⟨BK211.out⟩, ⟨HB.out⟩⟩
  clear HC33
  (try clear c1); (try clear q1); (try clear c2); (try clear p2); (try clear q2); (try clear hx2); (try clear qi2); (try clear c3); (try clear c5); (try clear c7); (try clear c9); (try clear c9b0); (try clear c9b1); (try clear c13); (try clear c15); (try clear c15b0); (try clear c15b1); (try clear c17); (try clear c18); (try clear q18); (try clear p22); (try clear q22); (try clear hx22); (try clear qi22); (try clear c23); (try clear q23); (try clear c26); (try clear c26b0); (try clear c26b1); (try clear c27); (try clear c27b0); (try clear c27b1); (try clear c29); (try clear c30); (try clear c30b0); (try clear c30b1); (try clear c34); (try clear c34b0); (try clear c34b1); (try clear c35); (try clear c35b0); (try clear c35b1); (try clear hcz14_0); (try clear hcz14_1); (try clear hcz14_2); (try clear hcz21_0); (try clear hcz21_1); (try clear hcz21_2); (try clear hcz32_0); (try clear hcz32_1); (try clear hcz32_2); (try clear hfz14_0); (try clear hfz14_1); (try clear hfz14_2); (try clear hfz21_0); (try clear hfz21_1); (try clear hfz21_2); (try clear hfz32_0); (try clear hfz32_1); (try clear hfz32_2); (try clear hx225_0); (try clear hx226_0); (try clear hx227_0); (try clear p2); (try clear p22); (try clear p225); (try clear p226); (try clear p227); (try clear q1); (try clear q18); (try clear q2); (try clear q22); (try clear q225); (try clear q226); (try clear q227); (try clear q23)
  obtain ⟨kq, x40_32, rfl, HA, HJ32, HO_4, HO_5, BK211, HB⟩ := hcut
  cases kq with
  | zero => exact absurd HA.out (by simp [text_reads.j2])
  | succ kj32 => ?_
  have H := HA.out
  clear HA
  simp only [text_reads.j2] at H
  by_cases c37 : x40_32 = true
  · subst c37
    have H1 : (if 0 < (t221.length : Int) then (some (2, rd t221 0, 0, 0)) else (none)) = some (r1, r2, r3, r4) := by rw [if_pos rfl] at H; exact H
    clear H
    have H := H1
    clear H1
    by_cases c38 : 0 < (t221.length : Int)
    rotate_left
    · rw [if_neg c38] at H
      exact absurd H (by simp)
    rw [if_pos c38] at H
    have c38b0 : decide (0 < (t221.length : Int)) = true := decide_eq_true c38
    have c38b1 : decide (0 < t221.length) = true := decide_eq_true (by omega)
    clear c38
    simp only [Option.some.injEq, Prod.mk.injEq] at H
    obtain ⟨rfl, rfl, rfl, rfl⟩ := H
    obtain ⟨Ao39, co39, eo39⟩ := Kd.R_slice HO_5.out
    subst eo39
    have p228 : 0 ≤ (0 : Int) := (by omega)
    have q228 : 0 < (t221.length : Int) := of_decide_eq_true (by first | (with_reducible assumption) | assumption)
    obtain ⟨ad228, e228, hx228_0⟩ := Kd.at_int (Kd.R_reads' HO_5.out).2.2 0 p228 q228
    cases e228
    have qi228 : (0 < t221.length) = True := eq_true (by omega)
    (try rw [show ((0 : Int)).toNat = 0 from rfl] at hx228_0)
    (try rw [Addr.add_zero'] at hx228_0)
    replace p228 := eq_true p228
    replace q228 := eq_true q228
    have hcz40_0 : wc.cell? ⟨gb211, 0, none⟩ = some (.int .i64 0) := (blk_cell BK211.out 0).trans rfl
    have hcz40_1 : wc.cell? ⟨gb211, 1, none⟩ = some (.int .i64 0) := (blk_cell BK211.out 1).trans rfl
    have hcz40_2 : wc.cell? ⟨gb211, 2, none⟩ = some (.int .i64 0) := (blk_cell BK211.out 2).trans rfl
    have hfz40_0 := blk_frozen BK211.out 0
    have hfz40_1 := blk_frozen BK211.out 1
    have hfz40_2 := blk_frozen BK211.out 2
    go_wp2
    refine bodyPost_ret (results_ct rfl _ _ gb211 50 #[.int .i64 2, .int .i64 (rd t221 0), .int .i64 0] (0, 0) _ rfl (by (with_reducible repeat (first | refine blk_drewN ?_ _ | refine blk_drew ?_ | refine blk_alloc ?_ _)); refine blk_put (cs := #[.int .i64 2, .int .i64 (rd t221 0), .int .i64 0]) ?_ 2 _ rfl; (with_reducible repeat (first | refine blk_drewN ?_ _ | refine blk_drew ?_ | refine blk_alloc ?_ _)); refine blk_put (cs := #[.int .i64 2, .int .i64 0, .int .i64 0]) ?_ 1 _ rfl; (with_reducible repeat (first | refine blk_drewN ?_ _ | refine blk_drew ?_ | refine blk_alloc ?_ _)); refine blk_put (cs := #[.int .i64 0, .int .i64 0, .int .i64 0]) ?_ 0 _ rfl; (with_reducible repeat (first | refine blk_drewN ?_ _ | refine blk_drew ?_ | refine blk_alloc ?_ _)); exact BK211.out) Tryd.underlying50 rfl (by kernel_rfl)) rfl ?_
    exact ⟨by first | rfl | (simp [errW_none, errW_some] <;> rfl) | (simp [*, errW_none, errW_some] <;> rfl), by repeat (first | (with_reducible first | exact HB.out | apply below_alloc | apply pw_below_drewN | apply below_drew1 | refine below_set ?_ GE211.out) | exact HB.out)⟩
  replace c37 := Bool.eq_false_iff.mpr c37
  subst c37
  have H1 : (if 0 < (t212.length : Int) then (if (rdOf ByteArray.empty t212 0).toList = ([108, 111, 99, 107] : List UInt8) then (if (t221.length : Int) = 2 then (if 0 < (t221.length : Int) then (if 1 < (t221.length : Int) then (some (3, rd t221 1, rd t221 0, 0)) else (none)) else (none)) else (some (0, 0, 0, 10))) else (some (0, 0, 0, 10))) else (none)) = some (r1, r2, r3, r4) := by rw [if_neg (show ¬ (false = true) by decide)] at H; exact H
  clear H
  have H := H1
  clear H1
  by_cases c41 : 0 < (t212.length : Int)
  rotate_left
  · rw [if_neg c41] at H
    exact absurd H (by simp)
  rw [if_pos c41] at H
  have c41b0 : decide (0 < (t212.length : Int)) = true := decide_eq_true c41
  have c41b1 : decide (0 < t212.length) = true := decide_eq_true (by omega)
  clear c41
  by_cases c42 : (rdOf ByteArray.empty t212 0).toList = ([108, 111, 99, 107] : List UInt8)
  rotate_left
  · rw [if_neg c42] at H
    have c42b0 : ((rdOf ByteArray.empty t212 0).toList == ([108, 111, 99, 107] : List UInt8)) = false := beq_eq_false_iff_ne.mpr c42
    have c42b1 : ((rdOf ByteArray.empty t212 0).toList != ([108, 111, 99, 107] : List UInt8)) = true := bne_iff_ne.mpr c42
    simp only [Option.some.injEq, Prod.mk.injEq] at H
    obtain ⟨rfl, rfl, rfl, rfl⟩ := H
    have p229 : 0 ≤ (0 : Int) := (by omega)
    have q229 : 0 < (t212.length : Int) := of_decide_eq_true (by first | (with_reducible assumption) | assumption)
    obtain ⟨ad229, e229, hx229_0⟩ := Kd.at_string (Kd.R_reads' HO_4.out).2.2 0 p229 q229
    cases e229
    have qi229 : (0 < t212.length) = True := eq_true (by omega)
    (try rw [show ((0 : Int)).toNat = 0 from rfl] at hx229_0)
    (try rw [Addr.add_zero'] at hx229_0)
    replace p229 := eq_true p229
    replace q229 := eq_true q229
    have hcz43_0 : wc.cell? ⟨gb211, 0, none⟩ = some (.int .i64 0) := (blk_cell BK211.out 0).trans rfl
    have hcz43_1 : wc.cell? ⟨gb211, 1, none⟩ = some (.int .i64 0) := (blk_cell BK211.out 1).trans rfl
    have hcz43_2 : wc.cell? ⟨gb211, 2, none⟩ = some (.int .i64 0) := (blk_cell BK211.out 2).trans rfl
    have hfz43_0 := blk_frozen BK211.out 0
    have hfz43_1 := blk_frozen BK211.out 1
    have hfz43_2 := blk_frozen BK211.out 2
    go_wp2
    refine bodyPost_ret (results_ct rfl _ _ gb211 50 #[.int .i64 0, .int .i64 0, .int .i64 0] (0, 0) _ rfl (by (with_reducible repeat (first | refine blk_drewN ?_ _ | refine blk_drew ?_ | refine blk_alloc ?_ _)); refine blk_put (cs := #[.int .i64 0, .int .i64 0, .int .i64 0]) ?_ 2 _ rfl; (with_reducible repeat (first | refine blk_drewN ?_ _ | refine blk_drew ?_ | refine blk_alloc ?_ _)); refine blk_put (cs := #[.int .i64 0, .int .i64 0, .int .i64 0]) ?_ 1 _ rfl; (with_reducible repeat (first | refine blk_drewN ?_ _ | refine blk_drew ?_ | refine blk_alloc ?_ _)); refine blk_put (cs := #[.int .i64 0, .int .i64 0, .int .i64 0]) ?_ 0 _ rfl; (with_reducible repeat (first | refine blk_drewN ?_ _ | refine blk_drew ?_ | refine blk_alloc ?_ _)); exact BK211.out) Tryd.underlying50 rfl (by kernel_rfl)) rfl ?_
    exact ⟨by first | rfl | (simp [errW_none, errW_some] <;> rfl) | (simp [*, errW_none, errW_some] <;> rfl), by repeat (first | (with_reducible first | exact HB.out | apply below_alloc | apply pw_below_drewN | apply below_drew1 | refine below_set ?_ GE211.out) | exact HB.out)⟩
  rw [if_pos c42] at H
  have c42b0 : ((rdOf ByteArray.empty t212 0).toList == ([108, 111, 99, 107] : List UInt8)) = true := beq_iff_eq.mpr c42
  have c42b1 : ((rdOf ByteArray.empty t212 0).toList != ([108, 111, 99, 107] : List UInt8)) = false := bne_eq_false_iff_eq.mpr c42
  clear c42
  by_cases c44 : (t221.length : Int) = 2
  rotate_left
  · rw [if_neg c44] at H
    have c44b0 : ((t221.length : Int) == 2) = false := beq_eq_false_iff_ne.mpr c44
    have c44b1 : ((t221.length : Int) != 2) = true := bne_iff_ne.mpr c44
    simp only [Option.some.injEq, Prod.mk.injEq] at H
    obtain ⟨rfl, rfl, rfl, rfl⟩ := H
    have p229 : 0 ≤ (0 : Int) := (by omega)
    have q229 : 0 < (t212.length : Int) := of_decide_eq_true (by first | (with_reducible assumption) | assumption)
    obtain ⟨ad229, e229, hx229_0⟩ := Kd.at_string (Kd.R_reads' HO_4.out).2.2 0 p229 q229
    cases e229
    have qi229 : (0 < t212.length) = True := eq_true (by omega)
    (try rw [show ((0 : Int)).toNat = 0 from rfl] at hx229_0)
    (try rw [Addr.add_zero'] at hx229_0)
    replace p229 := eq_true p229
    replace q229 := eq_true q229
    obtain ⟨Ao45, co45, eo45⟩ := Kd.R_slice HO_5.out
    subst eo45
    have hcz46_0 : wc.cell? ⟨gb211, 0, none⟩ = some (.int .i64 0) := (blk_cell BK211.out 0).trans rfl
    have hcz46_1 : wc.cell? ⟨gb211, 1, none⟩ = some (.int .i64 0) := (blk_cell BK211.out 1).trans rfl
    have hcz46_2 : wc.cell? ⟨gb211, 2, none⟩ = some (.int .i64 0) := (blk_cell BK211.out 2).trans rfl
    have hfz46_0 := blk_frozen BK211.out 0
    have hfz46_1 := blk_frozen BK211.out 1
    have hfz46_2 := blk_frozen BK211.out 2
    go_wp2
    refine bodyPost_ret (results_ct rfl _ _ gb211 50 #[.int .i64 0, .int .i64 0, .int .i64 0] (0, 0) _ rfl (by (with_reducible repeat (first | refine blk_drewN ?_ _ | refine blk_drew ?_ | refine blk_alloc ?_ _)); refine blk_put (cs := #[.int .i64 0, .int .i64 0, .int .i64 0]) ?_ 2 _ rfl; (with_reducible repeat (first | refine blk_drewN ?_ _ | refine blk_drew ?_ | refine blk_alloc ?_ _)); refine blk_put (cs := #[.int .i64 0, .int .i64 0, .int .i64 0]) ?_ 1 _ rfl; (with_reducible repeat (first | refine blk_drewN ?_ _ | refine blk_drew ?_ | refine blk_alloc ?_ _)); refine blk_put (cs := #[.int .i64 0, .int .i64 0, .int .i64 0]) ?_ 0 _ rfl; (with_reducible repeat (first | refine blk_drewN ?_ _ | refine blk_drew ?_ | refine blk_alloc ?_ _)); exact BK211.out) Tryd.underlying50 rfl (by kernel_rfl)) rfl ?_
    exact ⟨by first | rfl | (simp [errW_none, errW_some] <;> rfl) | (simp [*, errW_none, errW_some] <;> rfl), by repeat (first | (with_reducible first | exact HB.out | apply below_alloc | apply pw_below_drewN | apply below_drew1 | refine below_set ?_ GE211.out) | exact HB.out)⟩
  rw [if_pos c44] at H
  have c44b0 : ((t221.length : Int) == 2) = true := beq_iff_eq.mpr c44
  have c44b1 : ((t221.length : Int) != 2) = false := bne_eq_false_iff_eq.mpr c44
  clear c44
  by_cases c47 : 0 < (t221.length : Int)
  rotate_left
  · rw [if_neg c47] at H
    exact absurd H (by simp)
  rw [if_pos c47] at H
  have c47b0 : decide (0 < (t221.length : Int)) = true := decide_eq_true c47
  have c47b1 : decide (0 < t221.length) = true := decide_eq_true (by omega)
  clear c47
  by_cases c48 : 1 < (t221.length : Int)
  rotate_left
  · rw [if_neg c48] at H
    exact absurd H (by simp)
  rw [if_pos c48] at H
  have c48b0 : decide (1 < (t221.length : Int)) = true := decide_eq_true c48
  have c48b1 : decide (1 < t221.length) = true := decide_eq_true (by omega)
  clear c48
  simp only [Option.some.injEq, Prod.mk.injEq] at H
  obtain ⟨rfl, rfl, rfl, rfl⟩ := H
  have p229 : 0 ≤ (0 : Int) := (by omega)
  have q229 : 0 < (t212.length : Int) := of_decide_eq_true (by first | (with_reducible assumption) | assumption)
  obtain ⟨ad229, e229, hx229_0⟩ := Kd.at_string (Kd.R_reads' HO_4.out).2.2 0 p229 q229
  cases e229
  have qi229 : (0 < t212.length) = True := eq_true (by omega)
  (try rw [show ((0 : Int)).toNat = 0 from rfl] at hx229_0)
  (try rw [Addr.add_zero'] at hx229_0)
  replace p229 := eq_true p229
  replace q229 := eq_true q229
  obtain ⟨Ao49, co49, eo49⟩ := Kd.R_slice HO_5.out
  subst eo49
  try go_wp2
  have n0_ := Aside0.mk (Kd.R_drew HO_4.out)
  have n1_ := Aside0.mk (Kd.R_drew HO_5.out)
  have n2_ := Aside0.mk (blk_drew BK211.out)
  have n3_ := Aside0.mk (below_drew1 HB.out)
  clear HO_4
  clear HO_5
  clear BK211
  clear HB
  have HO_4 := n0_
  have HO_5 := n1_
  have BK211 := n2_
  have HB := n3_
  clear n0_ n1_ n2_ n3_
  have p230 : 0 ≤ (0 : Int) := (by omega)
  have q230 : 0 < (t221.length : Int) := of_decide_eq_true (by first | (with_reducible assumption) | assumption)
  obtain ⟨ad230, e230, hx230_0⟩ := Kd.at_int (Kd.R_reads' HO_5.out).2.2 0 p230 q230
  cases e230
  have qi230 : (0 < t221.length) = True := eq_true (by omega)
  (try rw [show ((0 : Int)).toNat = 0 from rfl] at hx230_0)
  (try rw [Addr.add_zero'] at hx230_0)
  replace p230 := eq_true p230
  replace q230 := eq_true q230
  have p231 : 0 ≤ (1 : Int) := (by omega)
  have q231 : 1 < (t221.length : Int) := of_decide_eq_true (by first | (with_reducible assumption) | assumption)
  obtain ⟨ad231, e231, hx231_0⟩ := Kd.at_int (Kd.R_reads' HO_5.out).2.2 1 p231 q231
  obtain rfl : ad230 = ad231 := (by injection e231)
  (try simp only [show (1 : Int).toNat = 1 from rfl, Nat.reduceMul, Nat.reduceEqDiff, Go.Addr.add, ↓reduceIte] at hx231_0)
  have qi231 : (1 < t221.length) = True := eq_true (by omega)
  (try rw [show ((1 : Int)).toNat = 1 from rfl] at hx231_0)
  replace p231 := eq_true p231
  replace q231 := eq_true q231
  refine start_ (n := 9) (S := fun w' => w'.cell? ad230 = some (.int .i64 (rd t221 0)) ∧ w'.cell? ⟨ad230.block, ad230.off + 1, none⟩ = some (.int .i64 (rd t221 1))) (ds := []) (bs 9 0) (by kernel_rfl) rfl rfl ⟨hx230_0, hx231_0⟩ (fun hHeld => ?_); refine with_tabW text_reads.tab11 text_reads.bits11 (fun HT_ HW_ => ?_)
  generalize wc.drew = w50 at HO_4 HO_5 BK211 HB hx230_0 hx231_0 hHeld ⊢
  refine pure_ (i := 0) (N := some 64) (v := ?_) (a' := ?_) (bs 9 1) rfl rfl (any_of HT_.out (by kernel_rfl)) (fun _ _ _ h => h) (Or.inl ⟨by rfl, ?_⟩) ?_ ?_
  rotate_left
  · intro w'
    go_simp
    with_reducible rfl
  rotate_left
  · simp only [Act.put, List.setIfInBounds_toArray, List.set_cons_zero, List.set_cons_succ, i64_w, i32_w]
    rfl
  refine pure_ (i := 1) (N := some 65) (v := ?_) (a' := ?_) (bs 9 3) rfl rfl (any_of HT_.out (by kernel_rfl)) (fun _ _ _ h => h) (Or.inl ⟨by rfl, ?_⟩) ?_ ?_
  rotate_left
  · intro w'
    go_simp
    with_reducible rfl
  rotate_left
  · simp only [Act.put, List.setIfInBounds_toArray, List.set_cons_zero, List.set_cons_succ, i64_w, i32_w]
    rfl
  refine pure_ (i := 3) (N := some 67) (v := ?_) (a' := ?_) (bs 9 11) rfl rfl (any_of HT_.out (by kernel_rfl)) (fun _ _ _ h => h) (Or.inl ⟨by rfl, ?_⟩) ?_ ?_
  rotate_left
  · intro w'
    go_simp
    with_reducible rfl
  rotate_left
  · simp only [Act.put, List.setIfInBounds_toArray, List.set_cons_zero, List.set_cons_succ, i64_w, i32_w]
    rfl
  refine pure_ (i := 4) (N := some 68) (v := ?_) (a' := ?_) (bs 9 27) rfl rfl (any_of HT_.out (by kernel_rfl)) (fun _ _ _ h => h) (Or.inl ⟨by rfl, ?_⟩) ?_ ?_
  rotate_left
  · intro w'
    go_simp
    with_reducible rfl
  rotate_left
  · simp only [Act.put, List.setIfInBounds_toArray, List.set_cons_zero, List.set_cons_succ, i64_w, i32_w]
    rfl
  refine take_ (i := 2) (N := some 66) (v := ?_) (a' := ?_) (bs 9 31) rfl rfl (take_ofW HT_.out HW_.out (by kernel_rfl)) (fun _ _ _ h => h) (Or.inl ⟨by rfl, ?_⟩) hHeld ?_ ?_
  rotate_left
  · rintro w' ⟨s0, s1⟩
    go_simp
    with_reducible rfl
  rotate_left
  · simp only [Act.put, List.setIfInBounds_toArray, List.set_cons_zero, List.set_cons_succ, i64_w, i32_w]
    rfl
  refine take_ (i := 5) (N := some 69) (v := ?_) (a' := ?_) (bs 9 63) rfl rfl (take_ofW HT_.out HW_.out (by kernel_rfl)) (fun _ _ _ h => h) (Or.inl ⟨by rfl, ?_⟩) hHeld ?_ ?_
  rotate_left
  · rintro w' ⟨s0, s1⟩
    go_simp
    with_reducible rfl
  rotate_left
  · simp only [Act.put, List.setIfInBounds_toArray, List.set_cons_zero, List.set_cons_succ, i64_w, i32_w]
    rfl
  refine pure_ (i := 6) (N := some 70) (v := ?_) (a' := ?_) (bs 9 127) rfl rfl (any_of HT_.out (by kernel_rfl)) (fun _ _ _ h => h) (Or.inl ⟨by rfl, ?_⟩) ?_ ?_
  rotate_left
  · intro w'
    go_simp
    with_reducible rfl
  rotate_left
  · simp only [Act.put, List.setIfInBounds_toArray, List.set_cons_zero, List.set_cons_succ, i64_w, i32_w]
    rfl
  refine one_ (i := 7) (N := none) (bs 9 255) rfl rfl (one_of HT_.out (by kernel_rfl)) (by decide) (fun K hK => ?_)
  have hs51 : w50.cell? ⟨gb211, 0, none⟩ = some (.int .i64 0) := (blk_cell BK211.out 0).trans rfl
  have hfs51 := blk_frozen BK211.out 0
  have hs52 : w50.cell? ⟨gb211, 1, none⟩ = some (.int .i64 0) := (blk_cell BK211.out 1).trans rfl
  have hfs52 := blk_frozen BK211.out 1
  have hs53 : w50.cell? ⟨gb211, 2, none⟩ = some (.int .i64 0) := (blk_cell BK211.out 2).trans rfl
  have hfs53 := blk_frozen BK211.out 2
  refine skip_ (w1 := ?_) (by rfl) rfl ?_ ?_
  rotate_left
  · go_simp
    rfl
  refine hK.out _ _ ⟨((cell_far (p := ⟨gb211, _, none⟩) (by first | exact Kd.own_blk (Kd.R_ne HO_5.out BK211.out (by decide)) | (rw [add_block]; exact Kd.own_blk (Kd.R_ne HO_5.out BK211.out (by decide))) | (show (Addr.add _ _).block ≠ _; rw [add_block]; exact Kd.own_blk (Kd.R_ne HO_5.out BK211.out (by decide))) | (dsimp only; exact Kd.own_blk (Kd.R_ne HO_5.out BK211.out (by decide)))) _).trans (((cell_far (p := ⟨gb211, _, none⟩) (by first | exact Kd.own_blk (Kd.R_ne HO_5.out BK211.out (by decide)) | (rw [add_block]; exact Kd.own_blk (Kd.R_ne HO_5.out BK211.out (by decide))) | (show (Addr.add _ _).block ≠ _; rw [add_block]; exact Kd.own_blk (Kd.R_ne HO_5.out BK211.out (by decide))) | (dsimp only; exact Kd.own_blk (Kd.R_ne HO_5.out BK211.out (by decide)))) _).trans (((cell_far (p := ⟨gb211, _, none⟩) (by first | exact Kd.own_blk (Kd.R_ne HO_5.out BK211.out (by decide)) | (rw [add_block]; exact Kd.own_blk (Kd.R_ne HO_5.out BK211.out (by decide))) | (show (Addr.add _ _).block ≠ _; rw [add_block]; exact Kd.own_blk (Kd.R_ne HO_5.out BK211.out (by decide))) | (dsimp only; exact Kd.own_blk (Kd.R_ne HO_5.out BK211.out (by decide)))) _).trans (hHeld.1)))))), ((cell_far (p := ⟨gb211, _, none⟩) (by first | exact Kd.own_blk (Kd.R_ne HO_5.out BK211.out (by decide)) | (rw [add_block]; exact Kd.own_blk (Kd.R_ne HO_5.out BK211.out (by decide))) | (show (Addr.add _ _).block ≠ _; rw [add_block]; exact Kd.own_blk (Kd.R_ne HO_5.out BK211.out (by decide))) | (dsimp only; exact Kd.own_blk (Kd.R_ne HO_5.out BK211.out (by decide)))) _).trans (((cell_far (p := ⟨gb211, _, none⟩) (by first | exact Kd.own_blk (Kd.R_ne HO_5.out BK211.out (by decide)) | (rw [add_block]; exact Kd.own_blk (Kd.R_ne HO_5.out BK211.out (by decide))) | (show (Addr.add _ _).block ≠ _; rw [add_block]; exact Kd.own_blk (Kd.R_ne HO_5.out BK211.out (by decide))) | (dsimp only; exact Kd.own_blk (Kd.R_ne HO_5.out BK211.out (by decide)))) _).trans (((cell_far (p := ⟨gb211, _, none⟩) (by first | exact Kd.own_blk (Kd.R_ne HO_5.out BK211.out (by decide)) | (rw [add_block]; exact Kd.own_blk (Kd.R_ne HO_5.out BK211.out (by decide))) | (show (Addr.add _ _).block ≠ _; rw [add_block]; exact Kd.own_blk (Kd.R_ne HO_5.out BK211.out (by decide))) | (dsimp only; exact Kd.own_blk (Kd.R_ne HO_5.out BK211.out (by decide)))) _).trans (hHeld.2))))))⟩ (fun hHeld => ?_)
  clear hK K
  refine pure_ (i := 8) (N := some 3) (v := ?_) (a' := ?_) (bs 9 511) rfl rfl (any_of HT_.out (by kernel_rfl)) (fun _ _ _ h => h) (Or.inl ⟨by rfl, ?_⟩) ?_ ?_
  rotate_left
  · intro w'
    go_simp
    with_reducible rfl
  rotate_left
  · simp only [Act.put, List.setIfInBounds_toArray, List.set_cons_zero, List.set_cons_succ, i64_w, i32_w]
    rfl
  refine done_ (done_of HT_.out (by kernel_rfl)) ?_
  try go_wp2
  refine bodyPost_ret (results_ct rfl _ _ gb211 50 #[.int .i64 3, .int .i64 (rd t221 1), .int .i64 (rd t221 0)] (0, 0) _ rfl (by (with_reducible repeat (first | refine blk_drewN ?_ _ | refine blk_drew ?_ | refine blk_alloc ?_ _)); refine blk_put (cs := #[.int .i64 3, .int .i64 (rd t221 1), .int .i64 0]) ?_ 2 _ rfl; (with_reducible repeat (first | refine blk_drewN ?_ _ | refine blk_drew ?_ | refine blk_alloc ?_ _)); refine blk_put (cs := #[.int .i64 3, .int .i64 0, .int .i64 0]) ?_ 1 _ rfl; (with_reducible repeat (first | refine blk_drewN ?_ _ | refine blk_drew ?_ | refine blk_alloc ?_ _)); refine blk_put (cs := #[.int .i64 0, .int .i64 0, .int .i64 0]) ?_ 0 _ rfl; (with_reducible repeat (first | refine blk_drewN ?_ _ | refine blk_drew ?_ | refine blk_alloc ?_ _)); exact BK211.out) Tryd.underlying50 rfl (by kernel_rfl)) rfl ?_
  exact ⟨by first | rfl | (simp [errW_none, errW_some] <;> rfl) | (simp [*, errW_none, errW_some] <;> rfl), by repeat (first | (with_reducible first | exact HB.out | apply below_alloc | apply pw_below_drewN | apply below_drew1 | refine below_set ?_ GE211.out) | exact HB.out)⟩
end Go.Proofs.YtgkjoodlcojkkaaDoor.QD
end
section
namespace Go.Proofs.YtgkjoodlcojkkaaDoor.QD
open Go.RowKit Go.Proofs.YtgkjoodlcojkkaaDoorW.PrintWords Go.Proofs.YtgkjoodlcojkkaaDoorW.PrintLast Go.Proofs.YtgkjoodlcojkkaaDoorW.PrintMore
attribute [local go_sem] max2_int min2_int max_two min_two max_three min_three max_four min_four
set_option linter.unusedVariables false
set_option linter.unusedSimpArgs false
def text_nested.l0 : Nat → List ByteArray → Int → Int → Option (Bool)
  | 0, _, _, _ => none
  | k + 1, x7, x8, x9 => if x9 < x8 then (if 0 ≤ x9 then (if x9 < (x7.length : Int) then ((text_reads.f k (rdOf ByteArray.empty x7 x9)).bind fun bt233 => (if bt233.2.2.2 = 18 then (some true) else (text_nested.l0 k x7 x8 (wrap64 (x9 + 1))))) else (none)) else (none)) else (some false)
def text_nested.f (k : Nat) (l0 : List ByteArray) : Option (Bool) := text_nested.l0 k l0 (l0.length : Int) 0
theorem text_nested.mono_l : ∀ k, (∀ y0 y1 y2, LeO (text_nested.l0 k y0 y1 y2) (text_nested.l0 (k + 1) y0 y1 y2))
  | 0 => fun _ _ _ r h => by simp [text_nested.l0] at h
  | k + 1 => by
    have ih0 := text_nested.mono_l k
    · intro y0 y1 y2
      unfold text_nested.l0
      repeat' first
      | (with_reducible exact ih0 _ _ _)
      | (with_reducible exact text_reads.mono _ _)
      | (with_reducible exact LeO.refl _)
      | (with_reducible exact LeO.none _)
      | (with_reducible refine LeO.ite ?_ ?_)
      | (with_reducible refine LeO.bind ?_ (fun _ => ?_))
      | exact ih0 _ _ _
      | exact text_reads.mono _ _
      | exact LeO.none _
      | refine LeO.ite ?_ ?_
      | refine LeO.bind ?_ (fun _ => ?_)
theorem text_nested.mono : ∀ a0 k, LeO (text_nested.f k a0) (text_nested.f (k + 1) a0) := by
  intro a0 k
  have ih0 := text_nested.mono_l k
  unfold text_nested.f
  repeat' first
      | (with_reducible exact ih0 _ _ _)
      | (with_reducible exact text_reads.mono _ _)
      | (with_reducible exact LeO.refl _)
      | (with_reducible exact LeO.none _)
      | (with_reducible refine LeO.ite ?_ ?_)
      | (with_reducible refine LeO.bind ?_ (fun _ => ?_))
      | exact ih0 _ _ _
      | exact text_reads.mono _ _
      | exact LeO.none _
      | refine LeO.ite ?_ ?_
      | refine LeO.bind ?_ (fun _ => ?_)
set_option maxHeartbeats 8000000 in
set_option maxRecDepth 100000 in
theorem text_nested.calls (k : Nat) (A0 : Option Addr) (c0 : Nat) (l0 : List ByteArray) (r : Bool) (w : World) (hr0 : Kd.C Kd.string w A0 l0.length l0) (hc0 : l0.length ≤ c0) (hG : Glob w) (h : text_nested.f k l0 = some r) :
    Calls Tryd.prog 57 #[.slice A0 l0.length c0] w fun e w' => e = .returned (.bool r) ∧ Below w.heap.size w w' := by
  have hu50 := Tryd.underlying50
  have HR0 := Aside0.mk hr0
  have HC0 := Aside0.mk hc0
  clear hr0 hc0
  have HG := Aside0.mk hG
  clear hG
  have HB := Aside0.mk (Below.refl w.heap.size w)
  have H : (text_nested.l0 k l0 (l0.length : Int) 0) = some r := h
  clear h
  have H' := Aside0.mk H
  clear H
  go_enter Tryd.func57, Tryd.ntmps57
  go_wp2
  go_loopg [9] k (fun kq v9 w' => ∃ (x9_1 : Int), v9 = .int .i64 x9_1 ∧ Aside0 (text_nested.l0 kq l0 (l0.length : Int) x9_1 = some r) ∧ Aside0 (kq ≤ k) ∧ Aside0 (Below w.heap.size w w'))
  case atStart => exact ⟨(0), (by first | rfl | (simp; done) | (simp [*]; done)), H', ⟨Nat.le_refl _⟩, ⟨HB.out⟩⟩
  clear H'
  obtain ⟨x9_1, rfl, HA, HK1, HB⟩ := hrel
  cases gk with
  | zero => exact absurd HA.out (by simp [text_nested.l0])
  | succ k1 => ?_
  have H := HA.out
  clear HA
  simp only [text_nested.l0] at H
  by_cases c2 : x9_1 < (l0.length : Int)
  rotate_left
  · rw [if_neg c2] at H
    have c2b0 : decide (x9_1 < (l0.length : Int)) = false := decide_eq_false c2
    clear c2
    obtain rfl := Option.some.inj H
    go_wp2
    go_ret
    exact ⟨by first | rfl | (simp [errW_none, errW_some] <;> rfl) | (simp [*, errW_none, errW_some] <;> rfl), HB.out⟩
  rw [if_pos c2] at H
  have c2b0 : decide (x9_1 < (l0.length : Int)) = true := decide_eq_true c2
  clear c2
  by_cases c3 : 0 ≤ x9_1
  rotate_left
  · rw [if_neg c3] at H
    exact absurd H (by simp)
  rw [if_pos c3] at H
  have c3b0 : decide (0 ≤ x9_1) = true := decide_eq_true c3
  clear c3
  by_cases c4 : x9_1 < (l0.length : Int)
  rotate_left
  · rw [if_neg c4] at H
    exact absurd H (by simp)
  rw [if_pos c4] at H
  have c4b0 : decide (x9_1 < (l0.length : Int)) = true := decide_eq_true c4
  clear c4
  replace H := Option.bind_eq_some_iff.mp H
  obtain ⟨⟨t233, t234, t235, t236⟩, A50, H⟩ := H
  replace H : (if t236 = 18 then (some true) else (text_nested.l0 k1 l0 (l0.length : Int) (wrap64 (x9_1 + 1)))) = some r := H
  have A5 := Aside0.mk A50
  clear A50
  by_cases c6 : t236 = 18
  rotate_left
  · rw [if_neg c6] at H
    have c6b0 : (t236 == 18) = false := beq_eq_false_iff_ne.mpr c6
    have c6b1 : (t236 != 18) = true := bne_iff_ne.mpr c6
    have H' := Aside0.mk H
    clear H
    have p232 : 0 ≤ (x9_1 : Int) := of_decide_eq_true (by first | (with_reducible assumption) | assumption)
    have q232 : x9_1 < (l0.length : Int) := of_decide_eq_true (by first | (with_reducible assumption) | assumption)
    obtain ⟨ad232, e232, hx232_0⟩ := Kd.at_string HR0.out x9_1 p232 q232
    cases e232
    replace hx232_0 := (HB.out.cell (World.block_lt_of_cell? w _ hx232_0)).trans hx232_0
    replace p232 := eq_true p232
    replace q232 := eq_true q232
    go_wp2_with (first | ((with_reducible refine gate_callee (f := 58) rfl ?_); refine goesL_ (some 15) rfl rfl Tryd.func58 (by kernel_rfl) rfl #[.string (rdOf ByteArray.empty l0 x9_1)] rfl (by (try simp only [List.map_toArray, List.map_cons, List.map_nil]); first | done | rfl | (simp only [List.length_drop, List.length_take]; rfl)) ?_; (with_reducible refine (text_reads.calls k1 (rdOf ByteArray.empty l0 x9_1) t233 t234 t235 t236 _ ?side1 A5.out).mono ?_); (case side1 => first | exact Glob.below HG.out (HB.out) | (repeat (first | exact Glob.below HG.out HB.out | (with_reducible refine Glob.alloc ?_ _) | (with_reducible refine Glob.drewN ?_ _) | (with_reducible refine Glob.drew ?_)))); rintro e w7 ⟨rfl, hb⟩; refine ⟨_, rfl, ?_⟩; have n0_ := Aside0.mk (below_step (HB.out) hb); clear HB; have HB := n0_; clear n0_; (try clear hb); (try clear hb2); (try clear hk); (try clear hi)) | ((with_reducible refine gate_dst (N := 5) rfl ?_); refine box_event ?hg (N := 5) ?hd (cs := #[.int .i64 0, .int .i64 0, .int .i64 0]) (t := 50) ?hr ?_; (case hd => rfl); (case hg => rfl); (case hr => first | (go_simp; done) | (go_simp; rfl)); intro gb237 hg w8 hbox hb; have n0_ := Aside0.mk (below_step (HB.out) hb); have n1_ := Aside0.mk (hbox); have n2_ := Aside0.mk ((by rw [hg]; exact (below_size (HB.out)) : w.heap.size ≤ gb237)); have n3_ := Aside0.mk ((by rw [hg]; exact (below_size (HB.out)) : w.heap.size ≤ gb237)); clear HB; have HB := n0_; have BK237 := n1_; have GW237 := n2_; have GE237 := n3_; clear n0_ n1_ n2_ n3_; clear hb hbox hg; have hcz9_0 : w8.cell? ⟨gb237, 0, none⟩ = some (.int .i64 0) := (blk_cell BK237.out 0).trans rfl; have hcz9_1 : w8.cell? ⟨gb237, 1, none⟩ = some (.int .i64 0) := (blk_cell BK237.out 1).trans rfl; have hcz9_2 : w8.cell? ⟨gb237, 2, none⟩ = some (.int .i64 0) := (blk_cell BK237.out 2).trans rfl; have hfz9_0 := blk_frozen BK237.out 0; have hfz9_1 := blk_frozen BK237.out 1; have hfz9_2 := blk_frozen BK237.out 2))
    go_roundg k1
    case measure => have := HK1.out; omega
    case rel => exact ⟨(wrap64 (x9_1 + 1)), (by first | rfl | (simp; done) | (simp [*]; done)), H', ⟨by have := HK1.out; omega⟩, ⟨by repeat (first | (with_reducible first | exact HB.out | apply below_alloc | apply pw_below_drewN | apply below_drew1 | refine below_set ?_ GE237.out) | exact HB.out)⟩⟩
  rw [if_pos c6] at H
  have c6b0 : (t236 == 18) = true := beq_iff_eq.mpr c6
  have c6b1 : (t236 != 18) = false := bne_eq_false_iff_eq.mpr c6
  clear c6
  obtain rfl := Option.some.inj H
  have p232 : 0 ≤ (x9_1 : Int) := of_decide_eq_true (by first | (with_reducible assumption) | assumption)
  have q232 : x9_1 < (l0.length : Int) := of_decide_eq_true (by first | (with_reducible assumption) | assumption)
  obtain ⟨ad232, e232, hx232_0⟩ := Kd.at_string HR0.out x9_1 p232 q232
  cases e232
  replace hx232_0 := (HB.out.cell (World.block_lt_of_cell? w _ hx232_0)).trans hx232_0
  replace p232 := eq_true p232
  replace q232 := eq_true q232
  go_wp2_with (first | ((with_reducible refine gate_callee (f := 58) rfl ?_); refine goesL_ (some 15) rfl rfl Tryd.func58 (by kernel_rfl) rfl #[.string (rdOf ByteArray.empty l0 x9_1)] rfl (by (try simp only [List.map_toArray, List.map_cons, List.map_nil]); first | done | rfl | (simp only [List.length_drop, List.length_take]; rfl)) ?_; (with_reducible refine (text_reads.calls k1 (rdOf ByteArray.empty l0 x9_1) t233 t234 t235 t236 _ ?side1 A5.out).mono ?_); (case side1 => first | exact Glob.below HG.out (HB.out) | (repeat (first | exact Glob.below HG.out HB.out | (with_reducible refine Glob.alloc ?_ _) | (with_reducible refine Glob.drewN ?_ _) | (with_reducible refine Glob.drew ?_)))); rintro e w10 ⟨rfl, hb⟩; refine ⟨_, rfl, ?_⟩; have n0_ := Aside0.mk (below_step (HB.out) hb); clear HB; have HB := n0_; clear n0_; (try clear hb); (try clear hb2); (try clear hk); (try clear hi)) | ((with_reducible refine gate_dst (N := 5) rfl ?_); refine box_event ?hg (N := 5) ?hd (cs := #[.int .i64 0, .int .i64 0, .int .i64 0]) (t := 50) ?hr ?_; (case hd => rfl); (case hg => rfl); (case hr => first | (go_simp; done) | (go_simp; rfl)); intro gb237 hg w11 hbox hb; have n0_ := Aside0.mk (below_step (HB.out) hb); have n1_ := Aside0.mk (hbox); have n2_ := Aside0.mk ((by rw [hg]; exact (below_size (HB.out)) : w.heap.size ≤ gb237)); have n3_ := Aside0.mk ((by rw [hg]; exact (below_size (HB.out)) : w.heap.size ≤ gb237)); clear HB; have HB := n0_; have BK237 := n1_; have GW237 := n2_; have GE237 := n3_; clear n0_ n1_ n2_ n3_; clear hb hbox hg; have hcz12_0 : w11.cell? ⟨gb237, 0, none⟩ = some (.int .i64 0) := (blk_cell BK237.out 0).trans rfl; have hcz12_1 : w11.cell? ⟨gb237, 1, none⟩ = some (.int .i64 0) := (blk_cell BK237.out 1).trans rfl; have hcz12_2 : w11.cell? ⟨gb237, 2, none⟩ = some (.int .i64 0) := (blk_cell BK237.out 2).trans rfl; have hfz12_0 := blk_frozen BK237.out 0; have hfz12_1 := blk_frozen BK237.out 1; have hfz12_2 := blk_frozen BK237.out 2))
  go_ret
  exact ⟨by first | rfl | (simp [errW_none, errW_some] <;> rfl) | (simp [*, errW_none, errW_some] <;> rfl), by repeat (first | (with_reducible first | exact HB.out | apply below_alloc | apply pw_below_drewN | apply below_drew1 | refine below_set ?_ GE237.out) | exact HB.out)⟩
end Go.Proofs.YtgkjoodlcojkkaaDoor.QD
end
section
namespace Go.Proofs.YtgkjoodlcojkkaaDoor.QD
open Go.RowKit Go.Proofs.YtgkjoodlcojkkaaDoorW.PrintWords Go.Proofs.YtgkjoodlcojkkaaDoorW.PrintLast Go.Proofs.YtgkjoodlcojkkaaDoorW.PrintMore
attribute [local go_sem] max2_int min2_int max_two min_two max_three min_three max_four min_four
set_option linter.unusedVariables false
set_option linter.unusedSimpArgs false
mutual
def text_tasked.j0 : Nat → List ByteArray → Int → Option (ByteArray × Int × Int × Int × Int × (List (S50)) × Int)
  | 0, _, _ => none
  | k + 1, x0, x4 => if (x0.length : Int) < 6 then (some ((⟨#[]⟩ : ByteArray), 0, 0, 0, 0, ([] : List (S50)), x4)) else (if 2 ≤ 6 then (if 6 ≤ (x0.length : Int) then ((text_numbers.f k ((x0.take 6).drop 2)).bind fun bt242 => (if bt242.2 = true then (if 1 < (x0.length : Int) then (if 0 < (bt242.1.length : Int) then (if 1 < (bt242.1.length : Int) then (if 2 < (bt242.1.length : Int) then (if 3 < (bt242.1.length : Int) then (text_tasked.l0 k x4 (x0.drop 6) ((x0.drop 6).length : Int) 0 (rdOf ByteArray.empty x0 1) (rd bt242.1 0) (rd bt242.1 1) (rd bt242.1 2) (rd bt242.1 3) ([] : List (S50))) else (none)) else (none)) else (none)) else (none)) else (none)) else (some ((⟨#[]⟩ : ByteArray), 0, 0, 0, 0, ([] : List (S50)), x4)))) else (none)) else (none))
def text_tasked.l0 : Nat → Int → List ByteArray → Int → Int → ByteArray → Int → Int → Int → Int → List (S50) → Option (ByteArray × Int × Int × Int × Int × (List (S50)) × Int)
  | 0, _, _, _, _, _, _, _, _, _, _ => none
  | k + 1, x4, x47, x48, x49, x252000, x252001, x252002, x252003, x252004, x252005 => if x49 < x48 then (if 0 ≤ x49 then (if x49 < (x47.length : Int) then ((text_reads.f k (rdOf ByteArray.empty x47 x49)).bind fun bt254 => (if bt254.2.2.2 = 0 then (if x252005.length < 5864062014805 then (text_tasked.l0 k x4 x47 x48 (wrap64 (x49 + 1)) x252000 x252001 x252002 x252003 x252004 (x252005 ++ [(⟨bt254.1, bt254.2.1, bt254.2.2.1⟩ : S50)])) else (none)) else (some ((⟨#[]⟩ : ByteArray), 0, 0, 0, 0, ([] : List (S50)), x4)))) else (none)) else (none)) else (some (x252000, x252001, x252002, x252003, x252004, x252005, 0))
end
def text_tasked.f (k : Nat) (l0 : List ByteArray) : Option (ByteArray × Int × Int × Int × Int × (List (S50)) × Int) := if 1 ≤ (l0.length : Int) then ((text_nested.f k (l0.drop 1)).bind fun t240 => (if t240 = true then (text_tasked.j0 k l0 18) else (text_tasked.j0 k l0 10))) else (none)
theorem text_tasked.mono_l : ∀ k, (∀ y0 y1, LeO (text_tasked.j0 k y0 y1) (text_tasked.j0 (k + 1) y0 y1)) ∧ (∀ y0 y1 y2 y3 y4 y5 y6 y7 y8 y9, LeO (text_tasked.l0 k y0 y1 y2 y3 y4 y5 y6 y7 y8 y9) (text_tasked.l0 (k + 1) y0 y1 y2 y3 y4 y5 y6 y7 y8 y9))
  | 0 => ⟨fun _ _ r h => by simp [text_tasked.j0] at h, fun _ _ _ _ _ _ _ _ _ _ r h => by simp [text_tasked.l0] at h⟩
  | k + 1 => by
    obtain ⟨ih0, ih1⟩ := text_tasked.mono_l k
    refine ⟨?_, ?_⟩
    · intro y0 y1
      unfold text_tasked.j0
      repeat' first
      | (with_reducible exact ih0 _ _)
      | (with_reducible exact ih1 _ _ _ _ _ _ _ _ _ _)
      | (with_reducible exact text_nested.mono _ _)
      | (with_reducible exact text_numbers.mono _ _)
      | (with_reducible exact text_reads.mono _ _)
      | (with_reducible exact LeO.refl _)
      | (with_reducible exact LeO.none _)
      | (with_reducible refine LeO.ite ?_ ?_)
      | (with_reducible refine LeO.bind ?_ (fun _ => ?_))
      | exact ih0 _ _
      | exact ih1 _ _ _ _ _ _ _ _ _ _
      | exact text_nested.mono _ _
      | exact text_numbers.mono _ _
      | exact text_reads.mono _ _
      | exact LeO.none _
      | refine LeO.ite ?_ ?_
      | refine LeO.bind ?_ (fun _ => ?_)
    · intro y0 y1 y2 y3 y4 y5 y6 y7 y8 y9
      unfold text_tasked.l0
      repeat' first
      | (with_reducible exact ih0 _ _)
      | (with_reducible exact ih1 _ _ _ _ _ _ _ _ _ _)
      | (with_reducible exact text_nested.mono _ _)
      | (with_reducible exact text_numbers.mono _ _)
      | (with_reducible exact text_reads.mono _ _)
      | (with_reducible exact LeO.refl _)
      | (with_reducible exact LeO.none _)
      | (with_reducible refine LeO.ite ?_ ?_)
      | (with_reducible refine LeO.bind ?_ (fun _ => ?_))
      | exact ih0 _ _
      | exact ih1 _ _ _ _ _ _ _ _ _ _
      | exact text_nested.mono _ _
      | exact text_numbers.mono _ _
      | exact text_reads.mono _ _
      | exact LeO.none _
      | refine LeO.ite ?_ ?_
      | refine LeO.bind ?_ (fun _ => ?_)
theorem text_tasked.mono : ∀ a0 k, LeO (text_tasked.f k a0) (text_tasked.f (k + 1) a0) := by
  intro a0 k
  obtain ⟨ih0, ih1⟩ := text_tasked.mono_l k
  unfold text_tasked.f
  repeat' first
      | (with_reducible exact ih0 _ _)
      | (with_reducible exact ih1 _ _ _ _ _ _ _ _ _ _)
      | (with_reducible exact text_nested.mono _ _)
      | (with_reducible exact text_numbers.mono _ _)
      | (with_reducible exact text_reads.mono _ _)
      | (with_reducible exact LeO.refl _)
      | (with_reducible exact LeO.none _)
      | (with_reducible refine LeO.ite ?_ ?_)
      | (with_reducible refine LeO.bind ?_ (fun _ => ?_))
      | exact ih0 _ _
      | exact ih1 _ _ _ _ _ _ _ _ _ _
      | exact text_nested.mono _ _
      | exact text_numbers.mono _ _
      | exact text_reads.mono _ _
      | exact LeO.none _
      | refine LeO.ite ?_ ?_
      | refine LeO.bind ?_ (fun _ => ?_)
def text_tasked.T9 : Bool × List (List Nat × List Nat) := (true, [([], []), ([0], [0]), ([1], [1]), ([], []), ([3], [3]), ([4], [4]), ([], []), ([6], [6]), ([7], [7]), ([], []), ([9], [9]), ([10], [10]), ([], []), ([12], [12]), ([13], [13]), ([2, 5, 8, 11, 14], [2, 5, 8, 11, 14]), ([], []), ([16, 15, 0, 1, 2, 3, 4, 5, 6, 7, 8, 9, 10, 11, 12, 13, 14, 15, 16], [15, 16])])
def text_tasked.B9 : List Nat := [0, 1, 3, 0, 8, 24, 0, 64, 192, 0, 512, 1536, 0, 4096, 12288, 32767, 0, 131071]
theorem text_tasked.tab9 : rtab .any (opsOf Tryd.f42 9) = text_tasked.T9 := by kernel_rfl
theorem text_tasked.bits9 : waitsOk text_tasked.T9.2 text_tasked.B9 = true := by kernel_rfl
set_option maxHeartbeats 8000000 in
set_option maxRecDepth 100000 in
theorem text_tasked.calls (k : Nat) (A0 : Option Addr) (c0 : Nat) (l0 : List ByteArray) (r1 : ByteArray) (r2 : Int) (r3 : Int) (r4 : Int) (r5 : Int) (r6 : List (S50)) (r7 : Int) (w : World) (hr0 : Kd.C Kd.string w A0 l0.length l0) (hc0 : l0.length ≤ c0) (hG : Glob w) (h : text_tasked.f k l0 = some (r1, r2, r3, r4, r5, r6, r7)) :
    Calls Tryd.prog 42 #[.slice A0 l0.length c0] w fun e w' => ∃ v5_ : Value, e = .returned (.tuple #[.agg #[.string r1, .int .i64 r2, .int .i64 r3, .int .i64 r4, .int .i64 r5, v5_], .int .i64 r7]) ∧ Kd.R k50 50 w' w.heap.size (fun _ => True) v5_ r6 ∧ Below w.heap.size w w' := by
  have hu53 := Tryd.underlying53
  have hu50 := Tryd.underlying50
  have HR0 := Aside0.mk hr0
  have HC0 := Aside0.mk hc0
  clear hr0 hc0
  have HG := Aside0.mk hG
  clear hG
  have HB := Aside0.mk (Below.refl w.heap.size w)
  have H : (if 1 ≤ (l0.length : Int) then ((text_nested.f k (l0.drop 1)).bind fun t240 => (if t240 = true then (text_tasked.j0 k l0 18) else (text_tasked.j0 k l0 10))) else (none)) = some (r1, r2, r3, r4, r5, r6, r7) := h
  clear h
  by_cases c2 : 1 ≤ (l0.length : Int)
  rotate_left
  · rw [if_neg c2] at H
    exact absurd H (by simp)
  rw [if_pos c2] at H
  have c2b0 := eq_true c2
  have c2b1 : decide (1 ≤ (l0.length : Int)) = true := decide_eq_true c2
  clear c2
  replace H := Option.bind_eq_some_iff.mp H
  obtain ⟨t240, A30, H⟩ := H
  replace H : (if t240 = true then (text_tasked.j0 k l0 18) else (text_tasked.j0 k l0 10)) = some (r1, r2, r3, r4, r5, r6, r7) := H
  have A3 := Aside0.mk A30
  clear A30
  have HC4 := Aside0.mk H
  clear H
  go_enter Tryd.func42, Tryd.ntmps42
  go_upto_if 14 with (first | ((with_reducible refine gate_dst (N := 2) rfl ?_); refine box_event ?hg (N := 2) ?hd (cs := #[.string (⟨#[]⟩ : ByteArray), .int .i64 0, .int .i64 0, .int .i64 0, .int .i64 0, .slice none 0 0]) (t := 53) ?hr ?_; (case hd => rfl); (case hg => rfl); (case hr => first | (go_simp; done) | (go_simp; rfl)); intro gb238 hg w5 hbox hb; have n0_ := Aside0.mk (below_step (HB.out) hb); have n1_ := Aside0.mk (hbox); have n2_ := Aside0.mk ((by rw [hg]; exact (below_size (HB.out)) : w.heap.size ≤ gb238)); have n3_ := n2_; clear HB; have HB := n0_; have BK238 := n1_; have GW238 := n2_; have GE238 := n3_; clear n0_ n1_ n2_ n3_; clear hb hbox hg; obtain ⟨i06, hi06, _, hsz6, _⟩ := info_parts info9; obtain ⟨A6, hcut6, hA6, hC6⟩ := print_drop_of (P := Tryd.prog) Value.string (⟨#[]⟩ : ByteArray) 26 9 .i64 Tryd.underlying26 hi06 hsz6 A0 c0 l0 1 (by omega) (of_decide_eq_true (by first | (with_reducible assumption) | assumption)) HC0.out; have HR239 := Aside0.mk (Kd.C_of_reads (h1 := fun _ => rfl) (hA6 _ (Kd.reads_of_C HR0.out))); have HC239 := Aside0.mk hC6; clear hA6 hC6 hi06 hsz6) | ((with_reducible refine gate_callee (f := 57) rfl ?_); refine goesL_ (some 14) rfl rfl Tryd.func57 (by kernel_rfl) rfl #[.slice A6 (l0.drop 1).length (c0 - 1)] rfl (by (try simp only [List.map_toArray, List.map_cons, List.map_nil]); first | done | (rw [show (l0.drop 1).length = (l0.length - 1) from List.length_drop] <;> rfl) | rfl | (simp only [List.length_drop, List.length_take]; rfl)) ?_; (with_reducible refine (text_nested.calls k _ _ (l0.drop 1) t240 _ ?side1 ?side2 ?side3 A3.out).mono ?_); (case side1 => repeat (first | exact (Kd.C_below HR239.out HB.out) | (with_reducible refine Kd.C_alloc ?_ _) | (with_reducible refine Kd.C_drewN ?_ _) | (with_reducible refine Kd.C_drew ?_))); (case side2 => exact HC239.out); (case side3 => first | exact Glob.below HG.out (HB.out) | (repeat (first | exact Glob.below HG.out HB.out | (with_reducible refine Glob.alloc ?_ _) | (with_reducible refine Glob.drewN ?_ _) | (with_reducible refine Glob.drew ?_)))); rintro e w7 ⟨rfl, hb⟩; refine ⟨_, rfl, ?_⟩; have n0_ := Aside0.mk (blk_below BK238.out hb); have n1_ := Aside0.mk (below_step (HB.out) hb); clear BK238; clear HB; have BK238 := n0_; have HB := n1_; clear n0_ n1_; (try clear hb); (try clear hb2); (try clear hk); (try clear hi)))
  (try simp only [Act.put, List.setIfInBounds_toArray, List.set_cons_zero, List.set_cons_succ])
  go_cut [4] (fun v4 wc => ∃ (kq : Nat) (x4_3 : Int), v4 = .int .i64 x4_3 ∧ Aside0 (text_tasked.j0 kq l0 x4_3 = some (r1, r2, r3, r4, r5, r6, r7)) ∧ Aside0 (kq ≤ k) ∧ Aside0 (wc.heap[gb238]? = some (.cells #[.string (⟨#[]⟩ : ByteArray), .int .i64 0, .int .i64 0, .int .i64 0, .int .i64 0, (.slice none 0 0)] 53 (0, 0))) ∧ Aside0 (Below w.heap.size w wc))
  case first =>
    have H := HC4.out
    clear HC4
    by_cases c8 : t240 = true
    rotate_left
    · replace c8 := Bool.eq_false_iff.mpr c8
      subst c8
      have H1 : (text_tasked.j0 k l0 10) = some (r1, r2, r3, r4, r5, r6, r7) := by rw [if_neg (show ¬ (false = true) by decide)] at H; exact H
      clear H
      have H := H1
      clear H1
      have H' := Aside0.mk H
      clear H
      go_wp2
      go_meet
      case rel => exact ⟨_, (10), (by first | rfl | (simp; done) | (simp [*]; done)), H', ⟨by first | omega | exact Nat.le_refl _⟩, ⟨BK238.out⟩, ⟨HB.out⟩⟩
    subst c8
    have H1 : (text_tasked.j0 k l0 18) = some (r1, r2, r3, r4, r5, r6, r7) := by rw [if_pos rfl] at H; exact H
    clear H
    have H := H1
    clear H1
    have H' := Aside0.mk H
    clear H
    go_wp2
    go_meet
    case rel => exact ⟨_, (18), (by first | rfl | (simp; done) | (simp [*]; done)), H', ⟨by first | omega | exact Nat.le_refl _⟩, ⟨BK238.out⟩, ⟨HB.out⟩⟩
  clear HC4
  (try clear c2); (try clear c2b0); (try clear c2b1); (try clear p2); (try clear c4); (try clear c5); (try clear c8)
  obtain ⟨kq, x4_3, rfl, HA, HJ3, BK238, HB⟩ := hcut
  cases kq with
  | zero => exact absurd HA.out (by simp [text_tasked.j0])
  | succ kj3 => ?_
  have H := HA.out
  clear HA
  simp only [text_tasked.j0] at H
  by_cases c9 : (l0.length : Int) < 6
  · rw [if_pos c9] at H
    have c9b0 : decide ((l0.length : Int) < 6) = true := decide_eq_true c9
    have c9b1 : decide (l0.length < 6) = true := decide_eq_true (by omega)
    clear c9
    simp only [Option.some.injEq, Prod.mk.injEq] at H
    obtain ⟨rfl, rfl, rfl, rfl, rfl, rfl, rfl⟩ := H
    have hcz10_0 : wc.cell? ⟨gb238, 0, none⟩ = some (.string (⟨#[]⟩ : ByteArray)) := (blk_cell BK238.out 0).trans rfl
    have hcz10_1 : wc.cell? ⟨gb238, 1, none⟩ = some (.int .i64 0) := (blk_cell BK238.out 1).trans rfl
    have hcz10_2 : wc.cell? ⟨gb238, 2, none⟩ = some (.int .i64 0) := (blk_cell BK238.out 2).trans rfl
    have hcz10_3 : wc.cell? ⟨gb238, 3, none⟩ = some (.int .i64 0) := (blk_cell BK238.out 3).trans rfl
    have hcz10_4 : wc.cell? ⟨gb238, 4, none⟩ = some (.int .i64 0) := (blk_cell BK238.out 4).trans rfl
    have hcz10_5 : wc.cell? ⟨gb238, 5, none⟩ = some (.slice none 0 0) := (blk_cell BK238.out 5).trans rfl
    have hfz10_0 := blk_frozen BK238.out 0
    have hfz10_1 := blk_frozen BK238.out 1
    have hfz10_2 := blk_frozen BK238.out 2
    have hfz10_3 := blk_frozen BK238.out 3
    have hfz10_4 := blk_frozen BK238.out 4
    have hfz10_5 := blk_frozen BK238.out 5
    go_wp2
    refine bodyPost_ret (results_ct rfl _ _ gb238 53 #[.string (⟨#[]⟩ : ByteArray), .int .i64 0, .int .i64 0, .int .i64 0, .int .i64 0, .slice none 0 0] (0, 0) _ rfl (by (with_reducible repeat (first | refine blk_drewN ?_ _ | refine blk_drew ?_ | refine blk_alloc ?_ _)); refine blk_put (cs := #[.string (⟨#[]⟩ : ByteArray), .int .i64 0, .int .i64 0, .int .i64 0, .int .i64 0, .slice none 0 0]) ?_ 5 _ rfl; (with_reducible repeat (first | refine blk_drewN ?_ _ | refine blk_drew ?_ | refine blk_alloc ?_ _)); refine blk_put (cs := #[.string (⟨#[]⟩ : ByteArray), .int .i64 0, .int .i64 0, .int .i64 0, .int .i64 0, .slice none 0 0]) ?_ 4 _ rfl; (with_reducible repeat (first | refine blk_drewN ?_ _ | refine blk_drew ?_ | refine blk_alloc ?_ _)); refine blk_put (cs := #[.string (⟨#[]⟩ : ByteArray), .int .i64 0, .int .i64 0, .int .i64 0, .int .i64 0, .slice none 0 0]) ?_ 3 _ rfl; (with_reducible repeat (first | refine blk_drewN ?_ _ | refine blk_drew ?_ | refine blk_alloc ?_ _)); refine blk_put (cs := #[.string (⟨#[]⟩ : ByteArray), .int .i64 0, .int .i64 0, .int .i64 0, .int .i64 0, .slice none 0 0]) ?_ 2 _ rfl; (with_reducible repeat (first | refine blk_drewN ?_ _ | refine blk_drew ?_ | refine blk_alloc ?_ _)); refine blk_put (cs := #[.string (⟨#[]⟩ : ByteArray), .int .i64 0, .int .i64 0, .int .i64 0, .int .i64 0, .slice none 0 0]) ?_ 1 _ rfl; (with_reducible repeat (first | refine blk_drewN ?_ _ | refine blk_drew ?_ | refine blk_alloc ?_ _)); refine blk_put (cs := #[.string (⟨#[]⟩ : ByteArray), .int .i64 0, .int .i64 0, .int .i64 0, .int .i64 0, .slice none 0 0]) ?_ 0 _ rfl; (with_reducible repeat (first | refine blk_drewN ?_ _ | refine blk_drew ?_ | refine blk_alloc ?_ _)); exact BK238.out) Tryd.underlying53 rfl (by kernel_rfl)) rfl ?_
    exact ⟨_, by first | rfl | (simp [errW_none, errW_some] <;> rfl) | (simp [*, errW_none, errW_some] <;> rfl), by first | exact Kd.R_nil _ _ _ _ _ | exact Kd.N_nil _ _ _ _ _ | exact Kd.V_nil _ _ _ _ _ | exact Kd.Q_nil _ _ _ _ _ | exact Kd.S_nil _ _ _ _ _, by repeat (first | (with_reducible first | exact HB.out | apply below_alloc | apply pw_below_drewN | apply below_drew1 | refine below_set ?_ GE238.out) | exact HB.out)⟩
  rw [if_neg c9] at H
  have c9b0 : decide ((l0.length : Int) < 6) = false := decide_eq_false c9
  have c9b1 : decide (l0.length < 6) = false := decide_eq_false (by omega)
  clear c9
  by_cases c11 : 2 ≤ 6
  rotate_left
  · rw [if_neg c11] at H
    exact absurd H (by simp)
  rw [if_pos c11] at H
  have c11b0 := eq_true c11
  have c11b1 : decide (2 ≤ 6) = true := decide_eq_true c11
  clear c11
  by_cases c12 : 6 ≤ (l0.length : Int)
  rotate_left
  · rw [if_neg c12] at H
    exact absurd H (by simp)
  rw [if_pos c12] at H
  have c12b0 := eq_true c12
  have c12b1 : decide (6 ≤ (l0.length : Int)) = true := decide_eq_true c12
  clear c12
  replace H := Option.bind_eq_some_iff.mp H
  obtain ⟨⟨t242, t243⟩, A130, H⟩ := H
  replace H : (if t243 = true then (if 1 < (l0.length : Int) then (if 0 < (t242.length : Int) then (if 1 < (t242.length : Int) then (if 2 < (t242.length : Int) then (if 3 < (t242.length : Int) then (text_tasked.l0 kj3 x4_3 (l0.drop 6) ((l0.drop 6).length : Int) 0 (rdOf ByteArray.empty l0 1) (rd t242 0) (rd t242 1) (rd t242 2) (rd t242 3) ([] : List (S50))) else (none)) else (none)) else (none)) else (none)) else (none)) else (some ((⟨#[]⟩ : ByteArray), 0, 0, 0, 0, ([] : List (S50)), x4_3))) = some (r1, r2, r3, r4, r5, r6, r7) := H
  have A13 := Aside0.mk A130
  clear A130
  by_cases c14 : t243 = true
  rotate_left
  · replace c14 := Bool.eq_false_iff.mpr c14
    subst c14
    have H1 : (some ((⟨#[]⟩ : ByteArray), 0, 0, 0, 0, ([] : List (S50)), x4_3)) = some (r1, r2, r3, r4, r5, r6, r7) := by rw [if_neg (show ¬ (false = true) by decide)] at H; exact H
    clear H
    have H := H1
    clear H1
    simp only [Option.some.injEq, Prod.mk.injEq] at H
    obtain ⟨rfl, rfl, rfl, rfl, rfl, rfl, rfl⟩ := H
    obtain ⟨i015, hi015, _, hsz15, _⟩ := info_parts info9
    obtain ⟨A15, hcut15, hA15, hC15⟩ := print_mid_of (P := Tryd.prog) Value.string (⟨#[]⟩ : ByteArray) 26 9 .i64 .i64 Tryd.underlying26 hi015 hsz15 A0 c0 l0 2 6 (by omega) (by first | omega | exact of_decide_eq_true (by first | (with_reducible assumption) | assumption)) (of_decide_eq_true (by first | (with_reducible assumption) | assumption)) HC0.out
    have HR241 := Aside0.mk (Kd.C_of_reads (h1 := fun _ => rfl) (hA15 _ (Kd.reads_of_C HR0.out)))
    have HC241 := Aside0.mk hC15
    clear hA15 hC15 hi015 hsz15
    go_wp2_with (first | ((with_reducible refine gate_callee (f := 56) rfl ?_); refine goesL_ (some 23) rfl rfl Tryd.func56 (by kernel_rfl) rfl #[.slice A15 ((l0.take 6).drop 2).length (c0 - 2)] rfl (by (try simp only [List.map_toArray, List.map_cons, List.map_nil]); first | done | (rw [show ((l0.take 6).drop 2).length = (6 - 2) from (by rw [List.length_drop, List.length_take]; have h_ : (6 : Int) ≤ (l0.length : Int) := of_decide_eq_true (by first | (with_reducible assumption) | assumption); omega)] <;> rfl) | rfl | (simp only [List.length_drop, List.length_take]; rfl)) ?_; (with_reducible refine (text_numbers.calls kj3 _ _ ((l0.take 6).drop 2) t242 false _ ?side1 ?side2 ?side3 A13.out).mono ?_); (case side1 => repeat (first | exact (Kd.C_below HR241.out HB.out) | (with_reducible refine Kd.C_alloc ?_ _) | (with_reducible refine Kd.C_drewN ?_ _) | (with_reducible refine Kd.C_drew ?_))); (case side2 => exact HC241.out); (case side3 => first | exact Glob.below HG.out (HB.out) | (repeat (first | exact Glob.below HG.out HB.out | (with_reducible refine Glob.alloc ?_ _) | (with_reducible refine Glob.drewN ?_ _) | (with_reducible refine Glob.drew ?_)))); rintro e w16 ⟨v244, rfl, ho0, hb⟩; refine ⟨_, rfl, ?_⟩; have n0_ := Aside0.mk (Kd.R_lower ho0 (below_size (HB.out))); have n1_ := Aside0.mk (blk_below BK238.out hb); have n2_ := Aside0.mk (below_step (HB.out) hb); clear BK238; clear HB; have HO245 := n0_; have BK238 := n1_; have HB := n2_; clear n0_ n1_ n2_; (try clear hb); (try clear hb2); (try clear hk); (try clear hi); (try clear ho0); have hcz17_0 : w16.cell? ⟨gb238, 0, none⟩ = some (.string (⟨#[]⟩ : ByteArray)) := (blk_cell BK238.out 0).trans rfl; have hcz17_1 : w16.cell? ⟨gb238, 1, none⟩ = some (.int .i64 0) := (blk_cell BK238.out 1).trans rfl; have hcz17_2 : w16.cell? ⟨gb238, 2, none⟩ = some (.int .i64 0) := (blk_cell BK238.out 2).trans rfl; have hcz17_3 : w16.cell? ⟨gb238, 3, none⟩ = some (.int .i64 0) := (blk_cell BK238.out 3).trans rfl; have hcz17_4 : w16.cell? ⟨gb238, 4, none⟩ = some (.int .i64 0) := (blk_cell BK238.out 4).trans rfl; have hcz17_5 : w16.cell? ⟨gb238, 5, none⟩ = some (.slice none 0 0) := (blk_cell BK238.out 5).trans rfl; have hfz17_0 := blk_frozen BK238.out 0; have hfz17_1 := blk_frozen BK238.out 1; have hfz17_2 := blk_frozen BK238.out 2; have hfz17_3 := blk_frozen BK238.out 3; have hfz17_4 := blk_frozen BK238.out 4; have hfz17_5 := blk_frozen BK238.out 5))
    refine bodyPost_ret (results_ct rfl _ _ gb238 53 #[.string (⟨#[]⟩ : ByteArray), .int .i64 0, .int .i64 0, .int .i64 0, .int .i64 0, .slice none 0 0] (0, 0) _ rfl (by (with_reducible repeat (first | refine blk_drewN ?_ _ | refine blk_drew ?_ | refine blk_alloc ?_ _)); refine blk_put (cs := #[.string (⟨#[]⟩ : ByteArray), .int .i64 0, .int .i64 0, .int .i64 0, .int .i64 0, .slice none 0 0]) ?_ 5 _ rfl; (with_reducible repeat (first | refine blk_drewN ?_ _ | refine blk_drew ?_ | refine blk_alloc ?_ _)); refine blk_put (cs := #[.string (⟨#[]⟩ : ByteArray), .int .i64 0, .int .i64 0, .int .i64 0, .int .i64 0, .slice none 0 0]) ?_ 4 _ rfl; (with_reducible repeat (first | refine blk_drewN ?_ _ | refine blk_drew ?_ | refine blk_alloc ?_ _)); refine blk_put (cs := #[.string (⟨#[]⟩ : ByteArray), .int .i64 0, .int .i64 0, .int .i64 0, .int .i64 0, .slice none 0 0]) ?_ 3 _ rfl; (with_reducible repeat (first | refine blk_drewN ?_ _ | refine blk_drew ?_ | refine blk_alloc ?_ _)); refine blk_put (cs := #[.string (⟨#[]⟩ : ByteArray), .int .i64 0, .int .i64 0, .int .i64 0, .int .i64 0, .slice none 0 0]) ?_ 2 _ rfl; (with_reducible repeat (first | refine blk_drewN ?_ _ | refine blk_drew ?_ | refine blk_alloc ?_ _)); refine blk_put (cs := #[.string (⟨#[]⟩ : ByteArray), .int .i64 0, .int .i64 0, .int .i64 0, .int .i64 0, .slice none 0 0]) ?_ 1 _ rfl; (with_reducible repeat (first | refine blk_drewN ?_ _ | refine blk_drew ?_ | refine blk_alloc ?_ _)); refine blk_put (cs := #[.string (⟨#[]⟩ : ByteArray), .int .i64 0, .int .i64 0, .int .i64 0, .int .i64 0, .slice none 0 0]) ?_ 0 _ rfl; (with_reducible repeat (first | refine blk_drewN ?_ _ | refine blk_drew ?_ | refine blk_alloc ?_ _)); exact BK238.out) Tryd.underlying53 rfl (by kernel_rfl)) rfl ?_
    exact ⟨_, by first | rfl | (simp [errW_none, errW_some] <;> rfl) | (simp [*, errW_none, errW_some] <;> rfl), by first | exact Kd.R_nil _ _ _ _ _ | exact Kd.N_nil _ _ _ _ _ | exact Kd.V_nil _ _ _ _ _ | exact Kd.Q_nil _ _ _ _ _ | exact Kd.S_nil _ _ _ _ _, by repeat (first | (with_reducible first | exact HB.out | apply below_alloc | apply pw_below_drewN | apply below_drew1 | refine below_set ?_ GE238.out) | exact HB.out)⟩
  subst c14
  have H1 : (if 1 < (l0.length : Int) then (if 0 < (t242.length : Int) then (if 1 < (t242.length : Int) then (if 2 < (t242.length : Int) then (if 3 < (t242.length : Int) then (text_tasked.l0 kj3 x4_3 (l0.drop 6) ((l0.drop 6).length : Int) 0 (rdOf ByteArray.empty l0 1) (rd t242 0) (rd t242 1) (rd t242 2) (rd t242 3) ([] : List (S50))) else (none)) else (none)) else (none)) else (none)) else (none)) = some (r1, r2, r3, r4, r5, r6, r7) := by rw [if_pos rfl] at H; exact H
  clear H
  have H := H1
  clear H1
  by_cases c18 : 1 < (l0.length : Int)
  rotate_left
  · rw [if_neg c18] at H
    exact absurd H (by simp)
  rw [if_pos c18] at H
  have c18b0 : decide (1 < (l0.length : Int)) = true := decide_eq_true c18
  have c18b1 : decide (1 < l0.length) = true := decide_eq_true (by omega)
  clear c18
  by_cases c19 : 0 < (t242.length : Int)
  rotate_left
  · rw [if_neg c19] at H
    exact absurd H (by simp)
  rw [if_pos c19] at H
  have c19b0 : decide (0 < (t242.length : Int)) = true := decide_eq_true c19
  have c19b1 : decide (0 < t242.length) = true := decide_eq_true (by omega)
  clear c19
  by_cases c20 : 1 < (t242.length : Int)
  rotate_left
  · rw [if_neg c20] at H
    exact absurd H (by simp)
  rw [if_pos c20] at H
  have c20b0 : decide (1 < (t242.length : Int)) = true := decide_eq_true c20
  have c20b1 : decide (1 < t242.length) = true := decide_eq_true (by omega)
  clear c20
  by_cases c21 : 2 < (t242.length : Int)
  rotate_left
  · rw [if_neg c21] at H
    exact absurd H (by simp)
  rw [if_pos c21] at H
  have c21b0 : decide (2 < (t242.length : Int)) = true := decide_eq_true c21
  have c21b1 : decide (2 < t242.length) = true := decide_eq_true (by omega)
  clear c21
  by_cases c22 : 3 < (t242.length : Int)
  rotate_left
  · rw [if_neg c22] at H
    exact absurd H (by simp)
  rw [if_pos c22] at H
  have c22b0 : decide (3 < (t242.length : Int)) = true := decide_eq_true c22
  have c22b1 : decide (3 < t242.length) = true := decide_eq_true (by omega)
  clear c22
  have c23b0 := eq_true (of_decide_eq_true (by first | (with_reducible assumption) | assumption) : 6 ≤ (l0.length : Int))
  have H' := Aside0.mk H
  clear H
  obtain ⟨i024, hi024, _, hsz24, _⟩ := info_parts info9
  obtain ⟨A24, hcut24, hA24, hC24⟩ := print_mid_of (P := Tryd.prog) Value.string (⟨#[]⟩ : ByteArray) 26 9 .i64 .i64 Tryd.underlying26 hi024 hsz24 A0 c0 l0 2 6 (by omega) (by first | omega | exact of_decide_eq_true (by first | (with_reducible assumption) | assumption)) (of_decide_eq_true (by first | (with_reducible assumption) | assumption)) HC0.out
  have HR241 := Aside0.mk (Kd.C_of_reads (h1 := fun _ => rfl) (hA24 _ (Kd.reads_of_C HR0.out)))
  have HC241 := Aside0.mk hC24
  clear hA24 hC24 hi024 hsz24
  try go_wp2_with (first | ((with_reducible refine gate_callee (f := 56) rfl ?_); refine goesL_ (some 23) rfl rfl Tryd.func56 (by kernel_rfl) rfl #[.slice A24 ((l0.take 6).drop 2).length (c0 - 2)] rfl (by (try simp only [List.map_toArray, List.map_cons, List.map_nil]); first | done | (rw [show ((l0.take 6).drop 2).length = (6 - 2) from (by rw [List.length_drop, List.length_take]; have h_ : (6 : Int) ≤ (l0.length : Int) := of_decide_eq_true (by first | (with_reducible assumption) | assumption); omega)] <;> rfl) | rfl | (simp only [List.length_drop, List.length_take]; rfl)) ?_; (with_reducible refine (text_numbers.calls kj3 _ _ ((l0.take 6).drop 2) t242 true _ ?side1 ?side2 ?side3 A13.out).mono ?_); (case side1 => repeat (first | exact (Kd.C_below HR241.out HB.out) | (with_reducible refine Kd.C_alloc ?_ _) | (with_reducible refine Kd.C_drewN ?_ _) | (with_reducible refine Kd.C_drew ?_))); (case side2 => exact HC241.out); (case side3 => first | exact Glob.below HG.out (HB.out) | (repeat (first | exact Glob.below HG.out HB.out | (with_reducible refine Glob.alloc ?_ _) | (with_reducible refine Glob.drewN ?_ _) | (with_reducible refine Glob.drew ?_)))); rintro e w25 ⟨v244, rfl, ho0, hb⟩; refine ⟨_, rfl, ?_⟩; have n0_ := Aside0.mk (Kd.R_lower ho0 (below_size (HB.out))); have n1_ := Aside0.mk (blk_below BK238.out hb); have n2_ := Aside0.mk (below_step (HB.out) hb); clear BK238; clear HB; have HO245 := n0_; have BK238 := n1_; have HB := n2_; clear n0_ n1_ n2_; (try clear hb); (try clear hb2); (try clear hk); (try clear hi); (try clear ho0)))
  have n0_ := Aside0.mk (Kd.R_drew HO245.out)
  have n1_ := Aside0.mk (blk_drew BK238.out)
  have n2_ := Aside0.mk (below_drew1 HB.out)
  clear HO245
  clear BK238
  clear HB
  have HO245 := n0_
  have BK238 := n1_
  have HB := n2_
  clear n0_ n1_ n2_
  have p246 : 0 ≤ (1 : Int) := (by omega)
  have q246 : 1 < (l0.length : Int) := of_decide_eq_true (by first | (with_reducible assumption) | assumption)
  obtain ⟨ad246, e246, hx246_0⟩ := Kd.at_string HR0.out 1 p246 q246
  have hw246_0 := hx246_0
  (try rw [show ((1 : Int)).toNat = 1 from rfl] at hw246_0)
  (try rw [show 1 * 1 = 1 from rfl] at hw246_0)
  (try simp only [Nat.reduceMul, Nat.reduceEqDiff, Go.Addr.add, ↓reduceIte] at hw246_0)
  cases e246
  (try simp only [show (1 : Int).toNat = 1 from rfl, Nat.reduceMul, Nat.reduceEqDiff, Go.Addr.add, ↓reduceIte] at hx246_0)
  have qi246 : (1 < l0.length) = True := eq_true (by omega)
  (try rw [show ((1 : Int)).toNat = 1 from rfl] at hx246_0)
  replace hx246_0 := (HB.out.cell (World.block_lt_of_cell? w _ hx246_0)).trans hx246_0
  replace p246 := eq_true p246
  replace q246 := eq_true q246
  obtain ⟨Ao27, co27, eo27⟩ := Kd.R_slice HO245.out
  (first | subst eo27 | (injection eo27 with f1_ f2_ f3_; have f4_ := f1_.symm; have f5_ := f3_.symm; clear f1_ f2_ f3_; subst f4_; subst f5_))
  have p247 : 0 ≤ (0 : Int) := (by omega)
  have q247 : 0 < (t242.length : Int) := of_decide_eq_true (by first | (with_reducible assumption) | assumption)
  obtain ⟨ad247, e247, hx247_0⟩ := Kd.at_int (Kd.R_reads' HO245.out).2.2 0 p247 q247
  cases e247
  have qi247 : (0 < t242.length) = True := eq_true (by omega)
  (try rw [show ((0 : Int)).toNat = 0 from rfl] at hx247_0)
  (try rw [Addr.add_zero'] at hx247_0)
  replace p247 := eq_true p247
  replace q247 := eq_true q247
  have p248 : 0 ≤ (1 : Int) := (by omega)
  have q248 : 1 < (t242.length : Int) := of_decide_eq_true (by first | (with_reducible assumption) | assumption)
  obtain ⟨ad248, e248, hx248_0⟩ := Kd.at_int (Kd.R_reads' HO245.out).2.2 1 p248 q248
  obtain rfl : ad247 = ad248 := (by injection e248)
  (try simp only [show (1 : Int).toNat = 1 from rfl, Nat.reduceMul, Nat.reduceEqDiff, Go.Addr.add, ↓reduceIte] at hx248_0)
  have qi248 : (1 < t242.length) = True := eq_true (by omega)
  (try rw [show ((1 : Int)).toNat = 1 from rfl] at hx248_0)
  replace p248 := eq_true p248
  replace q248 := eq_true q248
  have p249 : 0 ≤ (2 : Int) := (by omega)
  have q249 : 2 < (t242.length : Int) := of_decide_eq_true (by first | (with_reducible assumption) | assumption)
  obtain ⟨ad249, e249, hx249_0⟩ := Kd.at_int (Kd.R_reads' HO245.out).2.2 2 p249 q249
  obtain rfl : ad247 = ad249 := (by injection e249)
  (try simp only [show (2 : Int).toNat = 2 from rfl, Nat.reduceMul, Nat.reduceEqDiff, Go.Addr.add, ↓reduceIte] at hx249_0)
  have qi249 : (2 < t242.length) = True := eq_true (by omega)
  (try rw [show ((2 : Int)).toNat = 2 from rfl] at hx249_0)
  replace p249 := eq_true p249
  replace q249 := eq_true q249
  have p250 : 0 ≤ (3 : Int) := (by omega)
  have q250 : 3 < (t242.length : Int) := of_decide_eq_true (by first | (with_reducible assumption) | assumption)
  obtain ⟨ad250, e250, hx250_0⟩ := Kd.at_int (Kd.R_reads' HO245.out).2.2 3 p250 q250
  obtain rfl : ad247 = ad250 := (by injection e250)
  (try simp only [show (3 : Int).toNat = 3 from rfl, Nat.reduceMul, Nat.reduceEqDiff, Go.Addr.add, ↓reduceIte] at hx250_0)
  have qi250 : (3 < t242.length) = True := eq_true (by omega)
  (try rw [show ((3 : Int)).toNat = 3 from rfl] at hx250_0)
  replace p250 := eq_true p250
  replace q250 := eq_true q250
  refine start_ (n := 18) (S := fun w' => w'.cell? ⟨ad246.block, ad246.off + 1, none⟩ = some (.string (rdOf ByteArray.empty l0 1)) ∧ w'.cell? ad247 = some (.int .i64 (rd t242 0)) ∧ w'.cell? ⟨ad247.block, ad247.off + 1, none⟩ = some (.int .i64 (rd t242 1)) ∧ w'.cell? ⟨ad247.block, ad247.off + 2, none⟩ = some (.int .i64 (rd t242 2)) ∧ w'.cell? ⟨ad247.block, ad247.off + 3, none⟩ = some (.int .i64 (rd t242 3))) (ds := []) (bs 18 0) (by kernel_rfl) rfl rfl ⟨((HB.out.cell (World.block_lt_of_cell? w _ hw246_0)).trans hw246_0), hx247_0, hx248_0, hx249_0, hx250_0⟩ (fun hHeld => ?_); refine with_tabW text_tasked.tab9 text_tasked.bits9 (fun HT_ HW_ => ?_)
  generalize w25.drew = w26 at HO245 BK238 HB hx246_0 hx247_0 hx248_0 hx249_0 hx250_0 hHeld ⊢
  refine pure_ (i := 0) (N := some 30) (v := ?_) (a' := ?_) (bs 18 1) rfl rfl (any_of HT_.out (by kernel_rfl)) (fun _ _ _ h => h) (Or.inl ⟨by rfl, ?_⟩) ?_ ?_
  rotate_left
  · intro w'
    go_simp
    with_reducible rfl
  rotate_left
  · simp only [Act.put, List.setIfInBounds_toArray, List.set_cons_zero, List.set_cons_succ, i64_w, i32_w]
    rfl
  refine pure_ (i := 1) (N := some 31) (v := ?_) (a' := ?_) (bs 18 3) rfl rfl (any_of HT_.out (by kernel_rfl)) (fun _ _ _ h => h) (Or.inl ⟨by rfl, ?_⟩) ?_ ?_
  rotate_left
  · intro w'
    go_simp
    with_reducible rfl
  rotate_left
  · simp only [Act.put, List.setIfInBounds_toArray, List.set_cons_zero, List.set_cons_succ, i64_w, i32_w]
    rfl
  refine pure_ (i := 3) (N := some 33) (v := ?_) (a' := ?_) (bs 18 11) rfl rfl (any_of HT_.out (by kernel_rfl)) (fun _ _ _ h => h) (Or.inl ⟨by rfl, ?_⟩) ?_ ?_
  rotate_left
  · intro w'
    go_simp
    with_reducible rfl
  rotate_left
  · simp only [Act.put, List.setIfInBounds_toArray, List.set_cons_zero, List.set_cons_succ, i64_w, i32_w]
    rfl
  refine pure_ (i := 4) (N := some 34) (v := ?_) (a' := ?_) (bs 18 27) rfl rfl (any_of HT_.out (by kernel_rfl)) (fun _ _ _ h => h) (Or.inl ⟨by rfl, ?_⟩) ?_ ?_
  rotate_left
  · intro w'
    go_simp
    with_reducible rfl
  rotate_left
  · simp only [Act.put, List.setIfInBounds_toArray, List.set_cons_zero, List.set_cons_succ, i64_w, i32_w]
    rfl
  refine pure_ (i := 6) (N := some 36) (v := ?_) (a' := ?_) (bs 18 91) rfl rfl (any_of HT_.out (by kernel_rfl)) (fun _ _ _ h => h) (Or.inl ⟨by rfl, ?_⟩) ?_ ?_
  rotate_left
  · intro w'
    go_simp
    with_reducible rfl
  rotate_left
  · simp only [Act.put, List.setIfInBounds_toArray, List.set_cons_zero, List.set_cons_succ, i64_w, i32_w]
    rfl
  refine pure_ (i := 7) (N := some 37) (v := ?_) (a' := ?_) (bs 18 219) rfl rfl (any_of HT_.out (by kernel_rfl)) (fun _ _ _ h => h) (Or.inl ⟨by rfl, ?_⟩) ?_ ?_
  rotate_left
  · intro w'
    go_simp
    with_reducible rfl
  rotate_left
  · simp only [Act.put, List.setIfInBounds_toArray, List.set_cons_zero, List.set_cons_succ, i64_w, i32_w]
    rfl
  refine pure_ (i := 9) (N := some 39) (v := ?_) (a' := ?_) (bs 18 731) rfl rfl (any_of HT_.out (by kernel_rfl)) (fun _ _ _ h => h) (Or.inl ⟨by rfl, ?_⟩) ?_ ?_
  rotate_left
  · intro w'
    go_simp
    with_reducible rfl
  rotate_left
  · simp only [Act.put, List.setIfInBounds_toArray, List.set_cons_zero, List.set_cons_succ, i64_w, i32_w]
    rfl
  refine pure_ (i := 10) (N := some 40) (v := ?_) (a' := ?_) (bs 18 1755) rfl rfl (any_of HT_.out (by kernel_rfl)) (fun _ _ _ h => h) (Or.inl ⟨by rfl, ?_⟩) ?_ ?_
  rotate_left
  · intro w'
    go_simp
    with_reducible rfl
  rotate_left
  · simp only [Act.put, List.setIfInBounds_toArray, List.set_cons_zero, List.set_cons_succ, i64_w, i32_w]
    rfl
  refine pure_ (i := 12) (N := some 42) (v := ?_) (a' := ?_) (bs 18 5851) rfl rfl (any_of HT_.out (by kernel_rfl)) (fun _ _ _ h => h) (Or.inl ⟨by rfl, ?_⟩) ?_ ?_
  rotate_left
  · intro w'
    go_simp
    with_reducible rfl
  rotate_left
  · simp only [Act.put, List.setIfInBounds_toArray, List.set_cons_zero, List.set_cons_succ, i64_w, i32_w]
    rfl
  refine pure_ (i := 13) (N := some 43) (v := ?_) (a' := ?_) (bs 18 14043) rfl rfl (any_of HT_.out (by kernel_rfl)) (fun _ _ _ h => h) (Or.inl ⟨by rfl, ?_⟩) ?_ ?_
  rotate_left
  · intro w'
    go_simp
    with_reducible rfl
  rotate_left
  · simp only [Act.put, List.setIfInBounds_toArray, List.set_cons_zero, List.set_cons_succ, i64_w, i32_w]
    rfl
  refine take_ (i := 2) (N := some 32) (v := ?_) (a' := ?_) (bs 18 14047) rfl rfl (take_ofW HT_.out HW_.out (by kernel_rfl)) (fun _ _ _ h => h) (Or.inl ⟨by rfl, ?_⟩) hHeld ?_ ?_
  rotate_left
  · rintro w' ⟨s0, s1, s2, s3, s4⟩
    go_simp
    with_reducible rfl
  rotate_left
  · simp only [Act.put, List.setIfInBounds_toArray, List.set_cons_zero, List.set_cons_succ, i64_w, i32_w]
    rfl
  refine take_ (i := 5) (N := some 35) (v := ?_) (a' := ?_) (bs 18 14079) rfl rfl (take_ofW HT_.out HW_.out (by kernel_rfl)) (fun _ _ _ h => h) (Or.inl ⟨by rfl, ?_⟩) hHeld ?_ ?_
  rotate_left
  · rintro w' ⟨s0, s1, s2, s3, s4⟩
    go_simp
    with_reducible rfl
  rotate_left
  · simp only [Act.put, List.setIfInBounds_toArray, List.set_cons_zero, List.set_cons_succ, i64_w, i32_w]
    rfl
  refine take_ (i := 8) (N := some 38) (v := ?_) (a' := ?_) (bs 18 14335) rfl rfl (take_ofW HT_.out HW_.out (by kernel_rfl)) (fun _ _ _ h => h) (Or.inl ⟨by rfl, ?_⟩) hHeld ?_ ?_
  rotate_left
  · rintro w' ⟨s0, s1, s2, s3, s4⟩
    go_simp
    with_reducible rfl
  rotate_left
  · simp only [Act.put, List.setIfInBounds_toArray, List.set_cons_zero, List.set_cons_succ, i64_w, i32_w]
    rfl
  refine take_ (i := 11) (N := some 41) (v := ?_) (a' := ?_) (bs 18 16383) rfl rfl (take_ofW HT_.out HW_.out (by kernel_rfl)) (fun _ _ _ h => h) (Or.inl ⟨by rfl, ?_⟩) hHeld ?_ ?_
  rotate_left
  · rintro w' ⟨s0, s1, s2, s3, s4⟩
    go_simp
    with_reducible rfl
  rotate_left
  · simp only [Act.put, List.setIfInBounds_toArray, List.set_cons_zero, List.set_cons_succ, i64_w, i32_w]
    rfl
  refine take_ (i := 14) (N := some 44) (v := ?_) (a' := ?_) (bs 18 32767) rfl rfl (take_ofW HT_.out HW_.out (by kernel_rfl)) (fun _ _ _ h => h) (Or.inl ⟨by rfl, ?_⟩) hHeld ?_ ?_
  rotate_left
  · rintro w' ⟨s0, s1, s2, s3, s4⟩
    go_simp
    with_reducible rfl
  rotate_left
  · simp only [Act.put, List.setIfInBounds_toArray, List.set_cons_zero, List.set_cons_succ, i64_w, i32_w]
    rfl
  refine pure_ (i := 15) (N := some 45) (v := ?_) (a' := ?_) (bs 18 65535) rfl rfl (any_of HT_.out (by kernel_rfl)) (fun _ _ _ h => h) (Or.inl ⟨by rfl, ?_⟩) ?_ ?_
  rotate_left
  · intro w'
    go_simp
    with_reducible rfl
  rotate_left
  · simp only [Act.put, List.setIfInBounds_toArray, List.set_cons_zero, List.set_cons_succ, i64_w, i32_w]
    rfl
  refine one_ (i := 16) (N := some 7) (bs 18 131071) rfl rfl (one_of HT_.out (by kernel_rfl)) (by decide) (fun K hK => ?_)
  refine box_step ?hg (N := 7) ?hd (cs := #[.string (⟨#[]⟩ : ByteArray), .int .i64 0, .int .i64 0, .int .i64 0, .int .i64 0, .slice none 0 0]) (t := 53) ?hr ?_; (case hd => rfl); (case hg => rfl); (case hr => first | (go_simp; done) | (go_simp; rfl))
  intro gb251 hg w28 hbox hb
  have HS1_ := (hb.cell (World.block_lt_of_cell? _ _ (hHeld.2.1))).trans (hHeld.2.1)
  have HS2_ := (hb.cell (World.block_lt_of_cell? _ _ (hHeld.2.2.1))).trans (hHeld.2.2.1)
  have HS3_ := (hb.cell (World.block_lt_of_cell? _ _ (hHeld.2.2.2.1))).trans (hHeld.2.2.2.1)
  have HS4_ := (hb.cell (World.block_lt_of_cell? _ _ (hHeld.2.2.2.2))).trans (hHeld.2.2.2.2)
  have n0_ := Aside0.mk (Kd.R_below (by (with_reducible repeat (first | apply Kd.R_alloc | apply Kd.R_drewN | apply Kd.R_drew)); exact HO245.out) hb)
  have n1_ := Aside0.mk (blk_below BK238.out hb)
  have n2_ := Aside0.mk (below_step (HB.out) hb)
  have n3_ := Aside0.mk (hbox)
  have n4_ := Aside0.mk ((by rw [hg]; exact (below_size (HB.out)) : w.heap.size ≤ gb251))
  have n5_ := Aside0.mk ((by rw [hg]; exact (below_size (HB.out)) : w.heap.size ≤ gb251))
  have n6_ := Aside0.mk ((by rw [hg]; exact Nat.ne_of_lt (blk_lt BK238.out) : gb238 ≠ gb251))
  have n7_ := Aside0.mk ((by rw [hg]; exact Nat.ne_of_gt (blk_lt BK238.out) : gb251 ≠ gb238))
  clear HO245
  clear BK238
  clear HB
  have HO245 := n0_
  have BK238 := n1_
  have HB := n2_
  have BK251 := n3_
  have GW251 := n4_
  have GE251 := n5_
  have NB238_251 := n6_
  have NB251_238 := n7_
  clear n0_ n1_ n2_ n3_ n4_ n5_ n6_ n7_
  clear hb hbox hg
  refine hK.out _ _ ⟨((HB.out.cell (World.block_lt_of_cell? w _ hw246_0)).trans hw246_0), HS1_, HS2_, HS3_, HS4_⟩ (fun hHeld => ?_)
  clear hK K
  refine norm_ (a' := ?_) ?_ ?_
  rotate_left
  · show Act.put _ (some 7) _ = _
    simp only [Act.put, List.setIfInBounds_toArray, List.set_cons_zero, List.set_cons_succ, i64_w, i32_w]
    rfl
  refine one_ (i := 17) (N := none) (bs 18 262143) rfl rfl (one_of HT_.out (by kernel_rfl)) (by decide) (fun K hK => ?_)
  have hs29 : w28.cell? ⟨gb251, 0, none⟩ = some (.string (⟨#[]⟩ : ByteArray)) := (blk_cell BK251.out 0).trans rfl
  have hfs29 := blk_frozen BK251.out 0
  have hns29_0 := NB238_251.out
  have hms29_0 := NB251_238.out
  have hs30 : w28.cell? ⟨gb251, 1, none⟩ = some (.int .i64 0) := (blk_cell BK251.out 1).trans rfl
  have hfs30 := blk_frozen BK251.out 1
  have hns30_0 := NB238_251.out
  have hms30_0 := NB251_238.out
  have hs31 : w28.cell? ⟨gb251, 2, none⟩ = some (.int .i64 0) := (blk_cell BK251.out 2).trans rfl
  have hfs31 := blk_frozen BK251.out 2
  have hns31_0 := NB238_251.out
  have hms31_0 := NB251_238.out
  have hs32 : w28.cell? ⟨gb251, 3, none⟩ = some (.int .i64 0) := (blk_cell BK251.out 3).trans rfl
  have hfs32 := blk_frozen BK251.out 3
  have hns32_0 := NB238_251.out
  have hms32_0 := NB251_238.out
  have hs33 : w28.cell? ⟨gb251, 4, none⟩ = some (.int .i64 0) := (blk_cell BK251.out 4).trans rfl
  have hfs33 := blk_frozen BK251.out 4
  have hns33_0 := NB238_251.out
  have hms33_0 := NB251_238.out
  have hs34 : w28.cell? ⟨gb251, 5, none⟩ = some (.slice none 0 0) := (blk_cell BK251.out 5).trans rfl
  have hfs34 := blk_frozen BK251.out 5
  have hns34_0 := NB238_251.out
  have hms34_0 := NB251_238.out
  refine skip_ (w1 := ?_) (by rfl) rfl ?_ ?_
  rotate_left
  · go_simp
    rfl
  refine hK.out _ _ ⟨((cell_far (p := ⟨gb251, _, none⟩) (by first | exact Nat.ne_of_lt (Nat.lt_of_lt_of_le (by have := World.block_lt_of_cell? _ _ hw246_0; first | rwa [add_block] at this | exact this) GW251.out) | (rw [add_block]; exact Nat.ne_of_lt (Nat.lt_of_lt_of_le (by have := World.block_lt_of_cell? _ _ hw246_0; first | rwa [add_block] at this | exact this) GW251.out)) | (show (Addr.add _ _).block ≠ _; rw [add_block]; exact Nat.ne_of_lt (Nat.lt_of_lt_of_le (by have := World.block_lt_of_cell? _ _ hw246_0; first | rwa [add_block] at this | exact this) GW251.out)) | (dsimp only; exact Nat.ne_of_lt (Nat.lt_of_lt_of_le (by have := World.block_lt_of_cell? _ _ hw246_0; first | rwa [add_block] at this | exact this) GW251.out))) _).trans (((cell_far (p := ⟨gb251, _, none⟩) (by first | exact Nat.ne_of_lt (Nat.lt_of_lt_of_le (by have := World.block_lt_of_cell? _ _ hw246_0; first | rwa [add_block] at this | exact this) GW251.out) | (rw [add_block]; exact Nat.ne_of_lt (Nat.lt_of_lt_of_le (by have := World.block_lt_of_cell? _ _ hw246_0; first | rwa [add_block] at this | exact this) GW251.out)) | (show (Addr.add _ _).block ≠ _; rw [add_block]; exact Nat.ne_of_lt (Nat.lt_of_lt_of_le (by have := World.block_lt_of_cell? _ _ hw246_0; first | rwa [add_block] at this | exact this) GW251.out)) | (dsimp only; exact Nat.ne_of_lt (Nat.lt_of_lt_of_le (by have := World.block_lt_of_cell? _ _ hw246_0; first | rwa [add_block] at this | exact this) GW251.out))) _).trans (((cell_far (p := ⟨gb251, _, none⟩) (by first | exact Nat.ne_of_lt (Nat.lt_of_lt_of_le (by have := World.block_lt_of_cell? _ _ hw246_0; first | rwa [add_block] at this | exact this) GW251.out) | (rw [add_block]; exact Nat.ne_of_lt (Nat.lt_of_lt_of_le (by have := World.block_lt_of_cell? _ _ hw246_0; first | rwa [add_block] at this | exact this) GW251.out)) | (show (Addr.add _ _).block ≠ _; rw [add_block]; exact Nat.ne_of_lt (Nat.lt_of_lt_of_le (by have := World.block_lt_of_cell? _ _ hw246_0; first | rwa [add_block] at this | exact this) GW251.out)) | (dsimp only; exact Nat.ne_of_lt (Nat.lt_of_lt_of_le (by have := World.block_lt_of_cell? _ _ hw246_0; first | rwa [add_block] at this | exact this) GW251.out))) _).trans (((cell_far (p := ⟨gb251, _, none⟩) (by first | exact Nat.ne_of_lt (Nat.lt_of_lt_of_le (by have := World.block_lt_of_cell? _ _ hw246_0; first | rwa [add_block] at this | exact this) GW251.out) | (rw [add_block]; exact Nat.ne_of_lt (Nat.lt_of_lt_of_le (by have := World.block_lt_of_cell? _ _ hw246_0; first | rwa [add_block] at this | exact this) GW251.out)) | (show (Addr.add _ _).block ≠ _; rw [add_block]; exact Nat.ne_of_lt (Nat.lt_of_lt_of_le (by have := World.block_lt_of_cell? _ _ hw246_0; first | rwa [add_block] at this | exact this) GW251.out)) | (dsimp only; exact Nat.ne_of_lt (Nat.lt_of_lt_of_le (by have := World.block_lt_of_cell? _ _ hw246_0; first | rwa [add_block] at this | exact this) GW251.out))) _).trans (((cell_far (p := ⟨gb251, _, none⟩) (by first | exact Nat.ne_of_lt (Nat.lt_of_lt_of_le (by have := World.block_lt_of_cell? _ _ hw246_0; first | rwa [add_block] at this | exact this) GW251.out) | (rw [add_block]; exact Nat.ne_of_lt (Nat.lt_of_lt_of_le (by have := World.block_lt_of_cell? _ _ hw246_0; first | rwa [add_block] at this | exact this) GW251.out)) | (show (Addr.add _ _).block ≠ _; rw [add_block]; exact Nat.ne_of_lt (Nat.lt_of_lt_of_le (by have := World.block_lt_of_cell? _ _ hw246_0; first | rwa [add_block] at this | exact this) GW251.out)) | (dsimp only; exact Nat.ne_of_lt (Nat.lt_of_lt_of_le (by have := World.block_lt_of_cell? _ _ hw246_0; first | rwa [add_block] at this | exact this) GW251.out))) _).trans (((cell_far (p := ⟨gb251, _, none⟩) (by first | exact Nat.ne_of_lt (Nat.lt_of_lt_of_le (by have := World.block_lt_of_cell? _ _ hw246_0; first | rwa [add_block] at this | exact this) GW251.out) | (rw [add_block]; exact Nat.ne_of_lt (Nat.lt_of_lt_of_le (by have := World.block_lt_of_cell? _ _ hw246_0; first | rwa [add_block] at this | exact this) GW251.out)) | (show (Addr.add _ _).block ≠ _; rw [add_block]; exact Nat.ne_of_lt (Nat.lt_of_lt_of_le (by have := World.block_lt_of_cell? _ _ hw246_0; first | rwa [add_block] at this | exact this) GW251.out)) | (dsimp only; exact Nat.ne_of_lt (Nat.lt_of_lt_of_le (by have := World.block_lt_of_cell? _ _ hw246_0; first | rwa [add_block] at this | exact this) GW251.out))) _).trans (hHeld.1)))))))))))), ((cell_far (p := ⟨gb251, _, none⟩) (by first | exact Kd.own_blk (Kd.R_ne HO245.out BK251.out (by decide)) | (rw [add_block]; exact Kd.own_blk (Kd.R_ne HO245.out BK251.out (by decide))) | (show (Addr.add _ _).block ≠ _; rw [add_block]; exact Kd.own_blk (Kd.R_ne HO245.out BK251.out (by decide))) | (dsimp only; exact Kd.own_blk (Kd.R_ne HO245.out BK251.out (by decide)))) _).trans (((cell_far (p := ⟨gb251, _, none⟩) (by first | exact Kd.own_blk (Kd.R_ne HO245.out BK251.out (by decide)) | (rw [add_block]; exact Kd.own_blk (Kd.R_ne HO245.out BK251.out (by decide))) | (show (Addr.add _ _).block ≠ _; rw [add_block]; exact Kd.own_blk (Kd.R_ne HO245.out BK251.out (by decide))) | (dsimp only; exact Kd.own_blk (Kd.R_ne HO245.out BK251.out (by decide)))) _).trans (((cell_far (p := ⟨gb251, _, none⟩) (by first | exact Kd.own_blk (Kd.R_ne HO245.out BK251.out (by decide)) | (rw [add_block]; exact Kd.own_blk (Kd.R_ne HO245.out BK251.out (by decide))) | (show (Addr.add _ _).block ≠ _; rw [add_block]; exact Kd.own_blk (Kd.R_ne HO245.out BK251.out (by decide))) | (dsimp only; exact Kd.own_blk (Kd.R_ne HO245.out BK251.out (by decide)))) _).trans (((cell_far (p := ⟨gb251, _, none⟩) (by first | exact Kd.own_blk (Kd.R_ne HO245.out BK251.out (by decide)) | (rw [add_block]; exact Kd.own_blk (Kd.R_ne HO245.out BK251.out (by decide))) | (show (Addr.add _ _).block ≠ _; rw [add_block]; exact Kd.own_blk (Kd.R_ne HO245.out BK251.out (by decide))) | (dsimp only; exact Kd.own_blk (Kd.R_ne HO245.out BK251.out (by decide)))) _).trans (((cell_far (p := ⟨gb251, _, none⟩) (by first | exact Kd.own_blk (Kd.R_ne HO245.out BK251.out (by decide)) | (rw [add_block]; exact Kd.own_blk (Kd.R_ne HO245.out BK251.out (by decide))) | (show (Addr.add _ _).block ≠ _; rw [add_block]; exact Kd.own_blk (Kd.R_ne HO245.out BK251.out (by decide))) | (dsimp only; exact Kd.own_blk (Kd.R_ne HO245.out BK251.out (by decide)))) _).trans (((cell_far (p := ⟨gb251, _, none⟩) (by first | exact Kd.own_blk (Kd.R_ne HO245.out BK251.out (by decide)) | (rw [add_block]; exact Kd.own_blk (Kd.R_ne HO245.out BK251.out (by decide))) | (show (Addr.add _ _).block ≠ _; rw [add_block]; exact Kd.own_blk (Kd.R_ne HO245.out BK251.out (by decide))) | (dsimp only; exact Kd.own_blk (Kd.R_ne HO245.out BK251.out (by decide)))) _).trans (hHeld.2.1)))))))))))), ((cell_far (p := ⟨gb251, _, none⟩) (by first | exact Kd.own_blk (Kd.R_ne HO245.out BK251.out (by decide)) | (rw [add_block]; exact Kd.own_blk (Kd.R_ne HO245.out BK251.out (by decide))) | (show (Addr.add _ _).block ≠ _; rw [add_block]; exact Kd.own_blk (Kd.R_ne HO245.out BK251.out (by decide))) | (dsimp only; exact Kd.own_blk (Kd.R_ne HO245.out BK251.out (by decide)))) _).trans (((cell_far (p := ⟨gb251, _, none⟩) (by first | exact Kd.own_blk (Kd.R_ne HO245.out BK251.out (by decide)) | (rw [add_block]; exact Kd.own_blk (Kd.R_ne HO245.out BK251.out (by decide))) | (show (Addr.add _ _).block ≠ _; rw [add_block]; exact Kd.own_blk (Kd.R_ne HO245.out BK251.out (by decide))) | (dsimp only; exact Kd.own_blk (Kd.R_ne HO245.out BK251.out (by decide)))) _).trans (((cell_far (p := ⟨gb251, _, none⟩) (by first | exact Kd.own_blk (Kd.R_ne HO245.out BK251.out (by decide)) | (rw [add_block]; exact Kd.own_blk (Kd.R_ne HO245.out BK251.out (by decide))) | (show (Addr.add _ _).block ≠ _; rw [add_block]; exact Kd.own_blk (Kd.R_ne HO245.out BK251.out (by decide))) | (dsimp only; exact Kd.own_blk (Kd.R_ne HO245.out BK251.out (by decide)))) _).trans (((cell_far (p := ⟨gb251, _, none⟩) (by first | exact Kd.own_blk (Kd.R_ne HO245.out BK251.out (by decide)) | (rw [add_block]; exact Kd.own_blk (Kd.R_ne HO245.out BK251.out (by decide))) | (show (Addr.add _ _).block ≠ _; rw [add_block]; exact Kd.own_blk (Kd.R_ne HO245.out BK251.out (by decide))) | (dsimp only; exact Kd.own_blk (Kd.R_ne HO245.out BK251.out (by decide)))) _).trans (((cell_far (p := ⟨gb251, _, none⟩) (by first | exact Kd.own_blk (Kd.R_ne HO245.out BK251.out (by decide)) | (rw [add_block]; exact Kd.own_blk (Kd.R_ne HO245.out BK251.out (by decide))) | (show (Addr.add _ _).block ≠ _; rw [add_block]; exact Kd.own_blk (Kd.R_ne HO245.out BK251.out (by decide))) | (dsimp only; exact Kd.own_blk (Kd.R_ne HO245.out BK251.out (by decide)))) _).trans (((cell_far (p := ⟨gb251, _, none⟩) (by first | exact Kd.own_blk (Kd.R_ne HO245.out BK251.out (by decide)) | (rw [add_block]; exact Kd.own_blk (Kd.R_ne HO245.out BK251.out (by decide))) | (show (Addr.add _ _).block ≠ _; rw [add_block]; exact Kd.own_blk (Kd.R_ne HO245.out BK251.out (by decide))) | (dsimp only; exact Kd.own_blk (Kd.R_ne HO245.out BK251.out (by decide)))) _).trans (hHeld.2.2.1)))))))))))), ((cell_far (p := ⟨gb251, _, none⟩) (by first | exact Kd.own_blk (Kd.R_ne HO245.out BK251.out (by decide)) | (rw [add_block]; exact Kd.own_blk (Kd.R_ne HO245.out BK251.out (by decide))) | (show (Addr.add _ _).block ≠ _; rw [add_block]; exact Kd.own_blk (Kd.R_ne HO245.out BK251.out (by decide))) | (dsimp only; exact Kd.own_blk (Kd.R_ne HO245.out BK251.out (by decide)))) _).trans (((cell_far (p := ⟨gb251, _, none⟩) (by first | exact Kd.own_blk (Kd.R_ne HO245.out BK251.out (by decide)) | (rw [add_block]; exact Kd.own_blk (Kd.R_ne HO245.out BK251.out (by decide))) | (show (Addr.add _ _).block ≠ _; rw [add_block]; exact Kd.own_blk (Kd.R_ne HO245.out BK251.out (by decide))) | (dsimp only; exact Kd.own_blk (Kd.R_ne HO245.out BK251.out (by decide)))) _).trans (((cell_far (p := ⟨gb251, _, none⟩) (by first | exact Kd.own_blk (Kd.R_ne HO245.out BK251.out (by decide)) | (rw [add_block]; exact Kd.own_blk (Kd.R_ne HO245.out BK251.out (by decide))) | (show (Addr.add _ _).block ≠ _; rw [add_block]; exact Kd.own_blk (Kd.R_ne HO245.out BK251.out (by decide))) | (dsimp only; exact Kd.own_blk (Kd.R_ne HO245.out BK251.out (by decide)))) _).trans (((cell_far (p := ⟨gb251, _, none⟩) (by first | exact Kd.own_blk (Kd.R_ne HO245.out BK251.out (by decide)) | (rw [add_block]; exact Kd.own_blk (Kd.R_ne HO245.out BK251.out (by decide))) | (show (Addr.add _ _).block ≠ _; rw [add_block]; exact Kd.own_blk (Kd.R_ne HO245.out BK251.out (by decide))) | (dsimp only; exact Kd.own_blk (Kd.R_ne HO245.out BK251.out (by decide)))) _).trans (((cell_far (p := ⟨gb251, _, none⟩) (by first | exact Kd.own_blk (Kd.R_ne HO245.out BK251.out (by decide)) | (rw [add_block]; exact Kd.own_blk (Kd.R_ne HO245.out BK251.out (by decide))) | (show (Addr.add _ _).block ≠ _; rw [add_block]; exact Kd.own_blk (Kd.R_ne HO245.out BK251.out (by decide))) | (dsimp only; exact Kd.own_blk (Kd.R_ne HO245.out BK251.out (by decide)))) _).trans (((cell_far (p := ⟨gb251, _, none⟩) (by first | exact Kd.own_blk (Kd.R_ne HO245.out BK251.out (by decide)) | (rw [add_block]; exact Kd.own_blk (Kd.R_ne HO245.out BK251.out (by decide))) | (show (Addr.add _ _).block ≠ _; rw [add_block]; exact Kd.own_blk (Kd.R_ne HO245.out BK251.out (by decide))) | (dsimp only; exact Kd.own_blk (Kd.R_ne HO245.out BK251.out (by decide)))) _).trans (hHeld.2.2.2.1)))))))))))), ((cell_far (p := ⟨gb251, _, none⟩) (by first | exact Kd.own_blk (Kd.R_ne HO245.out BK251.out (by decide)) | (rw [add_block]; exact Kd.own_blk (Kd.R_ne HO245.out BK251.out (by decide))) | (show (Addr.add _ _).block ≠ _; rw [add_block]; exact Kd.own_blk (Kd.R_ne HO245.out BK251.out (by decide))) | (dsimp only; exact Kd.own_blk (Kd.R_ne HO245.out BK251.out (by decide)))) _).trans (((cell_far (p := ⟨gb251, _, none⟩) (by first | exact Kd.own_blk (Kd.R_ne HO245.out BK251.out (by decide)) | (rw [add_block]; exact Kd.own_blk (Kd.R_ne HO245.out BK251.out (by decide))) | (show (Addr.add _ _).block ≠ _; rw [add_block]; exact Kd.own_blk (Kd.R_ne HO245.out BK251.out (by decide))) | (dsimp only; exact Kd.own_blk (Kd.R_ne HO245.out BK251.out (by decide)))) _).trans (((cell_far (p := ⟨gb251, _, none⟩) (by first | exact Kd.own_blk (Kd.R_ne HO245.out BK251.out (by decide)) | (rw [add_block]; exact Kd.own_blk (Kd.R_ne HO245.out BK251.out (by decide))) | (show (Addr.add _ _).block ≠ _; rw [add_block]; exact Kd.own_blk (Kd.R_ne HO245.out BK251.out (by decide))) | (dsimp only; exact Kd.own_blk (Kd.R_ne HO245.out BK251.out (by decide)))) _).trans (((cell_far (p := ⟨gb251, _, none⟩) (by first | exact Kd.own_blk (Kd.R_ne HO245.out BK251.out (by decide)) | (rw [add_block]; exact Kd.own_blk (Kd.R_ne HO245.out BK251.out (by decide))) | (show (Addr.add _ _).block ≠ _; rw [add_block]; exact Kd.own_blk (Kd.R_ne HO245.out BK251.out (by decide))) | (dsimp only; exact Kd.own_blk (Kd.R_ne HO245.out BK251.out (by decide)))) _).trans (((cell_far (p := ⟨gb251, _, none⟩) (by first | exact Kd.own_blk (Kd.R_ne HO245.out BK251.out (by decide)) | (rw [add_block]; exact Kd.own_blk (Kd.R_ne HO245.out BK251.out (by decide))) | (show (Addr.add _ _).block ≠ _; rw [add_block]; exact Kd.own_blk (Kd.R_ne HO245.out BK251.out (by decide))) | (dsimp only; exact Kd.own_blk (Kd.R_ne HO245.out BK251.out (by decide)))) _).trans (((cell_far (p := ⟨gb251, _, none⟩) (by first | exact Kd.own_blk (Kd.R_ne HO245.out BK251.out (by decide)) | (rw [add_block]; exact Kd.own_blk (Kd.R_ne HO245.out BK251.out (by decide))) | (show (Addr.add _ _).block ≠ _; rw [add_block]; exact Kd.own_blk (Kd.R_ne HO245.out BK251.out (by decide))) | (dsimp only; exact Kd.own_blk (Kd.R_ne HO245.out BK251.out (by decide)))) _).trans (hHeld.2.2.2.2))))))))))))⟩ (fun hHeld => ?_)
  clear hK K
  refine done_ (done_of HT_.out (by kernel_rfl)) ?_
  obtain ⟨i035, hi035, _, hsz35, _⟩ := info_parts info9
  obtain ⟨A35, hcut35, hA35, hC35⟩ := print_drop_of (P := Tryd.prog) Value.string (⟨#[]⟩ : ByteArray) 26 9 .i64 Tryd.underlying26 hi035 hsz35 (some ad246) c0 l0 6 (by omega) (of_decide_eq_true (by first | (with_reducible assumption) | assumption)) HC0.out
  have HR252 := Aside0.mk (Kd.C_of_reads (h1 := fun _ => rfl) (hA35 _ (Kd.reads_of_C HR0.out)))
  have HC252 := Aside0.mk hC35
  clear hA35 hC35 hi035 hsz35
  try go_wp2
  go_loopg [49] kj3 (fun kq v49 w' => ∃ (x49_2 : Int) (x239000_2 : ByteArray) (x239001_2 : Int) (x239002_2 : Int) (x239003_2 : Int) (x239004_2 : Int) (x252005_2 : List (S50)) (u252005 : Value), v49 = .int .i64 x49_2 ∧ Aside0 (text_tasked.l0 kq x4_3 (l0.drop 6) ((l0.drop 6).length : Int) x49_2 (rdOf ByteArray.empty l0 1) (rd t242 0) (rd t242 1) (rd t242 2) (rd t242 3) x252005_2 = some (r1, r2, r3, r4, r5, r6, r7)) ∧ Aside0 (kq ≤ kj3) ∧ Aside0 (Kd.R k50 50 w' w.heap.size (fun _ => True) u252005 x252005_2) ∧ Aside0 (w'.heap[gb238]? = some (.cells #[.string x239000_2, .int .i64 x239001_2, .int .i64 x239002_2, .int .i64 x239003_2, .int .i64 x239004_2, (.slice none 0 0)] 53 (0, 0))) ∧ Aside0 (w'.heap[gb251]? = some (.cells #[.string (rdOf ByteArray.empty l0 1), .int .i64 (rd t242 0), .int .i64 (rd t242 1), .int .i64 (rd t242 2), .int .i64 (rd t242 3), u252005] 53 (0, 0))) ∧ Aside0 (Below w.heap.size w w'))
  case atStart => exact ⟨(0), ((⟨#[]⟩ : ByteArray)), (0), (0), (0), (0), (([] : List (S50))), (.slice none 0 0), (by first | rfl | (simp; done) | (simp [*]; done)), H', ⟨Nat.le_refl _⟩, ⟨by first | exact Kd.R_nil _ _ _ _ _ | exact Kd.N_nil _ _ _ _ _ | exact Kd.V_nil _ _ _ _ _ | exact Kd.Q_nil _ _ _ _ _ | exact Kd.S_nil _ _ _ _ _⟩, ⟨by (with_reducible repeat (first | refine blk_drewN ?_ _ | refine blk_drew ?_ | refine blk_alloc ?_ _)); refine blk_far ?_ NB238_251.out _; (with_reducible repeat (first | refine blk_drewN ?_ _ | refine blk_drew ?_ | refine blk_alloc ?_ _)); refine blk_far ?_ NB238_251.out _; (with_reducible repeat (first | refine blk_drewN ?_ _ | refine blk_drew ?_ | refine blk_alloc ?_ _)); refine blk_far ?_ NB238_251.out _; (with_reducible repeat (first | refine blk_drewN ?_ _ | refine blk_drew ?_ | refine blk_alloc ?_ _)); refine blk_far ?_ NB238_251.out _; (with_reducible repeat (first | refine blk_drewN ?_ _ | refine blk_drew ?_ | refine blk_alloc ?_ _)); refine blk_far ?_ NB238_251.out _; (with_reducible repeat (first | refine blk_drewN ?_ _ | refine blk_drew ?_ | refine blk_alloc ?_ _)); refine blk_far ?_ NB238_251.out _; (with_reducible repeat (first | refine blk_drewN ?_ _ | refine blk_drew ?_ | refine blk_alloc ?_ _)); exact BK238.out⟩, ⟨by (with_reducible repeat (first | refine blk_drewN ?_ _ | refine blk_drew ?_ | refine blk_alloc ?_ _)); refine blk_put (cs := #[.string (rdOf ByteArray.empty l0 1), .int .i64 (rd t242 0), .int .i64 (rd t242 1), .int .i64 (rd t242 2), .int .i64 (rd t242 3), .slice none 0 0]) ?_ 5 _ rfl; (with_reducible repeat (first | refine blk_drewN ?_ _ | refine blk_drew ?_ | refine blk_alloc ?_ _)); refine blk_put (cs := #[.string (rdOf ByteArray.empty l0 1), .int .i64 (rd t242 0), .int .i64 (rd t242 1), .int .i64 (rd t242 2), .int .i64 0, .slice none 0 0]) ?_ 4 _ rfl; (with_reducible repeat (first | refine blk_drewN ?_ _ | refine blk_drew ?_ | refine blk_alloc ?_ _)); refine blk_put (cs := #[.string (rdOf ByteArray.empty l0 1), .int .i64 (rd t242 0), .int .i64 (rd t242 1), .int .i64 0, .int .i64 0, .slice none 0 0]) ?_ 3 _ rfl; (with_reducible repeat (first | refine blk_drewN ?_ _ | refine blk_drew ?_ | refine blk_alloc ?_ _)); refine blk_put (cs := #[.string (rdOf ByteArray.empty l0 1), .int .i64 (rd t242 0), .int .i64 0, .int .i64 0, .int .i64 0, .slice none 0 0]) ?_ 2 _ rfl; (with_reducible repeat (first | refine blk_drewN ?_ _ | refine blk_drew ?_ | refine blk_alloc ?_ _)); refine blk_put (cs := #[.string (rdOf ByteArray.empty l0 1), .int .i64 0, .int .i64 0, .int .i64 0, .int .i64 0, .slice none 0 0]) ?_ 1 _ rfl; (with_reducible repeat (first | refine blk_drewN ?_ _ | refine blk_drew ?_ | refine blk_alloc ?_ _)); refine blk_put (cs := #[.string (⟨#[]⟩ : ByteArray), .int .i64 0, .int .i64 0, .int .i64 0, .int .i64 0, .slice none 0 0]) ?_ 0 _ rfl; (with_reducible repeat (first | refine blk_drewN ?_ _ | refine blk_drew ?_ | refine blk_alloc ?_ _)); exact BK251.out⟩, ⟨by repeat (first | (with_reducible first | exact HB.out | apply below_alloc | apply pw_below_drewN | apply below_drew1 | refine below_set ?_ GE238.out | refine below_set ?_ GE251.out) | exact HB.out)⟩⟩
  clear H'
  (try clear c1); (try clear c2); (try clear c2b0); (try clear c2b1); (try clear p2); (try clear q2); (try clear hx2); (try clear qi2); (try clear c4); (try clear c5); (try clear c8); (try clear c9); (try clear c9b0); (try clear c9b1); (try clear c11); (try clear c11b0); (try clear c11b1); (try clear c12); (try clear c12b0); (try clear c12b1); (try clear c14); (try clear c18); (try clear c18b0); (try clear c18b1); (try clear c19); (try clear c19b0); (try clear c19b1); (try clear c20); (try clear c20b0); (try clear c20b1); (try clear c21); (try clear c21b0); (try clear c21b1); (try clear c22); (try clear c22b0); (try clear c22b1); (try clear c23); (try clear c23b0); (try clear p24); (try clear q24); (try clear hx24); (try clear qi24); (try clear p25); (try clear q25); (try clear hx25); (try clear qi25); (try clear hcz10_0); (try clear hcz10_1); (try clear hcz10_2); (try clear hcz10_3); (try clear hcz10_4); (try clear hcz10_5); (try clear hcz17_0); (try clear hcz17_1); (try clear hcz17_2); (try clear hcz17_3); (try clear hcz17_4); (try clear hcz17_5); (try clear hfz10_0); (try clear hfz10_1); (try clear hfz10_2); (try clear hfz10_3); (try clear hfz10_4); (try clear hfz10_5); (try clear hfz17_0); (try clear hfz17_1); (try clear hfz17_2); (try clear hfz17_3); (try clear hfz17_4); (try clear hfz17_5); (try clear hx246_0); (try clear hx247_0); (try clear hx248_0); (try clear hx249_0); (try clear hx250_0); (try clear p2); (try clear p246); (try clear p247); (try clear p248); (try clear p249); (try clear p250); (try clear q246); (try clear q247); (try clear q248); (try clear q249); (try clear q250)
  obtain ⟨x49_2, x239000_2, x239001_2, x239002_2, x239003_2, x239004_2, x252005_2, u252005, rfl, HA, HK2, HO_252005, BK238, BK251, HB⟩ := hrel
  cases gk with
  | zero => exact absurd HA.out (by simp [text_tasked.l0])
  | succ k2 => ?_
  have H := HA.out
  clear HA
  simp only [text_tasked.l0] at H
  by_cases c36 : x49_2 < ((l0.drop 6).length : Int)
  rotate_left
  · rw [if_neg c36] at H
    have c36b0 : decide (x49_2 < ((l0.drop 6).length : Int)) = false := decide_eq_false c36
    have c36b0z : decide (x49_2 < ((l0.length - 6 : Nat) : Int)) = false := by rw [← List.length_drop]; exact c36b0
    clear c36
    simp only [Option.some.injEq, Prod.mk.injEq] at H
    obtain ⟨rfl, rfl, rfl, rfl, rfl, rfl, rfl⟩ := H
    have hnb37 := NB251_238.out
    have hnc37 := NB238_251.out
    have hcz38_0 : wr.cell? ⟨gb251, 0, none⟩ = some (.string (rdOf ByteArray.empty l0 1)) := (blk_cell BK251.out 0).trans rfl
    have hcz38_1 : wr.cell? ⟨gb251, 1, none⟩ = some (.int .i64 (rd t242 0)) := (blk_cell BK251.out 1).trans rfl
    have hcz38_2 : wr.cell? ⟨gb251, 2, none⟩ = some (.int .i64 (rd t242 1)) := (blk_cell BK251.out 2).trans rfl
    have hcz38_3 : wr.cell? ⟨gb251, 3, none⟩ = some (.int .i64 (rd t242 2)) := (blk_cell BK251.out 3).trans rfl
    have hcz38_4 : wr.cell? ⟨gb251, 4, none⟩ = some (.int .i64 (rd t242 3)) := (blk_cell BK251.out 4).trans rfl
    have hcz38_5 : wr.cell? ⟨gb251, 5, none⟩ = some (u252005) := (blk_cell BK251.out 5).trans rfl
    have hfz38_0 := blk_frozen BK251.out 0
    have hfz38_1 := blk_frozen BK251.out 1
    have hfz38_2 := blk_frozen BK251.out 2
    have hfz38_3 := blk_frozen BK251.out 3
    have hfz38_4 := blk_frozen BK251.out 4
    have hfz38_5 := blk_frozen BK251.out 5
    have hcz39_0 : wr.cell? ⟨gb238, 0, none⟩ = some (.string x239000_2) := (blk_cell BK238.out 0).trans rfl
    have hcz39_1 : wr.cell? ⟨gb238, 1, none⟩ = some (.int .i64 x239001_2) := (blk_cell BK238.out 1).trans rfl
    have hcz39_2 : wr.cell? ⟨gb238, 2, none⟩ = some (.int .i64 x239002_2) := (blk_cell BK238.out 2).trans rfl
    have hcz39_3 : wr.cell? ⟨gb238, 3, none⟩ = some (.int .i64 x239003_2) := (blk_cell BK238.out 3).trans rfl
    have hcz39_4 : wr.cell? ⟨gb238, 4, none⟩ = some (.int .i64 x239004_2) := (blk_cell BK238.out 4).trans rfl
    have hcz39_5 : wr.cell? ⟨gb238, 5, none⟩ = some (.slice none 0 0) := (blk_cell BK238.out 5).trans rfl
    have hfz39_0 := blk_frozen BK238.out 0
    have hfz39_1 := blk_frozen BK238.out 1
    have hfz39_2 := blk_frozen BK238.out 2
    have hfz39_3 := blk_frozen BK238.out 3
    have hfz39_4 := blk_frozen BK238.out 4
    have hfz39_5 := blk_frozen BK238.out 5
    obtain ⟨Ao40, co40, eo40⟩ := Kd.R_slice HO_252005.out
    subst eo40
    go_wp2
    refine bodyPost_ret (results_ct rfl _ _ gb238 53 #[.string (rdOf ByteArray.empty l0 1), .int .i64 (rd t242 0), .int .i64 (rd t242 1), .int .i64 (rd t242 2), .int .i64 (rd t242 3), .slice Ao40 x252005_2.length co40] (0, 0) _ rfl (by (with_reducible repeat (first | refine blk_drewN ?_ _ | refine blk_drew ?_ | refine blk_alloc ?_ _)); refine blk_put (cs := #[.string (rdOf ByteArray.empty l0 1), .int .i64 (rd t242 0), .int .i64 (rd t242 1), .int .i64 (rd t242 2), .int .i64 (rd t242 3), .slice none 0 0]) ?_ 5 _ rfl; (with_reducible repeat (first | refine blk_drewN ?_ _ | refine blk_drew ?_ | refine blk_alloc ?_ _)); refine blk_put (cs := #[.string (rdOf ByteArray.empty l0 1), .int .i64 (rd t242 0), .int .i64 (rd t242 1), .int .i64 (rd t242 2), .int .i64 x239004_2, .slice none 0 0]) ?_ 4 _ rfl; (with_reducible repeat (first | refine blk_drewN ?_ _ | refine blk_drew ?_ | refine blk_alloc ?_ _)); refine blk_put (cs := #[.string (rdOf ByteArray.empty l0 1), .int .i64 (rd t242 0), .int .i64 (rd t242 1), .int .i64 x239003_2, .int .i64 x239004_2, .slice none 0 0]) ?_ 3 _ rfl; (with_reducible repeat (first | refine blk_drewN ?_ _ | refine blk_drew ?_ | refine blk_alloc ?_ _)); refine blk_put (cs := #[.string (rdOf ByteArray.empty l0 1), .int .i64 (rd t242 0), .int .i64 x239002_2, .int .i64 x239003_2, .int .i64 x239004_2, .slice none 0 0]) ?_ 2 _ rfl; (with_reducible repeat (first | refine blk_drewN ?_ _ | refine blk_drew ?_ | refine blk_alloc ?_ _)); refine blk_put (cs := #[.string (rdOf ByteArray.empty l0 1), .int .i64 x239001_2, .int .i64 x239002_2, .int .i64 x239003_2, .int .i64 x239004_2, .slice none 0 0]) ?_ 1 _ rfl; (with_reducible repeat (first | refine blk_drewN ?_ _ | refine blk_drew ?_ | refine blk_alloc ?_ _)); refine blk_put (cs := #[.string x239000_2, .int .i64 x239001_2, .int .i64 x239002_2, .int .i64 x239003_2, .int .i64 x239004_2, .slice none 0 0]) ?_ 0 _ rfl; (with_reducible repeat (first | refine blk_drewN ?_ _ | refine blk_drew ?_ | refine blk_alloc ?_ _)); exact BK238.out) Tryd.underlying53 rfl (by kernel_rfl)) rfl ?_
    exact ⟨_, by first | rfl | (simp [errW_none, errW_some] <;> rfl) | (simp [*, errW_none, errW_some] <;> rfl), by (with_reducible repeat (first | apply Kd.R_alloc | apply Kd.R_drewN | apply Kd.R_drew)); exact Kd.R_mono (Kd.R_far (p := ⟨gb238, 5, none⟩) (Kd.R_far (p := ⟨gb238, 4, none⟩) (Kd.R_far (p := ⟨gb238, 3, none⟩) (Kd.R_far (p := ⟨gb238, 2, none⟩) (Kd.R_far (p := ⟨gb238, 1, none⟩) (Kd.R_far (p := ⟨gb238, 0, none⟩) (Kd.R_types HO_252005.out BK238.out (by decide)) (fun _ hk => hk.2) (.string (rdOf ByteArray.empty l0 1))) (fun _ hk => hk.2) (.int .i64 (rd t242 0))) (fun _ hk => hk.2) (.int .i64 (rd t242 1))) (fun _ hk => hk.2) (.int .i64 (rd t242 2))) (fun _ hk => hk.2) (.int .i64 (rd t242 3))) (fun _ hk => hk.2) (.slice Ao40 x252005_2.length co40)) (fun _ hk => trivial), by repeat (first | (with_reducible first | exact HB.out | apply below_alloc | apply pw_below_drewN | apply below_drew1 | refine below_set ?_ GE238.out | refine below_set ?_ GE251.out) | exact HB.out)⟩
  rw [if_pos c36] at H
  have c36b0 : decide (x49_2 < ((l0.drop 6).length : Int)) = true := decide_eq_true c36
  have c36b0z : decide (x49_2 < ((l0.length - 6 : Nat) : Int)) = true := by rw [← List.length_drop]; exact c36b0
  clear c36
  by_cases c41 : 0 ≤ x49_2
  rotate_left
  · rw [if_neg c41] at H
    exact absurd H (by simp)
  rw [if_pos c41] at H
  have c41b0 : decide (0 ≤ x49_2) = true := decide_eq_true c41
  clear c41
  by_cases c42 : x49_2 < ((l0.drop 6).length : Int)
  rotate_left
  · rw [if_neg c42] at H
    exact absurd H (by simp)
  rw [if_pos c42] at H
  have c42b0 : decide (x49_2 < ((l0.drop 6).length : Int)) = true := decide_eq_true c42
  have c42b0z : decide (x49_2 < ((l0.length - 6 : Nat) : Int)) = true := by rw [← List.length_drop]; exact c42b0
  clear c42
  replace H := Option.bind_eq_some_iff.mp H
  obtain ⟨⟨t254, t255, t256, t257⟩, A430, H⟩ := H
  replace H : (if t257 = 0 then (if x252005_2.length < 5864062014805 then (text_tasked.l0 k2 x4_3 (l0.drop 6) ((l0.drop 6).length : Int) (wrap64 (x49_2 + 1)) (rdOf ByteArray.empty l0 1) (rd t242 0) (rd t242 1) (rd t242 2) (rd t242 3) (x252005_2 ++ [(⟨t254, t255, t256⟩ : S50)])) else (none)) else (some ((⟨#[]⟩ : ByteArray), 0, 0, 0, 0, ([] : List (S50)), x4_3))) = some (r1, r2, r3, r4, r5, r6, r7) := H
  have A43 := Aside0.mk A430
  clear A430
  by_cases c44 : t257 = 0
  rotate_left
  · rw [if_neg c44] at H
    have c44b0 : (t257 == 0) = false := beq_eq_false_iff_ne.mpr c44
    have c44b1 : (t257 != 0) = true := bne_iff_ne.mpr c44
    simp only [Option.some.injEq, Prod.mk.injEq] at H
    obtain ⟨rfl, rfl, rfl, rfl, rfl, rfl, rfl⟩ := H
    have p253 : 0 ≤ (x49_2 : Int) := of_decide_eq_true (by first | (with_reducible assumption) | assumption)
    have q253 : x49_2 < ((l0.drop 6).length : Int) := of_decide_eq_true (by first | (with_reducible assumption) | assumption)
    obtain ⟨ad253, e253, hx253_0⟩ := Kd.at_string HR252.out x49_2 p253 q253
    cases e253
    replace hx253_0 := (HB.out.cell (World.block_lt_of_cell? w _ hx253_0)).trans hx253_0
    replace p253 := eq_true p253
    replace q253 := eq_true q253
    have q253z : (x49_2 < ((l0.length - 6 : Nat) : Int)) = True := by rw [← List.length_drop]; exact q253
    go_wp2_with (first | ((with_reducible refine gate_callee (f := 58) rfl ?_); refine goesL_ (some 55) rfl rfl Tryd.func58 (by kernel_rfl) rfl #[.string (rdOf ByteArray.empty (l0.drop 6) x49_2)] rfl (by (try simp only [List.map_toArray, List.map_cons, List.map_nil]); first | done | rfl | (simp only [List.length_drop, List.length_take]; rfl)) ?_; (with_reducible refine (text_reads.calls k2 (rdOf ByteArray.empty (l0.drop 6) x49_2) t254 t255 t256 t257 _ ?side1 A43.out).mono ?_); (case side1 => first | exact Glob.below HG.out (HB.out) | (repeat (first | exact Glob.below HG.out HB.out | (with_reducible refine Glob.alloc ?_ _) | (with_reducible refine Glob.drewN ?_ _) | (with_reducible refine Glob.drew ?_)))); rintro e w45 ⟨rfl, hb⟩; refine ⟨_, rfl, ?_⟩; have n0_ := Aside0.mk (Kd.R_below (by (with_reducible repeat (first | apply Kd.R_alloc | apply Kd.R_drewN | apply Kd.R_drew)); exact HO_252005.out) hb); have n1_ := Aside0.mk (blk_below BK238.out hb); have n2_ := Aside0.mk (blk_below BK251.out hb); have n3_ := Aside0.mk (below_step (HB.out) hb); clear HO_252005; clear BK238; clear BK251; clear HB; have HO_252005 := n0_; have BK238 := n1_; have BK251 := n2_; have HB := n3_; clear n0_ n1_ n2_ n3_; (try clear hb); (try clear hb2); (try clear hk); (try clear hi)) | ((with_reducible refine gate_dst (N := 10) rfl ?_); refine box_event ?hg (N := 10) ?hd (cs := #[.int .i64 0, .int .i64 0, .int .i64 0]) (t := 50) ?hr ?_; (case hd => rfl); (case hg => rfl); (case hr => first | (go_simp; done) | (go_simp; rfl)); intro gb258 hg w46 hbox hb; have n0_ := Aside0.mk (Kd.R_below (Kd.R_elderB (by (with_reducible repeat (first | apply Kd.R_alloc | apply Kd.R_drewN | apply Kd.R_drew)); exact HO_252005.out) gb258 (Nat.le_of_eq hg.symm)) hb); have n1_ := Aside0.mk (blk_below BK238.out hb); have n2_ := Aside0.mk (blk_below BK251.out hb); have n3_ := Aside0.mk (below_step (HB.out) hb); have n4_ := Aside0.mk (hbox); have n5_ := Aside0.mk ((by rw [hg]; exact (below_size (HB.out)) : w.heap.size ≤ gb258)); have n6_ := n5_; have n7_ := Aside0.mk ((by rw [hg]; exact Nat.ne_of_lt (blk_lt BK238.out) : gb238 ≠ gb258)); have n8_ := Aside0.mk ((by rw [hg]; exact Nat.ne_of_gt (blk_lt BK238.out) : gb258 ≠ gb238)); have n9_ := Aside0.mk ((by rw [hg]; exact Nat.ne_of_lt (blk_lt BK251.out) : gb251 ≠ gb258)); have n10_ := Aside0.mk ((by rw [hg]; exact Nat.ne_of_gt (blk_lt BK251.out) : gb258 ≠ gb251)); clear HO_252005; clear BK238; clear BK251; clear HB; have HO_252005 := n0_; have BK238 := n1_; have BK251 := n2_; have HB := n3_; have BK258 := n4_; have GW258 := n5_; have GE258 := n6_; have NB238_258 := n7_; have NB258_238 := n8_; have NB251_258 := n9_; have NB258_251 := n10_; clear n0_ n1_ n2_ n3_ n4_ n5_ n6_ n7_ n8_ n9_ n10_; clear hb hbox hg; have hnb47 := NB258_238.out; have hnc47 := NB238_258.out; have hnb48 := NB258_251.out; have hnc48 := NB251_258.out; have hcz49_0 : w46.cell? ⟨gb258, 0, none⟩ = some (.int .i64 0) := (blk_cell BK258.out 0).trans rfl; have hcz49_1 : w46.cell? ⟨gb258, 1, none⟩ = some (.int .i64 0) := (blk_cell BK258.out 1).trans rfl; have hcz49_2 : w46.cell? ⟨gb258, 2, none⟩ = some (.int .i64 0) := (blk_cell BK258.out 2).trans rfl; have hfz49_0 := blk_frozen BK258.out 0; have hfz49_1 := blk_frozen BK258.out 1; have hfz49_2 := blk_frozen BK258.out 2; have hnb50 := NB238_251.out; have hnc50 := NB251_238.out; have hcz51_0 : w46.cell? ⟨gb238, 0, none⟩ = some (.string x239000_2) := (blk_cell BK238.out 0).trans rfl; have hcz51_1 : w46.cell? ⟨gb238, 1, none⟩ = some (.int .i64 x239001_2) := (blk_cell BK238.out 1).trans rfl; have hcz51_2 : w46.cell? ⟨gb238, 2, none⟩ = some (.int .i64 x239002_2) := (blk_cell BK238.out 2).trans rfl; have hcz51_3 : w46.cell? ⟨gb238, 3, none⟩ = some (.int .i64 x239003_2) := (blk_cell BK238.out 3).trans rfl; have hcz51_4 : w46.cell? ⟨gb238, 4, none⟩ = some (.int .i64 x239004_2) := (blk_cell BK238.out 4).trans rfl; have hcz51_5 : w46.cell? ⟨gb238, 5, none⟩ = some (.slice none 0 0) := (blk_cell BK238.out 5).trans rfl; have hfz51_0 := blk_frozen BK238.out 0; have hfz51_1 := blk_frozen BK238.out 1; have hfz51_2 := blk_frozen BK238.out 2; have hfz51_3 := blk_frozen BK238.out 3; have hfz51_4 := blk_frozen BK238.out 4; have hfz51_5 := blk_frozen BK238.out 5))
    refine bodyPost_ret (results_ct rfl _ _ gb238 53 #[.string (⟨#[]⟩ : ByteArray), .int .i64 0, .int .i64 0, .int .i64 0, .int .i64 0, .slice none 0 0] (0, 0) _ rfl (by (with_reducible repeat (first | refine blk_drewN ?_ _ | refine blk_drew ?_ | refine blk_alloc ?_ _)); refine blk_put (cs := #[.string (⟨#[]⟩ : ByteArray), .int .i64 0, .int .i64 0, .int .i64 0, .int .i64 0, .slice none 0 0]) ?_ 5 _ rfl; (with_reducible repeat (first | refine blk_drewN ?_ _ | refine blk_drew ?_ | refine blk_alloc ?_ _)); refine blk_put (cs := #[.string (⟨#[]⟩ : ByteArray), .int .i64 0, .int .i64 0, .int .i64 0, .int .i64 x239004_2, .slice none 0 0]) ?_ 4 _ rfl; (with_reducible repeat (first | refine blk_drewN ?_ _ | refine blk_drew ?_ | refine blk_alloc ?_ _)); refine blk_put (cs := #[.string (⟨#[]⟩ : ByteArray), .int .i64 0, .int .i64 0, .int .i64 x239003_2, .int .i64 x239004_2, .slice none 0 0]) ?_ 3 _ rfl; (with_reducible repeat (first | refine blk_drewN ?_ _ | refine blk_drew ?_ | refine blk_alloc ?_ _)); refine blk_put (cs := #[.string (⟨#[]⟩ : ByteArray), .int .i64 0, .int .i64 x239002_2, .int .i64 x239003_2, .int .i64 x239004_2, .slice none 0 0]) ?_ 2 _ rfl; (with_reducible repeat (first | refine blk_drewN ?_ _ | refine blk_drew ?_ | refine blk_alloc ?_ _)); refine blk_put (cs := #[.string (⟨#[]⟩ : ByteArray), .int .i64 x239001_2, .int .i64 x239002_2, .int .i64 x239003_2, .int .i64 x239004_2, .slice none 0 0]) ?_ 1 _ rfl; (with_reducible repeat (first | refine blk_drewN ?_ _ | refine blk_drew ?_ | refine blk_alloc ?_ _)); refine blk_put (cs := #[.string x239000_2, .int .i64 x239001_2, .int .i64 x239002_2, .int .i64 x239003_2, .int .i64 x239004_2, .slice none 0 0]) ?_ 0 _ rfl; (with_reducible repeat (first | refine blk_drewN ?_ _ | refine blk_drew ?_ | refine blk_alloc ?_ _)); refine blk_far ?_ NB238_258.out _; (with_reducible repeat (first | refine blk_drewN ?_ _ | refine blk_drew ?_ | refine blk_alloc ?_ _)); refine blk_far ?_ NB238_258.out _; (with_reducible repeat (first | refine blk_drewN ?_ _ | refine blk_drew ?_ | refine blk_alloc ?_ _)); refine blk_far ?_ NB238_258.out _; (with_reducible repeat (first | refine blk_drewN ?_ _ | refine blk_drew ?_ | refine blk_alloc ?_ _)); exact BK238.out) Tryd.underlying53 rfl (by kernel_rfl)) rfl ?_
    exact ⟨_, by first | rfl | (simp [errW_none, errW_some] <;> rfl) | (simp [*, errW_none, errW_some] <;> rfl), by first | exact Kd.R_nil _ _ _ _ _ | exact Kd.N_nil _ _ _ _ _ | exact Kd.V_nil _ _ _ _ _ | exact Kd.Q_nil _ _ _ _ _ | exact Kd.S_nil _ _ _ _ _, by repeat (first | (with_reducible first | exact HB.out | apply below_alloc | apply pw_below_drewN | apply below_drew1 | refine below_set ?_ GE238.out | refine below_set ?_ GE251.out | refine below_set ?_ GE258.out) | exact HB.out)⟩
  rw [if_pos c44] at H
  have c44b0 : (t257 == 0) = true := beq_iff_eq.mpr c44
  have c44b1 : (t257 != 0) = false := bne_eq_false_iff_eq.mpr c44
  clear c44
  by_cases c52 : x252005_2.length < 5864062014805
  rotate_left
  · rw [if_neg c52] at H
    exact absurd H (by simp)
  rw [if_pos c52] at H
  have LMc52 := Aside0.mk c52
  clear c52
  obtain ⟨y259, hy259⟩ : ∃ y_ : List (S50), y_ = (x252005_2 ++ [(⟨t254, t255, t256⟩ : S50)]) := ⟨_, rfl⟩
  replace H : (text_tasked.l0 k2 x4_3 (l0.drop 6) ((l0.drop 6).length : Int) (wrap64 (x49_2 + 1)) (rdOf ByteArray.empty l0 1) (rd t242 0) (rd t242 1) (rd t242 2) (rd t242 3) y259) = some (r1, r2, r3, r4, r5, r6, r7) := by first | (rw [hy259]; with_reducible exact H) | (have H2_ := (Option.bind_some _ _).symm.trans H; rw [hy259]; with_reducible exact H2_) | (have H2_ := (Option.bind_some _ _).symm.trans H; with_reducible exact H2_) | with_reducible exact H | (rw [hy259]; exact H) | exact H
  have Ny259 := Aside0.mk hy259
  clear hy259
  have H' := Aside0.mk H
  clear H
  have p253 : 0 ≤ (x49_2 : Int) := of_decide_eq_true (by first | (with_reducible assumption) | assumption)
  have q253 : x49_2 < ((l0.drop 6).length : Int) := of_decide_eq_true (by first | (with_reducible assumption) | assumption)
  obtain ⟨ad253, e253, hx253_0⟩ := Kd.at_string HR252.out x49_2 p253 q253
  cases e253
  replace hx253_0 := (HB.out.cell (World.block_lt_of_cell? w _ hx253_0)).trans hx253_0
  replace p253 := eq_true p253
  replace q253 := eq_true q253
  have q253z : (x49_2 < ((l0.length - 6 : Nat) : Int)) = True := by rw [← List.length_drop]; exact q253
  go_wp2_with (first | ((with_reducible refine gate_callee (f := 58) rfl ?_); refine goesL_ (some 55) rfl rfl Tryd.func58 (by kernel_rfl) rfl #[.string (rdOf ByteArray.empty (l0.drop 6) x49_2)] rfl (by (try simp only [List.map_toArray, List.map_cons, List.map_nil]); first | done | rfl | (simp only [List.length_drop, List.length_take]; rfl)) ?_; (with_reducible refine (text_reads.calls k2 (rdOf ByteArray.empty (l0.drop 6) x49_2) t254 t255 t256 t257 _ ?side1 A43.out).mono ?_); (case side1 => first | exact Glob.below HG.out (HB.out) | (repeat (first | exact Glob.below HG.out HB.out | (with_reducible refine Glob.alloc ?_ _) | (with_reducible refine Glob.drewN ?_ _) | (with_reducible refine Glob.drew ?_)))); rintro e w53 ⟨rfl, hb⟩; refine ⟨_, rfl, ?_⟩; have n0_ := Aside0.mk (Kd.R_below (by (with_reducible repeat (first | apply Kd.R_alloc | apply Kd.R_drewN | apply Kd.R_drew)); exact HO_252005.out) hb); have n1_ := Aside0.mk (blk_below BK238.out hb); have n2_ := Aside0.mk (blk_below BK251.out hb); have n3_ := Aside0.mk (below_step (HB.out) hb); clear HO_252005; clear BK238; clear BK251; clear HB; have HO_252005 := n0_; have BK238 := n1_; have BK251 := n2_; have HB := n3_; clear n0_ n1_ n2_ n3_; (try clear hb); (try clear hb2); (try clear hk); (try clear hi)) | ((with_reducible refine gate_dst (N := 10) rfl ?_); refine box_event ?hg (N := 10) ?hd (cs := #[.int .i64 0, .int .i64 0, .int .i64 0]) (t := 50) ?hr ?_; (case hd => rfl); (case hg => rfl); (case hr => first | (go_simp; done) | (go_simp; rfl)); intro gb258 hg w54 hbox hb; have n0_ := Aside0.mk (Kd.R_below (Kd.R_elderB (by (with_reducible repeat (first | apply Kd.R_alloc | apply Kd.R_drewN | apply Kd.R_drew)); exact HO_252005.out) gb258 (Nat.le_of_eq hg.symm)) hb); have n1_ := Aside0.mk (blk_below BK238.out hb); have n2_ := Aside0.mk (blk_below BK251.out hb); have n3_ := Aside0.mk (below_step (HB.out) hb); have n4_ := Aside0.mk (hbox); have n5_ := Aside0.mk ((by rw [hg]; exact (below_size (HB.out)) : w.heap.size ≤ gb258)); have n6_ := n5_; have n7_ := Aside0.mk ((by rw [hg]; exact Nat.ne_of_lt (blk_lt BK238.out) : gb238 ≠ gb258)); have n8_ := Aside0.mk ((by rw [hg]; exact Nat.ne_of_gt (blk_lt BK238.out) : gb258 ≠ gb238)); have n9_ := Aside0.mk ((by rw [hg]; exact Nat.ne_of_lt (blk_lt BK251.out) : gb251 ≠ gb258)); have n10_ := Aside0.mk ((by rw [hg]; exact Nat.ne_of_gt (blk_lt BK251.out) : gb258 ≠ gb251)); clear HO_252005; clear BK238; clear BK251; clear HB; have HO_252005 := n0_; have BK238 := n1_; have BK251 := n2_; have HB := n3_; have BK258 := n4_; have GW258 := n5_; have GE258 := n6_; have NB238_258 := n7_; have NB258_238 := n8_; have NB251_258 := n9_; have NB258_251 := n10_; clear n0_ n1_ n2_ n3_ n4_ n5_ n6_ n7_ n8_ n9_ n10_; clear hb hbox hg; have hnb55 := NB258_238.out; have hnc55 := NB238_258.out; have hnb56 := NB258_251.out; have hnc56 := NB251_258.out; have hcz57_0 : w54.cell? ⟨gb258, 0, none⟩ = some (.int .i64 0) := (blk_cell BK258.out 0).trans rfl; have hcz57_1 : w54.cell? ⟨gb258, 1, none⟩ = some (.int .i64 0) := (blk_cell BK258.out 1).trans rfl; have hcz57_2 : w54.cell? ⟨gb258, 2, none⟩ = some (.int .i64 0) := (blk_cell BK258.out 2).trans rfl; have hfz57_0 := blk_frozen BK258.out 0; have hfz57_1 := blk_frozen BK258.out 1; have hfz57_2 := blk_frozen BK258.out 2; have hnb58 := NB251_238.out; have hnc58 := NB238_251.out; have hcz59_0 : w54.cell? ⟨gb251, 0, none⟩ = some (.string (rdOf ByteArray.empty l0 1)) := (blk_cell BK251.out 0).trans rfl; have hcz59_1 : w54.cell? ⟨gb251, 1, none⟩ = some (.int .i64 (rd t242 0)) := (blk_cell BK251.out 1).trans rfl; have hcz59_2 : w54.cell? ⟨gb251, 2, none⟩ = some (.int .i64 (rd t242 1)) := (blk_cell BK251.out 2).trans rfl; have hcz59_3 : w54.cell? ⟨gb251, 3, none⟩ = some (.int .i64 (rd t242 2)) := (blk_cell BK251.out 3).trans rfl; have hcz59_4 : w54.cell? ⟨gb251, 4, none⟩ = some (.int .i64 (rd t242 3)) := (blk_cell BK251.out 4).trans rfl; have hcz59_5 : w54.cell? ⟨gb251, 5, none⟩ = some (u252005) := (blk_cell BK251.out 5).trans rfl; have hfz59_0 := blk_frozen BK251.out 0; have hfz59_1 := blk_frozen BK251.out 1; have hfz59_2 := blk_frozen BK251.out 2; have hfz59_3 := blk_frozen BK251.out 3; have hfz59_4 := blk_frozen BK251.out 4; have hfz59_5 := blk_frozen BK251.out 5) | ((with_reducible refine gate_builtin (b := .append) (xs := #[.tmp 63, .tmp 65]) rfl ?_); at_builtin; refine Kd.R_append k50 (w0 := w) w.heap.size rfl (.tmp 63) (.tmp 65) 51 50 (.agg #[(.int .i64 0), (.int .i64 0), (.int .i64 0)]) 24 rfl Tryd.underlying51 info50 rfl (by decide) (by omega) u252005 x252005_2 (⟨t254, t255, t256⟩ : S50) [.int .i64 t254, .int .i64 t255, .int .i64 t256] (fun k_ => k_ ≠ gb258) (fun _ => False) rfl (by first | (go_simp; done) | (go_simp; rfl)) ?aP (fun _ hk => hk.elim) ?aF ?aO ?aB ?aS ?aL ?_; (case aP => exact k50_mkM _ _ _ (⟨t254, t255, t256⟩ : S50)); (case aB => exact (by repeat (first | (with_reducible first | exact HB.out | apply below_alloc | apply pw_below_drewN | apply below_drew1 | refine below_set ?_ GE238.out | refine below_set ?_ GE251.out | refine below_set ?_ GE258.out) | exact HB.out))); (case aF => exact (fun k_ hk => Kd.freshB (g := gb258) (o := .cells #[.int .i64 t254, .int .i64 t255, .int .i64 t256] 50 (0, 0)) (by (with_reducible repeat (first | refine blk_drewN ?_ _ | refine blk_drew ?_ | refine blk_alloc ?_ _)); refine blk_put (cs := #[.int .i64 t254, .int .i64 t255, .int .i64 0]) ?_ 2 _ rfl; (with_reducible repeat (first | refine blk_drewN ?_ _ | refine blk_drew ?_ | refine blk_alloc ?_ _)); refine blk_put (cs := #[.int .i64 t254, .int .i64 0, .int .i64 0]) ?_ 1 _ rfl; (with_reducible repeat (first | refine blk_drewN ?_ _ | refine blk_drew ?_ | refine blk_alloc ?_ _)); refine blk_put (cs := #[.int .i64 0, .int .i64 0, .int .i64 0]) ?_ 0 _ rfl; (with_reducible repeat (first | refine blk_drewN ?_ _ | refine blk_drew ?_ | refine blk_alloc ?_ _)); exact BK258.out) k_ hk)); (case aO => exact (by (with_reducible repeat (first | apply Kd.R_alloc | apply Kd.R_drewN | apply Kd.R_drew)); exact Kd.R_mono (Kd.R_far (p := ⟨gb258, 2, none⟩) (Kd.R_far (p := ⟨gb258, 1, none⟩) (Kd.R_far (p := ⟨gb258, 0, none⟩) (Kd.R_mono HO_252005.out (fun k_ hk => (⟨hk, hk.2⟩ : _ ∧ k_ ≠ gb258))) (fun _ hk => hk.2) (.int .i64 t254)) (fun _ hk => hk.2) (.int .i64 t255)) (fun _ hk => hk.2) (.int .i64 t256)) (fun _ hk => hk.1.2))); (case aS => exact (below_size (by repeat (first | (with_reducible first | exact HB.out | apply below_alloc | apply pw_below_drewN | apply below_drew1 | refine below_set ?_ GE238.out | refine below_set ?_ GE251.out | refine below_set ?_ GE258.out) | exact HB.out)))); (case aL => have := LMc52.out; omega); intro v260 w60 ho hb hg hat; rw [← Ny259.out] at ho; have n0_ := Aside0.mk (blk_grown (g := gb238) (o := .cells #[.string x239000_2, .int .i64 x239001_2, .int .i64 x239002_2, .int .i64 x239003_2, .int .i64 x239004_2, .slice none 0 0] 53 (0, 0)) (by (with_reducible repeat (first | refine blk_drewN ?_ _ | refine blk_drew ?_ | refine blk_alloc ?_ _)); refine blk_far ?_ NB238_258.out _; (with_reducible repeat (first | refine blk_drewN ?_ _ | refine blk_drew ?_ | refine blk_alloc ?_ _)); refine blk_far ?_ NB238_258.out _; (with_reducible repeat (first | refine blk_drewN ?_ _ | refine blk_drew ?_ | refine blk_alloc ?_ _)); refine blk_far ?_ NB238_258.out _; (with_reducible repeat (first | refine blk_drewN ?_ _ | refine blk_drew ?_ | refine blk_alloc ?_ _)); exact BK238.out) hg (Kd.R_ne HO_252005.out BK238.out (by decide))); have n1_ := Aside0.mk (blk_grown (g := gb251) (o := .cells #[.string (rdOf ByteArray.empty l0 1), .int .i64 (rd t242 0), .int .i64 (rd t242 1), .int .i64 (rd t242 2), .int .i64 (rd t242 3), u252005] 53 (0, 0)) (by (with_reducible repeat (first | refine blk_drewN ?_ _ | refine blk_drew ?_ | refine blk_alloc ?_ _)); refine blk_far ?_ NB251_258.out _; (with_reducible repeat (first | refine blk_drewN ?_ _ | refine blk_drew ?_ | refine blk_alloc ?_ _)); refine blk_far ?_ NB251_258.out _; (with_reducible repeat (first | refine blk_drewN ?_ _ | refine blk_drew ?_ | refine blk_alloc ?_ _)); refine blk_far ?_ NB251_258.out _; (with_reducible repeat (first | refine blk_drewN ?_ _ | refine blk_drew ?_ | refine blk_alloc ?_ _)); exact BK251.out) hg (Kd.R_ne HO_252005.out BK251.out (by decide))); have n2_ := Aside0.mk (blk_grown (g := gb258) (o := .cells #[.int .i64 t254, .int .i64 t255, .int .i64 t256] 50 (0, 0)) (by (with_reducible repeat (first | refine blk_drewN ?_ _ | refine blk_drew ?_ | refine blk_alloc ?_ _)); refine blk_put (cs := #[.int .i64 t254, .int .i64 t255, .int .i64 0]) ?_ 2 _ rfl; (with_reducible repeat (first | refine blk_drewN ?_ _ | refine blk_drew ?_ | refine blk_alloc ?_ _)); refine blk_put (cs := #[.int .i64 t254, .int .i64 0, .int .i64 0]) ?_ 1 _ rfl; (with_reducible repeat (first | refine blk_drewN ?_ _ | refine blk_drew ?_ | refine blk_alloc ?_ _)); refine blk_put (cs := #[.int .i64 0, .int .i64 0, .int .i64 0]) ?_ 0 _ rfl; (with_reducible repeat (first | refine blk_drewN ?_ _ | refine blk_drew ?_ | refine blk_alloc ?_ _)); exact BK258.out) hg (Kd.R_away HO_252005.out (fun _ hk => hk.2))); have n3_ := Aside0.mk (hb); have n4_ := Aside0.mk (ho); clear BK238; clear BK251; clear BK258; clear HB; clear HO_252005; have BK238 := n0_; have BK251 := n1_; have BK258 := n2_; have HB := n3_; have HO261 := n4_; clear n0_ n1_ n2_ n3_ n4_; clear ho hb hg hat; obtain ⟨Ao61, co61, eo61⟩ := Kd.R_slice HO261.out; subst eo61; have hcz62_0 : w60.cell? ⟨gb251, 0, none⟩ = some (.string (rdOf ByteArray.empty l0 1)) := (blk_cell BK251.out 0).trans rfl; have hcz62_1 : w60.cell? ⟨gb251, 1, none⟩ = some (.int .i64 (rd t242 0)) := (blk_cell BK251.out 1).trans rfl; have hcz62_2 : w60.cell? ⟨gb251, 2, none⟩ = some (.int .i64 (rd t242 1)) := (blk_cell BK251.out 2).trans rfl; have hcz62_3 : w60.cell? ⟨gb251, 3, none⟩ = some (.int .i64 (rd t242 2)) := (blk_cell BK251.out 3).trans rfl; have hcz62_4 : w60.cell? ⟨gb251, 4, none⟩ = some (.int .i64 (rd t242 3)) := (blk_cell BK251.out 4).trans rfl; have hcz62_5 : w60.cell? ⟨gb251, 5, none⟩ = some (u252005) := (blk_cell BK251.out 5).trans rfl; have hfz62_0 := blk_frozen BK251.out 0; have hfz62_1 := blk_frozen BK251.out 1; have hfz62_2 := blk_frozen BK251.out 2; have hfz62_3 := blk_frozen BK251.out 3; have hfz62_4 := blk_frozen BK251.out 4; have hfz62_5 := blk_frozen BK251.out 5))
  go_roundg k2
  case measure => have := HJ3.out; have := HK2.out; omega
  case rel => exact ⟨(wrap64 (x49_2 + 1)), (x239000_2), (x239001_2), (x239002_2), (x239003_2), (x239004_2), (y259), (.slice Ao61 y259.length co61), (by first | rfl | (simp; done) | (simp [*]; done)), H', ⟨by have := HJ3.out; have := HK2.out; omega⟩, ⟨by (with_reducible repeat (first | apply Kd.R_alloc | apply Kd.R_drewN | apply Kd.R_drew)); exact Kd.R_mono (Kd.R_far (p := ⟨gb251, 5, none⟩) (Kd.R_types HO261.out BK251.out (by decide)) (fun _ hk => hk.2) (.slice Ao61 y259.length co61)) (fun _ hk => trivial)⟩, ⟨by (with_reducible repeat (first | refine blk_drewN ?_ _ | refine blk_drew ?_ | refine blk_alloc ?_ _)); refine blk_far ?_ NB238_251.out _; (with_reducible repeat (first | refine blk_drewN ?_ _ | refine blk_drew ?_ | refine blk_alloc ?_ _)); exact BK238.out⟩, ⟨by (with_reducible repeat (first | refine blk_drewN ?_ _ | refine blk_drew ?_ | refine blk_alloc ?_ _)); refine blk_put (cs := #[.string (rdOf ByteArray.empty l0 1), .int .i64 (rd t242 0), .int .i64 (rd t242 1), .int .i64 (rd t242 2), .int .i64 (rd t242 3), u252005]) ?_ 5 _ rfl; (with_reducible repeat (first | refine blk_drewN ?_ _ | refine blk_drew ?_ | refine blk_alloc ?_ _)); exact BK251.out⟩, ⟨by repeat (first | (with_reducible first | exact HB.out | apply below_alloc | apply pw_below_drewN | apply below_drew1 | refine below_set ?_ GE238.out | refine below_set ?_ GE251.out | refine below_set ?_ GE258.out) | exact HB.out)⟩⟩
end Go.Proofs.YtgkjoodlcojkkaaDoor.QD
end
section
namespace Go.Proofs.YtgkjoodlcojkkaaDoor.QD
open Go.RowKit Go.Proofs.YtgkjoodlcojkkaaDoorW.PrintWords Go.Proofs.YtgkjoodlcojkkaaDoorW.PrintLast Go.Proofs.YtgkjoodlcojkkaaDoorW.PrintMore
attribute [local go_sem] max2_int min2_int max_two min_two max_three min_three max_four min_four
set_option linter.unusedVariables false
set_option linter.unusedSimpArgs false
abbrev ParseR := Int × List Int × List Int × (List (S53)) × Int × Int
def zres (n e : Int) : ParseR := (0, [], [], [], n, e)
def text_Parse.fin (k : Nat) (R : List S81) (nl : Int) (q : Int) (c h : List Int) (first : Int) (ts : List S53) : Option ParseR :=
  (task_Check.f k q c h ts).bind fun x => if x.2 = 0 then some (q, c, h, ts, nl, 0)
    else if 0 ≤ x.1 then (if first + x.1 < (R.length : Int) then some (zres (rd_T81 R (first + x.1)).f0 x.2) else none)
    else if x.2 = 14 then some (zres nl x.2) else if x.2 = 11 then some (zres nl x.2)
    else if 1 < R.length then some (zres (rd_T81 R 1).f0 x.2) else none
def text_Parse.lp (k : Nat) (R : List S81) (nl : Int) (q : Int) (c h : List Int) (first : Int) : List S81 → List S53 → Option ParseR
  | [], ts => text_Parse.fin k R nl q c h first ts
  | r :: rs, ts => if 0 < r.f1.length then (if (rdOf ByteArray.empty r.f1 0).toList = ([116, 97, 115, 107] : List UInt8) then
      (text_tasked.f k r.f1).bind fun t => (if t.2.2.2.2.2.2 = 0 then (if ts.length < 1000000 then text_Parse.lp k R nl q c h first rs (ts ++ [(⟨t.1, t.2.1, t.2.2.1, t.2.2.2.1, t.2.2.2.2.1, t.2.2.2.2.2.1⟩ : S53)]) else none)
        else some (zres r.f0 t.2.2.2.2.2.2)) else some (zres r.f0 10)) else none
def text_Parse.f (k : Nat) (a0 : ByteArray) : Option ParseR :=
  if (a0.size : Int) > 2000 then some (zres 0 11) else
  (words_Lines.f a0).bind fun L => (text_rows.f k L).bind fun R => (text_head.f k R).bind fun x =>
    if x.2.2.2.2.2 = true then (if x.2.2.2.1.length = 0 ∧ 0 ≤ x.2.2.2.2.1 ∧ x.2.2.2.2.1 ≤ (R.length : Int) ∧ R.length ≤ 1000000 then text_Parse.lp k R (L.length : Int) x.1 x.2.1 x.2.2.1 x.2.2.2.2.1 (R.drop x.2.2.2.2.1.toNat) [] else none)
    else (text_line.f R x.2.2.2.2.1 (L.length : Int)).bind fun n => some (zres n 10)
theorem text_Parse.mono_fin (k : Nat) (R : List S81) (nl : Int) (q : Int) (c h : List Int) (first : Int) (ts : List S53) : LeO (text_Parse.fin k R nl q c h first ts) (text_Parse.fin (k + 1) R nl q c h first ts) := by
  unfold text_Parse.fin
  exact LeO.bind (task_Check.mono _ _ _ _ _) (fun _ => LeO.refl _)
theorem text_Parse.mono_lp (k : Nat) (R : List S81) (nl : Int) (q : Int) (c h : List Int) (first : Int) : ∀ (rs : List S81) (ts : List S53), LeO (text_Parse.lp k R nl q c h first rs ts) (text_Parse.lp (k + 1) R nl q c h first rs ts)
  | [], ts => text_Parse.mono_fin _ _ _ _ _ _ _ _
  | r :: rs, ts => by
    unfold text_Parse.lp
    exact LeO.ite (LeO.ite (LeO.bind (text_tasked.mono _ _) (fun _ => LeO.ite (LeO.ite (text_Parse.mono_lp k R nl q c h first rs _) (LeO.none _)) (LeO.refl _))) (LeO.refl _)) (LeO.none _)
theorem text_Parse.mono : ∀ a0 k, LeO (text_Parse.f k a0) (text_Parse.f (k + 1) a0) := by
  intro a0 k
  unfold text_Parse.f
  exact LeO.ite (LeO.refl _) (LeO.bind (LeO.refl _) (fun _ => LeO.bind (text_rows.mono _ _) (fun _ => LeO.bind (text_head.mono _ _) (fun _ => LeO.ite (LeO.ite (text_Parse.mono_lp _ _ _ _ _ _ _ _ _) (LeO.none _)) (LeO.refl _)))))
def ParsePost (w : World) (r : ParseR) (e : Ending) (w' : World) : Prop :=
  ∃ v1_ v2_ v3_ : Value, e = .returned (.tuple #[.agg #[.int .i64 r.1, v1_, v2_, v3_], .int .i64 r.2.2.2.2.1, .int .i64 r.2.2.2.2.2]) ∧ Kd.R (Kd.int .i64) 3 w' w.heap.size (fun k_ => some k_ ≠ (v2_ : Value).ownBlock) v1_ r.2.1 ∧ Kd.R (Kd.int .i64) 3 w' w.heap.size (fun k_ => some k_ ≠ (v1_ : Value).ownBlock) v2_ r.2.2.1 ∧ Kd.S k53 53 w' w.heap.size (fun _ => True) v3_ r.2.2.2.1 ∧ Below w.heap.size w w'
abbrev set4 (W : World) (g : Nat) (a b c d : Value) : World := (((W.setCell ⟨g, 0, none⟩ a).setCell ⟨g, 1, none⟩ b).setCell ⟨g, 2, none⟩ c).setCell ⟨g, 3, none⟩ d
theorem set4_heap (W : World) (g : Nat) (a b c d : Value) (k : Nat) (hk : k ≠ g) : (set4 W g a b c d).heap[k]? = W.heap[k]? := by
  unfold set4
  rw [Below.heap_setCell _ _ _ _ hk, Below.heap_setCell _ _ _ _ hk, Below.heap_setCell _ _ _ _ hk, Below.heap_setCell _ _ _ _ hk]
theorem set4_blk {W : World} {g t : Nat} {a0 b0 c0 d0 : Value} (h : W.heap[g]? = some (.cells #[a0, b0, c0, d0] t (0, 0))) {a b c d : Value} : (set4 W g a b c d).heap[g]? = some (.cells #[a, b, c, d] t (0, 0)) := by
  unfold set4
  exact blk_put (cs := #[a, b, c, d0]) (blk_put (cs := #[a, b, c0, d0]) (blk_put (cs := #[a, b0, c0, d0]) (blk_put (cs := #[a0, b0, c0, d0]) h 0 _ rfl) 1 _ rfl) 2 _ rfl) 3 _ rfl
theorem cell_set4 {W : World} {p : Addr} {u : Value} (h : W.cell? p = some u) {g : Nat} (hne : p.block ≠ g) {a b c d : Value} : (set4 W g a b c d).cell? p = some u :=
  (World.cell?_of_block (set4_heap W g a b c d p.block hne)).trans h
theorem row_ne0 {W : World} {gr n cp base : Nat} {ad : Addr} {ok : Nat → Prop} {R : List S81} {cs : Array Value} (h : Kd.S k81 81 W base ok (.slice (some ad) n cp) R) (hb : W.heap[gr]? = some (.cells cs 37 (0, 0))) : ad.block ≠ gr := by
  obtain ⟨cells, hc⟩ := Kd.S_typed h ad.block rfl
  exact blk_ne hc hb (by decide)
theorem row_ne {W : World} {gr n cp x base : Nat} {ad : Addr} {ok : Nat → Prop} {R : List S81} {cs : Array Value} (h : Kd.S k81 81 W base ok (.slice (some ad) n cp) R) (hb : W.heap[gr]? = some (.cells cs 37 (0, 0))) : (ad.add x).block ≠ gr := by
  obtain ⟨cells, hc⟩ := Kd.S_typed h ad.block rfl
  rw [add_block]
  exact blk_ne hc hb (by decide)
theorem below4 {w W : World} (h : Below w.heap.size w W) {g : Nat} (hg : w.heap.size ≤ g) {a b c d : Value} : Below w.heap.size w (set4 W g a b c d) := below_set (below_set (below_set (below_set h hg) hg) hg) hg
theorem R_set4 {α : Type} {dk : Kd α} {e : Nat} {W : World} {base : Nat} {ok : Nat → Prop} {v : Value} {xs : List α} (h : dk.R e W base ok v xs) {g t : Nat} {cs : Array Value} (hb : W.heap[g]? = some (.cells cs t (0, 0))) (ht : ∀ q, q ∈ e :: dk.E → q ≠ t) {a b c d : Value} : dk.R e (set4 W g a b c d) base ok v xs :=
  Kd.R_mono (Kd.R_step (Kd.R_types h hb ht) (fun k hk _ => set4_heap W g a b c d k hk.2)) (fun _ hk => hk.1)
theorem S_set4 {α : Type} {dk : Kd α} {e : Nat} {W : World} {base : Nat} {ok : Nat → Prop} {v : Value} {xs : List α} (h : Kd.S dk e W base ok v xs) {g t : Nat} {cs : Array Value} (hb : W.heap[g]? = some (.cells cs t (0, 0))) (ht : ∀ q, q ∈ e :: dk.E → q ≠ t) {a b c d : Value} : Kd.S dk e (set4 W g a b c d) base ok v xs :=
  Kd.S_mono (Kd.S_step (Kd.S_types h hb ht) (fun k hk _ => set4_heap W g a b c d k hk.2)) (fun _ hk => hk.1)
structure PP (w : World) (gr go : Nat) (q : Int) (v1 v2 v3 vR : Value) (c h : List Int) (R : List S81) (ts : List S53) (ok3 : Nat → Prop) (W : World) : Prop where
  br : W.heap[gr]? = some (.cells #[.int .i64 0, .slice none 0 0, .slice none 0 0, .slice none 0 0] 37 (0, 0))
  bo : W.heap[go]? = some (.cells #[.int .i64 q, v1, v2, v3] 37 (0, 0))
  nb : gr ≠ go
  gr_ge : w.heap.size ≤ gr
  go_ge : w.heap.size ≤ go
  o1 : Kd.R (Kd.int .i64) 3 W w.heap.size (fun k => some k ≠ v2.ownBlock) v1 c
  o2 : Kd.R (Kd.int .i64) 3 W w.heap.size (fun k => some k ≠ v1.ownBlock) v2 h
  oR : Kd.S k81 81 W w.heap.size (fun _ => True) vR R
  o3 : Kd.S k53 53 W w.heap.size ok3 v3 ts
  be : Below w.heap.size w W
theorem PP.below {w : World} {gr go : Nat} {q : Int} {v1 v2 v3 vR : Value} {c h : List Int} {R : List S81} {ts : List S53} {ok3 : Nat → Prop} {W W' : World} (H : PP w gr go q v1 v2 v3 vR c h R ts ok3 W) (hb : Below W.heap.size W W') : PP w gr go q v1 v2 v3 vR c h R ts ok3 W' :=
  ⟨blk_below H.br hb, blk_below H.bo hb, H.nb, H.gr_ge, H.go_ge, Kd.R_below H.o1 hb, Kd.R_below H.o2 hb, Kd.S_below H.oR hb, Kd.S_below H.o3 hb, below_step H.be hb⟩
theorem PP.elder {w : World} {gr go : Nat} {q : Int} {v1 v2 v3 vR v5 : Value} {c h : List Int} {R : List S81} {ts : List S53} {ok3 : Nat → Prop} {W W' : World} (H : PP w gr go q v1 v2 v3 vR c h R ts ok3 W) (hbase : ∀ k, v5.ownBlock = some k → W.heap.size ≤ k) (hb : Below W.heap.size W W') : PP w gr go q v1 v2 v3 vR c h R ts (fun k => ok3 k ∧ some k ≠ v5.ownBlock) W' :=
  ⟨blk_below H.br hb, blk_below H.bo hb, H.nb, H.gr_ge, H.go_ge, Kd.R_below H.o1 hb, Kd.R_below H.o2 hb, Kd.S_below H.oR hb, Kd.S_elder' H.o3 hbase hb, below_step H.be hb⟩
theorem PP.grow {w : World} {gr go : Nat} {q : Int} {v1 v2 v3 v3' vR : Value} {c h : List Int} {R : List S81} {ts ts' : List S53} {ok3 : Nat → Prop} {W w1 : World} (H : PP w gr go q v1 v2 v3 vR c h R ts ok3 W) (hg : W.grownBy w1 v3.ownBlock) (ho : Kd.S k53 53 w1 w.heap.size (fun _ => True) v3' ts') (hb : Below w.heap.size w w1) :
    w1.heap[go]? = some (.cells #[.int .i64 q, v1, v2, v3] 37 (0, 0)) ∧ PP w gr go q v1 v2 v3' vR c h R ts' (fun _ => True) (w1.setCell ⟨go, 3, none⟩ v3') := by
  have ty := Kd.S_typed H.o3
  have hne : ∀ {g : Nat} {cs : Array Value}, W.heap[g]? = some (.cells cs 37 (0, 0)) → some g ≠ v3.ownBlock := fun hb => Kd.R_ne (Kd.S_R H.o3) hb (by decide)
  have b1 := blk_grown H.br hg (hne H.br)
  have b2 := blk_grown H.bo hg (hne H.bo)
  have o1 := Kd.R_over' H.o1 ty (by decide) hg
  have o2 := Kd.R_over' H.o2 ty (by decide) hg
  have oR := Kd.S_over' H.oR ty (by decide) hg
  exact ⟨b2, blk_far b1 H.nb _, blk_put (cs := #[.int .i64 q, v1, v2, v3]) b2 3 _ rfl, H.nb, H.gr_ge, H.go_ge, Kd.R_set o1 b2 (by decide) 3 _, Kd.R_set o2 b2 (by decide) 3 _, Kd.S_set oR b2 (by decide) 3 _, Kd.S_set ho b2 (by decide) 3 _, below_set hb H.go_ge⟩
theorem cut81 (A : Option Addr) (n c m : Nat) (hm : m ≤ n) : ∃ A' : Option Addr, (∀ W : World, (Instr.slice 75 (.slice A n c) (some (.int .i64 (m : Int))) none none).run Tryd.prog W = .ok (.slice A' (n - m) (c - m)) W) ∧
    ∀ (w : World) (xs : List S81), xs.length = n → n ≤ c → k81.C w A n xs → k81.C w A' (n - m) (xs.drop m) := by
  obtain ⟨i, hi, _, hsz, _⟩ := info_parts info81
  refine ⟨if c = m then A else A.map (·.add (m * 2)), fun W => ?_, fun w xs hl hc h => ?_⟩
  · have hel : Tryd.prog.elem 75 = 81 := by simp [Program.elem, Tryd.underlying75]
    have hu : Tryd.prog.underlying 75 = some (.slice (Tryd.prog.elem 75)) := by rw [hel]; exact Tryd.underlying75
    rw [run_slice_l W 75 A n c hu .i64 (m : Int) (Int.natCast_nonneg _) (by omega), hel]
    simp [sizeOf, typeInfo, hi, hsz, sliced, Result.andThen]
  · subst hl
    have := Kd.C_drop (k := k81) (c := c) h hm hc
    rwa [List.length_drop] at this
def text_Parse.T12 : Bool × List (List Nat × List Nat) := (true, [([], []), ([], []), ([1], [1]), ([0, 0], [0]), ([2, 3, 0, 1, 2, 3], [2]), ([4, 0, 1, 2, 3, 4], [])])
def text_Parse.B12 : List Nat := [0, 0, 2, 1, 15, 31]
theorem text_Parse.tab12 : rtab .any (opsOf Tryd.f25 12) = text_Parse.T12 := by kernel_rfl
theorem text_Parse.bits12 : waitsOk text_Parse.T12.2 text_Parse.B12 = true := by kernel_rfl
def text_Parse.T15 : Bool × List (List Nat × List Nat) := (true, [([], []), ([], []), ([1], [1]), ([], []), ([0, 0], [0]), ([2, 4, 0, 1, 2, 4], [2]), ([3, 5, 0, 1, 2, 3, 4, 5], [3])])
def text_Parse.B15 : List Nat := [0, 0, 2, 0, 1, 23, 63]
theorem text_Parse.tab15 : rtab .any (opsOf Tryd.f25 15) = text_Parse.T15 := by kernel_rfl
theorem text_Parse.bits15 : waitsOk text_Parse.T15.2 text_Parse.B15 = true := by kernel_rfl
def text_Parse.T22 : Bool × List (List Nat × List Nat) := (true, [([], []), ([], []), ([], []), ([], []), ([2, 3], [2, 3]), ([1, 4], [1, 4]), ([5], [5]), ([6], [6]), ([], []), ([0, 0], [0]), ([7, 9, 0, 1, 2, 3, 4, 5, 6, 7, 9], [7]), ([8, 10, 0, 1, 2, 3, 4, 5, 6, 7, 8, 9, 10], [8])])
def text_Parse.B22 : List Nat := [0, 0, 0, 0, 12, 30, 62, 126, 0, 1, 767, 2047]
theorem text_Parse.tab22 : rtab .any (opsOf Tryd.f25 22) = text_Parse.T22 := by kernel_rfl
theorem text_Parse.bits22 : waitsOk text_Parse.T22.2 text_Parse.B22 = true := by kernel_rfl
def text_Parse.T25 : Bool × List (List Nat × List Nat) := (true, [([], []), ([], []), ([1], [1]), ([2], [2]), ([3], [3]), ([], []), ([0, 0], [0]), ([4, 6, 0, 1, 2, 3, 4, 6], [4]), ([5, 7, 0, 1, 2, 3, 4, 5, 6, 7], [5])])
def text_Parse.B25 : List Nat := [0, 0, 2, 6, 14, 0, 1, 95, 255]
theorem text_Parse.tab25 : rtab .any (opsOf Tryd.f25 25) = text_Parse.T25 := by kernel_rfl
theorem text_Parse.bits25 : waitsOk text_Parse.T25.2 text_Parse.B25 = true := by kernel_rfl
set_option maxHeartbeats 16000000 in
set_option maxRecDepth 100000 in
theorem text_Parse.calls (k : Nat) (a0 : ByteArray) (r1 : Int) (r2 : List Int) (r3 : List Int) (r4 : List (S53)) (r5 : Int) (r6 : Int) (w : World) (hG : Glob w) (h : text_Parse.f k a0 = some (r1, r2, r3, r4, r5, r6)) :
    Calls Tryd.prog 25 #[.string a0] w fun e w' => ∃ v1_ v2_ v3_ : Value, e = .returned (.tuple #[.agg #[.int .i64 r1, v1_, v2_, v3_], .int .i64 r5, .int .i64 r6]) ∧ Kd.R (Kd.int .i64) 3 w' w.heap.size (fun k_ => some k_ ≠ (v2_ : Value).ownBlock) v1_ r2 ∧ Kd.R (Kd.int .i64) 3 w' w.heap.size (fun k_ => some k_ ≠ (v1_ : Value).ownBlock) v2_ r3 ∧ Kd.S k53 53 w' w.heap.size (fun _ => True) v3_ r4 ∧ Below w.heap.size w w' := by
  suffices H : ∀ r : ParseR, text_Parse.f k a0 = some r → Calls Tryd.prog 25 #[.string a0] w (ParsePost w r) from H _ h
  clear h
  intro r h
  have hu37 := Tryd.underlying37
  have hu53 := Tryd.underlying53
  have hu81 := Tryd.underlying81
  have HG := Aside0.mk hG
  clear hG
  unfold text_Parse.f at h
  by_cases c0 : (a0.size : Int) > 2000
  · rw [if_pos c0] at h
    have c0b0 : decide (2000 < (a0.size : Int)) = true := decide_eq_true c0
    have c0b1 : decide (2000 < a0.size) = true := decide_eq_true (by omega)
    obtain rfl := Option.some.inj h
    clear h c0
    go_enter Tryd.func25, Tryd.ntmps25
    go_upto_region 1 with (first | ((with_reducible refine gate_dst (N := 2) rfl ?_); (try (refine gate_guard (by rfl) ?_; dsimp only)); refine box_event ?hg (N := 2) ?hd (cs := #[.int .i64 0, .slice none 0 0, .slice none 0 0, .slice none 0 0]) (t := 37) ?hr ?_; (case hd => rfl); (case hg => rfl); (case hr => first | (go_simp; done) | (go_simp; rfl)); intro gr hg w1 hbox hb; have GR := Aside0.mk (show w.heap.size ≤ gr by rw [hg]; exact Nat.le_refl _); have BR := Aside0.mk hbox; have HB := Aside0.mk hb; clear hg hbox hb))
    have hr_0 : w1.cell? ⟨gr, 0, none⟩ = some (.int .i64 0) := (blk_cell BR.out 0).trans rfl
    have hr_1 : w1.cell? ⟨gr, 1, none⟩ = some (.slice none 0 0) := (blk_cell BR.out 1).trans rfl
    have hr_2 : w1.cell? ⟨gr, 2, none⟩ = some (.slice none 0 0) := (blk_cell BR.out 2).trans rfl
    have hr_3 : w1.cell? ⟨gr, 3, none⟩ = some (.slice none 0 0) := (blk_cell BR.out 3).trans rfl
    have hrf_0 := blk_frozen BR.out 0
    have hrf_1 := blk_frozen BR.out 1
    have hrf_2 := blk_frozen BR.out 2
    have hrf_3 := blk_frozen BR.out 3
    go_wp2
    refine bodyPost_ret (results_ctt rfl _ _ gr 37 #[.int .i64 0, .slice none 0 0, .slice none 0 0, .slice none 0 0] (0, 0) _ rfl (set4_blk BR.out) Tryd.underlying37 rfl (by kernel_rfl)) rfl ?_
    exact ⟨_, _, _, rfl, Kd.R_nil _ _ _ _ _, Kd.R_nil _ _ _ _ _, Kd.S_nil _ _ _ _ _, below4 HB.out GR.out⟩
  rw [if_neg c0] at h
  have c0b0 : decide (2000 < (a0.size : Int)) = false := decide_eq_false c0
  have c0b1 : decide (2000 < a0.size) = false := decide_eq_false (by omega)
  clear c0
  obtain ⟨L, hL, h⟩ := Option.bind_eq_some_iff.1 h
  obtain ⟨R, hR, h⟩ := Option.bind_eq_some_iff.1 h
  obtain ⟨⟨q, c, h_, t0, first, ok⟩, hH, h⟩ := Option.bind_eq_some_iff.1 h
  dsimp only at h
  have HL := Aside0.mk hL
  have HR := Aside0.mk hR
  have HH0 := Aside0.mk hH
  clear hL hR hH
  cases hok : ok with
  | false =>
    rw [hok, if_neg Bool.false_ne_true] at h
    obtain ⟨n, hn, h⟩ := Option.bind_eq_some_iff.1 h
    obtain rfl := Option.some.inj h
    have HN := Aside0.mk hn
    have HH := Aside0.mk (hok ▸ HH0.out)
    clear h hn HH0 hok
    go_enter Tryd.func25, Tryd.ntmps25
    go_upto_region 6 with (first | ((with_reducible refine gate_dst (N := 2) rfl ?_); (try (refine gate_guard (by rfl) ?_; dsimp only)); refine box_event ?hg (N := 2) ?hd (cs := #[.int .i64 0, .slice none 0 0, .slice none 0 0, .slice none 0 0]) (t := 37) ?hr ?_; (case hd => rfl); (case hg => rfl); (case hr => first | (go_simp; done) | (go_simp; rfl)); intro gr hg w1 hbox hb; have GR := Aside0.mk (show w.heap.size ≤ gr by rw [hg]; exact Nat.le_refl _); have BR := Aside0.mk hbox; have HB := Aside0.mk hb; clear hg hbox hb) | (go_at_call 13; (with_reducible refine (words_Lines.calls a0 L _ (Glob.below HG.out HB.out) HL.out).mono ?_); rintro e_ w2 ⟨v_, rfl, ho, hb⟩; obtain ⟨AL, cL, eL⟩ := Kd.R_slice ho; subst eL; have OL := Aside0.mk ho; have HB2 := Aside0.mk (below_step HB.out hb); have BR2 := Aside0.mk (blk_below BR.out hb); clear ho hb) | (go_at_call 39; (with_reducible refine (text_rows.calls k AL cL L R _ (Kd.R_reads' OL.out).2.2 (Kd.R_reads' OL.out).2.1 (Glob.below HG.out HB2.out) HR.out).mono ?_); rintro e_ w3 ⟨v_, rfl, ho, hb⟩; obtain ⟨AR, cR, eR⟩ := Kd.S_slice ho; subst eR; have OR := Aside0.mk (Kd.S_lower ho HB2.out.size); have HB3 := Aside0.mk (below_step HB2.out hb); have BR3 := Aside0.mk (blk_below BR2.out hb); clear ho hb) | (go_at_call 40; (with_reducible refine (text_head.calls k AR cR R q c h_ t0 first false _ (Kd.S_reads' OR.out).2.2 (Kd.S_reads' OR.out).2.1 (Glob.below HG.out HB3.out) HH.out).mono ?_); rintro e_ w4 ⟨u1, u2, u3, rfl, ho1, ho2, ho3, hb⟩; obtain ⟨A1, c1, e1⟩ := Kd.R_slice ho1; obtain ⟨A2, c2, e2⟩ := Kd.R_slice ho2; obtain ⟨A3, c3, e3⟩ := Kd.S_slice ho3; subst e1; subst e2; subst e3; have O1 := Aside0.mk (Kd.R_lower ho1 HB3.out.size); have O2 := Aside0.mk (Kd.R_lower ho2 HB3.out.size); have O3 := Aside0.mk (Kd.S_lower ho3 HB3.out.size); have OR4 := Aside0.mk (Kd.S_below OR.out hb); have HB4 := Aside0.mk (below_step HB3.out hb); have BR4 := Aside0.mk (blk_below BR3.out hb); clear ho1 ho2 ho3 hb))
    have BR5 := Aside0.mk (blk_alloc BR4.out (.cells #[.int .i64 q, .slice A1 c.length c1, .slice A2 h_.length c2, .slice A3 t0.length c3] 37 (0, 0)))
    have OR5 := Aside0.mk (Kd.S_alloc OR4.out (.cells #[.int .i64 q, .slice A1 c.length c1, .slice A2 h_.length c2, .slice A3 t0.length c3] 37 (0, 0)))
    have HB5 := Aside0.mk (below_alloc HB4.out (.cells #[.int .i64 q, .slice A1 c.length c1, .slice A2 h_.length c2, .slice A3 t0.length c3] 37 (0, 0)))
    clear HB HB2 HB3 HB4 BR BR2 BR3 BR4 O1 O2 O3 OR OR4 OL
    generalize w4.alloc (.cells #[.int .i64 q, .slice A1 c.length c1, .slice A2 h_.length c2, .slice A3 t0.length c3] 37 (0, 0)) = w5 at BR5 OR5 HB5 ⊢
    have hr_0 : w5.cell? ⟨gr, 0, none⟩ = some (.int .i64 0) := (blk_cell BR5.out 0).trans rfl
    have hr_1 : w5.cell? ⟨gr, 1, none⟩ = some (.slice none 0 0) := (blk_cell BR5.out 1).trans rfl
    have hr_2 : w5.cell? ⟨gr, 2, none⟩ = some (.slice none 0 0) := (blk_cell BR5.out 2).trans rfl
    have hr_3 : w5.cell? ⟨gr, 3, none⟩ = some (.slice none 0 0) := (blk_cell BR5.out 3).trans rfl
    have hrf_0 := blk_frozen BR5.out 0
    have hrf_1 := blk_frozen BR5.out 1
    have hrf_2 := blk_frozen BR5.out 2
    have hrf_3 := blk_frozen BR5.out 3
    go_wp2_with (first | (go_at_call 41; (with_reducible refine (text_line.calls AR cR R first (L.length : Int) n _ (Kd.S_reads' OR5.out).2.2 (Kd.S_reads' OR5.out).2.1 HN.out).mono ?_); rintro e_ w' ⟨rfl, ⟨⟨nd, rfl⟩⟩⟩))
    refine bodyPost_ret (results_ctt rfl _ _ gr 37 #[.int .i64 0, .slice none 0 0, .slice none 0 0, .slice none 0 0] (0, 0) _ rfl (set4_blk (blk_drewN BR5.out nd)) Tryd.underlying37 rfl (by kernel_rfl)) rfl ?_
    exact ⟨_, _, _, rfl, Kd.R_nil _ _ _ _ _, Kd.R_nil _ _ _ _ _, Kd.S_nil _ _ _ _ _, below4 (pw_below_drewN HB5.out _) GR.out⟩
  | true =>
    rw [hok, if_pos rfl] at h
    by_cases cc : t0.length = 0 ∧ 0 ≤ first ∧ first ≤ (R.length : Int) ∧ R.length ≤ 1000000
    rotate_left
    · rw [if_neg cc] at h; cases h
    rw [if_pos cc] at h
    obtain ⟨ct, cf0, cf1, cf2⟩ := cc
    obtain rfl : t0 = [] := List.length_eq_zero_iff.1 ct
    obtain ⟨fn, rfl⟩ := Int.eq_ofNat_of_zero_le cf0
    rw [Int.toNat_natCast] at h
    have hfn : fn ≤ R.length := by omega
    clear ct cf0 cf1
    have HF := Aside0.mk hfn
    have HRL := Aside0.mk cf2
    have H := Aside0.mk h
    have HH := Aside0.mk (hok ▸ HH0.out)
    clear h HH0 hok hfn cf2
    go_enter Tryd.func25, Tryd.ntmps25
    go_upto_region 6 with (first | ((with_reducible refine gate_dst (N := 2) rfl ?_); (try (refine gate_guard (by rfl) ?_; dsimp only)); refine box_event ?hg (N := 2) ?hd (cs := #[.int .i64 0, .slice none 0 0, .slice none 0 0, .slice none 0 0]) (t := 37) ?hr ?_; (case hd => rfl); (case hg => rfl); (case hr => first | (go_simp; done) | (go_simp; rfl)); intro gr hg w1 hbox hb; have GR := Aside0.mk (show w.heap.size ≤ gr by rw [hg]; exact Nat.le_refl _); have BR := Aside0.mk hbox; have HB := Aside0.mk hb; clear hg hbox hb) | (go_at_call 13; (with_reducible refine (words_Lines.calls a0 L _ (Glob.below HG.out HB.out) HL.out).mono ?_); rintro e_ w2 ⟨v_, rfl, ho, hb⟩; obtain ⟨AL, cL, eL⟩ := Kd.R_slice ho; subst eL; have OL := Aside0.mk ho; have HB2 := Aside0.mk (below_step HB.out hb); have BR2 := Aside0.mk (blk_below BR.out hb); clear ho hb) | (go_at_call 39; (with_reducible refine (text_rows.calls k AL cL L R _ (Kd.R_reads' OL.out).2.2 (Kd.R_reads' OL.out).2.1 (Glob.below HG.out HB2.out) HR.out).mono ?_); rintro e_ w3 ⟨v_, rfl, ho, hb⟩; obtain ⟨AR, cR, eR⟩ := Kd.S_slice ho; subst eR; have OR := Aside0.mk (Kd.S_lower ho HB2.out.size); have HB3 := Aside0.mk (below_step HB2.out hb); have BR3 := Aside0.mk (blk_below BR2.out hb); clear ho hb) | (go_at_call 40; (with_reducible refine (text_head.calls k AR cR R q c h_ [] (fn : Int) true _ (Kd.S_reads' OR.out).2.2 (Kd.S_reads' OR.out).2.1 (Glob.below HG.out HB3.out) HH.out).mono ?_); rintro e_ w4 ⟨u1, u2, u3, rfl, ho1, ho2, ho3, hb⟩; obtain ⟨A1, c1, e1⟩ := Kd.R_slice ho1; obtain ⟨A2, c2, e2⟩ := Kd.R_slice ho2; obtain ⟨A3, c3, e3⟩ := Kd.S_slice ho3; subst e1; subst e2; subst e3; have O1 := Aside0.mk (Kd.R_lower ho1 HB3.out.size); have O2 := Aside0.mk (Kd.R_lower ho2 HB3.out.size); have O3 := Aside0.mk (Kd.S_lower ho3 HB3.out.size); have OR4 := Aside0.mk (Kd.S_below OR.out hb); have HB4 := Aside0.mk (below_step HB3.out hb); have BR4 := Aside0.mk (blk_below BR3.out hb); clear ho1 ho2 ho3 hb))
    have HP := Aside0.mk (show PP w gr w4.heap.size q (.slice A1 c.length c1) (.slice A2 h_.length c2) (.slice A3 ([] : List S53).length c3) (.slice AR R.length cR) c h_ R [] (fun _ => True) (w4.alloc (.cells #[.int .i64 q, .slice A1 c.length c1, .slice A2 h_.length c2, .slice A3 ([] : List S53).length c3] 37 (0, 0))) from
      ⟨blk_alloc BR4.out _, blk_new _ _, by have := blk_lt BR4.out; omega, GR.out, HB4.out.size, Kd.R_alloc O1.out _, Kd.R_alloc O2.out _, Kd.S_alloc OR4.out _, Kd.S_alloc O3.out _, below_alloc HB4.out _⟩)
    clear HB HB2 HB3 HB4 BR BR2 BR3 BR4 O1 O2 O3 OR OR4 OL GR
    simp only [List.length_nil] at HP ⊢
    generalize w4.alloc (.cells #[.int .i64 q, .slice A1 c.length c1, .slice A2 h_.length c2, .slice A3 0 c3] 37 (0, 0)) = w5 at HP ⊢
    generalize w4.heap.size = go at HP ⊢
    obtain ⟨AC, hcut, hCC⟩ := cut81 AR R.length cR fn HF.out
    have HCC := Aside0.mk hCC
    clear hCC
    have cfb : decide (fn ≤ R.length) = true := decide_eq_true HF.out
    have cfc : fn ≤ R.length := HF.out
    go_wp2
    go_loopg [42] (R.length - fn) (fun kq v42 w' => ∃ (i : Nat) (v3 : Value) (ts : List S53), v42 = .int .i64 i ∧ Aside0 (kq + i = R.length - fn) ∧ Aside0 (text_Parse.lp k R (L.length : Int) q c h_ (fn : Int) ((R.drop fn).drop i) ts = some r) ∧ Aside0 (PP w gr go q (.slice A1 c.length c1) (.slice A2 h_.length c2) v3 (.slice AR R.length cR) c h_ R ts (fun _ => True) w'))
    case atStart => exact ⟨0, _, [], rfl, ⟨by omega⟩, ⟨H.out⟩, HP⟩
    clear HP H
    obtain ⟨i, v3, ts, rfl, HI, H, HP⟩ := hrel
    obtain ⟨gko, rfl⟩ : ∃ x, x = gk := ⟨gk, rfl⟩
    obtain ⟨A3, c3, e3⟩ := Kd.S_slice HP.out.o3
    subst e3
    by_cases hlt : i < R.length - fn
    rotate_left
    · have hn : R.length - fn ≤ i := by omega
      have h := H.out
      rw [List.drop_eq_nil_of_le (by rw [List.length_drop]; exact hn)] at h
      clear H
      unfold text_Parse.lp text_Parse.fin at h
      obtain ⟨⟨n, e⟩, hck, h⟩ := Option.bind_eq_some_iff.1 h
      dsimp only at h
      have HCK := Aside0.mk hck
      clear hck
      have hg_0 : wr.cell? ⟨go, 0, none⟩ = some (.int .i64 q) := (blk_cell HP.out.bo 0).trans rfl
      have hg_1 : wr.cell? ⟨go, 1, none⟩ = some (.slice A1 c.length c1) := (blk_cell HP.out.bo 1).trans rfl
      have hg_2 : wr.cell? ⟨go, 2, none⟩ = some (.slice A2 h_.length c2) := (blk_cell HP.out.bo 2).trans rfl
      have hg_3 : wr.cell? ⟨go, 3, none⟩ = some (.slice A3 ts.length c3) := (blk_cell HP.out.bo 3).trans rfl
      have hgf_0 := blk_frozen HP.out.bo 0
      have hgf_1 := blk_frozen HP.out.bo 1
      have hgf_2 := blk_frozen HP.out.bo 2
      have hgf_3 := blk_frozen HP.out.bo 3
      go_upto_region 19 with (first | (go_at_call 33; (with_reducible refine (task_Check.calls k q A1 c1 c A2 c2 h_ A3 c3 ts n e _ (Kd.R_reads' HP.out.o1).2.2 (Kd.R_reads' HP.out.o1).2.1 (Kd.R_reads' HP.out.o2).2.2 (Kd.R_reads' HP.out.o2).2.1 (Kd.S_reads' HP.out.o3).2.2 (Kd.S_reads' HP.out.o3).2.1 HCK.out).mono ?_); rintro e_ w8 ⟨rfl, hb⟩; have HP8 := Aside0.mk (HP.out.below hb); clear hb))
      clear HP hg_0 hg_1 hg_2 hg_3 hgf_0 hgf_1 hgf_2 hgf_3
      have hg_0 : w8.cell? ⟨go, 0, none⟩ = some (.int .i64 q) := (blk_cell HP8.out.bo 0).trans rfl
      have hg_1 : w8.cell? ⟨go, 1, none⟩ = some (.slice A1 c.length c1) := (blk_cell HP8.out.bo 1).trans rfl
      have hg_2 : w8.cell? ⟨go, 2, none⟩ = some (.slice A2 h_.length c2) := (blk_cell HP8.out.bo 2).trans rfl
      have hg_3 : w8.cell? ⟨go, 3, none⟩ = some (.slice A3 ts.length c3) := (blk_cell HP8.out.bo 3).trans rfl
      have hgf_0 := blk_frozen HP8.out.bo 0
      have hgf_1 := blk_frozen HP8.out.bo 1
      have hgf_2 := blk_frozen HP8.out.bo 2
      have hgf_3 := blk_frozen HP8.out.bo 3
      have hr_0 : w8.cell? ⟨gr, 0, none⟩ = some (.int .i64 0) := (blk_cell HP8.out.br 0).trans rfl
      have hr_1 : w8.cell? ⟨gr, 1, none⟩ = some (.slice none 0 0) := (blk_cell HP8.out.br 1).trans rfl
      have hr_2 : w8.cell? ⟨gr, 2, none⟩ = some (.slice none 0 0) := (blk_cell HP8.out.br 2).trans rfl
      have hr_3 : w8.cell? ⟨gr, 3, none⟩ = some (.slice none 0 0) := (blk_cell HP8.out.br 3).trans rfl
      have hrf_0 := blk_frozen HP8.out.br 0
      have hrf_1 := blk_frozen HP8.out.br 1
      have hrf_2 := blk_frozen HP8.out.br 2
      have hrf_3 := blk_frozen HP8.out.br 3
      have hnb := HP8.out.nb
      have hnc := HP8.out.nb.symm
      by_cases ce : e = 0
      · rw [if_pos ce] at h
        subst ce
        obtain rfl := Option.some.inj h
        go_wp2
        refine bodyPost_ret (results_ctt rfl _ _ gr 37 #[.int .i64 q, .slice A1 c.length c1, .slice A2 h_.length c2, .slice A3 ts.length c3] (0, 0) _ rfl (set4_blk HP8.out.br) Tryd.underlying37 rfl (by kernel_rfl)) rfl ?_
        exact ⟨_, _, _, rfl, R_set4 HP8.out.o1 HP8.out.br (by decide), R_set4 HP8.out.o2 HP8.out.br (by decide), S_set4 HP8.out.o3 HP8.out.br (by decide), below4 HP8.out.be HP8.out.gr_ge⟩
      rw [if_neg ce] at h
      have ceb : (e == 0) = false := beq_eq_false_iff_ne.2 ce
      by_cases cn : 0 ≤ n
      · rw [if_pos cn] at h
        have cnb : decide (0 ≤ n) = true := decide_eq_true cn
        by_cases cm : (fn : Int) + n < (R.length : Int)
        rotate_left
        · rw [if_neg cm] at h; cases h
        rw [if_pos cm] at h
        obtain rfl := Option.some.inj h
        have hw : wrap64 ((fn : Int) + n) = (fn : Int) + n := by have := HRL.out; unfold wrap64; omega
        have p0 : (0 : Int) ≤ (fn : Int) + n := by omega
        obtain ⟨ad, B1, b1, eA, hx0, hx1, hl1, hi1⟩ := at_T81 (Kd.S_reads' HP8.out.oR).2.2 ((fn : Int) + n) p0 cm
        cases eA
        clear hx1 hl1 hi1 h
        have p0b := eq_true p0
        have cmb := eq_true cm
        go_upto_region 22 with (fail)
        have HP := Aside0.mk (HP8.out.below (below_drew1 (Below.refl _ _)))
        have HX := Aside0.mk (show w8.drew.cell? (ad.add (((fn : Int) + n).toNat * 2)) = some (.int .i64 (rd_T81 R ((fn : Int) + n)).f0) from hx0)
        clear hg_0 hg_1 hg_2 hg_3 hgf_0 hgf_1 hgf_2 hgf_3 hr_0 hr_1 hr_2 hr_3 hrf_0 hrf_1 hrf_2 hrf_3 hx0 HP8
        refine start_ (n := 12) (S := fun w' => w'.cell? (ad.add (((fn : Int) + n).toNat * 2)) = some (.int .i64 (rd_T81 R ((fn : Int) + n)).f0)) (ds := []) (bs 12 0) (by kernel_rfl) rfl rfl (HX.out) (fun hHeld => ?_)
        refine with_tabW text_Parse.tab22 text_Parse.bits22 (fun HT_ HW_ => ?_)
        generalize w8.drew = w9 at HP HX hHeld ⊢
        refine pure_ (i := 0) (N := some 87) (v := ?_) (a' := ?_) (bs 12 1) rfl rfl (any_of HT_.out (by kernel_rfl)) (fun _ _ _ h => h) (Or.inl ⟨by rfl, ?_⟩) ?_ ?_
        rotate_left
        · intro w'
          go_simp
          with_reducible rfl
        rotate_left
        · simp only [Act.put, List.setIfInBounds_toArray, List.set_cons_zero, List.set_cons_succ, i64_w, i32_w]
          rfl
        refine pure_ (i := 1) (N := some 88) (v := ?_) (a' := ?_) (bs 12 3) rfl rfl (any_of HT_.out (by kernel_rfl)) (fun _ _ _ h => h) (Or.inl ⟨by rfl, ?_⟩) ?_ ?_
        rotate_left
        · intro w'
          go_simp
          with_reducible rfl
        rotate_left
        · simp only [Act.put, List.setIfInBounds_toArray, List.set_cons_zero, List.set_cons_succ, i64_w, i32_w]
          rfl
        refine pure_ (i := 2) (N := some 89) (v := ?_) (a' := ?_) (bs 12 7) rfl rfl (any_of HT_.out (by kernel_rfl)) (fun _ _ _ h => h) (Or.inl ⟨by rfl, ?_⟩) ?_ ?_
        rotate_left
        · intro w'
          go_simp
          with_reducible rfl
        rotate_left
        · simp only [Act.put, List.setIfInBounds_toArray, List.set_cons_zero, List.set_cons_succ, i64_w, i32_w]
          rfl
        refine pure_ (i := 3) (N := some 90) (v := ?_) (a' := ?_) (bs 12 15) rfl rfl (any_of HT_.out (by kernel_rfl)) (fun _ _ _ h => h) (Or.inl ⟨by rfl, ?_⟩) ?_ ?_
        rotate_left
        · intro w'
          go_simp
          with_reducible rfl
        rotate_left
        · simp only [Act.put, List.setIfInBounds_toArray, List.set_cons_zero, List.set_cons_succ, i64_w, i32_w]
          rfl
        refine pure_ (i := 4) (N := some 91) (v := ?_) (a' := ?_) (bs 12 31) rfl rfl (any_of HT_.out (by kernel_rfl)) (fun _ _ _ h => h) (Or.inl ⟨by rfl, ?_⟩) ?_ ?_
        rotate_left
        · intro w'
          go_simp
          with_reducible rfl
        rotate_left
        · simp only [Act.put, List.setIfInBounds_toArray, List.set_cons_zero, List.set_cons_succ, i64_w, i32_w]
          rfl
        refine pure_ (i := 5) (N := some 92) (v := ?_) (a' := ?_) (bs 12 63) rfl rfl (any_of HT_.out (by kernel_rfl)) (fun _ _ _ h => h) (Or.inl ⟨by rfl, ?_⟩) ?_ ?_
        rotate_left
        · intro w'
          go_simp
          with_reducible rfl
        rotate_left
        · simp only [Act.put, List.setIfInBounds_toArray, List.set_cons_zero, List.set_cons_succ, i64_w, i32_w]
          rfl
        refine pure_ (i := 6) (N := some 93) (v := ?_) (a' := ?_) (bs 12 127) rfl rfl (any_of HT_.out (by kernel_rfl)) (fun _ _ _ h => h) (Or.inl ⟨by rfl, ?_⟩) ?_ ?_
        rotate_left
        · intro w'
          go_simp
          with_reducible rfl
        rotate_left
        · simp only [Act.put, List.setIfInBounds_toArray, List.set_cons_zero, List.set_cons_succ, i64_w, i32_w]
          rfl
        refine pure_ (i := 8) (N := some 95) (v := ?_) (a' := ?_) (bs 12 383) rfl rfl (any_of HT_.out (by kernel_rfl)) (fun _ _ _ h => h) (Or.inl ⟨by rfl, ?_⟩) ?_ ?_
        rotate_left
        · intro w'
          go_simp
          with_reducible rfl
        rotate_left
        · simp only [Act.put, List.setIfInBounds_toArray, List.set_cons_zero, List.set_cons_succ, i64_w, i32_w]
          rfl
        refine take_ (i := 7) (N := some 94) (v := ?_) (a' := ?_) (bs 12 511) rfl rfl (take_ofW HT_.out HW_.out (by kernel_rfl)) (fun _ _ _ h => h) (Or.inl ⟨by rfl, ?_⟩) hHeld ?_ ?_
        rotate_left
        · intro w' s0
          go_simp
          with_reducible rfl
        rotate_left
        · simp only [Act.put, List.setIfInBounds_toArray, List.set_cons_zero, List.set_cons_succ, i64_w, i32_w]
          rfl
        refine one_ (i := 9) (N := none) (bs 12 1023) rfl rfl (one_of HT_.out (by kernel_rfl)) (by decide) (fun K hK => ?_)
        have hs_0 : w9.cell? ⟨gr, 0, none⟩ = some (.int .i64 0) := (blk_cell HP.out.br 0).trans rfl
        have hs_1 : w9.cell? ⟨gr, 1, none⟩ = some (.slice none 0 0) := (blk_cell HP.out.br 1).trans rfl
        have hs_2 : w9.cell? ⟨gr, 2, none⟩ = some (.slice none 0 0) := (blk_cell HP.out.br 2).trans rfl
        have hs_3 : w9.cell? ⟨gr, 3, none⟩ = some (.slice none 0 0) := (blk_cell HP.out.br 3).trans rfl
        have hsf_0 := blk_frozen HP.out.br 0
        have hsf_1 := blk_frozen HP.out.br 1
        have hsf_2 := blk_frozen HP.out.br 2
        have hsf_3 := blk_frozen HP.out.br 3
        refine skip_ (w1 := ?_) (by rfl) rfl ?_ ?_
        rotate_left
        · go_simp
          rfl
        refine hK.out _ _ (cell_set4 HX.out (row_ne HP.out.oR HP.out.br)) (fun hHeld => ?_)
        clear hK K
        refine pure_ (i := 10) (N := some 3) (v := ?_) (a' := ?_) (bs 12 2047) rfl rfl (any_of HT_.out (by kernel_rfl)) (fun _ _ _ h => h) (Or.inl ⟨by rfl, ?_⟩) ?_ ?_
        rotate_left
        · intro w'
          go_simp
          with_reducible rfl
        rotate_left
        · simp only [Act.put, List.setIfInBounds_toArray, List.set_cons_zero, List.set_cons_succ, i64_w, i32_w]
          rfl
        refine pure_ (i := 11) (N := some 4) (v := ?_) (a' := ?_) (bs 12 4095) rfl rfl (any_of HT_.out (by kernel_rfl)) (fun _ _ _ h => h) (Or.inl ⟨by rfl, ?_⟩) ?_ ?_
        rotate_left
        · intro w'
          go_simp
          with_reducible rfl
        rotate_left
        · simp only [Act.put, List.setIfInBounds_toArray, List.set_cons_zero, List.set_cons_succ, i64_w, i32_w]
          rfl
        refine done_ (done_of HT_.out (by kernel_rfl)) ?_
        try go_wp2
        refine bodyPost_ret (results_ctt rfl _ _ gr 37 #[.int .i64 0, .slice none 0 0, .slice none 0 0, .slice none 0 0] (0, 0) _ rfl (set4_blk HP.out.br) Tryd.underlying37 rfl (by kernel_rfl)) rfl ?_
        exact ⟨_, _, _, rfl, Kd.R_nil _ _ _ _ _, Kd.R_nil _ _ _ _ _, Kd.S_nil _ _ _ _ _, below4 HP.out.be HP.out.gr_ge⟩
      rw [if_neg cn] at h
      have cnb : decide (0 ≤ n) = false := decide_eq_false cn
      by_cases c14 : e = 14
      · rw [if_pos c14] at h
        subst c14
        obtain rfl := Option.some.inj h
        go_wp2
        refine bodyPost_ret (results_ctt rfl _ _ gr 37 #[.int .i64 0, .slice none 0 0, .slice none 0 0, .slice none 0 0] (0, 0) _ rfl (set4_blk HP8.out.br) Tryd.underlying37 rfl (by kernel_rfl)) rfl ?_
        exact ⟨_, _, _, rfl, Kd.R_nil _ _ _ _ _, Kd.R_nil _ _ _ _ _, Kd.S_nil _ _ _ _ _, below4 HP8.out.be HP8.out.gr_ge⟩
      rw [if_neg c14] at h
      have c14b : (e == 14) = false := beq_eq_false_iff_ne.2 c14
      by_cases c11 : e = 11
      · rw [if_pos c11] at h
        subst c11
        obtain rfl := Option.some.inj h
        go_wp2
        refine bodyPost_ret (results_ctt rfl _ _ gr 37 #[.int .i64 0, .slice none 0 0, .slice none 0 0, .slice none 0 0] (0, 0) _ rfl (set4_blk HP8.out.br) Tryd.underlying37 rfl (by kernel_rfl)) rfl ?_
        exact ⟨_, _, _, rfl, Kd.R_nil _ _ _ _ _, Kd.R_nil _ _ _ _ _, Kd.S_nil _ _ _ _ _, below4 HP8.out.be HP8.out.gr_ge⟩
      rw [if_neg c11] at h
      have c11b : (e == 11) = false := beq_eq_false_iff_ne.2 c11
      by_cases cm : 1 < R.length
      rotate_left
      · rw [if_neg cm] at h; cases h
      rw [if_pos cm] at h
      obtain rfl := Option.some.inj h
      have p0 : (0 : Int) ≤ 1 := by omega
      have q0 : (1 : Int) < (R.length : Int) := by omega
      obtain ⟨ad, B1, b1, eA, hx0, hx1, hl1, hi1⟩ := at_T81 (Kd.S_reads' HP8.out.oR).2.2 1 p0 q0
      cases eA
      clear hx1 hl1 hi1 h
      rw [show ((1 : Int)).toNat * 2 = 2 from rfl] at hx0
      simp only [Go.Addr.add, Nat.reduceEqDiff, ↓reduceIte] at hx0
      have qi : (1 < R.length) = True := eq_true cm
      have q0b := eq_true q0
      go_upto_region 25 with (fail)
      have HP := Aside0.mk (HP8.out.below (below_drew1 (Below.refl _ _)))
      have HX := Aside0.mk (show w8.drew.cell? ⟨ad.block, ad.off + 2, none⟩ = some (.int .i64 (rd_T81 R 1).f0) from hx0)
      clear hg_0 hg_1 hg_2 hg_3 hgf_0 hgf_1 hgf_2 hgf_3 hr_0 hr_1 hr_2 hr_3 hrf_0 hrf_1 hrf_2 hrf_3 hx0 HP8
      refine start_ (n := 9) (S := fun w' => w'.cell? ⟨ad.block, ad.off + 2, none⟩ = some (.int .i64 (rd_T81 R 1).f0)) (ds := []) (bs 9 0) (by kernel_rfl) rfl rfl (HX.out) (fun hHeld => ?_)
      refine with_tabW text_Parse.tab25 text_Parse.bits25 (fun HT_ HW_ => ?_)
      generalize w8.drew = w9 at HP HX hHeld ⊢
      refine pure_ (i := 0) (N := some 107) (v := ?_) (a' := ?_) (bs 9 1) rfl rfl (any_of HT_.out (by kernel_rfl)) (fun _ _ _ h => h) (Or.inl ⟨by rfl, ?_⟩) ?_ ?_
      rotate_left
      · intro w'
        go_simp
        with_reducible rfl
      rotate_left
      · simp only [Act.put, List.setIfInBounds_toArray, List.set_cons_zero, List.set_cons_succ, i64_w, i32_w]
        rfl
      refine pure_ (i := 1) (N := some 108) (v := ?_) (a' := ?_) (bs 9 3) rfl rfl (any_of HT_.out (by kernel_rfl)) (fun _ _ _ h => h) (Or.inl ⟨by rfl, ?_⟩) ?_ ?_
      rotate_left
      · intro w'
        go_simp
        with_reducible rfl
      rotate_left
      · simp only [Act.put, List.setIfInBounds_toArray, List.set_cons_zero, List.set_cons_succ, i64_w, i32_w]
        rfl
      refine pure_ (i := 2) (N := some 109) (v := ?_) (a' := ?_) (bs 9 7) rfl rfl (any_of HT_.out (by kernel_rfl)) (fun _ _ _ h => h) (Or.inl ⟨by rfl, ?_⟩) ?_ ?_
      rotate_left
      · intro w'
        go_simp
        with_reducible rfl
      rotate_left
      · simp only [Act.put, List.setIfInBounds_toArray, List.set_cons_zero, List.set_cons_succ, i64_w, i32_w]
        rfl
      refine pure_ (i := 3) (N := some 110) (v := ?_) (a' := ?_) (bs 9 15) rfl rfl (any_of HT_.out (by kernel_rfl)) (fun _ _ _ h => h) (Or.inl ⟨by rfl, ?_⟩) ?_ ?_
      rotate_left
      · intro w'
        go_simp
        with_reducible rfl
      rotate_left
      · simp only [Act.put, List.setIfInBounds_toArray, List.set_cons_zero, List.set_cons_succ, i64_w, i32_w]
        rfl
      refine pure_ (i := 5) (N := some 112) (v := ?_) (a' := ?_) (bs 9 47) rfl rfl (any_of HT_.out (by kernel_rfl)) (fun _ _ _ h => h) (Or.inl ⟨by rfl, ?_⟩) ?_ ?_
      rotate_left
      · intro w'
        go_simp
        with_reducible rfl
      rotate_left
      · simp only [Act.put, List.setIfInBounds_toArray, List.set_cons_zero, List.set_cons_succ, i64_w, i32_w]
        rfl
      refine take_ (i := 4) (N := some 111) (v := ?_) (a' := ?_) (bs 9 63) rfl rfl (take_ofW HT_.out HW_.out (by kernel_rfl)) (fun _ _ _ h => h) (Or.inl ⟨by rfl, ?_⟩) hHeld ?_ ?_
      rotate_left
      · intro w' s0
        go_simp
        with_reducible rfl
      rotate_left
      · simp only [Act.put, List.setIfInBounds_toArray, List.set_cons_zero, List.set_cons_succ, i64_w, i32_w]
        rfl
      refine one_ (i := 6) (N := none) (bs 9 127) rfl rfl (one_of HT_.out (by kernel_rfl)) (by decide) (fun K hK => ?_)
      have hs_0 : w9.cell? ⟨gr, 0, none⟩ = some (.int .i64 0) := (blk_cell HP.out.br 0).trans rfl
      have hs_1 : w9.cell? ⟨gr, 1, none⟩ = some (.slice none 0 0) := (blk_cell HP.out.br 1).trans rfl
      have hs_2 : w9.cell? ⟨gr, 2, none⟩ = some (.slice none 0 0) := (blk_cell HP.out.br 2).trans rfl
      have hs_3 : w9.cell? ⟨gr, 3, none⟩ = some (.slice none 0 0) := (blk_cell HP.out.br 3).trans rfl
      have hsf_0 := blk_frozen HP.out.br 0
      have hsf_1 := blk_frozen HP.out.br 1
      have hsf_2 := blk_frozen HP.out.br 2
      have hsf_3 := blk_frozen HP.out.br 3
      refine skip_ (w1 := ?_) (by rfl) rfl ?_ ?_
      rotate_left
      · go_simp
        rfl
      refine hK.out _ _ (cell_set4 HX.out (row_ne0 (ad := ad) HP.out.oR HP.out.br)) (fun hHeld => ?_)
      clear hK K
      refine pure_ (i := 7) (N := some 3) (v := ?_) (a' := ?_) (bs 9 255) rfl rfl (any_of HT_.out (by kernel_rfl)) (fun _ _ _ h => h) (Or.inl ⟨by rfl, ?_⟩) ?_ ?_
      rotate_left
      · intro w'
        go_simp
        with_reducible rfl
      rotate_left
      · simp only [Act.put, List.setIfInBounds_toArray, List.set_cons_zero, List.set_cons_succ, i64_w, i32_w]
        rfl
      refine pure_ (i := 8) (N := some 4) (v := ?_) (a' := ?_) (bs 9 511) rfl rfl (any_of HT_.out (by kernel_rfl)) (fun _ _ _ h => h) (Or.inl ⟨by rfl, ?_⟩) ?_ ?_
      rotate_left
      · intro w'
        go_simp
        with_reducible rfl
      rotate_left
      · simp only [Act.put, List.setIfInBounds_toArray, List.set_cons_zero, List.set_cons_succ, i64_w, i32_w]
        rfl
      refine done_ (done_of HT_.out (by kernel_rfl)) ?_
      try go_wp2
      refine bodyPost_ret (results_ctt rfl _ _ gr 37 #[.int .i64 0, .slice none 0 0, .slice none 0 0, .slice none 0 0] (0, 0) _ rfl (set4_blk HP.out.br) Tryd.underlying37 rfl (by kernel_rfl)) rfl ?_
      exact ⟨_, _, _, rfl, Kd.R_nil _ _ _ _ _, Kd.R_nil _ _ _ _ _, Kd.S_nil _ _ _ _ _, below4 HP.out.be HP.out.gr_ge⟩
    have p0 : (0 : Int) ≤ (i : Int) := by omega
    have q0 : (i : Int) < ((R.length - fn : Nat) : Int) := by omega
    have hly : i < (R.drop fn).length := by rw [List.length_drop]; exact hlt
    obtain ⟨ad, B1, b1, eA, hx0, hx1, hl1, hi1⟩ := at_T81 (HCC.out wr R rfl (Kd.S_reads' HP.out.oR).2.1 (Kd.S_reads' HP.out.oR).2.2) (i : Int) p0 q0
    cases eA
    have eg : rd_T81 (R.drop fn) (i : Int) = (R.drop fn)[i] := by unfold rd_T81; simp [hlt]
    simp only [Int.toNat_natCast, eg] at hx0 hx1 hl1 hi1
    have h := H.out
    rw [List.drop_eq_getElem_cons hly] at h
    clear H eg
    generalize (R.drop fn)[i] = rw_ at hx0 hx1 hl1 hi1 h
    unfold text_Parse.lp at h
    by_cases cl : 0 < rw_.f1.length
    rotate_left
    · rw [if_neg cl] at h; cases h
    rw [if_pos cl] at h
    obtain ⟨ad1, e1_, hs0⟩ := Kd.at_string hi1 0 (by omega) (by omega)
    cases e1_
    rw [show ((0 : Int)).toNat = 0 from rfl, Addr.add_zero'] at hs0
    have qi : (0 < rw_.f1.length) = True := eq_true cl
    have qj : ((0 : Int) < (rw_.f1.length : Int)) = True := eq_true (by omega)
    have hq0 : ((i : Int) < ((R.length - fn : Nat) : Int)) = True := eq_true q0
    go_upto_region 11 with (fail)
    have hba : Below wr.heap.size wr (wr.alloc (.cells #[.int .i64 rw_.f0, .slice (some ad1) rw_.f1.length b1] 81 (0, 0))) := below_alloc (Below.refl _ _) _
    have bt := blk_new wr (.cells #[.int .i64 rw_.f0, .slice (some ad1) rw_.f1.length b1] 81 (0, 0))
    have hp_ := HP.out.below hba
    have hi_ := Kd.C_below hi1 hba
    replace hs0 := (hba.cell (World.block_lt_of_cell? wr _ hs0)).trans hs0
    clear HP hi1 hx0 hx1 hba
    generalize wr.alloc (.cells #[.int .i64 rw_.f0, .slice (some ad1) rw_.f1.length b1] 81 (0, 0)) = w6 at bt hp_ hi_ hs0 ⊢
    generalize wr.heap.size = gt at bt ⊢
    have BT := Aside0.mk bt
    have HP := Aside0.mk hp_
    have HI1 := Aside0.mk hi_
    have HL1 := Aside0.mk hl1
    clear bt hp_ hi_ hl1
    have ht_0 : w6.cell? ⟨gt, 0, none⟩ = some (.int .i64 rw_.f0) := (blk_cell BT.out 0).trans rfl
    have ht_1 : w6.cell? ⟨gt, 1, none⟩ = some (.slice (some ad1) rw_.f1.length b1) := (blk_cell BT.out 1).trans rfl
    have htf_0 := blk_frozen BT.out 0
    have htf_1 := blk_frozen BT.out 1
    by_cases cw : (rdOf ByteArray.empty rw_.f1 0).toList = ([116, 97, 115, 107] : List UInt8)
    rotate_left
    · rw [if_neg cw] at h
      have cwb0 : ((rdOf ByteArray.empty rw_.f1 0).toList == ([116, 97, 115, 107] : List UInt8)) = false := beq_eq_false_iff_ne.2 cw
      have cwb1 : ((rdOf ByteArray.empty rw_.f1 0).toList != ([116, 97, 115, 107] : List UInt8)) = true := bne_iff_ne.2 cw
      obtain rfl := Option.some.inj h
      clear h
      go_upto_region 12 with (fail)
      have hp_ := HP.out.below (below_drew1 (Below.refl _ _))
      clear HP
      have HP := Aside0.mk hp_
      have bt_ := blk_drew BT.out
      clear BT
      have BT := Aside0.mk bt_
      clear bt_ hp_ ht_0 ht_1 htf_0 htf_1 hs0
      refine start_ (n := 6) (S := fun w' => w'.cell? ⟨gt, 0, none⟩ = some (.int .i64 rw_.f0)) (ds := []) (bs 6 0) (by kernel_rfl) rfl rfl ((blk_cell BT.out 0).trans rfl) (fun hHeld => ?_)
      refine with_tabW text_Parse.tab12 text_Parse.bits12 (fun HT_ HW_ => ?_)
      generalize w6.drew = w7 at HP BT hHeld ⊢
      refine pure_ (i := 0) (N := some 51) (v := ?_) (a' := ?_) (bs 6 1) rfl rfl (any_of HT_.out (by kernel_rfl)) (fun _ _ _ h => h) (Or.inl ⟨by rfl, ?_⟩) ?_ ?_
      rotate_left
      · intro w'
        go_simp
        with_reducible rfl
      rotate_left
      · simp only [Act.put, List.setIfInBounds_toArray, List.set_cons_zero, List.set_cons_succ, i64_w, i32_w]
        rfl
      refine pure_ (i := 1) (N := some 52) (v := ?_) (a' := ?_) (bs 6 3) rfl rfl (any_of HT_.out (by kernel_rfl)) (fun _ _ _ h => h) (Or.inl ⟨by rfl, ?_⟩) ?_ ?_
      rotate_left
      · intro w'
        go_simp
        with_reducible rfl
      rotate_left
      · simp only [Act.put, List.setIfInBounds_toArray, List.set_cons_zero, List.set_cons_succ, i64_w, i32_w]
        rfl
      refine take_ (i := 2) (N := some 53) (v := ?_) (a' := ?_) (bs 6 7) rfl rfl (take_ofW HT_.out HW_.out (by kernel_rfl)) (fun _ _ _ h => h) (Or.inl ⟨by rfl, ?_⟩) hHeld ?_ ?_
      rotate_left
      · intro w' s0
        go_simp
        with_reducible rfl
      rotate_left
      · simp only [Act.put, List.setIfInBounds_toArray, List.set_cons_zero, List.set_cons_succ, i64_w, i32_w]
        rfl
      refine one_ (i := 3) (N := none) (bs 6 15) rfl rfl (one_of HT_.out (by kernel_rfl)) (by decide) (fun K hK => ?_)
      have hs_0 : w7.cell? ⟨gr, 0, none⟩ = some (.int .i64 0) := (blk_cell HP.out.br 0).trans rfl
      have hs_1 : w7.cell? ⟨gr, 1, none⟩ = some (.slice none 0 0) := (blk_cell HP.out.br 1).trans rfl
      have hs_2 : w7.cell? ⟨gr, 2, none⟩ = some (.slice none 0 0) := (blk_cell HP.out.br 2).trans rfl
      have hs_3 : w7.cell? ⟨gr, 3, none⟩ = some (.slice none 0 0) := (blk_cell HP.out.br 3).trans rfl
      have hsf_0 := blk_frozen HP.out.br 0
      have hsf_1 := blk_frozen HP.out.br 1
      have hsf_2 := blk_frozen HP.out.br 2
      have hsf_3 := blk_frozen HP.out.br 3
      refine skip_ (w1 := ?_) (by rfl) rfl ?_ ?_
      rotate_left
      · go_simp
        rfl
      refine hK.out _ _ (cell_set4 ((blk_cell BT.out 0).trans rfl) (blk_ne BT.out HP.out.br (by decide))) (fun hHeld => ?_)
      clear hK K
      refine pure_ (i := 4) (N := some 3) (v := ?_) (a' := ?_) (bs 6 31) rfl rfl (any_of HT_.out (by kernel_rfl)) (fun _ _ _ h => h) (Or.inl ⟨by rfl, ?_⟩) ?_ ?_
      rotate_left
      · intro w'
        go_simp
        with_reducible rfl
      rotate_left
      · simp only [Act.put, List.setIfInBounds_toArray, List.set_cons_zero, List.set_cons_succ, i64_w, i32_w]
        rfl
      refine pure_ (i := 5) (N := some 4) (v := ?_) (a' := ?_) (bs 6 63) rfl rfl (any_of HT_.out (by kernel_rfl)) (fun _ _ _ h => h) (Or.inl ⟨by rfl, ?_⟩) ?_ ?_
      rotate_left
      · intro w'
        go_simp
        with_reducible rfl
      rotate_left
      · simp only [Act.put, List.setIfInBounds_toArray, List.set_cons_zero, List.set_cons_succ, i64_w, i32_w]
        rfl
      refine done_ (done_of HT_.out (by kernel_rfl)) ?_
      try go_wp2
      refine bodyPost_ret (results_ctt rfl _ _ gr 37 #[.int .i64 0, .slice none 0 0, .slice none 0 0, .slice none 0 0] (0, 0) _ rfl (set4_blk HP.out.br) Tryd.underlying37 rfl (by kernel_rfl)) rfl ?_
      exact ⟨_, _, _, rfl, Kd.R_nil _ _ _ _ _, Kd.R_nil _ _ _ _ _, Kd.S_nil _ _ _ _ _, below4 HP.out.be HP.out.gr_ge⟩
    rw [if_pos cw] at h
    have cwb0 : ((rdOf ByteArray.empty rw_.f1 0).toList == ([116, 97, 115, 107] : List UInt8)) = true := beq_iff_eq.2 cw
    have cwb1 : ((rdOf ByteArray.empty rw_.f1 0).toList != ([116, 97, 115, 107] : List UInt8)) = false := bne_eq_false_iff_eq.2 cw
    obtain ⟨⟨t1, t2, t3, t4, t5, t6, t7⟩, htk, h⟩ := Option.bind_eq_some_iff.1 h
    dsimp only at h
    have HTK := Aside0.mk htk
    clear htk cw
    go_upto_region 14 with (first | (go_at_call 42; (with_reducible refine (text_tasked.calls k (some ad1) b1 rw_.f1 t1 t2 t3 t4 t5 t6 t7 _ HI1.out HL1.out (Glob.below HG.out HP.out.be) HTK.out).mono ?_); rintro e_ w8 ⟨v5, rfl, ho, hb⟩; obtain ⟨A5, c5, e5⟩ := Kd.R_slice ho; subst e5; have O5 := Aside0.mk (Kd.R_lower ho HP.out.be.size); have HP8 := Aside0.mk (HP.out.elder (Kd.R_base ho) hb); have BT8 := Aside0.mk (blk_below BT.out hb); clear ho hb))
    have bx := blk_new w8 (.cells #[.string t1, .int .i64 t2, .int .i64 t3, .int .i64 t4, .int .i64 t5, .slice A5 t6.length c5] 53 (0, 0))
    have hp_ := HP8.out.below (below_alloc (Below.refl _ _) (.cells #[.string t1, .int .i64 t2, .int .i64 t3, .int .i64 t4, .int .i64 t5, .slice A5 t6.length c5] 53 (0, 0)))
    have bt_ := blk_alloc BT8.out (.cells #[.string t1, .int .i64 t2, .int .i64 t3, .int .i64 t4, .int .i64 t5, .slice A5 t6.length c5] 53 (0, 0))
    have o5_ := Kd.R_alloc O5.out (.cells #[.string t1, .int .i64 t2, .int .i64 t3, .int .i64 t4, .int .i64 t5, .slice A5 t6.length c5] 53 (0, 0))
    clear HP HP8 BT BT8 O5 ht_0 ht_1 htf_0 htf_1 hs0 HI1 HL1
    generalize w8.alloc (.cells #[.string t1, .int .i64 t2, .int .i64 t3, .int .i64 t4, .int .i64 t5, .slice A5 t6.length c5] 53 (0, 0)) = w9 at bx hp_ bt_ o5_ ⊢
    generalize w8.heap.size = gx at bx ⊢
    have BX := Aside0.mk bx
    have HP := Aside0.mk hp_
    have BT := Aside0.mk bt_
    have O5 := Aside0.mk o5_
    clear bx hp_ bt_ o5_
    by_cases ct : t7 = 0
    rotate_left
    · rw [if_neg ct] at h
      have ctb0 : (t7 == 0) = false := beq_eq_false_iff_ne.2 ct
      have ctb1 : (t7 != 0) = true := bne_iff_ne.2 ct
      obtain rfl := Option.some.inj h
      clear h
      go_upto_region 15 with (fail)
      have hp_ := HP.out.below (below_drew1 (Below.refl _ _))
      clear HP
      have HP := Aside0.mk hp_
      have bt_ := blk_drew BT.out
      clear BT
      have BT := Aside0.mk bt_
      clear bt_ hp_ O5 BX
      refine start_ (n := 7) (S := fun w' => w'.cell? ⟨gt, 0, none⟩ = some (.int .i64 rw_.f0)) (ds := []) (bs 7 0) (by kernel_rfl) rfl rfl ((blk_cell BT.out 0).trans rfl) (fun hHeld => ?_)
      refine with_tabW text_Parse.tab15 text_Parse.bits15 (fun HT_ HW_ => ?_)
      generalize w9.drew = w10 at HP BT hHeld ⊢
      refine pure_ (i := 0) (N := some 62) (v := ?_) (a' := ?_) (bs 7 1) rfl rfl (any_of HT_.out (by kernel_rfl)) (fun _ _ _ h => h) (Or.inl ⟨by rfl, ?_⟩) ?_ ?_
      rotate_left
      · intro w'
        go_simp
        with_reducible rfl
      rotate_left
      · simp only [Act.put, List.setIfInBounds_toArray, List.set_cons_zero, List.set_cons_succ, i64_w, i32_w]
        rfl
      refine pure_ (i := 1) (N := some 63) (v := ?_) (a' := ?_) (bs 7 3) rfl rfl (any_of HT_.out (by kernel_rfl)) (fun _ _ _ h => h) (Or.inl ⟨by rfl, ?_⟩) ?_ ?_
      rotate_left
      · intro w'
        go_simp
        with_reducible rfl
      rotate_left
      · simp only [Act.put, List.setIfInBounds_toArray, List.set_cons_zero, List.set_cons_succ, i64_w, i32_w]
        rfl
      refine pure_ (i := 3) (N := some 65) (v := ?_) (a' := ?_) (bs 7 11) rfl rfl (any_of HT_.out (by kernel_rfl)) (fun _ _ _ h => h) (Or.inl ⟨by rfl, ?_⟩) ?_ ?_
      rotate_left
      · intro w'
        go_simp
        with_reducible rfl
      rotate_left
      · simp only [Act.put, List.setIfInBounds_toArray, List.set_cons_zero, List.set_cons_succ, i64_w, i32_w]
        rfl
      refine take_ (i := 2) (N := some 64) (v := ?_) (a' := ?_) (bs 7 15) rfl rfl (take_ofW HT_.out HW_.out (by kernel_rfl)) (fun _ _ _ h => h) (Or.inl ⟨by rfl, ?_⟩) hHeld ?_ ?_
      rotate_left
      · intro w' s0
        go_simp
        with_reducible rfl
      rotate_left
      · simp only [Act.put, List.setIfInBounds_toArray, List.set_cons_zero, List.set_cons_succ, i64_w, i32_w]
        rfl
      refine one_ (i := 4) (N := none) (bs 7 31) rfl rfl (one_of HT_.out (by kernel_rfl)) (by decide) (fun K hK => ?_)
      have hs_0 : w10.cell? ⟨gr, 0, none⟩ = some (.int .i64 0) := (blk_cell HP.out.br 0).trans rfl
      have hs_1 : w10.cell? ⟨gr, 1, none⟩ = some (.slice none 0 0) := (blk_cell HP.out.br 1).trans rfl
      have hs_2 : w10.cell? ⟨gr, 2, none⟩ = some (.slice none 0 0) := (blk_cell HP.out.br 2).trans rfl
      have hs_3 : w10.cell? ⟨gr, 3, none⟩ = some (.slice none 0 0) := (blk_cell HP.out.br 3).trans rfl
      have hsf_0 := blk_frozen HP.out.br 0
      have hsf_1 := blk_frozen HP.out.br 1
      have hsf_2 := blk_frozen HP.out.br 2
      have hsf_3 := blk_frozen HP.out.br 3
      refine skip_ (w1 := ?_) (by rfl) rfl ?_ ?_
      rotate_left
      · go_simp
        rfl
      refine hK.out _ _ (cell_set4 ((blk_cell BT.out 0).trans rfl) (blk_ne BT.out HP.out.br (by decide))) (fun hHeld => ?_)
      clear hK K
      refine pure_ (i := 5) (N := some 3) (v := ?_) (a' := ?_) (bs 7 63) rfl rfl (any_of HT_.out (by kernel_rfl)) (fun _ _ _ h => h) (Or.inl ⟨by rfl, ?_⟩) ?_ ?_
      rotate_left
      · intro w'
        go_simp
        with_reducible rfl
      rotate_left
      · simp only [Act.put, List.setIfInBounds_toArray, List.set_cons_zero, List.set_cons_succ, i64_w, i32_w]
        rfl
      refine pure_ (i := 6) (N := some 4) (v := ?_) (a' := ?_) (bs 7 127) rfl rfl (any_of HT_.out (by kernel_rfl)) (fun _ _ _ h => h) (Or.inl ⟨by rfl, ?_⟩) ?_ ?_
      rotate_left
      · intro w'
        go_simp
        with_reducible rfl
      rotate_left
      · simp only [Act.put, List.setIfInBounds_toArray, List.set_cons_zero, List.set_cons_succ, i64_w, i32_w]
        rfl
      refine done_ (done_of HT_.out (by kernel_rfl)) ?_
      try go_wp2
      refine bodyPost_ret (results_ctt rfl _ _ gr 37 #[.int .i64 0, .slice none 0 0, .slice none 0 0, .slice none 0 0] (0, 0) _ rfl (set4_blk HP.out.br) Tryd.underlying37 rfl (by kernel_rfl)) rfl ?_
      exact ⟨_, _, _, rfl, Kd.R_nil _ _ _ _ _, Kd.R_nil _ _ _ _ _, Kd.S_nil _ _ _ _ _, below4 HP.out.be HP.out.gr_ge⟩
    rw [if_pos ct] at h
    subst ct
    by_cases cs : ts.length < 1000000
    rotate_left
    · rw [if_neg cs] at h; cases h
    rw [if_pos cs] at h
    have HTS := Aside0.mk cs
    have H := Aside0.mk h
    clear h cs BT
    have hg_0 : w9.cell? ⟨go, 0, none⟩ = some (.int .i64 q) := (blk_cell HP.out.bo 0).trans rfl
    have hg_1 : w9.cell? ⟨go, 1, none⟩ = some (.slice A1 c.length c1) := (blk_cell HP.out.bo 1).trans rfl
    have hg_2 : w9.cell? ⟨go, 2, none⟩ = some (.slice A2 h_.length c2) := (blk_cell HP.out.bo 2).trans rfl
    have hg_3 : w9.cell? ⟨go, 3, none⟩ = some (.slice A3 ts.length c3) := (blk_cell HP.out.bo 3).trans rfl
    have hgf_0 := blk_frozen HP.out.bo 0
    have hgf_1 := blk_frozen HP.out.bo 1
    have hgf_2 := blk_frozen HP.out.bo 2
    have hgf_3 := blk_frozen HP.out.bo 3
    have hx_0 : w9.cell? ⟨gx, 0, none⟩ = some (.string t1) := (blk_cell BX.out 0).trans rfl
    have hx_1 : w9.cell? ⟨gx, 1, none⟩ = some (.int .i64 t2) := (blk_cell BX.out 1).trans rfl
    have hx_2 : w9.cell? ⟨gx, 2, none⟩ = some (.int .i64 t3) := (blk_cell BX.out 2).trans rfl
    have hx_3 : w9.cell? ⟨gx, 3, none⟩ = some (.int .i64 t4) := (blk_cell BX.out 3).trans rfl
    have hx_4 : w9.cell? ⟨gx, 4, none⟩ = some (.int .i64 t5) := (blk_cell BX.out 4).trans rfl
    have hx_5 : w9.cell? ⟨gx, 5, none⟩ = some (.slice A5 t6.length c5) := (blk_cell BX.out 5).trans rfl
    have hxf_0 := blk_frozen BX.out 0
    have hxf_1 := blk_frozen BX.out 1
    have hxf_2 := blk_frozen BX.out 2
    have hxf_3 := blk_frozen BX.out 3
    have hxf_4 := blk_frozen BX.out 4
    have hxf_5 := blk_frozen BX.out 5
    go_wp2_with (first | ((with_reducible refine gate_builtin (b := .append) (xs := #[.tmp 67, .tmp 69]) rfl ?_); at_builtin; refine Kd.S_append k53 (w0 := w) w.heap.size rfl (.tmp 67) (.tmp 69) 35 53 (.agg #[(.string ⟨#[]⟩), (.int .i64 0), (.int .i64 0), (.int .i64 0), (.int .i64 0), (.slice none 0 0)]) 72 rfl Tryd.underlying35 info53 rfl (by decide) (by omega) (.slice A3 ts.length c3) ts (⟨t1, t2, t3, t4, t5, t6⟩ : S53) [.string t1, .int .i64 t2, .int .i64 t3, .int .i64 t4, .int .i64 t5, .slice A5 t6.length c5] (fun _ => True) (fun k_ => some k_ = (.slice A5 t6.length c5 : Value).ownBlock) rfl rfl ?aP (fun k_ hk_ => ⟨trivial, ((Kd.R_apart' O5.out (Kd.S_typed HP.out.o3) (by decide)).1 k_ hk_.symm).2⟩) (fun _ _ => trivial) ?aO ?aB ?aS ?aL ?_; (case aP => exact k53_mkM _ _ _ (⟨t1, t2, t3, t4, t5, t6⟩ : S53) (Kd.R_tight rfl O5.out)); (case aO => exact Kd.S_mono HP.out.o3 (fun k_ hk_ => ⟨trivial, fun e_ => hk_.2 e_⟩)); (case aB => exact HP.out.be); (case aS => exact HP.out.be.size); (case aL => have := HTS.out; omega); intro v_ w12 ho hb hg hat; obtain ⟨A9, c9, e9⟩ := Kd.S_slice ho; obtain ⟨n9, hn9⟩ : ∃ n, n = (ts ++ [(⟨t1, t2, t3, t4, t5, t6⟩ : S53)]).length := ⟨_, rfl⟩; rw [← hn9] at e9; clear hn9; subst e9; have hgr_ := HP.out.grow hg ho hb; have B2 := Aside0.mk hgr_.1; have HPn := Aside0.mk hgr_.2; clear hgr_ ho hb hg hat; have hq_3 : w12.cell? ⟨go, 3, none⟩ = some (.slice A3 ts.length c3) := (blk_cell B2.out 3).trans rfl; have hqf_3 := blk_frozen B2.out 3))
    go_roundg (gko - 1)
    case measure => have := HI.out; omega
    case rel => exact ⟨i + 1, _, _, congrArg (Value.int .i64) (show wrap64 ((i : Int) + 1) = ((i + 1 : Nat) : Int) by have := HRL.out; unfold wrap64; omega), ⟨by have := HI.out; omega⟩, H, HPn⟩
end Go.Proofs.YtgkjoodlcojkkaaDoor.QD
end
section
set_option linter.unusedVariables false
namespace Go.Proofs
open Go.Shelf
def Tryd.b166_ren : Go.Shelf.Ren := ⟨fun | 166 => 34 | 169 => 38 | 240 => 55 | 276 => 76 | n => n, fun | 0 => 0 | 3 => 3 | 4 => 4 | 5 => 5 | 9 => 9 | 20 => 20 | 37 => 55 | 70 => 69 | 72 => 71 | 75 => 58 | 80 => 74 | 127 => 92 | 164 => 113 | n => n, fun | n => n⟩
theorem Tryd.b166 : Go.Proofs.Lays.n166 Tryd.prog Tryd.b166_ren := {
  mixed := by kernel_rfl
  f166 := Tryd.func34.trans (congrArg some (by kernel_rfl))
  f240 := Tryd.func55.trans (congrArg some (by kernel_rfl))
  f276 := Tryd.func76.trans (congrArg some (by kernel_rfl))
  t0 := Tryd.underlying0
  a0 := Tryd.isAgg0
  z0 := Tryd.sizeOf0
  v0 := Tryd.zeroValue0
  t3 := Tryd.underlying3
  a3 := Tryd.isAgg3
  z3 := Tryd.sizeOf3
  v3 := Tryd.zeroValue3
  t4 := Tryd.underlying4
  a4 := Tryd.isAgg4
  z4 := Tryd.sizeOf4
  v4 := Tryd.zeroValue4
  t9 := Tryd.underlying9
  a9 := Tryd.isAgg9
  z9 := Tryd.sizeOf9
  v9 := Tryd.zeroValue9
  t20 := Tryd.underlying20
  a20 := Tryd.isAgg20
  z20 := Tryd.sizeOf20
  v20 := Tryd.zeroValue20
  t37 := Tryd.underlying55
  a37 := Tryd.isAgg55
  z37 := Tryd.sizeOf55
  v37 := Tryd.zeroValue55
  t70 := Tryd.underlying69
  a70 := Tryd.isAgg69
  z70 := Tryd.sizeOf69
  v70 := Tryd.zeroValue69
  t72 := Tryd.underlying71
  a72 := Tryd.isAgg71
  z72 := Tryd.sizeOf71
  v72 := Tryd.zeroValue71
  t75 := Tryd.underlying58
  a75 := Tryd.isAgg58
  z75 := Tryd.sizeOf58
  v75 := Tryd.zeroValue58
  t164 := Tryd.underlying113
  a164 := Tryd.isAgg113
  z164 := Tryd.sizeOf113
  v164 := Tryd.zeroValue113 }
theorem Tryd.Builder_Extra_b166 : Builder.Extra Tryd.prog Tryd.b166_ren := {
  sizeBuilder := by kernel_rfl
  liesBuilder := by kernel_rfl
  t5 := Tryd.underlying5
  a5 := Tryd.isAgg5
  z5 := Tryd.sizeOf5
  v5 := Tryd.zeroValue5
  infoByte := by kernel_rfl
  cellsByte := by kernel_rfl
  sizeByte := by kernel_rfl
  neB5 := by decide }
def Tryd.b169_ren : Go.Shelf.Ren := ⟨fun | 166 => 34 | 169 => 38 | 240 => 55 | 276 => 76 | n => n, fun | 0 => 0 | 3 => 3 | 4 => 4 | 5 => 5 | 9 => 9 | 20 => 20 | 37 => 55 | 70 => 69 | 72 => 71 | 75 => 58 | 80 => 74 | 127 => 92 | 164 => 113 | n => n, fun | n => n⟩
theorem Tryd.b169 : Go.Proofs.Lays.n169 Tryd.prog Tryd.b169_ren := {
  mixed := by kernel_rfl
  f169 := Tryd.func38.trans (congrArg some (by kernel_rfl))
  t0 := Tryd.underlying0
  a0 := Tryd.isAgg0
  z0 := Tryd.sizeOf0
  v0 := Tryd.zeroValue0
  t3 := Tryd.underlying3
  a3 := Tryd.isAgg3
  z3 := Tryd.sizeOf3
  v3 := Tryd.zeroValue3
  t9 := Tryd.underlying9
  a9 := Tryd.isAgg9
  z9 := Tryd.sizeOf9
  v9 := Tryd.zeroValue9
  t37 := Tryd.underlying55
  a37 := Tryd.isAgg55
  z37 := Tryd.sizeOf55
  v37 := Tryd.zeroValue55
  t70 := Tryd.underlying69
  a70 := Tryd.isAgg69
  z70 := Tryd.sizeOf69
  v70 := Tryd.zeroValue69
  t72 := Tryd.underlying71
  a72 := Tryd.isAgg71
  z72 := Tryd.sizeOf71
  v72 := Tryd.zeroValue71
  t127 := Tryd.underlying92
  a127 := Tryd.isAgg92
  z127 := Tryd.sizeOf92
  v127 := Tryd.zeroValue92 }
theorem Tryd.Builder_Extra_b169 : Builder.Extra Tryd.prog Tryd.b169_ren := {
  sizeBuilder := by kernel_rfl
  liesBuilder := by kernel_rfl
  t5 := Tryd.underlying5
  a5 := Tryd.isAgg5
  z5 := Tryd.sizeOf5
  v5 := Tryd.zeroValue5
  infoByte := by kernel_rfl
  cellsByte := by kernel_rfl
  sizeByte := by kernel_rfl
  neB5 := by decide }
open Go.RowKit in
theorem Tryd.bWriteString (B b : Nat) (bs : List Value) (s : ByteArray) (w : World) (h : Lib.IsBuilderF 71 5 B b bs w) (hlen : bs.length + s.size ≤ 140737488355328) (hBw : B ≤ w.heap.size) :
    Calls Tryd.prog 34 #[.pointer (some ⟨b, 0, none⟩), .string s] w fun e w' => e = .returned (.tuple #[.int .i64 s.size, .nilIface]) ∧ (Lib.BuilderAtF 71 5 B b (.pointer (some ⟨b, 0, none⟩)) (bs ++ Lib.strCells s) w' ∧ Below B w w' ∧ Lib.OthersKept 5 (some b) w w') := Any.Builder_WriteString_k Tryd.b166 Tryd.Builder_Extra_b166 B b bs s w h hlen hBw
open Go.RowKit in
theorem Tryd.bString (B b : Nat) (l : List UInt8) (w : World) (h : Lib.IsBuilderF 71 5 B b (Lib.byteCells l) w) (hBw : B ≤ w.heap.size) :
    Calls Tryd.prog 38 #[.pointer (some ⟨b, 0, none⟩)] w fun e w' => e = .returned (.string ⟨l.toArray⟩) ∧ (Lib.IsBuilderF 71 5 B b (Lib.byteCells l) w' ∧ Below B w w' ∧ Lib.OthersKept 5 (some b) w w') := Any.Builder_String_any_k Tryd.b169 Tryd.Builder_Extra_b169 B b l w h hBw
end Go.Proofs
end
section
namespace Go.Proofs.YtgkjoodlcojkkaaDoor.QD
open Go.RowKit Go.Proofs.YtgkjoodlcojkkaaDoorW.PrintWords Go.Proofs.YtgkjoodlcojkkaaDoorW.PrintLast Go.Proofs.YtgkjoodlcojkkaaDoorW.PrintMore
attribute [local go_sem] max2_int min2_int max_two min_two max_three min_three max_four min_four
set_option linter.unusedVariables false
set_option linter.unusedSimpArgs false
def text_part.f (a0_0 : Int) (a0_1 : Int) (a0_2 : Int) : Option (ByteArray) := if a0_0 = 1 then ((words_Text.f a0_1).bind fun t135 => (if 4 + t135.size ≤ 9223372036854775807 then (some ((⟨#[114, 117, 110, 58]⟩ : ByteArray) ++ t135)) else (none))) else (if a0_0 = 2 then ((words_Text.f a0_1).bind fun t136 => (if 6 + t136.size ≤ 9223372036854775807 then (some ((⟨#[115, 108, 101, 101, 112, 58]⟩ : ByteArray) ++ t136)) else (none))) else ((words_Text.f a0_2).bind fun t137 => (if 5 + t137.size ≤ 9223372036854775807 then (if ((⟨#[108, 111, 99, 107, 58]⟩ : ByteArray) ++ t137).size + 1 ≤ 9223372036854775807 then ((words_Text.f a0_1).bind fun t138 => (if (((⟨#[108, 111, 99, 107, 58]⟩ : ByteArray) ++ t137) ++ (⟨#[58]⟩ : ByteArray)).size + t138.size ≤ 9223372036854775807 then (some ((((⟨#[108, 111, 99, 107, 58]⟩ : ByteArray) ++ t137) ++ (⟨#[58]⟩ : ByteArray)) ++ t138)) else (none))) else (none)) else (none))))
def text_part.T6 : Bool × List (List Nat × List Nat) := (true, [([], []), ([0], [0]), ([1], [1]), ([2], [2]), ([3], [3]), ([], []), ([5], [5]), ([6, 2], [6]), ([4, 7], [4, 7]), ([8, 7, 0, 1, 2, 3, 4, 5, 6, 7, 8], [8])])
def text_part.B6 : List Nat := [0, 1, 3, 7, 15, 0, 32, 103, 255, 511]
theorem text_part.tab6 : rtab .any (opsOf Tryd.f37 6) = text_part.T6 := by kernel_rfl
theorem text_part.bits6 : waitsOk text_part.T6.2 text_part.B6 = true := by kernel_rfl
set_option maxHeartbeats 8000000 in
set_option maxRecDepth 100000 in
theorem text_part.calls (a0_0 : Int) (a0_1 : Int) (a0_2 : Int) (r : ByteArray) (w : World) (hG : Glob w) (h : text_part.f a0_0 a0_1 a0_2 = some r) :
    Calls Tryd.prog 37 #[.agg #[.int .i64 a0_0, .int .i64 a0_1, .int .i64 a0_2]] w fun e w' => e = .returned (.string r) ∧ Below w.heap.size w w' := by
  have hu50 := Tryd.underlying50
  have HG := Aside0.mk hG
  clear hG
  have HB := Aside0.mk (Below.refl w.heap.size w)
  have H : (if a0_0 = 1 then ((words_Text.f a0_1).bind fun t135 => (if 4 + t135.size ≤ 9223372036854775807 then (some ((⟨#[114, 117, 110, 58]⟩ : ByteArray) ++ t135)) else (none))) else (if a0_0 = 2 then ((words_Text.f a0_1).bind fun t136 => (if 6 + t136.size ≤ 9223372036854775807 then (some ((⟨#[115, 108, 101, 101, 112, 58]⟩ : ByteArray) ++ t136)) else (none))) else ((words_Text.f a0_2).bind fun t137 => (if 5 + t137.size ≤ 9223372036854775807 then (if ((⟨#[108, 111, 99, 107, 58]⟩ : ByteArray) ++ t137).size + 1 ≤ 9223372036854775807 then ((words_Text.f a0_1).bind fun t138 => (if (((⟨#[108, 111, 99, 107, 58]⟩ : ByteArray) ++ t137) ++ (⟨#[58]⟩ : ByteArray)).size + t138.size ≤ 9223372036854775807 then (some ((((⟨#[108, 111, 99, 107, 58]⟩ : ByteArray) ++ t137) ++ (⟨#[58]⟩ : ByteArray)) ++ t138)) else (none))) else (none)) else (none))))) = some r := h
  clear h
  by_cases c2 : a0_0 = 1
  · rw [if_pos c2] at H
    have c2b0 : (a0_0 == 1) = true := beq_iff_eq.mpr c2
    have c2b1 : (a0_0 != 1) = false := bne_eq_false_iff_eq.mpr c2
    clear c2
    replace H := Option.bind_eq_some_iff.mp H
    obtain ⟨t135, A30, H⟩ := H
    replace H : (if 4 + t135.size ≤ 9223372036854775807 then (some ((⟨#[114, 117, 110, 58]⟩ : ByteArray) ++ t135)) else (none)) = some r := H
    have A3 := Aside0.mk A30
    clear A30
    by_cases c4 : 4 + t135.size ≤ 9223372036854775807
    rotate_left
    · rw [if_neg c4] at H
      exact absurd H (by simp)
    rw [if_pos c4] at H
    have c4b0 := eq_true c4
    have c4b1 : decide (4 + t135.size ≤ 9223372036854775807) = true := decide_eq_true c4
    try have c4b2 : (9223372036854775807 < 4 + t135.size) = False := eq_false (Nat.not_lt.2 c4)
    obtain rfl := Option.some.inj H
    go_enter Tryd.func37, Tryd.ntmps37
    go_wp2_with (first | ((with_reducible refine gate_dst (N := 1) rfl ?_); refine box_event ?hg (N := 1) ?hd (cs := #[.int .i64 a0_0, .int .i64 a0_1, .int .i64 a0_2]) (t := 50) ?hr ?_; (case hd => rfl); (case hg => rfl); (case hr => first | (go_simp; done) | (go_simp; rfl)); intro gb134 hg w5 hbox hb; have n0_ := Aside0.mk (below_step (HB.out) hb); have n1_ := Aside0.mk (hbox); have n2_ := Aside0.mk ((by rw [hg]; exact (below_size (HB.out)) : w.heap.size ≤ gb134)); have n3_ := Aside0.mk ((by rw [hg]; exact (below_size (HB.out)) : w.heap.size ≤ gb134)); clear HB; have HB := n0_; have BK134 := n1_; have GW134 := n2_; have GE134 := n3_; clear n0_ n1_ n2_ n3_; clear hb hbox hg; have hcz6_0 : w5.cell? ⟨gb134, 0, none⟩ = some (.int .i64 a0_0) := (blk_cell BK134.out 0).trans rfl; have hcz6_1 : w5.cell? ⟨gb134, 1, none⟩ = some (.int .i64 a0_1) := (blk_cell BK134.out 1).trans rfl; have hcz6_2 : w5.cell? ⟨gb134, 2, none⟩ = some (.int .i64 a0_2) := (blk_cell BK134.out 2).trans rfl; have hfz6_0 := blk_frozen BK134.out 0; have hfz6_1 := blk_frozen BK134.out 1; have hfz6_2 := blk_frozen BK134.out 2) | ((with_reducible refine gate_callee (f := 19) rfl ?_); refine goesL_ (some 9) rfl rfl Tryd.func19 (by kernel_rfl) rfl #[.int .i64 a0_1] rfl (by (try simp only [List.map_toArray, List.map_cons, List.map_nil]); first | done | rfl | (simp only [List.length_drop, List.length_take]; rfl)) ?_; (with_reducible refine (words_Text.calls a0_1 t135 _ ?side1 A3.out).mono ?_); (case side1 => first | exact Glob.below HG.out (HB.out) | (repeat (first | exact Glob.below HG.out HB.out | (with_reducible refine Glob.alloc ?_ _) | (with_reducible refine Glob.drewN ?_ _) | (with_reducible refine Glob.drew ?_)))); rintro e w7 ⟨rfl, hb⟩; refine ⟨_, rfl, ?_⟩; have n0_ := Aside0.mk (blk_below BK134.out hb); have n1_ := Aside0.mk (below_step (HB.out) hb); clear BK134; clear HB; have BK134 := n0_; have HB := n1_; clear n0_ n1_; (try clear hb); (try clear hb2); (try clear hk); (try clear hi)))
    go_ret
    exact ⟨by first | rfl | (simp [errW_none, errW_some] <;> rfl) | (simp [*, errW_none, errW_some] <;> rfl), HB.out⟩
  rw [if_neg c2] at H
  have c2b0 : (a0_0 == 1) = false := beq_eq_false_iff_ne.mpr c2
  have c2b1 : (a0_0 != 1) = true := bne_iff_ne.mpr c2
  by_cases c8 : a0_0 = 2
  · rw [if_pos c8] at H
    have c8b0 : (a0_0 == 2) = true := beq_iff_eq.mpr c8
    have c8b1 : (a0_0 != 2) = false := bne_eq_false_iff_eq.mpr c8
    clear c8
    replace H := Option.bind_eq_some_iff.mp H
    obtain ⟨t136, A90, H⟩ := H
    replace H : (if 6 + t136.size ≤ 9223372036854775807 then (some ((⟨#[115, 108, 101, 101, 112, 58]⟩ : ByteArray) ++ t136)) else (none)) = some r := H
    have A9 := Aside0.mk A90
    clear A90
    by_cases c10 : 6 + t136.size ≤ 9223372036854775807
    rotate_left
    · rw [if_neg c10] at H
      exact absurd H (by simp)
    rw [if_pos c10] at H
    have c10b0 := eq_true c10
    have c10b1 : decide (6 + t136.size ≤ 9223372036854775807) = true := decide_eq_true c10
    try have c10b2 : (9223372036854775807 < 6 + t136.size) = False := eq_false (Nat.not_lt.2 c10)
    obtain rfl := Option.some.inj H
    go_enter Tryd.func37, Tryd.ntmps37
    go_wp2_with (first | ((with_reducible refine gate_dst (N := 1) rfl ?_); refine box_event ?hg (N := 1) ?hd (cs := #[.int .i64 a0_0, .int .i64 a0_1, .int .i64 a0_2]) (t := 50) ?hr ?_; (case hd => rfl); (case hg => rfl); (case hr => first | (go_simp; done) | (go_simp; rfl)); intro gb134 hg w11 hbox hb; have n0_ := Aside0.mk (below_step (HB.out) hb); have n1_ := Aside0.mk (hbox); have n2_ := Aside0.mk ((by rw [hg]; exact (below_size (HB.out)) : w.heap.size ≤ gb134)); have n3_ := Aside0.mk ((by rw [hg]; exact (below_size (HB.out)) : w.heap.size ≤ gb134)); clear HB; have HB := n0_; have BK134 := n1_; have GW134 := n2_; have GE134 := n3_; clear n0_ n1_ n2_ n3_; clear hb hbox hg; have hcz12_0 : w11.cell? ⟨gb134, 0, none⟩ = some (.int .i64 a0_0) := (blk_cell BK134.out 0).trans rfl; have hcz12_1 : w11.cell? ⟨gb134, 1, none⟩ = some (.int .i64 a0_1) := (blk_cell BK134.out 1).trans rfl; have hcz12_2 : w11.cell? ⟨gb134, 2, none⟩ = some (.int .i64 a0_2) := (blk_cell BK134.out 2).trans rfl; have hfz12_0 := blk_frozen BK134.out 0; have hfz12_1 := blk_frozen BK134.out 1; have hfz12_2 := blk_frozen BK134.out 2) | ((with_reducible refine gate_callee (f := 19) rfl ?_); refine goesL_ (some 15) rfl rfl Tryd.func19 (by kernel_rfl) rfl #[.int .i64 a0_1] rfl (by (try simp only [List.map_toArray, List.map_cons, List.map_nil]); first | done | rfl | (simp only [List.length_drop, List.length_take]; rfl)) ?_; (with_reducible refine (words_Text.calls a0_1 t136 _ ?side1 A9.out).mono ?_); (case side1 => first | exact Glob.below HG.out (HB.out) | (repeat (first | exact Glob.below HG.out HB.out | (with_reducible refine Glob.alloc ?_ _) | (with_reducible refine Glob.drewN ?_ _) | (with_reducible refine Glob.drew ?_)))); rintro e w13 ⟨rfl, hb⟩; refine ⟨_, rfl, ?_⟩; have n0_ := Aside0.mk (blk_below BK134.out hb); have n1_ := Aside0.mk (below_step (HB.out) hb); clear BK134; clear HB; have BK134 := n0_; have HB := n1_; clear n0_ n1_; (try clear hb); (try clear hb2); (try clear hk); (try clear hi)))
    go_ret
    exact ⟨by first | rfl | (simp [errW_none, errW_some] <;> rfl) | (simp [*, errW_none, errW_some] <;> rfl), HB.out⟩
  rw [if_neg c8] at H
  have c8b0 : (a0_0 == 2) = false := beq_eq_false_iff_ne.mpr c8
  have c8b1 : (a0_0 != 2) = true := bne_iff_ne.mpr c8
  replace H := Option.bind_eq_some_iff.mp H
  obtain ⟨t137, A140, H⟩ := H
  replace H : (if 5 + t137.size ≤ 9223372036854775807 then (if ((⟨#[108, 111, 99, 107, 58]⟩ : ByteArray) ++ t137).size + 1 ≤ 9223372036854775807 then ((words_Text.f a0_1).bind fun t138 => (if (((⟨#[108, 111, 99, 107, 58]⟩ : ByteArray) ++ t137) ++ (⟨#[58]⟩ : ByteArray)).size + t138.size ≤ 9223372036854775807 then (some ((((⟨#[108, 111, 99, 107, 58]⟩ : ByteArray) ++ t137) ++ (⟨#[58]⟩ : ByteArray)) ++ t138)) else (none))) else (none)) else (none)) = some r := H
  have A14 := Aside0.mk A140
  clear A140
  by_cases c15 : 5 + t137.size ≤ 9223372036854775807
  rotate_left
  · rw [if_neg c15] at H
    exact absurd H (by simp)
  rw [if_pos c15] at H
  have c15b0 := eq_true c15
  have c15b1 : decide (5 + t137.size ≤ 9223372036854775807) = true := decide_eq_true c15
  try have c15b2 : (9223372036854775807 < 5 + t137.size) = False := eq_false (Nat.not_lt.2 c15)
  by_cases c16 : ((⟨#[108, 111, 99, 107, 58]⟩ : ByteArray) ++ t137).size + 1 ≤ 9223372036854775807
  rotate_left
  · rw [if_neg c16] at H
    exact absurd H (by simp)
  rw [if_pos c16] at H
  have c16b0 := eq_true c16
  have c16b1 : decide (((⟨#[108, 111, 99, 107, 58]⟩ : ByteArray) ++ t137).size + 1 ≤ 9223372036854775807) = true := decide_eq_true c16
  try have c16b2 : (9223372036854775807 < ((⟨#[108, 111, 99, 107, 58]⟩ : ByteArray) ++ t137).size + 1) = False := eq_false (Nat.not_lt.2 c16)
  try (have c16b3 := c16b2; (repeat rw [ByteArray.size_append] at c16b3); (try rw [show (⟨#[108, 111, 99, 107, 58]⟩ : ByteArray).size = 5 from rfl] at c16b3))
  replace H := Option.bind_eq_some_iff.mp H
  obtain ⟨t138, A170, H⟩ := H
  replace H : (if (((⟨#[108, 111, 99, 107, 58]⟩ : ByteArray) ++ t137) ++ (⟨#[58]⟩ : ByteArray)).size + t138.size ≤ 9223372036854775807 then (some ((((⟨#[108, 111, 99, 107, 58]⟩ : ByteArray) ++ t137) ++ (⟨#[58]⟩ : ByteArray)) ++ t138)) else (none)) = some r := H
  have A17 := Aside0.mk A170
  clear A170
  by_cases c18 : (((⟨#[108, 111, 99, 107, 58]⟩ : ByteArray) ++ t137) ++ (⟨#[58]⟩ : ByteArray)).size + t138.size ≤ 9223372036854775807
  rotate_left
  · rw [if_neg c18] at H
    exact absurd H (by simp)
  rw [if_pos c18] at H
  have c18b0 := eq_true c18
  have c18b1 : decide ((((⟨#[108, 111, 99, 107, 58]⟩ : ByteArray) ++ t137) ++ (⟨#[58]⟩ : ByteArray)).size + t138.size ≤ 9223372036854775807) = true := decide_eq_true c18
  try have c18b2 : (9223372036854775807 < (((⟨#[108, 111, 99, 107, 58]⟩ : ByteArray) ++ t137) ++ (⟨#[58]⟩ : ByteArray)).size + t138.size) = False := eq_false (Nat.not_lt.2 c18)
  try (have c18b3 := c18b2; (repeat rw [ByteArray.size_append] at c18b3); (try rw [show (⟨#[108, 111, 99, 107, 58]⟩ : ByteArray).size = 5 from rfl] at c18b3); (try rw [show (⟨#[58]⟩ : ByteArray).size = 1 from rfl] at c18b3))
  obtain rfl := Option.some.inj H
  go_enter Tryd.func37, Tryd.ntmps37
  try go_wp2_with (first | ((with_reducible refine gate_dst (N := 1) rfl ?_); refine box_event ?hg (N := 1) ?hd (cs := #[.int .i64 a0_0, .int .i64 a0_1, .int .i64 a0_2]) (t := 50) ?hr ?_; (case hd => rfl); (case hg => rfl); (case hr => first | (go_simp; done) | (go_simp; rfl)); intro gb134 hg w19 hbox hb; have n0_ := Aside0.mk (below_step (HB.out) hb); have n1_ := Aside0.mk (hbox); have n2_ := Aside0.mk ((by rw [hg]; exact (below_size (HB.out)) : w.heap.size ≤ gb134)); have n3_ := Aside0.mk ((by rw [hg]; exact (below_size (HB.out)) : w.heap.size ≤ gb134)); clear HB; have HB := n0_; have BK134 := n1_; have GW134 := n2_; have GE134 := n3_; clear n0_ n1_ n2_ n3_; clear hb hbox hg; have hcz20_0 : w19.cell? ⟨gb134, 0, none⟩ = some (.int .i64 a0_0) := (blk_cell BK134.out 0).trans rfl; have hcz20_1 : w19.cell? ⟨gb134, 1, none⟩ = some (.int .i64 a0_1) := (blk_cell BK134.out 1).trans rfl; have hcz20_2 : w19.cell? ⟨gb134, 2, none⟩ = some (.int .i64 a0_2) := (blk_cell BK134.out 2).trans rfl; have hfz20_0 := blk_frozen BK134.out 0; have hfz20_1 := blk_frozen BK134.out 1; have hfz20_2 := blk_frozen BK134.out 2))
  have n0_ := Aside0.mk (blk_drew BK134.out)
  have n1_ := Aside0.mk (below_drew1 HB.out)
  clear BK134
  clear HB
  have BK134 := n0_
  have HB := n1_
  clear n0_ n1_
  refine start_ (n := 10) (S := fun w' => w'.cell? ⟨gb134, 0, none⟩ = some (.int .i64 a0_0) ∧ w'.cell? ⟨gb134, 1, none⟩ = some (.int .i64 a0_1) ∧ w'.cell? ⟨gb134, 2, none⟩ = some (.int .i64 a0_2)) (ds := []) (bs 10 0) (by kernel_rfl) rfl rfl ⟨(blk_cell BK134.out 0).trans rfl, (blk_cell BK134.out 1).trans rfl, (blk_cell BK134.out 2).trans rfl⟩ (fun hHeld => ?_); refine with_tabW text_part.tab6 text_part.bits6 (fun HT_ HW_ => ?_)
  generalize w19.drew = w21 at BK134 HB hHeld ⊢
  refine pure_ (i := 0) (N := some 17) (v := ?_) (a' := ?_) (bs 10 1) rfl rfl (any_of HT_.out (by kernel_rfl)) (fun _ _ _ h => h) (Or.inl ⟨by rfl, ?_⟩) ?_ ?_
  rotate_left
  · intro w'
    go_simp
    with_reducible rfl
  rotate_left
  · simp only [Act.put, List.setIfInBounds_toArray, List.set_cons_zero, List.set_cons_succ, i64_w, i32_w]
    rfl
  refine pure_ (i := 5) (N := some 22) (v := ?_) (a' := ?_) (bs 10 33) rfl rfl (any_of HT_.out (by kernel_rfl)) (fun _ _ _ h => h) (Or.inl ⟨by rfl, ?_⟩) ?_ ?_
  rotate_left
  · intro w'
    go_simp
    with_reducible rfl
  rotate_left
  · simp only [Act.put, List.setIfInBounds_toArray, List.set_cons_zero, List.set_cons_succ, i64_w, i32_w]
    rfl
  refine take_ (i := 1) (N := some 18) (v := ?_) (a' := ?_) (bs 10 35) rfl rfl (take_ofW HT_.out HW_.out (by kernel_rfl)) (fun _ _ _ h => h) (Or.inl ⟨by rfl, ?_⟩) hHeld ?_ ?_
  rotate_left
  · rintro w' ⟨s0, s1, s2⟩
    go_simp
    with_reducible rfl
  rotate_left
  · simp only [Act.put, List.setIfInBounds_toArray, List.set_cons_zero, List.set_cons_succ, i64_w, i32_w]
    rfl
  refine take_ (i := 6) (N := some 23) (v := ?_) (a' := ?_) (bs 10 99) rfl rfl (take_ofW HT_.out HW_.out (by kernel_rfl)) (fun _ _ _ h => h) (Or.inl ⟨by rfl, ?_⟩) hHeld ?_ ?_
  rotate_left
  · rintro w' ⟨s0, s1, s2⟩
    go_simp
    with_reducible rfl
  rotate_left
  · simp only [Act.put, List.setIfInBounds_toArray, List.set_cons_zero, List.set_cons_succ, i64_w, i32_w]
    rfl
  refine one_ (i := 2) (N := some 19) (bs 10 103) rfl rfl (one_of HT_.out (by kernel_rfl)) (by decide) (fun K hK => ?_)
  refine goes_ Tryd.func19 (by kernel_rfl) rfl #[.int .i64 a0_2] (by rfl) rfl rfl (by (try simp only [List.map_toArray, List.map_cons, List.map_nil]); first | done | rfl | (simp only [List.length_drop, List.length_take]; rfl)) ?_
  with_reducible refine (words_Text.calls a0_2 t137 _ ?side1 A14.out).mono ?_
  (case side1 => first | exact Glob.below HG.out (HB.out) | (repeat (first | exact Glob.below HG.out HB.out | (with_reducible refine Glob.alloc ?_ _) | (with_reducible refine Glob.drewN ?_ _) | (with_reducible refine Glob.drew ?_))))
  rintro e w22 ⟨rfl, hb⟩
  refine ⟨_, rfl, ?_⟩
  have n0_ := Aside0.mk (blk_below BK134.out hb)
  have n1_ := Aside0.mk (below_step (HB.out) hb)
  clear BK134
  clear HB
  have BK134 := n0_
  have HB := n1_
  clear n0_ n1_
  (try clear hb)
  (try clear hb2)
  (try clear hk)
  (try clear hi)
  refine hK.out _ _ ⟨(blk_cell BK134.out 0).trans rfl, (blk_cell BK134.out 1).trans rfl, (blk_cell BK134.out 2).trans rfl⟩ (fun hHeld => ?_)
  clear hK K
  refine norm_ (a' := ?_) ?_ ?_
  rotate_left
  · show Act.put _ (some 19) _ = _
    simp only [Act.put, List.setIfInBounds_toArray, List.set_cons_zero, List.set_cons_succ, i64_w, i32_w]
    rfl
  refine pure_ (i := 3) (N := some 20) (v := ?_) (a' := ?_) (bs 10 111) rfl rfl (any_of HT_.out (by kernel_rfl)) (fun _ _ _ h => h) (Or.inl ⟨by rfl, ?_⟩) ?_ ?_
  rotate_left
  · intro w'
    go_simp
    with_reducible rfl
  rotate_left
  · simp only [Act.put, List.setIfInBounds_toArray, List.set_cons_zero, List.set_cons_succ, i64_w, i32_w]
    rfl
  refine pure_ (i := 4) (N := some 21) (v := ?_) (a' := ?_) (bs 10 127) rfl rfl (any_of HT_.out (by kernel_rfl)) (fun _ _ _ h => h) (Or.inl ⟨by rfl, ?_⟩) ?_ ?_
  rotate_left
  · intro w'
    go_simp
    with_reducible rfl
  rotate_left
  · simp only [Act.put, List.setIfInBounds_toArray, List.set_cons_zero, List.set_cons_succ, i64_w, i32_w]
    rfl
  refine one_ (i := 7) (N := some 24) (bs 10 255) rfl rfl (one_of HT_.out (by kernel_rfl)) (by decide) (fun K hK => ?_)
  refine goes_ Tryd.func19 (by kernel_rfl) rfl #[.int .i64 a0_1] (by rfl) rfl rfl (by (try simp only [List.map_toArray, List.map_cons, List.map_nil]); first | done | rfl | (simp only [List.length_drop, List.length_take]; rfl)) ?_
  with_reducible refine (words_Text.calls a0_1 t138 _ ?side1 A17.out).mono ?_
  (case side1 => first | exact Glob.below HG.out (HB.out) | (repeat (first | exact Glob.below HG.out HB.out | (with_reducible refine Glob.alloc ?_ _) | (with_reducible refine Glob.drewN ?_ _) | (with_reducible refine Glob.drew ?_))))
  rintro e w23 ⟨rfl, hb⟩
  refine ⟨_, rfl, ?_⟩
  have n0_ := Aside0.mk (blk_below BK134.out hb)
  have n1_ := Aside0.mk (below_step (HB.out) hb)
  clear BK134
  clear HB
  have BK134 := n0_
  have HB := n1_
  clear n0_ n1_
  (try clear hb)
  (try clear hb2)
  (try clear hk)
  (try clear hi)
  refine hK.out _ _ ⟨(blk_cell BK134.out 0).trans rfl, (blk_cell BK134.out 1).trans rfl, (blk_cell BK134.out 2).trans rfl⟩ (fun hHeld => ?_)
  clear hK K
  refine norm_ (a' := ?_) ?_ ?_
  rotate_left
  · show Act.put _ (some 24) _ = _
    simp only [Act.put, List.setIfInBounds_toArray, List.set_cons_zero, List.set_cons_succ, i64_w, i32_w]
    rfl
  refine pure_ (i := 8) (N := some 25) (v := ?_) (a' := ?_) (bs 10 511) rfl rfl (any_of HT_.out (by kernel_rfl)) (fun _ _ _ h => h) (Or.inl ⟨by rfl, ?_⟩) ?_ ?_
  rotate_left
  · intro w'
    go_simp
    with_reducible rfl
  rotate_left
  · simp only [Act.put, List.setIfInBounds_toArray, List.set_cons_zero, List.set_cons_succ, i64_w, i32_w]
    rfl
  refine pure_ (i := 9) (N := some 2) (v := ?_) (a' := ?_) (bs 10 1023) rfl rfl (any_of HT_.out (by kernel_rfl)) (fun _ _ _ h => h) (Or.inl ⟨by rfl, ?_⟩) ?_ ?_
  rotate_left
  · intro w'
    go_simp
    with_reducible rfl
  rotate_left
  · simp only [Act.put, List.setIfInBounds_toArray, List.set_cons_zero, List.set_cons_succ, i64_w, i32_w]
    rfl
  refine done_ (done_of HT_.out (by kernel_rfl)) ?_
  try go_wp2
  go_ret
  exact ⟨by first | rfl | (simp [errW_none, errW_some] <;> rfl) | (simp [*, errW_none, errW_some] <;> rfl), HB.out⟩
end Go.Proofs.YtgkjoodlcojkkaaDoor.QD
end
