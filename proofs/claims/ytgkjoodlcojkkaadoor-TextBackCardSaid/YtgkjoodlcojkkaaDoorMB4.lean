import Derived.Test.YtgkjoodlcojkkaaDoorMB2
import Derived.Test.YtgkjoodlcojkkaaDoorMB3
import Derived.Shelf.Strings.BuilderK
import Derived.Test.YtgkjoodlcojkkaaDoorProg
import Derived.Lib.UnsafeStr
section
namespace Go.Proofs.YtgkjoodlcojkkaaDoor.QD
open Go.RowKit Go.Proofs.YtgkjoodlcojkkaaDoorW.PrintWords Go.Proofs.YtgkjoodlcojkkaaDoorW.PrintLast Go.Proofs.YtgkjoodlcojkkaaDoorW.PrintMore
attribute [local go_sem] zbd_ zbe_ zbm_ zbl_ zaW_ zaX_ zbc_ zbb_
set_option linter.unusedVariables false
set_option linter.unusedSimpArgs false
mutual
def zay_.j0 : Nat → List ByteArray → Int → Option (ByteArray × Int × Int × Int × Int × (List (S50)) × Int)
  | 0, _, _ => none
  | k + 1, x0, x4 => if (x0.length : Int) < 6 then (some ((⟨#[]⟩ : ByteArray), 0, 0, 0, 0, ([] : List (S50)), x4)) else (if 2 ≤ 6 then (if 6 ≤ (x0.length : Int) then ((zaq_.f k ((x0.take 6).drop 2)).bind fun c6 => (if c6.2 = true then (if 1 < (x0.length : Int) then (if 0 < (c6.1.length : Int) then (if 1 < (c6.1.length : Int) then (if 2 < (c6.1.length : Int) then (if 3 < (c6.1.length : Int) then (zay_.l0 k x4 (x0.drop 6) ((x0.drop 6).length : Int) 0 (rdOf ByteArray.empty x0 1) (rd c6.1 0) (rd c6.1 1) (rd c6.1 2) (rd c6.1 3) ([] : List (S50))) else (none)) else (none)) else (none)) else (none)) else (none)) else (some ((⟨#[]⟩ : ByteArray), 0, 0, 0, 0, ([] : List (S50)), x4)))) else (none)) else (none))
def zay_.l0 : Nat → Int → List ByteArray → Int → Int → ByteArray → Int → Int → Int → Int → List (S50) → Option (ByteArray × Int × Int × Int × Int × (List (S50)) × Int)
  | 0, _, _, _, _, _, _, _, _, _, _ => none
  | k + 1, x4, x47, x48, x49, e5, e6, e7, e8, e9, d7 => if x49 < x48 then (if 0 ≤ x49 then (if x49 < (x47.length : Int) then ((zas_.f k (rdOf ByteArray.empty x47 x49)).bind fun g0 => (if g0.2.2.2 = 0 then (if d7.length < 5864062014805 then (zay_.l0 k x4 x47 x48 (wrap64 (x49 + 1)) e5 e6 e7 e8 e9 (d7 ++ [(⟨g0.1, g0.2.1, g0.2.2.1⟩ : S50)])) else (none)) else (some ((⟨#[]⟩ : ByteArray), 0, 0, 0, 0, ([] : List (S50)), x4)))) else (none)) else (none)) else (some (e5, e6, e7, e8, e9, d7, 0))
end
def zay_.f (k : Nat) (l0 : List ByteArray) : Option (ByteArray × Int × Int × Int × Int × (List (S50)) × Int) := if 1 ≤ (l0.length : Int) then ((zaN_.f k (l0.drop 1)).bind fun e3 => (if e3 = true then (zay_.j0 k l0 18) else (zay_.j0 k l0 10))) else (none)
theorem zay_.mono_l : ∀ k, (∀ y0 y1, LeO (zay_.j0 k y0 y1) (zay_.j0 (k + 1) y0 y1)) ∧ (∀ y0 y1 y2 y3 y4 y5 y6 y7 y8 y9, LeO (zay_.l0 k y0 y1 y2 y3 y4 y5 y6 y7 y8 y9) (zay_.l0 (k + 1) y0 y1 y2 y3 y4 y5 y6 y7 y8 y9))
  | 0 => ⟨fun _ _ r h => by simp [zay_.j0] at h, fun _ _ _ _ _ _ _ _ _ _ r h => by simp [zay_.l0] at h⟩
  | k + 1 => by
    obtain ⟨ih0, ih1⟩ := zay_.mono_l k
    refine ⟨?_, ?_⟩
    · intro y0 y1
      unfold zay_.j0
      repeat' first
      | (with_reducible exact ih0 _ _)
      | (with_reducible exact ih1 _ _ _ _ _ _ _ _ _ _)
      | (with_reducible exact zaN_.mono _ _)
      | (with_reducible exact zaq_.mono _ _)
      | (with_reducible exact zas_.mono _ _)
      | (with_reducible exact LeO.refl _)
      | (with_reducible exact LeO.none _)
      | (with_reducible refine LeO.ite ?_ ?_)
      | (with_reducible refine LeO.bind ?_ (fun _ => ?_))
      | exact ih0 _ _
      | exact ih1 _ _ _ _ _ _ _ _ _ _
      | exact zaN_.mono _ _
      | exact zaq_.mono _ _
      | exact zas_.mono _ _
      | exact LeO.none _
      | refine LeO.ite ?_ ?_
      | refine LeO.bind ?_ (fun _ => ?_)
    · intro y0 y1 y2 y3 y4 y5 y6 y7 y8 y9
      unfold zay_.l0
      repeat' first
      | (with_reducible exact ih0 _ _)
      | (with_reducible exact ih1 _ _ _ _ _ _ _ _ _ _)
      | (with_reducible exact zaN_.mono _ _)
      | (with_reducible exact zaq_.mono _ _)
      | (with_reducible exact zas_.mono _ _)
      | (with_reducible exact LeO.refl _)
      | (with_reducible exact LeO.none _)
      | (with_reducible refine LeO.ite ?_ ?_)
      | (with_reducible refine LeO.bind ?_ (fun _ => ?_))
      | exact ih0 _ _
      | exact ih1 _ _ _ _ _ _ _ _ _ _
      | exact zaN_.mono _ _
      | exact zaq_.mono _ _
      | exact zas_.mono _ _
      | exact LeO.none _
      | refine LeO.ite ?_ ?_
      | refine LeO.bind ?_ (fun _ => ?_)
theorem zay_.mono : ∀ a0 k, LeO (zay_.f k a0) (zay_.f (k + 1) a0) := by
  intro a0 k
  obtain ⟨ih0, ih1⟩ := zay_.mono_l k
  unfold zay_.f
  repeat' first
      | (with_reducible exact ih0 _ _)
      | (with_reducible exact ih1 _ _ _ _ _ _ _ _ _ _)
      | (with_reducible exact zaN_.mono _ _)
      | (with_reducible exact zaq_.mono _ _)
      | (with_reducible exact zas_.mono _ _)
      | (with_reducible exact LeO.refl _)
      | (with_reducible exact LeO.none _)
      | (with_reducible refine LeO.ite ?_ ?_)
      | (with_reducible refine LeO.bind ?_ (fun _ => ?_))
      | exact ih0 _ _
      | exact ih1 _ _ _ _ _ _ _ _ _ _
      | exact zaN_.mono _ _
      | exact zaq_.mono _ _
      | exact zas_.mono _ _
      | exact LeO.none _
      | refine LeO.ite ?_ ?_
      | refine LeO.bind ?_ (fun _ => ?_)
def zay_.T9 : Bool × List (List Nat × List Nat) := (true, [([], []), ([0], [0]), ([1], [1]), ([], []), ([3], [3]), ([4], [4]), ([], []), ([6], [6]), ([7], [7]), ([], []), ([9], [9]), ([10], [10]), ([], []), ([12], [12]), ([13], [13]), ([2, 5, 8, 11, 14], [2, 5, 8, 11, 14]), ([], []), ([16, 15, 0, 1, 2, 3, 4, 5, 6, 7, 8, 9, 10, 11, 12, 13, 14, 15, 16], [15, 16])])
def zay_.B9 : List Nat := [0, 1, 3, 0, 8, 24, 0, 64, 192, 0, 512, 1536, 0, 4096, 12288, 32767, 0, 131071]
theorem zay_.tab9 : rtab .any (opsOf Tryd.f42 9) = zay_.T9 := by kernel_rfl
theorem zay_.bits9 : waitsOk zay_.T9.2 zay_.B9 = true := by kernel_rfl
set_option maxHeartbeats 8000000 in
set_option maxRecDepth 100000 in
theorem zay_.calls (k : Nat) (A0 : Option Addr) (c0 : Nat) (l0 : List ByteArray) (r1 : ByteArray) (r2 : Int) (r3 : Int) (r4 : Int) (r5 : Int) (r6 : List (S50)) (r7 : Int) (w : World) (hr0 : Kd.C Kd.string w A0 l0.length l0) (hc0 : l0.length ≤ c0) (hG : Glob w) (h : zay_.f k l0 = some (r1, r2, r3, r4, r5, r6, r7)) :
    Calls Tryd.prog 42 #[.slice A0 l0.length c0] w fun e w' => ∃ v5_ : Value, e = .returned (.tuple #[.agg #[.string r1, .int .i64 r2, .int .i64 r3, .int .i64 r4, .int .i64 r5, v5_], .int .i64 r7]) ∧ Kd.R k50 50 w' w.heap.size (fun _ => True) v5_ r6 ∧ Below w.heap.size w w' := by
  have hu53 := Tryd.underlying53
  have hu50 := Tryd.underlying50
  have k0 := Aside0.mk hr0
  have HC0 := Aside0.mk hc0
  clear hr0 hc0
  have HG := Aside0.mk hG
  clear hG
  have HB := Aside0.mk (Below.refl w.heap.size w)
  have H : (if 1 ≤ (l0.length : Int) then ((zaN_.f k (l0.drop 1)).bind fun e3 => (if e3 = true then (zay_.j0 k l0 18) else (zay_.j0 k l0 10))) else (none)) = some (r1, r2, r3, r4, r5, r6, r7) := h
  clear h
  by_cases c2 : 1 ≤ (l0.length : Int)
  rotate_left
  · rw [if_neg c2] at H
    exact absurd H (by simp)
  rw [if_pos c2] at H
  have E3 := eq_true c2
  have E4 : decide (1 ≤ (l0.length : Int)) = true := decide_eq_true c2
  clear c2
  replace H := Option.bind_eq_some_iff.mp H
  obtain ⟨e3, C1, H⟩ := H
  replace H : (if e3 = true then (zay_.j0 k l0 18) else (zay_.j0 k l0 10)) = some (r1, r2, r3, r4, r5, r6, r7) := H
  have A3 := Aside0.mk C1
  clear C1
  have HC4 := Aside0.mk H
  clear H
  go_enter Tryd.func42, Tryd.ntmps42
  go_upto_if 14 with (first | ((with_reducible refine zaL_ (N := 2) rfl ?_); refine zaD_ ?hg (N := 2) ?hd (cs := #[.string (⟨#[]⟩ : ByteArray), .int .i64 0, .int .i64 0, .int .i64 0, .int .i64 0, .slice none 0 0]) (t := 53) ?hr ?_; (case hd => rfl); (case hg => rfl); (case hr => first | (go_simp; done) | (go_simp; rfl)); intro a6 hg w5 hbox hb; have c3 := Aside0.mk (zaj_ (HB.out) hb); have c4 := Aside0.mk (hbox); have c5 := Aside0.mk ((by rw [hg]; exact (zam_ (HB.out)) : w.heap.size ≤ a6)); have d5 := c5; clear HB; have HB := c3; have a3 := c4; have C2 := c5; have d2 := d5; clear c3 c4 c5 d5; clear hb hbox hg; obtain ⟨i06, hi06, _, hsz6, _⟩ := info_parts info9; obtain ⟨A6, hcut6, hA6, hC6⟩ := zbF_ (P := Tryd.prog) Value.string (⟨#[]⟩ : ByteArray) 26 9 .i64 Tryd.underlying26 hi06 hsz6 A0 c0 l0 1 (by omega) (of_decide_eq_true (by first | (with_reducible assumption) | assumption)) HC0.out; have k1 := Aside0.mk (Kd.C_of_reads (h1 := fun _ => rfl) (hA6 _ (Kd.zbC_ k0.out))); have HC239 := Aside0.mk hC6; clear hA6 hC6 hi06 hsz6) | ((with_reducible refine zar_ (f := 57) rfl ?_); refine goesL_ (some 14) rfl rfl Tryd.func57 (by kernel_rfl) rfl #[.slice A6 (l0.drop 1).length (c0 - 1)] rfl (by (try simp only [List.map_toArray, List.map_cons, List.map_nil]); first | done | (rw [show (l0.drop 1).length = (l0.length - 1) from List.length_drop] <;> rfl) | rfl | (simp only [List.length_drop, List.length_take]; rfl)) ?_; (with_reducible refine (zaN_.calls k _ _ (l0.drop 1) e3 _ ?side1 ?side2 ?side3 A3.out).mono ?_); (case side1 => repeat (first | exact (Kd.zaB_ k1.out HB.out) | (with_reducible refine Kd.zaI_ ?_ _) | (with_reducible refine Kd.zaJ_ ?_ _) | (with_reducible refine Kd.C_drew ?_))); (case side2 => exact HC239.out); (case side3 => first | exact Glob.below HG.out (HB.out) | (repeat (first | exact Glob.below HG.out HB.out | (with_reducible refine Glob.alloc ?_ _) | (with_reducible refine Glob.drewN ?_ _) | (with_reducible refine Glob.drew ?_)))); rintro e w7 ⟨rfl, hb⟩; refine ⟨_, rfl, ?_⟩; have c3 := Aside0.mk (zan_ a3.out hb); have c4 := Aside0.mk (zaj_ (HB.out) hb); clear a3; clear HB; have a3 := c3; have HB := c4; clear c3 c4; (try clear hb); (try clear hb2); (try clear hk); (try clear hi)))
  (try simp only [Act.put, List.setIfInBounds_toArray, List.set_cons_zero, List.set_cons_succ])
  go_cut [4] (fun v4 wc => ∃ (kq : Nat) (d8 : Int), v4 = .int .i64 d8 ∧ Aside0 (zay_.j0 kq l0 d8 = some (r1, r2, r3, r4, r5, r6, r7)) ∧ Aside0 (kq ≤ k) ∧ Aside0 (wc.heap[a6]? = some (.cells #[.string (⟨#[]⟩ : ByteArray), .int .i64 0, .int .i64 0, .int .i64 0, .int .i64 0, (.slice none 0 0)] 53 (0, 0))) ∧ Aside0 (Below w.heap.size w wc))
  case first =>
    have H := HC4.out
    clear HC4
    by_cases c8 : e3 = true
    rotate_left
    · replace c8 := Bool.eq_false_iff.mpr c8
      subst c8
      rw [if_neg (show ¬ (false = true) by decide)] at H
      have H' := Aside0.mk H
      clear H
      go_wp2
      go_meet
      case rel => exact ⟨_, (10), (by first | rfl | (simp; done) | (simp [*]; done)), H', ⟨by first | omega | exact Nat.le_refl _⟩, ⟨a3.out⟩, ⟨HB.out⟩⟩
    subst c8
    rw [if_pos rfl] at H
    have H' := Aside0.mk H
    clear H
    go_wp2
    go_meet
    case rel => exact ⟨_, (18), (by first | rfl | (simp; done) | (simp [*]; done)), H', ⟨by first | omega | exact Nat.le_refl _⟩, ⟨a3.out⟩, ⟨HB.out⟩⟩
  clear HC4
  obtain ⟨kq, d8, rfl, HA, C3, a3, HB⟩ := hcut
  cases kq with
  | zero => exact absurd HA.out (by simp [zay_.j0])
  | succ k3 => ?_
  have H := HA.out
  clear HA
  simp only [zay_.j0] at H
  by_cases c9 : (l0.length : Int) < 6
  · rw [if_pos c9] at H
    have B5 : decide ((l0.length : Int) < 6) = true := decide_eq_true c9
    have B6 : decide (l0.length < 6) = true := decide_eq_true (by omega)
    clear c9
    simp only [Option.some.injEq, Prod.mk.injEq] at H
    obtain ⟨rfl, rfl, rfl, rfl, rfl, rfl, rfl⟩ := H
    have m3 : wc.cell? ⟨a6, 0, none⟩ = some (.string (⟨#[]⟩ : ByteArray)) := (zab_ a3.out 0).trans rfl
    have m4 : wc.cell? ⟨a6, 1, none⟩ = some (.int .i64 0) := (zab_ a3.out 1).trans rfl
    have m5 : wc.cell? ⟨a6, 2, none⟩ = some (.int .i64 0) := (zab_ a3.out 2).trans rfl
    have m6 : wc.cell? ⟨a6, 3, none⟩ = some (.int .i64 0) := (zab_ a3.out 3).trans rfl
    have m7 : wc.cell? ⟨a6, 4, none⟩ = some (.int .i64 0) := (zab_ a3.out 4).trans rfl
    have m8 : wc.cell? ⟨a6, 5, none⟩ = some (.slice none 0 0) := (zab_ a3.out 5).trans rfl
    have m9 := zaa_ a3.out 0
    have n0 := zaa_ a3.out 1
    have n1 := zaa_ a3.out 2
    have n2 := zaa_ a3.out 3
    have n3 := zaa_ a3.out 4
    have n4 := zaa_ a3.out 5
    go_wp2
    refine bodyPost_ret (zbz_ rfl _ _ a6 53 #[.string (⟨#[]⟩ : ByteArray), .int .i64 0, .int .i64 0, .int .i64 0, .int .i64 0, .slice none 0 0] (0, 0) _ rfl (by (with_reducible repeat (first | refine zac_ ?_ _ | refine zaf_ ?_ | refine zad_ ?_ _)); refine zat_ (cs := #[.string (⟨#[]⟩ : ByteArray), .int .i64 0, .int .i64 0, .int .i64 0, .int .i64 0, .slice none 0 0]) ?_ 5 _ rfl; (with_reducible repeat (first | refine zac_ ?_ _ | refine zaf_ ?_ | refine zad_ ?_ _)); refine zat_ (cs := #[.string (⟨#[]⟩ : ByteArray), .int .i64 0, .int .i64 0, .int .i64 0, .int .i64 0, .slice none 0 0]) ?_ 4 _ rfl; (with_reducible repeat (first | refine zac_ ?_ _ | refine zaf_ ?_ | refine zad_ ?_ _)); refine zat_ (cs := #[.string (⟨#[]⟩ : ByteArray), .int .i64 0, .int .i64 0, .int .i64 0, .int .i64 0, .slice none 0 0]) ?_ 3 _ rfl; (with_reducible repeat (first | refine zac_ ?_ _ | refine zaf_ ?_ | refine zad_ ?_ _)); refine zat_ (cs := #[.string (⟨#[]⟩ : ByteArray), .int .i64 0, .int .i64 0, .int .i64 0, .int .i64 0, .slice none 0 0]) ?_ 2 _ rfl; (with_reducible repeat (first | refine zac_ ?_ _ | refine zaf_ ?_ | refine zad_ ?_ _)); refine zat_ (cs := #[.string (⟨#[]⟩ : ByteArray), .int .i64 0, .int .i64 0, .int .i64 0, .int .i64 0, .slice none 0 0]) ?_ 1 _ rfl; (with_reducible repeat (first | refine zac_ ?_ _ | refine zaf_ ?_ | refine zad_ ?_ _)); refine zat_ (cs := #[.string (⟨#[]⟩ : ByteArray), .int .i64 0, .int .i64 0, .int .i64 0, .int .i64 0, .slice none 0 0]) ?_ 0 _ rfl; (with_reducible repeat (first | refine zac_ ?_ _ | refine zaf_ ?_ | refine zad_ ?_ _)); exact a3.out) Tryd.underlying53 rfl (by kernel_rfl)) rfl ?_
    exact ⟨_, by first | rfl | (simp [zal_, zak_] <;> rfl) | (simp [*, zal_, zak_] <;> rfl), by first | exact Kd.R_nil _ _ _ _ _ | exact Kd.N_nil _ _ _ _ _ | exact Kd.V_nil _ _ _ _ _ | exact Kd.Q_nil _ _ _ _ _ | exact Kd.S_nil _ _ _ _ _, by repeat (first | (with_reducible first | exact HB.out | apply zah_ | apply zae_ | apply zag_ | refine zai_ ?_ d2.out) | exact HB.out)⟩
  rw [if_neg c9] at H
  have B5 : decide ((l0.length : Int) < 6) = false := decide_eq_false c9
  have B6 : decide (l0.length < 6) = false := decide_eq_false (by omega)
  clear c9
  by_cases k4 : 2 ≤ 6
  rotate_left
  · rw [if_neg k4] at H
    exact absurd H (by simp)
  rw [if_pos k4] at H
  have C4 := eq_true k4
  have C5 : decide (2 ≤ 6) = true := decide_eq_true k4
  clear k4
  by_cases k5 : 6 ≤ (l0.length : Int)
  rotate_left
  · rw [if_neg k5] at H
    exact absurd H (by simp)
  rw [if_pos k5] at H
  have C6 := eq_true k5
  have C7 : decide (6 ≤ (l0.length : Int)) = true := decide_eq_true k5
  clear k5
  replace H := Option.bind_eq_some_iff.mp H
  obtain ⟨⟨a4, k6⟩, k7, H⟩ := H
  replace H : (if k6 = true then (if 1 < (l0.length : Int) then (if 0 < (a4.length : Int) then (if 1 < (a4.length : Int) then (if 2 < (a4.length : Int) then (if 3 < (a4.length : Int) then (zay_.l0 k3 d8 (l0.drop 6) ((l0.drop 6).length : Int) 0 (rdOf ByteArray.empty l0 1) (rd a4 0) (rd a4 1) (rd a4 2) (rd a4 3) ([] : List (S50))) else (none)) else (none)) else (none)) else (none)) else (none)) else (some ((⟨#[]⟩ : ByteArray), 0, 0, 0, 0, ([] : List (S50)), d8))) = some (r1, r2, r3, r4, r5, r6, r7) := H
  have C8 := Aside0.mk k7
  clear k7
  by_cases n5 : k6 = true
  rotate_left
  · replace n5 := Bool.eq_false_iff.mpr n5
    subst n5
    rw [if_neg (show ¬ (false = true) by decide)] at H
    simp only [Option.some.injEq, Prod.mk.injEq] at H
    obtain ⟨rfl, rfl, rfl, rfl, rfl, rfl, rfl⟩ := H
    obtain ⟨i015, hi015, _, hsz15, _⟩ := info_parts info9
    obtain ⟨E5, hcut15, hA15, hC15⟩ := print_mid_of (P := Tryd.prog) Value.string (⟨#[]⟩ : ByteArray) 26 9 .i64 .i64 Tryd.underlying26 hi015 hsz15 A0 c0 l0 2 6 (by omega) (by first | omega | exact of_decide_eq_true (by first | (with_reducible assumption) | assumption)) (of_decide_eq_true (by first | (with_reducible assumption) | assumption)) HC0.out
    have g1 := Aside0.mk (Kd.C_of_reads (h1 := fun _ => rfl) (hA15 _ (Kd.zbC_ k0.out)))
    have HC241 := Aside0.mk hC15
    clear hA15 hC15 hi015 hsz15
    go_wp2_with (first | ((with_reducible refine zar_ (f := 56) rfl ?_); refine goesL_ (some 23) rfl rfl Tryd.func56 (by kernel_rfl) rfl #[.slice E5 ((l0.take 6).drop 2).length (c0 - 2)] rfl (by (try simp only [List.map_toArray, List.map_cons, List.map_nil]); first | done | (rw [show ((l0.take 6).drop 2).length = (6 - 2) from (by rw [List.length_drop, List.length_take]; have h_ : (6 : Int) ≤ (l0.length : Int) := of_decide_eq_true (by first | (with_reducible assumption) | assumption); omega)] <;> rfl) | rfl | (simp only [List.length_drop, List.length_take]; rfl)) ?_; (with_reducible refine (zaq_.calls k3 _ _ ((l0.take 6).drop 2) a4 false _ ?side1 ?side2 ?side3 C8.out).mono ?_); (case side1 => repeat (first | exact (Kd.zaB_ g1.out HB.out) | (with_reducible refine Kd.zaI_ ?_ _) | (with_reducible refine Kd.zaJ_ ?_ _) | (with_reducible refine Kd.C_drew ?_))); (case side2 => exact HC241.out); (case side3 => first | exact Glob.below HG.out (HB.out) | (repeat (first | exact Glob.below HG.out HB.out | (with_reducible refine Glob.alloc ?_ _) | (with_reducible refine Glob.drewN ?_ _) | (with_reducible refine Glob.drew ?_)))); rintro e j6 ⟨B7, rfl, k8, hb⟩; refine ⟨_, rfl, ?_⟩; have c3 := Aside0.mk (Kd.zbp_ k8 (zam_ (HB.out))); have c4 := Aside0.mk (zan_ a3.out hb); have c5 := Aside0.mk (zaj_ (HB.out) hb); clear a3; clear HB; have a2 := c3; have a3 := c4; have HB := c5; clear c3 c4 c5; (try clear hb); (try clear hb2); (try clear hk); (try clear hi); (try clear k8); have n6 : j6.cell? ⟨a6, 0, none⟩ = some (.string (⟨#[]⟩ : ByteArray)) := (zab_ a3.out 0).trans rfl; have n7 : j6.cell? ⟨a6, 1, none⟩ = some (.int .i64 0) := (zab_ a3.out 1).trans rfl; have n8 : j6.cell? ⟨a6, 2, none⟩ = some (.int .i64 0) := (zab_ a3.out 2).trans rfl; have n9 : j6.cell? ⟨a6, 3, none⟩ = some (.int .i64 0) := (zab_ a3.out 3).trans rfl; have o0 : j6.cell? ⟨a6, 4, none⟩ = some (.int .i64 0) := (zab_ a3.out 4).trans rfl; have o1 : j6.cell? ⟨a6, 5, none⟩ = some (.slice none 0 0) := (zab_ a3.out 5).trans rfl; have o2 := zaa_ a3.out 0; have o3 := zaa_ a3.out 1; have o4 := zaa_ a3.out 2; have o5 := zaa_ a3.out 3; have o6 := zaa_ a3.out 4; have o7 := zaa_ a3.out 5))
    refine bodyPost_ret (zbz_ rfl _ _ a6 53 #[.string (⟨#[]⟩ : ByteArray), .int .i64 0, .int .i64 0, .int .i64 0, .int .i64 0, .slice none 0 0] (0, 0) _ rfl (by (with_reducible repeat (first | refine zac_ ?_ _ | refine zaf_ ?_ | refine zad_ ?_ _)); refine zat_ (cs := #[.string (⟨#[]⟩ : ByteArray), .int .i64 0, .int .i64 0, .int .i64 0, .int .i64 0, .slice none 0 0]) ?_ 5 _ rfl; (with_reducible repeat (first | refine zac_ ?_ _ | refine zaf_ ?_ | refine zad_ ?_ _)); refine zat_ (cs := #[.string (⟨#[]⟩ : ByteArray), .int .i64 0, .int .i64 0, .int .i64 0, .int .i64 0, .slice none 0 0]) ?_ 4 _ rfl; (with_reducible repeat (first | refine zac_ ?_ _ | refine zaf_ ?_ | refine zad_ ?_ _)); refine zat_ (cs := #[.string (⟨#[]⟩ : ByteArray), .int .i64 0, .int .i64 0, .int .i64 0, .int .i64 0, .slice none 0 0]) ?_ 3 _ rfl; (with_reducible repeat (first | refine zac_ ?_ _ | refine zaf_ ?_ | refine zad_ ?_ _)); refine zat_ (cs := #[.string (⟨#[]⟩ : ByteArray), .int .i64 0, .int .i64 0, .int .i64 0, .int .i64 0, .slice none 0 0]) ?_ 2 _ rfl; (with_reducible repeat (first | refine zac_ ?_ _ | refine zaf_ ?_ | refine zad_ ?_ _)); refine zat_ (cs := #[.string (⟨#[]⟩ : ByteArray), .int .i64 0, .int .i64 0, .int .i64 0, .int .i64 0, .slice none 0 0]) ?_ 1 _ rfl; (with_reducible repeat (first | refine zac_ ?_ _ | refine zaf_ ?_ | refine zad_ ?_ _)); refine zat_ (cs := #[.string (⟨#[]⟩ : ByteArray), .int .i64 0, .int .i64 0, .int .i64 0, .int .i64 0, .slice none 0 0]) ?_ 0 _ rfl; (with_reducible repeat (first | refine zac_ ?_ _ | refine zaf_ ?_ | refine zad_ ?_ _)); exact a3.out) Tryd.underlying53 rfl (by kernel_rfl)) rfl ?_
    exact ⟨_, by first | rfl | (simp [zal_, zak_] <;> rfl) | (simp [*, zal_, zak_] <;> rfl), by first | exact Kd.R_nil _ _ _ _ _ | exact Kd.N_nil _ _ _ _ _ | exact Kd.V_nil _ _ _ _ _ | exact Kd.Q_nil _ _ _ _ _ | exact Kd.S_nil _ _ _ _ _, by repeat (first | (with_reducible first | exact HB.out | apply zah_ | apply zae_ | apply zag_ | refine zai_ ?_ d2.out) | exact HB.out)⟩
  subst n5
  rw [if_pos rfl] at H
  by_cases o8 : 1 < (l0.length : Int)
  rotate_left
  · rw [if_neg o8] at H
    exact absurd H (by simp)
  rw [if_pos o8] at H
  have C9 : decide (1 < (l0.length : Int)) = true := decide_eq_true o8
  have D0 : decide (1 < l0.length) = true := decide_eq_true (by omega)
  clear o8
  by_cases o9 : 0 < (a4.length : Int)
  rotate_left
  · rw [if_neg o9] at H
    exact absurd H (by simp)
  rw [if_pos o9] at H
  have D1 : decide (0 < (a4.length : Int)) = true := decide_eq_true o9
  have D2 : decide (0 < a4.length) = true := decide_eq_true (by omega)
  clear o9
  by_cases p0 : 1 < (a4.length : Int)
  rotate_left
  · rw [if_neg p0] at H
    exact absurd H (by simp)
  rw [if_pos p0] at H
  have D3 : decide (1 < (a4.length : Int)) = true := decide_eq_true p0
  have D4 : decide (1 < a4.length) = true := decide_eq_true (by omega)
  clear p0
  by_cases p1 : 2 < (a4.length : Int)
  rotate_left
  · rw [if_neg p1] at H
    exact absurd H (by simp)
  rw [if_pos p1] at H
  have D5 : decide (2 < (a4.length : Int)) = true := decide_eq_true p1
  have D6 : decide (2 < a4.length) = true := decide_eq_true (by omega)
  clear p1
  by_cases p2 : 3 < (a4.length : Int)
  rotate_left
  · rw [if_neg p2] at H
    exact absurd H (by simp)
  rw [if_pos p2] at H
  have D7 : decide (3 < (a4.length : Int)) = true := decide_eq_true p2
  have D8 : decide (3 < a4.length) = true := decide_eq_true (by omega)
  clear p2
  have D9 := eq_true (of_decide_eq_true (by first | (with_reducible assumption) | assumption) : 6 ≤ (l0.length : Int))
  have H' := Aside0.mk H
  clear H
  obtain ⟨i024, hi024, _, hsz24, _⟩ := info_parts info9
  obtain ⟨E6, hcut24, hA24, hC24⟩ := print_mid_of (P := Tryd.prog) Value.string (⟨#[]⟩ : ByteArray) 26 9 .i64 .i64 Tryd.underlying26 hi024 hsz24 A0 c0 l0 2 6 (by omega) (by first | omega | exact of_decide_eq_true (by first | (with_reducible assumption) | assumption)) (of_decide_eq_true (by first | (with_reducible assumption) | assumption)) HC0.out
  have g1 := Aside0.mk (Kd.C_of_reads (h1 := fun _ => rfl) (hA24 _ (Kd.zbC_ k0.out)))
  have HC241 := Aside0.mk hC24
  clear hA24 hC24 hi024 hsz24
  try go_wp2_with (first | ((with_reducible refine zar_ (f := 56) rfl ?_); refine goesL_ (some 23) rfl rfl Tryd.func56 (by kernel_rfl) rfl #[.slice E6 ((l0.take 6).drop 2).length (c0 - 2)] rfl (by (try simp only [List.map_toArray, List.map_cons, List.map_nil]); first | done | (rw [show ((l0.take 6).drop 2).length = (6 - 2) from (by rw [List.length_drop, List.length_take]; have h_ : (6 : Int) ≤ (l0.length : Int) := of_decide_eq_true (by first | (with_reducible assumption) | assumption); omega)] <;> rfl) | rfl | (simp only [List.length_drop, List.length_take]; rfl)) ?_; (with_reducible refine (zaq_.calls k3 _ _ ((l0.take 6).drop 2) a4 true _ ?side1 ?side2 ?side3 C8.out).mono ?_); (case side1 => repeat (first | exact (Kd.zaB_ g1.out HB.out) | (with_reducible refine Kd.zaI_ ?_ _) | (with_reducible refine Kd.zaJ_ ?_ _) | (with_reducible refine Kd.C_drew ?_))); (case side2 => exact HC241.out); (case side3 => first | exact Glob.below HG.out (HB.out) | (repeat (first | exact Glob.below HG.out HB.out | (with_reducible refine Glob.alloc ?_ _) | (with_reducible refine Glob.drewN ?_ _) | (with_reducible refine Glob.drew ?_)))); rintro e E7 ⟨B7, rfl, k8, hb⟩; refine ⟨_, rfl, ?_⟩; have c3 := Aside0.mk (Kd.zbp_ k8 (zam_ (HB.out))); have c4 := Aside0.mk (zan_ a3.out hb); have c5 := Aside0.mk (zaj_ (HB.out) hb); clear a3; clear HB; have a2 := c3; have a3 := c4; have HB := c5; clear c3 c4 c5; (try clear hb); (try clear hb2); (try clear hk); (try clear hi); (try clear k8)))
  have c3 := Aside0.mk (Kd.R_drew a2.out)
  have c4 := Aside0.mk (zaf_ a3.out)
  have c5 := Aside0.mk (zag_ HB.out)
  clear a2
  clear a3
  clear HB
  have a2 := c3
  have a3 := c4
  have HB := c5
  clear c3 c4 c5
  have h4 : 0 ≤ (1 : Int) := (by omega)
  have h5 : 1 < (l0.length : Int) := of_decide_eq_true (by first | (with_reducible assumption) | assumption)
  obtain ⟨ad246, e246, hx246_0⟩ := Kd.zbj_ k0.out 1 h4 h5
  have hw246_0 := hx246_0
  (try rw [show ((1 : Int)).toNat = 1 from rfl] at hw246_0)
  (try rw [show 1 * 1 = 1 from rfl] at hw246_0)
  (try simp only [Nat.reduceMul, Nat.reduceEqDiff, Go.Addr.add, ↓reduceIte] at hw246_0)
  cases e246
  (try simp only [show (1 : Int).toNat = 1 from rfl, Nat.reduceMul, Nat.reduceEqDiff, Go.Addr.add, ↓reduceIte] at hx246_0)
  have qi246 : (1 < l0.length) = True := eq_true (by omega)
  (try rw [show ((1 : Int)).toNat = 1 from rfl] at hx246_0)
  replace hx246_0 := (HB.out.cell (World.block_lt_of_cell? w _ hx246_0)).trans hx246_0
  replace h4 := eq_true h4
  replace h5 := eq_true h5
  obtain ⟨E8, E9, k9⟩ := Kd.zbf_ a2.out
  (first | subst k9 | (injection k9 with f1_ f2_ f3_; have f4_ := f1_.symm; have f5_ := f3_.symm; clear f1_ f2_ f3_; subst f4_; subst f5_))
  have h6 : 0 ≤ (0 : Int) := (by omega)
  have h7 : 0 < (a4.length : Int) := of_decide_eq_true (by first | (with_reducible assumption) | assumption)
  obtain ⟨ad247, e247, hx247_0⟩ := Kd.at_int (Kd.zaS_ a2.out).2.2 0 h6 h7
  cases e247
  have qi247 : (0 < a4.length) = True := eq_true (by omega)
  (try rw [show ((0 : Int)).toNat = 0 from rfl] at hx247_0)
  (try rw [Addr.add_zero'] at hx247_0)
  replace h6 := eq_true h6
  replace h7 := eq_true h7
  have h8 : 0 ≤ (1 : Int) := (by omega)
  have h9 : 1 < (a4.length : Int) := of_decide_eq_true (by first | (with_reducible assumption) | assumption)
  obtain ⟨ad248, e248, hx248_0⟩ := Kd.at_int (Kd.zaS_ a2.out).2.2 1 h8 h9
  obtain rfl : ad247 = ad248 := (by injection e248)
  (try simp only [show (1 : Int).toNat = 1 from rfl, Nat.reduceMul, Nat.reduceEqDiff, Go.Addr.add, ↓reduceIte] at hx248_0)
  have qi248 : (1 < a4.length) = True := eq_true (by omega)
  (try rw [show ((1 : Int)).toNat = 1 from rfl] at hx248_0)
  replace h8 := eq_true h8
  replace h9 := eq_true h9
  have j1 : 0 ≤ (2 : Int) := (by omega)
  have j2 : 2 < (a4.length : Int) := of_decide_eq_true (by first | (with_reducible assumption) | assumption)
  obtain ⟨ad249, e249, hx249_0⟩ := Kd.at_int (Kd.zaS_ a2.out).2.2 2 j1 j2
  obtain rfl : ad247 = ad249 := (by injection e249)
  (try simp only [show (2 : Int).toNat = 2 from rfl, Nat.reduceMul, Nat.reduceEqDiff, Go.Addr.add, ↓reduceIte] at hx249_0)
  have qi249 : (2 < a4.length) = True := eq_true (by omega)
  (try rw [show ((2 : Int)).toNat = 2 from rfl] at hx249_0)
  replace j1 := eq_true j1
  replace j2 := eq_true j2
  have j3 : 0 ≤ (3 : Int) := (by omega)
  have j4 : 3 < (a4.length : Int) := of_decide_eq_true (by first | (with_reducible assumption) | assumption)
  obtain ⟨ad250, e250, hx250_0⟩ := Kd.at_int (Kd.zaS_ a2.out).2.2 3 j3 j4
  obtain rfl : ad247 = ad250 := (by injection e250)
  (try simp only [show (3 : Int).toNat = 3 from rfl, Nat.reduceMul, Nat.reduceEqDiff, Go.Addr.add, ↓reduceIte] at hx250_0)
  have qi250 : (3 < a4.length) = True := eq_true (by omega)
  (try rw [show ((3 : Int)).toNat = 3 from rfl] at hx250_0)
  replace j3 := eq_true j3
  replace j4 := eq_true j4
  refine start_ (n := 18) (S := fun w' => w'.cell? ⟨ad246.block, ad246.off + 1, none⟩ = some (.string (rdOf ByteArray.empty l0 1)) ∧ w'.cell? ad247 = some (.int .i64 (rd a4 0)) ∧ w'.cell? ⟨ad247.block, ad247.off + 1, none⟩ = some (.int .i64 (rd a4 1)) ∧ w'.cell? ⟨ad247.block, ad247.off + 2, none⟩ = some (.int .i64 (rd a4 2)) ∧ w'.cell? ⟨ad247.block, ad247.off + 3, none⟩ = some (.int .i64 (rd a4 3))) (ds := []) (bs 18 0) (by kernel_rfl) rfl rfl ⟨((HB.out.cell (World.block_lt_of_cell? w _ hw246_0)).trans hw246_0), hx247_0, hx248_0, hx249_0, hx250_0⟩ (fun hHeld => ?_); refine zbv_ zay_.tab9 zay_.bits9 (fun HT_ HW_ => ?_)
  generalize E7.drew = F2 at a2 a3 HB hx246_0 hx247_0 hx248_0 hx249_0 hx250_0 hHeld ⊢
  refine pure_ (i := 0) (N := some 30) (v := ?_) (a' := ?_) (bs 18 1) rfl rfl (any_of HT_.out (by kernel_rfl)) (fun _ _ _ h => h) (Or.inl ⟨by rfl, ?_⟩) ?_ ?_
  rotate_left
  · intro w'
    go_simp
    with_reducible rfl
  rotate_left
  · simp only [Act.put, List.setIfInBounds_toArray, List.set_cons_zero, List.set_cons_succ, i64_w, i32_w]
    rfl
  refine pure_ (i := 1) (N := some 31) (v := ?_) (a' := ?_) (bs 18 3) rfl rfl (any_of HT_.out (by kernel_rfl)) (fun _ _ _ h => h) (Or.inl ⟨by rfl, ?_⟩) ?_ ?_
  rotate_left
  · intro w'
    go_simp
    with_reducible rfl
  rotate_left
  · simp only [Act.put, List.setIfInBounds_toArray, List.set_cons_zero, List.set_cons_succ, i64_w, i32_w]
    rfl
  refine pure_ (i := 3) (N := some 33) (v := ?_) (a' := ?_) (bs 18 11) rfl rfl (any_of HT_.out (by kernel_rfl)) (fun _ _ _ h => h) (Or.inl ⟨by rfl, ?_⟩) ?_ ?_
  rotate_left
  · intro w'
    go_simp
    with_reducible rfl
  rotate_left
  · simp only [Act.put, List.setIfInBounds_toArray, List.set_cons_zero, List.set_cons_succ, i64_w, i32_w]
    rfl
  refine pure_ (i := 4) (N := some 34) (v := ?_) (a' := ?_) (bs 18 27) rfl rfl (any_of HT_.out (by kernel_rfl)) (fun _ _ _ h => h) (Or.inl ⟨by rfl, ?_⟩) ?_ ?_
  rotate_left
  · intro w'
    go_simp
    with_reducible rfl
  rotate_left
  · simp only [Act.put, List.setIfInBounds_toArray, List.set_cons_zero, List.set_cons_succ, i64_w, i32_w]
    rfl
  refine pure_ (i := 6) (N := some 36) (v := ?_) (a' := ?_) (bs 18 91) rfl rfl (any_of HT_.out (by kernel_rfl)) (fun _ _ _ h => h) (Or.inl ⟨by rfl, ?_⟩) ?_ ?_
  rotate_left
  · intro w'
    go_simp
    with_reducible rfl
  rotate_left
  · simp only [Act.put, List.setIfInBounds_toArray, List.set_cons_zero, List.set_cons_succ, i64_w, i32_w]
    rfl
  refine pure_ (i := 7) (N := some 37) (v := ?_) (a' := ?_) (bs 18 219) rfl rfl (any_of HT_.out (by kernel_rfl)) (fun _ _ _ h => h) (Or.inl ⟨by rfl, ?_⟩) ?_ ?_
  rotate_left
  · intro w'
    go_simp
    with_reducible rfl
  rotate_left
  · simp only [Act.put, List.setIfInBounds_toArray, List.set_cons_zero, List.set_cons_succ, i64_w, i32_w]
    rfl
  refine pure_ (i := 9) (N := some 39) (v := ?_) (a' := ?_) (bs 18 731) rfl rfl (any_of HT_.out (by kernel_rfl)) (fun _ _ _ h => h) (Or.inl ⟨by rfl, ?_⟩) ?_ ?_
  rotate_left
  · intro w'
    go_simp
    with_reducible rfl
  rotate_left
  · simp only [Act.put, List.setIfInBounds_toArray, List.set_cons_zero, List.set_cons_succ, i64_w, i32_w]
    rfl
  refine pure_ (i := 10) (N := some 40) (v := ?_) (a' := ?_) (bs 18 1755) rfl rfl (any_of HT_.out (by kernel_rfl)) (fun _ _ _ h => h) (Or.inl ⟨by rfl, ?_⟩) ?_ ?_
  rotate_left
  · intro w'
    go_simp
    with_reducible rfl
  rotate_left
  · simp only [Act.put, List.setIfInBounds_toArray, List.set_cons_zero, List.set_cons_succ, i64_w, i32_w]
    rfl
  refine pure_ (i := 12) (N := some 42) (v := ?_) (a' := ?_) (bs 18 5851) rfl rfl (any_of HT_.out (by kernel_rfl)) (fun _ _ _ h => h) (Or.inl ⟨by rfl, ?_⟩) ?_ ?_
  rotate_left
  · intro w'
    go_simp
    with_reducible rfl
  rotate_left
  · simp only [Act.put, List.setIfInBounds_toArray, List.set_cons_zero, List.set_cons_succ, i64_w, i32_w]
    rfl
  refine pure_ (i := 13) (N := some 43) (v := ?_) (a' := ?_) (bs 18 14043) rfl rfl (any_of HT_.out (by kernel_rfl)) (fun _ _ _ h => h) (Or.inl ⟨by rfl, ?_⟩) ?_ ?_
  rotate_left
  · intro w'
    go_simp
    with_reducible rfl
  rotate_left
  · simp only [Act.put, List.setIfInBounds_toArray, List.set_cons_zero, List.set_cons_succ, i64_w, i32_w]
    rfl
  refine take_ (i := 2) (N := some 32) (v := ?_) (a' := ?_) (bs 18 14047) rfl rfl (zaT_ HT_.out HW_.out (by kernel_rfl)) (fun _ _ _ h => h) (Or.inl ⟨by rfl, ?_⟩) hHeld ?_ ?_
  rotate_left
  · rintro w' ⟨s0, s1, s2, s3, s4⟩
    go_simp
    with_reducible rfl
  rotate_left
  · simp only [Act.put, List.setIfInBounds_toArray, List.set_cons_zero, List.set_cons_succ, i64_w, i32_w]
    rfl
  refine take_ (i := 5) (N := some 35) (v := ?_) (a' := ?_) (bs 18 14079) rfl rfl (zaT_ HT_.out HW_.out (by kernel_rfl)) (fun _ _ _ h => h) (Or.inl ⟨by rfl, ?_⟩) hHeld ?_ ?_
  rotate_left
  · rintro w' ⟨s0, s1, s2, s3, s4⟩
    go_simp
    with_reducible rfl
  rotate_left
  · simp only [Act.put, List.setIfInBounds_toArray, List.set_cons_zero, List.set_cons_succ, i64_w, i32_w]
    rfl
  refine take_ (i := 8) (N := some 38) (v := ?_) (a' := ?_) (bs 18 14335) rfl rfl (zaT_ HT_.out HW_.out (by kernel_rfl)) (fun _ _ _ h => h) (Or.inl ⟨by rfl, ?_⟩) hHeld ?_ ?_
  rotate_left
  · rintro w' ⟨s0, s1, s2, s3, s4⟩
    go_simp
    with_reducible rfl
  rotate_left
  · simp only [Act.put, List.setIfInBounds_toArray, List.set_cons_zero, List.set_cons_succ, i64_w, i32_w]
    rfl
  refine take_ (i := 11) (N := some 41) (v := ?_) (a' := ?_) (bs 18 16383) rfl rfl (zaT_ HT_.out HW_.out (by kernel_rfl)) (fun _ _ _ h => h) (Or.inl ⟨by rfl, ?_⟩) hHeld ?_ ?_
  rotate_left
  · rintro w' ⟨s0, s1, s2, s3, s4⟩
    go_simp
    with_reducible rfl
  rotate_left
  · simp only [Act.put, List.setIfInBounds_toArray, List.set_cons_zero, List.set_cons_succ, i64_w, i32_w]
    rfl
  refine take_ (i := 14) (N := some 44) (v := ?_) (a' := ?_) (bs 18 32767) rfl rfl (zaT_ HT_.out HW_.out (by kernel_rfl)) (fun _ _ _ h => h) (Or.inl ⟨by rfl, ?_⟩) hHeld ?_ ?_
  rotate_left
  · rintro w' ⟨s0, s1, s2, s3, s4⟩
    go_simp
    with_reducible rfl
  rotate_left
  · simp only [Act.put, List.setIfInBounds_toArray, List.set_cons_zero, List.set_cons_succ, i64_w, i32_w]
    rfl
  refine pure_ (i := 15) (N := some 45) (v := ?_) (a' := ?_) (bs 18 65535) rfl rfl (any_of HT_.out (by kernel_rfl)) (fun _ _ _ h => h) (Or.inl ⟨by rfl, ?_⟩) ?_ ?_
  rotate_left
  · intro w'
    go_simp
    with_reducible rfl
  rotate_left
  · simp only [Act.put, List.setIfInBounds_toArray, List.set_cons_zero, List.set_cons_succ, i64_w, i32_w]
    rfl
  refine one_ (i := 16) (N := some 7) (bs 18 131071) rfl rfl (one_of HT_.out (by kernel_rfl)) (by decide) (fun K hK => ?_)
  refine box_step ?hg (N := 7) ?hd (cs := #[.string (⟨#[]⟩ : ByteArray), .int .i64 0, .int .i64 0, .int .i64 0, .int .i64 0, .slice none 0 0]) (t := 53) ?hr ?_; (case hd => rfl); (case hg => rfl); (case hr => first | (go_simp; done) | (go_simp; rfl))
  intro a5 hg j7 hbox hb
  have HS1_ := (hb.cell (World.block_lt_of_cell? _ _ (hHeld.2.1))).trans (hHeld.2.1)
  have HS2_ := (hb.cell (World.block_lt_of_cell? _ _ (hHeld.2.2.1))).trans (hHeld.2.2.1)
  have HS3_ := (hb.cell (World.block_lt_of_cell? _ _ (hHeld.2.2.2.1))).trans (hHeld.2.2.2.1)
  have HS4_ := (hb.cell (World.block_lt_of_cell? _ _ (hHeld.2.2.2.2))).trans (hHeld.2.2.2.2)
  have c3 := Aside0.mk (Kd.zaU_ (by (with_reducible repeat (first | apply Kd.zav_ | apply Kd.zaw_ | apply Kd.R_drew)); exact a2.out) hb)
  have c4 := Aside0.mk (zan_ a3.out hb)
  have c5 := Aside0.mk (zaj_ (HB.out) hb)
  have d5 := Aside0.mk (hbox)
  have g2 := Aside0.mk ((by rw [hg]; exact (zam_ (HB.out)) : w.heap.size ≤ a5))
  have g5 := Aside0.mk ((by rw [hg]; exact (zam_ (HB.out)) : w.heap.size ≤ a5))
  have g9 := Aside0.mk ((by rw [hg]; exact Nat.ne_of_lt (blk_lt a3.out) : a6 ≠ a5))
  have h0 := Aside0.mk ((by rw [hg]; exact Nat.ne_of_gt (blk_lt a3.out) : a5 ≠ a6))
  clear a2
  clear a3
  clear HB
  have a2 := c3
  have a3 := c4
  have HB := c5
  have a1 := d5
  have b5 := g2
  have d6 := g5
  have a7 := g9
  have b6 := h0
  clear c3 c4 c5 d5 g2 g5 g9 h0
  clear hb hbox hg
  refine hK.out _ _ ⟨((HB.out.cell (World.block_lt_of_cell? w _ hw246_0)).trans hw246_0), HS1_, HS2_, HS3_, HS4_⟩ (fun hHeld => ?_)
  clear hK K
  refine norm_ (a' := ?_) ?_ ?_
  rotate_left
  · show Act.put _ (some 7) _ = _
    simp only [Act.put, List.setIfInBounds_toArray, List.set_cons_zero, List.set_cons_succ, i64_w, i32_w]
    rfl
  refine one_ (i := 17) (N := none) (bs 18 262143) rfl rfl (one_of HT_.out (by kernel_rfl)) (by decide) (fun K hK => ?_)
  have hs29 : j7.cell? ⟨a5, 0, none⟩ = some (.string (⟨#[]⟩ : ByteArray)) := (zab_ a1.out 0).trans rfl
  have hfs29 := zaa_ a1.out 0
  have hns29_0 := a7.out
  have hms29_0 := b6.out
  have hs30 : j7.cell? ⟨a5, 1, none⟩ = some (.int .i64 0) := (zab_ a1.out 1).trans rfl
  have hfs30 := zaa_ a1.out 1
  have hns30_0 := a7.out
  have hms30_0 := b6.out
  have hs31 : j7.cell? ⟨a5, 2, none⟩ = some (.int .i64 0) := (zab_ a1.out 2).trans rfl
  have hfs31 := zaa_ a1.out 2
  have hns31_0 := a7.out
  have hms31_0 := b6.out
  have hs32 : j7.cell? ⟨a5, 3, none⟩ = some (.int .i64 0) := (zab_ a1.out 3).trans rfl
  have hfs32 := zaa_ a1.out 3
  have hns32_0 := a7.out
  have hms32_0 := b6.out
  have hs33 : j7.cell? ⟨a5, 4, none⟩ = some (.int .i64 0) := (zab_ a1.out 4).trans rfl
  have hfs33 := zaa_ a1.out 4
  have hns33_0 := a7.out
  have hms33_0 := b6.out
  have hs34 : j7.cell? ⟨a5, 5, none⟩ = some (.slice none 0 0) := (zab_ a1.out 5).trans rfl
  have hfs34 := zaa_ a1.out 5
  have hns34_0 := a7.out
  have hms34_0 := b6.out
  refine skip_ (w1 := ?_) (by rfl) rfl ?_ ?_
  rotate_left
  · go_simp
    rfl
  refine hK.out _ _ ⟨((cell_far (p := ⟨a5, _, none⟩) (by first | exact Nat.ne_of_lt (Nat.lt_of_lt_of_le (by have := World.block_lt_of_cell? _ _ hw246_0; first | rwa [add_block] at this | exact this) b5.out) | (rw [add_block]; exact Nat.ne_of_lt (Nat.lt_of_lt_of_le (by have := World.block_lt_of_cell? _ _ hw246_0; first | rwa [add_block] at this | exact this) b5.out)) | (show (Addr.add _ _).block ≠ _; rw [add_block]; exact Nat.ne_of_lt (Nat.lt_of_lt_of_le (by have := World.block_lt_of_cell? _ _ hw246_0; first | rwa [add_block] at this | exact this) b5.out)) | (dsimp only; exact Nat.ne_of_lt (Nat.lt_of_lt_of_le (by have := World.block_lt_of_cell? _ _ hw246_0; first | rwa [add_block] at this | exact this) b5.out))) _).trans (((cell_far (p := ⟨a5, _, none⟩) (by first | exact Nat.ne_of_lt (Nat.lt_of_lt_of_le (by have := World.block_lt_of_cell? _ _ hw246_0; first | rwa [add_block] at this | exact this) b5.out) | (rw [add_block]; exact Nat.ne_of_lt (Nat.lt_of_lt_of_le (by have := World.block_lt_of_cell? _ _ hw246_0; first | rwa [add_block] at this | exact this) b5.out)) | (show (Addr.add _ _).block ≠ _; rw [add_block]; exact Nat.ne_of_lt (Nat.lt_of_lt_of_le (by have := World.block_lt_of_cell? _ _ hw246_0; first | rwa [add_block] at this | exact this) b5.out)) | (dsimp only; exact Nat.ne_of_lt (Nat.lt_of_lt_of_le (by have := World.block_lt_of_cell? _ _ hw246_0; first | rwa [add_block] at this | exact this) b5.out))) _).trans (((cell_far (p := ⟨a5, _, none⟩) (by first | exact Nat.ne_of_lt (Nat.lt_of_lt_of_le (by have := World.block_lt_of_cell? _ _ hw246_0; first | rwa [add_block] at this | exact this) b5.out) | (rw [add_block]; exact Nat.ne_of_lt (Nat.lt_of_lt_of_le (by have := World.block_lt_of_cell? _ _ hw246_0; first | rwa [add_block] at this | exact this) b5.out)) | (show (Addr.add _ _).block ≠ _; rw [add_block]; exact Nat.ne_of_lt (Nat.lt_of_lt_of_le (by have := World.block_lt_of_cell? _ _ hw246_0; first | rwa [add_block] at this | exact this) b5.out)) | (dsimp only; exact Nat.ne_of_lt (Nat.lt_of_lt_of_le (by have := World.block_lt_of_cell? _ _ hw246_0; first | rwa [add_block] at this | exact this) b5.out))) _).trans (((cell_far (p := ⟨a5, _, none⟩) (by first | exact Nat.ne_of_lt (Nat.lt_of_lt_of_le (by have := World.block_lt_of_cell? _ _ hw246_0; first | rwa [add_block] at this | exact this) b5.out) | (rw [add_block]; exact Nat.ne_of_lt (Nat.lt_of_lt_of_le (by have := World.block_lt_of_cell? _ _ hw246_0; first | rwa [add_block] at this | exact this) b5.out)) | (show (Addr.add _ _).block ≠ _; rw [add_block]; exact Nat.ne_of_lt (Nat.lt_of_lt_of_le (by have := World.block_lt_of_cell? _ _ hw246_0; first | rwa [add_block] at this | exact this) b5.out)) | (dsimp only; exact Nat.ne_of_lt (Nat.lt_of_lt_of_le (by have := World.block_lt_of_cell? _ _ hw246_0; first | rwa [add_block] at this | exact this) b5.out))) _).trans (((cell_far (p := ⟨a5, _, none⟩) (by first | exact Nat.ne_of_lt (Nat.lt_of_lt_of_le (by have := World.block_lt_of_cell? _ _ hw246_0; first | rwa [add_block] at this | exact this) b5.out) | (rw [add_block]; exact Nat.ne_of_lt (Nat.lt_of_lt_of_le (by have := World.block_lt_of_cell? _ _ hw246_0; first | rwa [add_block] at this | exact this) b5.out)) | (show (Addr.add _ _).block ≠ _; rw [add_block]; exact Nat.ne_of_lt (Nat.lt_of_lt_of_le (by have := World.block_lt_of_cell? _ _ hw246_0; first | rwa [add_block] at this | exact this) b5.out)) | (dsimp only; exact Nat.ne_of_lt (Nat.lt_of_lt_of_le (by have := World.block_lt_of_cell? _ _ hw246_0; first | rwa [add_block] at this | exact this) b5.out))) _).trans (((cell_far (p := ⟨a5, _, none⟩) (by first | exact Nat.ne_of_lt (Nat.lt_of_lt_of_le (by have := World.block_lt_of_cell? _ _ hw246_0; first | rwa [add_block] at this | exact this) b5.out) | (rw [add_block]; exact Nat.ne_of_lt (Nat.lt_of_lt_of_le (by have := World.block_lt_of_cell? _ _ hw246_0; first | rwa [add_block] at this | exact this) b5.out)) | (show (Addr.add _ _).block ≠ _; rw [add_block]; exact Nat.ne_of_lt (Nat.lt_of_lt_of_le (by have := World.block_lt_of_cell? _ _ hw246_0; first | rwa [add_block] at this | exact this) b5.out)) | (dsimp only; exact Nat.ne_of_lt (Nat.lt_of_lt_of_le (by have := World.block_lt_of_cell? _ _ hw246_0; first | rwa [add_block] at this | exact this) b5.out))) _).trans (hHeld.1)))))))))))), ((cell_far (p := ⟨a5, _, none⟩) (by first | exact Kd.zaC_ (Kd.R_ne a2.out a1.out (by decide)) | (rw [add_block]; exact Kd.zaC_ (Kd.R_ne a2.out a1.out (by decide))) | (show (Addr.add _ _).block ≠ _; rw [add_block]; exact Kd.zaC_ (Kd.R_ne a2.out a1.out (by decide))) | (dsimp only; exact Kd.zaC_ (Kd.R_ne a2.out a1.out (by decide)))) _).trans (((cell_far (p := ⟨a5, _, none⟩) (by first | exact Kd.zaC_ (Kd.R_ne a2.out a1.out (by decide)) | (rw [add_block]; exact Kd.zaC_ (Kd.R_ne a2.out a1.out (by decide))) | (show (Addr.add _ _).block ≠ _; rw [add_block]; exact Kd.zaC_ (Kd.R_ne a2.out a1.out (by decide))) | (dsimp only; exact Kd.zaC_ (Kd.R_ne a2.out a1.out (by decide)))) _).trans (((cell_far (p := ⟨a5, _, none⟩) (by first | exact Kd.zaC_ (Kd.R_ne a2.out a1.out (by decide)) | (rw [add_block]; exact Kd.zaC_ (Kd.R_ne a2.out a1.out (by decide))) | (show (Addr.add _ _).block ≠ _; rw [add_block]; exact Kd.zaC_ (Kd.R_ne a2.out a1.out (by decide))) | (dsimp only; exact Kd.zaC_ (Kd.R_ne a2.out a1.out (by decide)))) _).trans (((cell_far (p := ⟨a5, _, none⟩) (by first | exact Kd.zaC_ (Kd.R_ne a2.out a1.out (by decide)) | (rw [add_block]; exact Kd.zaC_ (Kd.R_ne a2.out a1.out (by decide))) | (show (Addr.add _ _).block ≠ _; rw [add_block]; exact Kd.zaC_ (Kd.R_ne a2.out a1.out (by decide))) | (dsimp only; exact Kd.zaC_ (Kd.R_ne a2.out a1.out (by decide)))) _).trans (((cell_far (p := ⟨a5, _, none⟩) (by first | exact Kd.zaC_ (Kd.R_ne a2.out a1.out (by decide)) | (rw [add_block]; exact Kd.zaC_ (Kd.R_ne a2.out a1.out (by decide))) | (show (Addr.add _ _).block ≠ _; rw [add_block]; exact Kd.zaC_ (Kd.R_ne a2.out a1.out (by decide))) | (dsimp only; exact Kd.zaC_ (Kd.R_ne a2.out a1.out (by decide)))) _).trans (((cell_far (p := ⟨a5, _, none⟩) (by first | exact Kd.zaC_ (Kd.R_ne a2.out a1.out (by decide)) | (rw [add_block]; exact Kd.zaC_ (Kd.R_ne a2.out a1.out (by decide))) | (show (Addr.add _ _).block ≠ _; rw [add_block]; exact Kd.zaC_ (Kd.R_ne a2.out a1.out (by decide))) | (dsimp only; exact Kd.zaC_ (Kd.R_ne a2.out a1.out (by decide)))) _).trans (hHeld.2.1)))))))))))), ((cell_far (p := ⟨a5, _, none⟩) (by first | exact Kd.zaC_ (Kd.R_ne a2.out a1.out (by decide)) | (rw [add_block]; exact Kd.zaC_ (Kd.R_ne a2.out a1.out (by decide))) | (show (Addr.add _ _).block ≠ _; rw [add_block]; exact Kd.zaC_ (Kd.R_ne a2.out a1.out (by decide))) | (dsimp only; exact Kd.zaC_ (Kd.R_ne a2.out a1.out (by decide)))) _).trans (((cell_far (p := ⟨a5, _, none⟩) (by first | exact Kd.zaC_ (Kd.R_ne a2.out a1.out (by decide)) | (rw [add_block]; exact Kd.zaC_ (Kd.R_ne a2.out a1.out (by decide))) | (show (Addr.add _ _).block ≠ _; rw [add_block]; exact Kd.zaC_ (Kd.R_ne a2.out a1.out (by decide))) | (dsimp only; exact Kd.zaC_ (Kd.R_ne a2.out a1.out (by decide)))) _).trans (((cell_far (p := ⟨a5, _, none⟩) (by first | exact Kd.zaC_ (Kd.R_ne a2.out a1.out (by decide)) | (rw [add_block]; exact Kd.zaC_ (Kd.R_ne a2.out a1.out (by decide))) | (show (Addr.add _ _).block ≠ _; rw [add_block]; exact Kd.zaC_ (Kd.R_ne a2.out a1.out (by decide))) | (dsimp only; exact Kd.zaC_ (Kd.R_ne a2.out a1.out (by decide)))) _).trans (((cell_far (p := ⟨a5, _, none⟩) (by first | exact Kd.zaC_ (Kd.R_ne a2.out a1.out (by decide)) | (rw [add_block]; exact Kd.zaC_ (Kd.R_ne a2.out a1.out (by decide))) | (show (Addr.add _ _).block ≠ _; rw [add_block]; exact Kd.zaC_ (Kd.R_ne a2.out a1.out (by decide))) | (dsimp only; exact Kd.zaC_ (Kd.R_ne a2.out a1.out (by decide)))) _).trans (((cell_far (p := ⟨a5, _, none⟩) (by first | exact Kd.zaC_ (Kd.R_ne a2.out a1.out (by decide)) | (rw [add_block]; exact Kd.zaC_ (Kd.R_ne a2.out a1.out (by decide))) | (show (Addr.add _ _).block ≠ _; rw [add_block]; exact Kd.zaC_ (Kd.R_ne a2.out a1.out (by decide))) | (dsimp only; exact Kd.zaC_ (Kd.R_ne a2.out a1.out (by decide)))) _).trans (((cell_far (p := ⟨a5, _, none⟩) (by first | exact Kd.zaC_ (Kd.R_ne a2.out a1.out (by decide)) | (rw [add_block]; exact Kd.zaC_ (Kd.R_ne a2.out a1.out (by decide))) | (show (Addr.add _ _).block ≠ _; rw [add_block]; exact Kd.zaC_ (Kd.R_ne a2.out a1.out (by decide))) | (dsimp only; exact Kd.zaC_ (Kd.R_ne a2.out a1.out (by decide)))) _).trans (hHeld.2.2.1)))))))))))), ((cell_far (p := ⟨a5, _, none⟩) (by first | exact Kd.zaC_ (Kd.R_ne a2.out a1.out (by decide)) | (rw [add_block]; exact Kd.zaC_ (Kd.R_ne a2.out a1.out (by decide))) | (show (Addr.add _ _).block ≠ _; rw [add_block]; exact Kd.zaC_ (Kd.R_ne a2.out a1.out (by decide))) | (dsimp only; exact Kd.zaC_ (Kd.R_ne a2.out a1.out (by decide)))) _).trans (((cell_far (p := ⟨a5, _, none⟩) (by first | exact Kd.zaC_ (Kd.R_ne a2.out a1.out (by decide)) | (rw [add_block]; exact Kd.zaC_ (Kd.R_ne a2.out a1.out (by decide))) | (show (Addr.add _ _).block ≠ _; rw [add_block]; exact Kd.zaC_ (Kd.R_ne a2.out a1.out (by decide))) | (dsimp only; exact Kd.zaC_ (Kd.R_ne a2.out a1.out (by decide)))) _).trans (((cell_far (p := ⟨a5, _, none⟩) (by first | exact Kd.zaC_ (Kd.R_ne a2.out a1.out (by decide)) | (rw [add_block]; exact Kd.zaC_ (Kd.R_ne a2.out a1.out (by decide))) | (show (Addr.add _ _).block ≠ _; rw [add_block]; exact Kd.zaC_ (Kd.R_ne a2.out a1.out (by decide))) | (dsimp only; exact Kd.zaC_ (Kd.R_ne a2.out a1.out (by decide)))) _).trans (((cell_far (p := ⟨a5, _, none⟩) (by first | exact Kd.zaC_ (Kd.R_ne a2.out a1.out (by decide)) | (rw [add_block]; exact Kd.zaC_ (Kd.R_ne a2.out a1.out (by decide))) | (show (Addr.add _ _).block ≠ _; rw [add_block]; exact Kd.zaC_ (Kd.R_ne a2.out a1.out (by decide))) | (dsimp only; exact Kd.zaC_ (Kd.R_ne a2.out a1.out (by decide)))) _).trans (((cell_far (p := ⟨a5, _, none⟩) (by first | exact Kd.zaC_ (Kd.R_ne a2.out a1.out (by decide)) | (rw [add_block]; exact Kd.zaC_ (Kd.R_ne a2.out a1.out (by decide))) | (show (Addr.add _ _).block ≠ _; rw [add_block]; exact Kd.zaC_ (Kd.R_ne a2.out a1.out (by decide))) | (dsimp only; exact Kd.zaC_ (Kd.R_ne a2.out a1.out (by decide)))) _).trans (((cell_far (p := ⟨a5, _, none⟩) (by first | exact Kd.zaC_ (Kd.R_ne a2.out a1.out (by decide)) | (rw [add_block]; exact Kd.zaC_ (Kd.R_ne a2.out a1.out (by decide))) | (show (Addr.add _ _).block ≠ _; rw [add_block]; exact Kd.zaC_ (Kd.R_ne a2.out a1.out (by decide))) | (dsimp only; exact Kd.zaC_ (Kd.R_ne a2.out a1.out (by decide)))) _).trans (hHeld.2.2.2.1)))))))))))), ((cell_far (p := ⟨a5, _, none⟩) (by first | exact Kd.zaC_ (Kd.R_ne a2.out a1.out (by decide)) | (rw [add_block]; exact Kd.zaC_ (Kd.R_ne a2.out a1.out (by decide))) | (show (Addr.add _ _).block ≠ _; rw [add_block]; exact Kd.zaC_ (Kd.R_ne a2.out a1.out (by decide))) | (dsimp only; exact Kd.zaC_ (Kd.R_ne a2.out a1.out (by decide)))) _).trans (((cell_far (p := ⟨a5, _, none⟩) (by first | exact Kd.zaC_ (Kd.R_ne a2.out a1.out (by decide)) | (rw [add_block]; exact Kd.zaC_ (Kd.R_ne a2.out a1.out (by decide))) | (show (Addr.add _ _).block ≠ _; rw [add_block]; exact Kd.zaC_ (Kd.R_ne a2.out a1.out (by decide))) | (dsimp only; exact Kd.zaC_ (Kd.R_ne a2.out a1.out (by decide)))) _).trans (((cell_far (p := ⟨a5, _, none⟩) (by first | exact Kd.zaC_ (Kd.R_ne a2.out a1.out (by decide)) | (rw [add_block]; exact Kd.zaC_ (Kd.R_ne a2.out a1.out (by decide))) | (show (Addr.add _ _).block ≠ _; rw [add_block]; exact Kd.zaC_ (Kd.R_ne a2.out a1.out (by decide))) | (dsimp only; exact Kd.zaC_ (Kd.R_ne a2.out a1.out (by decide)))) _).trans (((cell_far (p := ⟨a5, _, none⟩) (by first | exact Kd.zaC_ (Kd.R_ne a2.out a1.out (by decide)) | (rw [add_block]; exact Kd.zaC_ (Kd.R_ne a2.out a1.out (by decide))) | (show (Addr.add _ _).block ≠ _; rw [add_block]; exact Kd.zaC_ (Kd.R_ne a2.out a1.out (by decide))) | (dsimp only; exact Kd.zaC_ (Kd.R_ne a2.out a1.out (by decide)))) _).trans (((cell_far (p := ⟨a5, _, none⟩) (by first | exact Kd.zaC_ (Kd.R_ne a2.out a1.out (by decide)) | (rw [add_block]; exact Kd.zaC_ (Kd.R_ne a2.out a1.out (by decide))) | (show (Addr.add _ _).block ≠ _; rw [add_block]; exact Kd.zaC_ (Kd.R_ne a2.out a1.out (by decide))) | (dsimp only; exact Kd.zaC_ (Kd.R_ne a2.out a1.out (by decide)))) _).trans (((cell_far (p := ⟨a5, _, none⟩) (by first | exact Kd.zaC_ (Kd.R_ne a2.out a1.out (by decide)) | (rw [add_block]; exact Kd.zaC_ (Kd.R_ne a2.out a1.out (by decide))) | (show (Addr.add _ _).block ≠ _; rw [add_block]; exact Kd.zaC_ (Kd.R_ne a2.out a1.out (by decide))) | (dsimp only; exact Kd.zaC_ (Kd.R_ne a2.out a1.out (by decide)))) _).trans (hHeld.2.2.2.2))))))))))))⟩ (fun hHeld => ?_)
  clear hK K
  refine done_ (done_of HT_.out (by kernel_rfl)) ?_
  obtain ⟨i035, hi035, _, hsz35, _⟩ := info_parts info9
  obtain ⟨F3, hcut35, hA35, hC35⟩ := zbF_ (P := Tryd.prog) Value.string (⟨#[]⟩ : ByteArray) 26 9 .i64 Tryd.underlying26 hi035 hsz35 (some ad246) c0 l0 6 (by omega) (of_decide_eq_true (by first | (with_reducible assumption) | assumption)) HC0.out
  have h2 := Aside0.mk (Kd.C_of_reads (h1 := fun _ => rfl) (hA35 _ (Kd.zbC_ k0.out)))
  have HC252 := Aside0.mk hC35
  clear hA35 hC35 hi035 hsz35
  try go_wp2
  go_loopg [49] k3 (fun kq F0 w' => ∃ (b1 : Int) (b8 : ByteArray) (b3 : Int) (b0 : Int) (a9 : Int) (a8 : Int) (b4 : List (S50)) (u252005 : Value), F0 = .int .i64 b1 ∧ Aside0 (zay_.l0 kq d8 (l0.drop 6) ((l0.drop 6).length : Int) b1 (rdOf ByteArray.empty l0 1) (rd a4 0) (rd a4 1) (rd a4 2) (rd a4 3) b4 = some (r1, r2, r3, r4, r5, r6, r7)) ∧ Aside0 (kq ≤ k3) ∧ Aside0 (Kd.R k50 50 w' w.heap.size (fun _ => True) u252005 b4) ∧ Aside0 (w'.heap[a6]? = some (.cells #[.string b8, .int .i64 b3, .int .i64 b0, .int .i64 a9, .int .i64 a8, (.slice none 0 0)] 53 (0, 0))) ∧ Aside0 (w'.heap[a5]? = some (.cells #[.string (rdOf ByteArray.empty l0 1), .int .i64 (rd a4 0), .int .i64 (rd a4 1), .int .i64 (rd a4 2), .int .i64 (rd a4 3), u252005] 53 (0, 0))) ∧ Aside0 (Below w.heap.size w w'))
  case atStart => exact ⟨(0), ((⟨#[]⟩ : ByteArray)), (0), (0), (0), (0), (([] : List (S50))), (.slice none 0 0), (by first | rfl | (simp; done) | (simp [*]; done)), H', ⟨Nat.le_refl _⟩, ⟨by first | exact Kd.R_nil _ _ _ _ _ | exact Kd.N_nil _ _ _ _ _ | exact Kd.V_nil _ _ _ _ _ | exact Kd.Q_nil _ _ _ _ _ | exact Kd.S_nil _ _ _ _ _⟩, ⟨by (with_reducible repeat (first | refine zac_ ?_ _ | refine zaf_ ?_ | refine zad_ ?_ _)); refine zaG_ ?_ a7.out _; (with_reducible repeat (first | refine zac_ ?_ _ | refine zaf_ ?_ | refine zad_ ?_ _)); refine zaG_ ?_ a7.out _; (with_reducible repeat (first | refine zac_ ?_ _ | refine zaf_ ?_ | refine zad_ ?_ _)); refine zaG_ ?_ a7.out _; (with_reducible repeat (first | refine zac_ ?_ _ | refine zaf_ ?_ | refine zad_ ?_ _)); refine zaG_ ?_ a7.out _; (with_reducible repeat (first | refine zac_ ?_ _ | refine zaf_ ?_ | refine zad_ ?_ _)); refine zaG_ ?_ a7.out _; (with_reducible repeat (first | refine zac_ ?_ _ | refine zaf_ ?_ | refine zad_ ?_ _)); refine zaG_ ?_ a7.out _; (with_reducible repeat (first | refine zac_ ?_ _ | refine zaf_ ?_ | refine zad_ ?_ _)); exact a3.out⟩, ⟨by (with_reducible repeat (first | refine zac_ ?_ _ | refine zaf_ ?_ | refine zad_ ?_ _)); refine zat_ (cs := #[.string (rdOf ByteArray.empty l0 1), .int .i64 (rd a4 0), .int .i64 (rd a4 1), .int .i64 (rd a4 2), .int .i64 (rd a4 3), .slice none 0 0]) ?_ 5 _ rfl; (with_reducible repeat (first | refine zac_ ?_ _ | refine zaf_ ?_ | refine zad_ ?_ _)); refine zat_ (cs := #[.string (rdOf ByteArray.empty l0 1), .int .i64 (rd a4 0), .int .i64 (rd a4 1), .int .i64 (rd a4 2), .int .i64 0, .slice none 0 0]) ?_ 4 _ rfl; (with_reducible repeat (first | refine zac_ ?_ _ | refine zaf_ ?_ | refine zad_ ?_ _)); refine zat_ (cs := #[.string (rdOf ByteArray.empty l0 1), .int .i64 (rd a4 0), .int .i64 (rd a4 1), .int .i64 0, .int .i64 0, .slice none 0 0]) ?_ 3 _ rfl; (with_reducible repeat (first | refine zac_ ?_ _ | refine zaf_ ?_ | refine zad_ ?_ _)); refine zat_ (cs := #[.string (rdOf ByteArray.empty l0 1), .int .i64 (rd a4 0), .int .i64 0, .int .i64 0, .int .i64 0, .slice none 0 0]) ?_ 2 _ rfl; (with_reducible repeat (first | refine zac_ ?_ _ | refine zaf_ ?_ | refine zad_ ?_ _)); refine zat_ (cs := #[.string (rdOf ByteArray.empty l0 1), .int .i64 0, .int .i64 0, .int .i64 0, .int .i64 0, .slice none 0 0]) ?_ 1 _ rfl; (with_reducible repeat (first | refine zac_ ?_ _ | refine zaf_ ?_ | refine zad_ ?_ _)); refine zat_ (cs := #[.string (⟨#[]⟩ : ByteArray), .int .i64 0, .int .i64 0, .int .i64 0, .int .i64 0, .slice none 0 0]) ?_ 0 _ rfl; (with_reducible repeat (first | refine zac_ ?_ _ | refine zaf_ ?_ | refine zad_ ?_ _)); exact a1.out⟩, ⟨by repeat (first | (with_reducible first | exact HB.out | apply zah_ | apply zae_ | apply zag_ | refine zai_ ?_ d2.out | refine zai_ ?_ d6.out) | exact HB.out)⟩⟩
  clear H'
  obtain ⟨b1, b8, b3, b0, a9, a8, b4, u252005, rfl, HA, E0, HO_252005, a3, a1, HB⟩ := hrel
  cases gk with
  | zero => exact absurd HA.out (by simp [zay_.l0])
  | succ k2 => ?_
  have H := HA.out
  clear HA
  simp only [zay_.l0] at H
  by_cases j8 : b1 < ((l0.drop 6).length : Int)
  rotate_left
  · rw [if_neg j8] at H
    have g3 : decide (b1 < ((l0.drop 6).length : Int)) = false := decide_eq_false j8
    have c36b0z : decide (b1 < ((l0.length - 6 : Nat) : Int)) = false := by rw [← List.length_drop]; exact g3
    clear j8
    simp only [Option.some.injEq, Prod.mk.injEq] at H
    obtain ⟨rfl, rfl, rfl, rfl, rfl, rfl, rfl⟩ := H
    have hnb37 := b6.out
    have hnc37 := a7.out
    have p3 : wr.cell? ⟨a5, 0, none⟩ = some (.string (rdOf ByteArray.empty l0 1)) := (zab_ a1.out 0).trans rfl
    have p4 : wr.cell? ⟨a5, 1, none⟩ = some (.int .i64 (rd a4 0)) := (zab_ a1.out 1).trans rfl
    have p5 : wr.cell? ⟨a5, 2, none⟩ = some (.int .i64 (rd a4 1)) := (zab_ a1.out 2).trans rfl
    have p6 : wr.cell? ⟨a5, 3, none⟩ = some (.int .i64 (rd a4 2)) := (zab_ a1.out 3).trans rfl
    have p7 : wr.cell? ⟨a5, 4, none⟩ = some (.int .i64 (rd a4 3)) := (zab_ a1.out 4).trans rfl
    have p8 : wr.cell? ⟨a5, 5, none⟩ = some (u252005) := (zab_ a1.out 5).trans rfl
    have p9 := zaa_ a1.out 0
    have q0 := zaa_ a1.out 1
    have q1 := zaa_ a1.out 2
    have q2 := zaa_ a1.out 3
    have q3 := zaa_ a1.out 4
    have q4 := zaa_ a1.out 5
    have q5 : wr.cell? ⟨a6, 0, none⟩ = some (.string b8) := (zab_ a3.out 0).trans rfl
    have q6 : wr.cell? ⟨a6, 1, none⟩ = some (.int .i64 b3) := (zab_ a3.out 1).trans rfl
    have q7 : wr.cell? ⟨a6, 2, none⟩ = some (.int .i64 b0) := (zab_ a3.out 2).trans rfl
    have q8 : wr.cell? ⟨a6, 3, none⟩ = some (.int .i64 a9) := (zab_ a3.out 3).trans rfl
    have q9 : wr.cell? ⟨a6, 4, none⟩ = some (.int .i64 a8) := (zab_ a3.out 4).trans rfl
    have r0 : wr.cell? ⟨a6, 5, none⟩ = some (.slice none 0 0) := (zab_ a3.out 5).trans rfl
    have r8 := zaa_ a3.out 0
    have r9 := zaa_ a3.out 1
    have t0 := zaa_ a3.out 2
    have t1 := zaa_ a3.out 3
    have t2 := zaa_ a3.out 4
    have t3 := zaa_ a3.out 5
    obtain ⟨l1, l2, B8⟩ := Kd.zbf_ HO_252005.out
    subst B8
    go_wp2
    refine bodyPost_ret (zbz_ rfl _ _ a6 53 #[.string (rdOf ByteArray.empty l0 1), .int .i64 (rd a4 0), .int .i64 (rd a4 1), .int .i64 (rd a4 2), .int .i64 (rd a4 3), .slice l1 b4.length l2] (0, 0) _ rfl (by (with_reducible repeat (first | refine zac_ ?_ _ | refine zaf_ ?_ | refine zad_ ?_ _)); refine zat_ (cs := #[.string (rdOf ByteArray.empty l0 1), .int .i64 (rd a4 0), .int .i64 (rd a4 1), .int .i64 (rd a4 2), .int .i64 (rd a4 3), .slice none 0 0]) ?_ 5 _ rfl; (with_reducible repeat (first | refine zac_ ?_ _ | refine zaf_ ?_ | refine zad_ ?_ _)); refine zat_ (cs := #[.string (rdOf ByteArray.empty l0 1), .int .i64 (rd a4 0), .int .i64 (rd a4 1), .int .i64 (rd a4 2), .int .i64 a8, .slice none 0 0]) ?_ 4 _ rfl; (with_reducible repeat (first | refine zac_ ?_ _ | refine zaf_ ?_ | refine zad_ ?_ _)); refine zat_ (cs := #[.string (rdOf ByteArray.empty l0 1), .int .i64 (rd a4 0), .int .i64 (rd a4 1), .int .i64 a9, .int .i64 a8, .slice none 0 0]) ?_ 3 _ rfl; (with_reducible repeat (first | refine zac_ ?_ _ | refine zaf_ ?_ | refine zad_ ?_ _)); refine zat_ (cs := #[.string (rdOf ByteArray.empty l0 1), .int .i64 (rd a4 0), .int .i64 b0, .int .i64 a9, .int .i64 a8, .slice none 0 0]) ?_ 2 _ rfl; (with_reducible repeat (first | refine zac_ ?_ _ | refine zaf_ ?_ | refine zad_ ?_ _)); refine zat_ (cs := #[.string (rdOf ByteArray.empty l0 1), .int .i64 b3, .int .i64 b0, .int .i64 a9, .int .i64 a8, .slice none 0 0]) ?_ 1 _ rfl; (with_reducible repeat (first | refine zac_ ?_ _ | refine zaf_ ?_ | refine zad_ ?_ _)); refine zat_ (cs := #[.string b8, .int .i64 b3, .int .i64 b0, .int .i64 a9, .int .i64 a8, .slice none 0 0]) ?_ 0 _ rfl; (with_reducible repeat (first | refine zac_ ?_ _ | refine zaf_ ?_ | refine zad_ ?_ _)); exact a3.out) Tryd.underlying53 rfl (by kernel_rfl)) rfl ?_
    exact ⟨_, by first | rfl | (simp [zal_, zak_] <;> rfl) | (simp [*, zal_, zak_] <;> rfl), by (with_reducible repeat (first | apply Kd.zav_ | apply Kd.zaw_ | apply Kd.R_drew)); exact Kd.R_mono (Kd.R_far (p := ⟨a6, 5, none⟩) (Kd.R_far (p := ⟨a6, 4, none⟩) (Kd.R_far (p := ⟨a6, 3, none⟩) (Kd.R_far (p := ⟨a6, 2, none⟩) (Kd.R_far (p := ⟨a6, 1, none⟩) (Kd.R_far (p := ⟨a6, 0, none⟩) (Kd.zaV_ HO_252005.out a3.out (by decide)) (fun _ hk => hk.2) (.string (rdOf ByteArray.empty l0 1))) (fun _ hk => hk.2) (.int .i64 (rd a4 0))) (fun _ hk => hk.2) (.int .i64 (rd a4 1))) (fun _ hk => hk.2) (.int .i64 (rd a4 2))) (fun _ hk => hk.2) (.int .i64 (rd a4 3))) (fun _ hk => hk.2) (.slice l1 b4.length l2)) (fun _ hk => trivial), by repeat (first | (with_reducible first | exact HB.out | apply zah_ | apply zae_ | apply zag_ | refine zai_ ?_ d2.out | refine zai_ ?_ d6.out) | exact HB.out)⟩
  rw [if_pos j8] at H
  have g3 : decide (b1 < ((l0.drop 6).length : Int)) = true := decide_eq_true j8
  have c36b0z : decide (b1 < ((l0.length - 6 : Nat) : Int)) = true := by rw [← List.length_drop]; exact g3
  clear j8
  by_cases t4 : 0 ≤ b1
  rotate_left
  · rw [if_neg t4] at H
    exact absurd H (by simp)
  rw [if_pos t4] at H
  have E1 : decide (0 ≤ b1) = true := decide_eq_true t4
  clear t4
  by_cases t5 : b1 < ((l0.drop 6).length : Int)
  rotate_left
  · rw [if_neg t5] at H
    exact absurd H (by simp)
  rw [if_pos t5] at H
  have l3 : decide (b1 < ((l0.drop 6).length : Int)) = true := decide_eq_true t5
  have c42b0z : decide (b1 < ((l0.length - 6 : Nat) : Int)) = true := by rw [← List.length_drop]; exact l3
  clear t5
  replace H := Option.bind_eq_some_iff.mp H
  obtain ⟨⟨c7, d3, d4, e0⟩, l4, H⟩ := H
  replace H : (if e0 = 0 then (if b4.length < 5864062014805 then (zay_.l0 k2 d8 (l0.drop 6) ((l0.drop 6).length : Int) (wrap64 (b1 + 1)) (rdOf ByteArray.empty l0 1) (rd a4 0) (rd a4 1) (rd a4 2) (rd a4 3) (b4 ++ [(⟨c7, d3, d4⟩ : S50)])) else (none)) else (some ((⟨#[]⟩ : ByteArray), 0, 0, 0, 0, ([] : List (S50)), d8))) = some (r1, r2, r3, r4, r5, r6, r7) := H
  have E2 := Aside0.mk l4
  clear l4
  by_cases j5 : e0 = 0
  rotate_left
  · rw [if_neg j5] at H
    have l5 : (e0 == 0) = false := beq_eq_false_iff_ne.mpr j5
    have l6 : (e0 != 0) = true := bne_iff_ne.mpr j5
    simp only [Option.some.injEq, Prod.mk.injEq] at H
    obtain ⟨rfl, rfl, rfl, rfl, rfl, rfl, rfl⟩ := H
    have e4 : 0 ≤ (b1 : Int) := of_decide_eq_true (by first | (with_reducible assumption) | assumption)
    have d9 : b1 < ((l0.drop 6).length : Int) := of_decide_eq_true (by first | (with_reducible assumption) | assumption)
    obtain ⟨ad253, e253, hx253_0⟩ := Kd.zbj_ h2.out b1 e4 d9
    cases e253
    replace hx253_0 := (HB.out.cell (World.block_lt_of_cell? w _ hx253_0)).trans hx253_0
    replace e4 := eq_true e4
    replace d9 := eq_true d9
    have q253z : (b1 < ((l0.length - 6 : Nat) : Int)) = True := by rw [← List.length_drop]; exact d9
    go_wp2_with (first | ((with_reducible refine zar_ (f := 58) rfl ?_); refine goesL_ (some 55) rfl rfl Tryd.func58 (by kernel_rfl) rfl #[.string (rdOf ByteArray.empty (l0.drop 6) b1)] rfl (by (try simp only [List.map_toArray, List.map_cons, List.map_nil]); first | done | rfl | (simp only [List.length_drop, List.length_take]; rfl)) ?_; (with_reducible refine (zas_.calls k2 (rdOf ByteArray.empty (l0.drop 6) b1) c7 d3 d4 e0 _ ?side1 E2.out).mono ?_); (case side1 => first | exact Glob.below HG.out (HB.out) | (repeat (first | exact Glob.below HG.out HB.out | (with_reducible refine Glob.alloc ?_ _) | (with_reducible refine Glob.drewN ?_ _) | (with_reducible refine Glob.drew ?_)))); rintro e F4 ⟨rfl, hb⟩; refine ⟨_, rfl, ?_⟩; have c3 := Aside0.mk (Kd.zaU_ (by (with_reducible repeat (first | apply Kd.zav_ | apply Kd.zaw_ | apply Kd.R_drew)); exact HO_252005.out) hb); have c4 := Aside0.mk (zan_ a3.out hb); have c5 := Aside0.mk (zan_ a1.out hb); have d5 := Aside0.mk (zaj_ (HB.out) hb); clear HO_252005; clear a3; clear a1; clear HB; have HO_252005 := c3; have a3 := c4; have a1 := c5; have HB := d5; clear c3 c4 c5 d5; (try clear hb); (try clear hb2); (try clear hk); (try clear hi)) | ((with_reducible refine zaL_ (N := 10) rfl ?_); refine zaD_ ?hg (N := 10) ?hd (cs := #[.int .i64 0, .int .i64 0, .int .i64 0]) (t := 50) ?hr ?_; (case hd => rfl); (case hg => rfl); (case hr => first | (go_simp; done) | (go_simp; rfl)); intro b2 hg g6 hbox hb; have c3 := Aside0.mk (Kd.zaU_ (Kd.R_elderB (by (with_reducible repeat (first | apply Kd.zav_ | apply Kd.zaw_ | apply Kd.R_drew)); exact HO_252005.out) b2 (Nat.le_of_eq hg.symm)) hb); have c4 := Aside0.mk (zan_ a3.out hb); have c5 := Aside0.mk (zan_ a1.out hb); have d5 := Aside0.mk (zaj_ (HB.out) hb); have g2 := Aside0.mk (hbox); have g5 := Aside0.mk ((by rw [hg]; exact (zam_ (HB.out)) : w.heap.size ≤ b2)); have g9 := g5; have h0 := Aside0.mk ((by rw [hg]; exact Nat.ne_of_lt (blk_lt a3.out) : a6 ≠ b2)); have l7 := Aside0.mk ((by rw [hg]; exact Nat.ne_of_gt (blk_lt a3.out) : b2 ≠ a6)); have l8 := Aside0.mk ((by rw [hg]; exact Nat.ne_of_lt (blk_lt a1.out) : a5 ≠ b2)); have g4 := Aside0.mk ((by rw [hg]; exact Nat.ne_of_gt (blk_lt a1.out) : b2 ≠ a5)); clear HO_252005; clear a3; clear a1; clear HB; have HO_252005 := c3; have a3 := c4; have a1 := c5; have HB := d5; have b9 := g2; have l9 := g5; have e1 := g9; have b7 := h0; have d0 := l7; have c1 := l8; have d1 := g4; clear c3 c4 c5 d5 g2 g5 g9 h0 l7 l8 g4; clear hb hbox hg; have hnb47 := d0.out; have hnc47 := b7.out; have hnb48 := d1.out; have hnc48 := c1.out; have t6 : g6.cell? ⟨b2, 0, none⟩ = some (.int .i64 0) := (zab_ b9.out 0).trans rfl; have t7 : g6.cell? ⟨b2, 1, none⟩ = some (.int .i64 0) := (zab_ b9.out 1).trans rfl; have t8 : g6.cell? ⟨b2, 2, none⟩ = some (.int .i64 0) := (zab_ b9.out 2).trans rfl; have t9 := zaa_ b9.out 0; have v0 := zaa_ b9.out 1; have v1 := zaa_ b9.out 2; have hnb50 := a7.out; have hnc50 := b6.out; have v2 : g6.cell? ⟨a6, 0, none⟩ = some (.string b8) := (zab_ a3.out 0).trans rfl; have v3 : g6.cell? ⟨a6, 1, none⟩ = some (.int .i64 b3) := (zab_ a3.out 1).trans rfl; have v5 : g6.cell? ⟨a6, 2, none⟩ = some (.int .i64 b0) := (zab_ a3.out 2).trans rfl; have v6 : g6.cell? ⟨a6, 3, none⟩ = some (.int .i64 a9) := (zab_ a3.out 3).trans rfl; have v7 : g6.cell? ⟨a6, 4, none⟩ = some (.int .i64 a8) := (zab_ a3.out 4).trans rfl; have v8 : g6.cell? ⟨a6, 5, none⟩ = some (.slice none 0 0) := (zab_ a3.out 5).trans rfl; have v9 := zaa_ a3.out 0; have w2 := zaa_ a3.out 1; have w3 := zaa_ a3.out 2; have w4 := zaa_ a3.out 3; have w6 := zaa_ a3.out 4; have w8 := zaa_ a3.out 5))
    refine bodyPost_ret (zbz_ rfl _ _ a6 53 #[.string (⟨#[]⟩ : ByteArray), .int .i64 0, .int .i64 0, .int .i64 0, .int .i64 0, .slice none 0 0] (0, 0) _ rfl (by (with_reducible repeat (first | refine zac_ ?_ _ | refine zaf_ ?_ | refine zad_ ?_ _)); refine zat_ (cs := #[.string (⟨#[]⟩ : ByteArray), .int .i64 0, .int .i64 0, .int .i64 0, .int .i64 0, .slice none 0 0]) ?_ 5 _ rfl; (with_reducible repeat (first | refine zac_ ?_ _ | refine zaf_ ?_ | refine zad_ ?_ _)); refine zat_ (cs := #[.string (⟨#[]⟩ : ByteArray), .int .i64 0, .int .i64 0, .int .i64 0, .int .i64 a8, .slice none 0 0]) ?_ 4 _ rfl; (with_reducible repeat (first | refine zac_ ?_ _ | refine zaf_ ?_ | refine zad_ ?_ _)); refine zat_ (cs := #[.string (⟨#[]⟩ : ByteArray), .int .i64 0, .int .i64 0, .int .i64 a9, .int .i64 a8, .slice none 0 0]) ?_ 3 _ rfl; (with_reducible repeat (first | refine zac_ ?_ _ | refine zaf_ ?_ | refine zad_ ?_ _)); refine zat_ (cs := #[.string (⟨#[]⟩ : ByteArray), .int .i64 0, .int .i64 b0, .int .i64 a9, .int .i64 a8, .slice none 0 0]) ?_ 2 _ rfl; (with_reducible repeat (first | refine zac_ ?_ _ | refine zaf_ ?_ | refine zad_ ?_ _)); refine zat_ (cs := #[.string (⟨#[]⟩ : ByteArray), .int .i64 b3, .int .i64 b0, .int .i64 a9, .int .i64 a8, .slice none 0 0]) ?_ 1 _ rfl; (with_reducible repeat (first | refine zac_ ?_ _ | refine zaf_ ?_ | refine zad_ ?_ _)); refine zat_ (cs := #[.string b8, .int .i64 b3, .int .i64 b0, .int .i64 a9, .int .i64 a8, .slice none 0 0]) ?_ 0 _ rfl; (with_reducible repeat (first | refine zac_ ?_ _ | refine zaf_ ?_ | refine zad_ ?_ _)); refine zaG_ ?_ b7.out _; (with_reducible repeat (first | refine zac_ ?_ _ | refine zaf_ ?_ | refine zad_ ?_ _)); refine zaG_ ?_ b7.out _; (with_reducible repeat (first | refine zac_ ?_ _ | refine zaf_ ?_ | refine zad_ ?_ _)); refine zaG_ ?_ b7.out _; (with_reducible repeat (first | refine zac_ ?_ _ | refine zaf_ ?_ | refine zad_ ?_ _)); exact a3.out) Tryd.underlying53 rfl (by kernel_rfl)) rfl ?_
    exact ⟨_, by first | rfl | (simp [zal_, zak_] <;> rfl) | (simp [*, zal_, zak_] <;> rfl), by first | exact Kd.R_nil _ _ _ _ _ | exact Kd.N_nil _ _ _ _ _ | exact Kd.V_nil _ _ _ _ _ | exact Kd.Q_nil _ _ _ _ _ | exact Kd.S_nil _ _ _ _ _, by repeat (first | (with_reducible first | exact HB.out | apply zah_ | apply zae_ | apply zag_ | refine zai_ ?_ d2.out | refine zai_ ?_ d6.out | refine zai_ ?_ e1.out) | exact HB.out)⟩
  rw [if_pos j5] at H
  have l5 : (e0 == 0) = true := beq_iff_eq.mpr j5
  have l6 : (e0 != 0) = false := bne_eq_false_iff_eq.mpr j5
  clear j5
  by_cases w9 : b4.length < 5864062014805
  rotate_left
  · rw [if_neg w9] at H
    exact absurd H (by simp)
  rw [if_pos w9] at H
  have LMc52 := Aside0.mk w9
  clear w9
  obtain ⟨g7, e2⟩ : ∃ y_ : List (S50), y_ = (b4 ++ [(⟨c7, d3, d4⟩ : S50)]) := ⟨_, rfl⟩
  replace H : (zay_.l0 k2 d8 (l0.drop 6) ((l0.drop 6).length : Int) (wrap64 (b1 + 1)) (rdOf ByteArray.empty l0 1) (rd a4 0) (rd a4 1) (rd a4 2) (rd a4 3) g7) = some (r1, r2, r3, r4, r5, r6, r7) := by first | (rw [e2]; with_reducible exact H) | (have H2_ := (Option.bind_some _ _).symm.trans H; rw [e2]; with_reducible exact H2_) | (have H2_ := (Option.bind_some _ _).symm.trans H; with_reducible exact H2_) | with_reducible exact H | (rw [e2]; exact H) | exact H
  have m0 := Aside0.mk e2
  clear e2
  have H' := Aside0.mk H
  clear H
  have e4 : 0 ≤ (b1 : Int) := of_decide_eq_true (by first | (with_reducible assumption) | assumption)
  have d9 : b1 < ((l0.drop 6).length : Int) := of_decide_eq_true (by first | (with_reducible assumption) | assumption)
  obtain ⟨ad253, e253, hx253_0⟩ := Kd.zbj_ h2.out b1 e4 d9
  cases e253
  replace hx253_0 := (HB.out.cell (World.block_lt_of_cell? w _ hx253_0)).trans hx253_0
  replace e4 := eq_true e4
  replace d9 := eq_true d9
  have q253z : (b1 < ((l0.length - 6 : Nat) : Int)) = True := by rw [← List.length_drop]; exact d9
  go_wp2_with (first | ((with_reducible refine zar_ (f := 58) rfl ?_); refine goesL_ (some 55) rfl rfl Tryd.func58 (by kernel_rfl) rfl #[.string (rdOf ByteArray.empty (l0.drop 6) b1)] rfl (by (try simp only [List.map_toArray, List.map_cons, List.map_nil]); first | done | rfl | (simp only [List.length_drop, List.length_take]; rfl)) ?_; (with_reducible refine (zas_.calls k2 (rdOf ByteArray.empty (l0.drop 6) b1) c7 d3 d4 e0 _ ?side1 E2.out).mono ?_); (case side1 => first | exact Glob.below HG.out (HB.out) | (repeat (first | exact Glob.below HG.out HB.out | (with_reducible refine Glob.alloc ?_ _) | (with_reducible refine Glob.drewN ?_ _) | (with_reducible refine Glob.drew ?_)))); rintro e F5 ⟨rfl, hb⟩; refine ⟨_, rfl, ?_⟩; have c3 := Aside0.mk (Kd.zaU_ (by (with_reducible repeat (first | apply Kd.zav_ | apply Kd.zaw_ | apply Kd.R_drew)); exact HO_252005.out) hb); have c4 := Aside0.mk (zan_ a3.out hb); have c5 := Aside0.mk (zan_ a1.out hb); have d5 := Aside0.mk (zaj_ (HB.out) hb); clear HO_252005; clear a3; clear a1; clear HB; have HO_252005 := c3; have a3 := c4; have a1 := c5; have HB := d5; clear c3 c4 c5 d5; (try clear hb); (try clear hb2); (try clear hk); (try clear hi)) | ((with_reducible refine zaL_ (N := 10) rfl ?_); refine zaD_ ?hg (N := 10) ?hd (cs := #[.int .i64 0, .int .i64 0, .int .i64 0]) (t := 50) ?hr ?_; (case hd => rfl); (case hg => rfl); (case hr => first | (go_simp; done) | (go_simp; rfl)); intro b2 hg g8 hbox hb; have c3 := Aside0.mk (Kd.zaU_ (Kd.R_elderB (by (with_reducible repeat (first | apply Kd.zav_ | apply Kd.zaw_ | apply Kd.R_drew)); exact HO_252005.out) b2 (Nat.le_of_eq hg.symm)) hb); have c4 := Aside0.mk (zan_ a3.out hb); have c5 := Aside0.mk (zan_ a1.out hb); have d5 := Aside0.mk (zaj_ (HB.out) hb); have g2 := Aside0.mk (hbox); have g5 := Aside0.mk ((by rw [hg]; exact (zam_ (HB.out)) : w.heap.size ≤ b2)); have g9 := g5; have h0 := Aside0.mk ((by rw [hg]; exact Nat.ne_of_lt (blk_lt a3.out) : a6 ≠ b2)); have l7 := Aside0.mk ((by rw [hg]; exact Nat.ne_of_gt (blk_lt a3.out) : b2 ≠ a6)); have l8 := Aside0.mk ((by rw [hg]; exact Nat.ne_of_lt (blk_lt a1.out) : a5 ≠ b2)); have g4 := Aside0.mk ((by rw [hg]; exact Nat.ne_of_gt (blk_lt a1.out) : b2 ≠ a5)); clear HO_252005; clear a3; clear a1; clear HB; have HO_252005 := c3; have a3 := c4; have a1 := c5; have HB := d5; have b9 := g2; have l9 := g5; have e1 := g9; have b7 := h0; have d0 := l7; have c1 := l8; have d1 := g4; clear c3 c4 c5 d5 g2 g5 g9 h0 l7 l8 g4; clear hb hbox hg; have hnb55 := d0.out; have hnc55 := b7.out; have hnb56 := d1.out; have hnc56 := c1.out; have x1 : g8.cell? ⟨b2, 0, none⟩ = some (.int .i64 0) := (zab_ b9.out 0).trans rfl; have x2 : g8.cell? ⟨b2, 1, none⟩ = some (.int .i64 0) := (zab_ b9.out 1).trans rfl; have x3 : g8.cell? ⟨b2, 2, none⟩ = some (.int .i64 0) := (zab_ b9.out 2).trans rfl; have x5 := zaa_ b9.out 0; have x6 := zaa_ b9.out 1; have x7 := zaa_ b9.out 2; have hnb58 := b6.out; have hnc58 := a7.out; have x8 : g8.cell? ⟨a5, 0, none⟩ = some (.string (rdOf ByteArray.empty l0 1)) := (zab_ a1.out 0).trans rfl; have x9 : g8.cell? ⟨a5, 1, none⟩ = some (.int .i64 (rd a4 0)) := (zab_ a1.out 1).trans rfl; have z0 : g8.cell? ⟨a5, 2, none⟩ = some (.int .i64 (rd a4 1)) := (zab_ a1.out 2).trans rfl; have z1 : g8.cell? ⟨a5, 3, none⟩ = some (.int .i64 (rd a4 2)) := (zab_ a1.out 3).trans rfl; have z2 : g8.cell? ⟨a5, 4, none⟩ = some (.int .i64 (rd a4 3)) := (zab_ a1.out 4).trans rfl; have z3 : g8.cell? ⟨a5, 5, none⟩ = some (u252005) := (zab_ a1.out 5).trans rfl; have z4 := zaa_ a1.out 0; have z5 := zaa_ a1.out 1; have z6 := zaa_ a1.out 2; have z7 := zaa_ a1.out 3; have z8 := zaa_ a1.out 4; have z9 := zaa_ a1.out 5) | ((with_reducible refine zbD_ (b := .append) (xs := #[.tmp 63, .tmp 65]) rfl ?_); at_builtin; refine Kd.R_append k50 (w0 := w) w.heap.size rfl (.tmp 63) (.tmp 65) 51 50 (.agg #[(.int .i64 0), (.int .i64 0), (.int .i64 0)]) 24 rfl Tryd.underlying51 info50 rfl (by decide) (by omega) u252005 b4 (⟨c7, d3, d4⟩ : S50) [.int .i64 c7, .int .i64 d3, .int .i64 d4] (fun k_ => k_ ≠ b2) (fun _ => False) rfl (by first | (go_simp; done) | (go_simp; rfl)) ?aP (fun _ hk => hk.elim) ?aF ?aO ?aB ?aS ?aL ?_; (case aP => exact k50_mkM _ _ _ (⟨c7, d3, d4⟩ : S50)); (case aB => exact (by repeat (first | (with_reducible first | exact HB.out | apply zah_ | apply zae_ | apply zag_ | refine zai_ ?_ d2.out | refine zai_ ?_ d6.out | refine zai_ ?_ e1.out) | exact HB.out))); (case aF => exact (fun k_ hk => Kd.freshB (g := b2) (o := .cells #[.int .i64 c7, .int .i64 d3, .int .i64 d4] 50 (0, 0)) (by (with_reducible repeat (first | refine zac_ ?_ _ | refine zaf_ ?_ | refine zad_ ?_ _)); refine zat_ (cs := #[.int .i64 c7, .int .i64 d3, .int .i64 0]) ?_ 2 _ rfl; (with_reducible repeat (first | refine zac_ ?_ _ | refine zaf_ ?_ | refine zad_ ?_ _)); refine zat_ (cs := #[.int .i64 c7, .int .i64 0, .int .i64 0]) ?_ 1 _ rfl; (with_reducible repeat (first | refine zac_ ?_ _ | refine zaf_ ?_ | refine zad_ ?_ _)); refine zat_ (cs := #[.int .i64 0, .int .i64 0, .int .i64 0]) ?_ 0 _ rfl; (with_reducible repeat (first | refine zac_ ?_ _ | refine zaf_ ?_ | refine zad_ ?_ _)); exact b9.out) k_ hk)); (case aO => exact (by (with_reducible repeat (first | apply Kd.zav_ | apply Kd.zaw_ | apply Kd.R_drew)); exact Kd.R_mono (Kd.R_far (p := ⟨b2, 2, none⟩) (Kd.R_far (p := ⟨b2, 1, none⟩) (Kd.R_far (p := ⟨b2, 0, none⟩) (Kd.R_mono HO_252005.out (fun k_ hk => (⟨hk, hk.2⟩ : _ ∧ k_ ≠ b2))) (fun _ hk => hk.2) (.int .i64 c7)) (fun _ hk => hk.2) (.int .i64 d3)) (fun _ hk => hk.2) (.int .i64 d4)) (fun _ hk => hk.1.2))); (case aS => exact (zam_ (by repeat (first | (with_reducible first | exact HB.out | apply zah_ | apply zae_ | apply zag_ | refine zai_ ?_ d2.out | refine zai_ ?_ d6.out | refine zai_ ?_ e1.out) | exact HB.out)))); (case aL => have := LMc52.out; omega); intro F1 j9 ho hb hg hat; rw [← m0.out] at ho; have c3 := Aside0.mk (blk_grown (g := a6) (o := .cells #[.string b8, .int .i64 b3, .int .i64 b0, .int .i64 a9, .int .i64 a8, .slice none 0 0] 53 (0, 0)) (by (with_reducible repeat (first | refine zac_ ?_ _ | refine zaf_ ?_ | refine zad_ ?_ _)); refine zaG_ ?_ b7.out _; (with_reducible repeat (first | refine zac_ ?_ _ | refine zaf_ ?_ | refine zad_ ?_ _)); refine zaG_ ?_ b7.out _; (with_reducible repeat (first | refine zac_ ?_ _ | refine zaf_ ?_ | refine zad_ ?_ _)); refine zaG_ ?_ b7.out _; (with_reducible repeat (first | refine zac_ ?_ _ | refine zaf_ ?_ | refine zad_ ?_ _)); exact a3.out) hg (Kd.R_ne HO_252005.out a3.out (by decide))); have c4 := Aside0.mk (blk_grown (g := a5) (o := .cells #[.string (rdOf ByteArray.empty l0 1), .int .i64 (rd a4 0), .int .i64 (rd a4 1), .int .i64 (rd a4 2), .int .i64 (rd a4 3), u252005] 53 (0, 0)) (by (with_reducible repeat (first | refine zac_ ?_ _ | refine zaf_ ?_ | refine zad_ ?_ _)); refine zaG_ ?_ c1.out _; (with_reducible repeat (first | refine zac_ ?_ _ | refine zaf_ ?_ | refine zad_ ?_ _)); refine zaG_ ?_ c1.out _; (with_reducible repeat (first | refine zac_ ?_ _ | refine zaf_ ?_ | refine zad_ ?_ _)); refine zaG_ ?_ c1.out _; (with_reducible repeat (first | refine zac_ ?_ _ | refine zaf_ ?_ | refine zad_ ?_ _)); exact a1.out) hg (Kd.R_ne HO_252005.out a1.out (by decide))); have c5 := Aside0.mk (blk_grown (g := b2) (o := .cells #[.int .i64 c7, .int .i64 d3, .int .i64 d4] 50 (0, 0)) (by (with_reducible repeat (first | refine zac_ ?_ _ | refine zaf_ ?_ | refine zad_ ?_ _)); refine zat_ (cs := #[.int .i64 c7, .int .i64 d3, .int .i64 0]) ?_ 2 _ rfl; (with_reducible repeat (first | refine zac_ ?_ _ | refine zaf_ ?_ | refine zad_ ?_ _)); refine zat_ (cs := #[.int .i64 c7, .int .i64 0, .int .i64 0]) ?_ 1 _ rfl; (with_reducible repeat (first | refine zac_ ?_ _ | refine zaf_ ?_ | refine zad_ ?_ _)); refine zat_ (cs := #[.int .i64 0, .int .i64 0, .int .i64 0]) ?_ 0 _ rfl; (with_reducible repeat (first | refine zac_ ?_ _ | refine zaf_ ?_ | refine zad_ ?_ _)); exact b9.out) hg (Kd.R_away HO_252005.out (fun _ hk => hk.2))); have d5 := Aside0.mk (hb); have g2 := Aside0.mk (ho); clear a3; clear a1; clear b9; clear HB; clear HO_252005; have a3 := c3; have a1 := c4; have b9 := c5; have HB := d5; have h3 := g2; clear c3 c4 c5 d5 g2; clear ho hb hg hat; obtain ⟨m1, m2, C0⟩ := Kd.zbf_ h3.out; subst C0; have A1 : j9.cell? ⟨a5, 0, none⟩ = some (.string (rdOf ByteArray.empty l0 1)) := (zab_ a1.out 0).trans rfl; have A2 : j9.cell? ⟨a5, 1, none⟩ = some (.int .i64 (rd a4 0)) := (zab_ a1.out 1).trans rfl; have A4 : j9.cell? ⟨a5, 2, none⟩ = some (.int .i64 (rd a4 1)) := (zab_ a1.out 2).trans rfl; have A5 : j9.cell? ⟨a5, 3, none⟩ = some (.int .i64 (rd a4 2)) := (zab_ a1.out 3).trans rfl; have A7 : j9.cell? ⟨a5, 4, none⟩ = some (.int .i64 (rd a4 3)) := (zab_ a1.out 4).trans rfl; have A8 : j9.cell? ⟨a5, 5, none⟩ = some (u252005) := (zab_ a1.out 5).trans rfl; have A9 := zaa_ a1.out 0; have B0 := zaa_ a1.out 1; have B1 := zaa_ a1.out 2; have B2 := zaa_ a1.out 3; have B3 := zaa_ a1.out 4; have B4 := zaa_ a1.out 5))
  go_roundg k2
  case measure => have := C3.out; have := E0.out; omega
  case rel => exact ⟨(wrap64 (b1 + 1)), (b8), (b3), (b0), (a9), (a8), (g7), (.slice m1 g7.length m2), (by first | rfl | (simp; done) | (simp [*]; done)), H', ⟨by have := C3.out; have := E0.out; omega⟩, ⟨by (with_reducible repeat (first | apply Kd.zav_ | apply Kd.zaw_ | apply Kd.R_drew)); exact Kd.R_mono (Kd.R_far (p := ⟨a5, 5, none⟩) (Kd.zaV_ h3.out a1.out (by decide)) (fun _ hk => hk.2) (.slice m1 g7.length m2)) (fun _ hk => trivial)⟩, ⟨by (with_reducible repeat (first | refine zac_ ?_ _ | refine zaf_ ?_ | refine zad_ ?_ _)); refine zaG_ ?_ a7.out _; (with_reducible repeat (first | refine zac_ ?_ _ | refine zaf_ ?_ | refine zad_ ?_ _)); exact a3.out⟩, ⟨by (with_reducible repeat (first | refine zac_ ?_ _ | refine zaf_ ?_ | refine zad_ ?_ _)); refine zat_ (cs := #[.string (rdOf ByteArray.empty l0 1), .int .i64 (rd a4 0), .int .i64 (rd a4 1), .int .i64 (rd a4 2), .int .i64 (rd a4 3), u252005]) ?_ 5 _ rfl; (with_reducible repeat (first | refine zac_ ?_ _ | refine zaf_ ?_ | refine zad_ ?_ _)); exact a1.out⟩, ⟨by repeat (first | (with_reducible first | exact HB.out | apply zah_ | apply zae_ | apply zag_ | refine zai_ ?_ d2.out | refine zai_ ?_ d6.out | refine zai_ ?_ e1.out) | exact HB.out)⟩⟩
end Go.Proofs.YtgkjoodlcojkkaaDoor.QD
end
section
namespace Go.Proofs.YtgkjoodlcojkkaaDoor.QD
open Go.RowKit Go.Proofs.YtgkjoodlcojkkaaDoorW.PrintWords Go.Proofs.YtgkjoodlcojkkaaDoorW.PrintLast Go.Proofs.YtgkjoodlcojkkaaDoorW.PrintMore
attribute [local go_sem] zbd_ zbe_ zbm_ zbl_ zaW_ zaX_ zbc_ zbb_
set_option linter.unusedVariables false
set_option linter.unusedSimpArgs false
abbrev ParseR := Int × List Int × List Int × (List (S53)) × Int × Int
def zres (n e : Int) : ParseR := (0, [], [], [], n, e)
def zao_.fin (k : Nat) (R : List S81) (nl : Int) (q : Int) (c h : List Int) (first : Int) (ts : List S53) : Option ParseR :=
  (zaR_.f k q c h ts).bind fun x => if x.2 = 0 then some (q, c, h, ts, nl, 0)
    else if 0 ≤ x.1 then (if first + x.1 < (R.length : Int) then some (zres (rd_T81 R (first + x.1)).f0 x.2) else none)
    else if x.2 = 14 then some (zres nl x.2) else if x.2 = 11 then some (zres nl x.2)
    else if 1 < R.length then some (zres (rd_T81 R 1).f0 x.2) else none
def zao_.lp (k : Nat) (R : List S81) (nl : Int) (q : Int) (c h : List Int) (first : Int) : List S81 → List S53 → Option ParseR
  | [], ts => zao_.fin k R nl q c h first ts
  | r :: rs, ts => if 0 < r.f1.length then (if (rdOf ByteArray.empty r.f1 0).toList = ([116, 97, 115, 107] : List UInt8) then
      (zay_.f k r.f1).bind fun t => (if t.2.2.2.2.2.2 = 0 then (if ts.length < 1000000 then zao_.lp k R nl q c h first rs (ts ++ [(⟨t.1, t.2.1, t.2.2.1, t.2.2.2.1, t.2.2.2.2.1, t.2.2.2.2.2.1⟩ : S53)]) else none)
        else some (zres r.f0 t.2.2.2.2.2.2)) else some (zres r.f0 10)) else none
def zao_.f (k : Nat) (a0 : ByteArray) : Option ParseR :=
  if (a0.size : Int) > 2000 then some (zres 0 11) else
  (words_Lines.f a0).bind fun L => (zba_.f k L).bind fun R => (zap_.f k R).bind fun x =>
    if x.2.2.2.2.2 = true then (if x.2.2.2.1.length = 0 ∧ 0 ≤ x.2.2.2.2.1 ∧ x.2.2.2.2.1 ≤ (R.length : Int) ∧ R.length ≤ 1000000 then zao_.lp k R (L.length : Int) x.1 x.2.1 x.2.2.1 x.2.2.2.2.1 (R.drop x.2.2.2.2.1.toNat) [] else none)
    else (text_line.f R x.2.2.2.2.1 (L.length : Int)).bind fun n => some (zres n 10)
theorem zao_.mono_fin (k : Nat) (R : List S81) (nl : Int) (q : Int) (c h : List Int) (first : Int) (ts : List S53) : LeO (zao_.fin k R nl q c h first ts) (zao_.fin (k + 1) R nl q c h first ts) := by
  unfold zao_.fin
  exact LeO.bind (zaR_.mono _ _ _ _ _) (fun _ => LeO.refl _)
theorem zao_.mono_lp (k : Nat) (R : List S81) (nl : Int) (q : Int) (c h : List Int) (first : Int) : ∀ (rs : List S81) (ts : List S53), LeO (zao_.lp k R nl q c h first rs ts) (zao_.lp (k + 1) R nl q c h first rs ts)
  | [], ts => zao_.mono_fin _ _ _ _ _ _ _ _
  | r :: rs, ts => by
    unfold zao_.lp
    exact LeO.ite (LeO.ite (LeO.bind (zay_.mono _ _) (fun _ => LeO.ite (LeO.ite (zao_.mono_lp k R nl q c h first rs _) (LeO.none _)) (LeO.refl _))) (LeO.refl _)) (LeO.none _)
theorem zao_.mono : ∀ a0 k, LeO (zao_.f k a0) (zao_.f (k + 1) a0) := by
  intro a0 k
  unfold zao_.f
  exact LeO.ite (LeO.refl _) (LeO.bind (LeO.refl _) (fun _ => LeO.bind (zba_.mono _ _) (fun _ => LeO.bind (zap_.mono _ _) (fun _ => LeO.ite (LeO.ite (zao_.mono_lp _ _ _ _ _ _ _ _ _) (LeO.none _)) (LeO.refl _)))))
def ParsePost (w : World) (r : ParseR) (e : Ending) (w' : World) : Prop :=
  ∃ v1_ v2_ v3_ : Value, e = .returned (.tuple #[.agg #[.int .i64 r.1, v1_, v2_, v3_], .int .i64 r.2.2.2.2.1, .int .i64 r.2.2.2.2.2]) ∧ Kd.R (Kd.int .i64) 3 w' w.heap.size (fun k_ => some k_ ≠ (v2_ : Value).ownBlock) v1_ r.2.1 ∧ Kd.R (Kd.int .i64) 3 w' w.heap.size (fun k_ => some k_ ≠ (v1_ : Value).ownBlock) v2_ r.2.2.1 ∧ Kd.S k53 53 w' w.heap.size (fun _ => True) v3_ r.2.2.2.1 ∧ Below w.heap.size w w'
abbrev set4 (W : World) (g : Nat) (a b c d : Value) : World := (((W.setCell ⟨g, 0, none⟩ a).setCell ⟨g, 1, none⟩ b).setCell ⟨g, 2, none⟩ c).setCell ⟨g, 3, none⟩ d
theorem set4_heap (W : World) (g : Nat) (a b c d : Value) (k : Nat) (hk : k ≠ g) : (set4 W g a b c d).heap[k]? = W.heap[k]? := by
  unfold set4
  rw [Below.heap_setCell _ _ _ _ hk, Below.heap_setCell _ _ _ _ hk, Below.heap_setCell _ _ _ _ hk, Below.heap_setCell _ _ _ _ hk]
theorem set4_blk {W : World} {g t : Nat} {a0 b0 c0 d0 : Value} (h : W.heap[g]? = some (.cells #[a0, b0, c0, d0] t (0, 0))) {a b c d : Value} : (set4 W g a b c d).heap[g]? = some (.cells #[a, b, c, d] t (0, 0)) := by
  unfold set4
  exact zat_ (cs := #[a, b, c, d0]) (zat_ (cs := #[a, b, c0, d0]) (zat_ (cs := #[a, b0, c0, d0]) (zat_ (cs := #[a0, b0, c0, d0]) h 0 _ rfl) 1 _ rfl) 2 _ rfl) 3 _ rfl
theorem cell_set4 {W : World} {p : Addr} {u : Value} (h : W.cell? p = some u) {g : Nat} (hne : p.block ≠ g) {a b c d : Value} : (set4 W g a b c d).cell? p = some u :=
  (World.cell?_of_block (set4_heap W g a b c d p.block hne)).trans h
theorem row_ne0 {W : World} {gr n cp base : Nat} {ad : Addr} {ok : Nat → Prop} {R : List S81} {cs : Array Value} (h : Kd.S k81 81 W base ok (.slice (some ad) n cp) R) (hb : W.heap[gr]? = some (.cells cs 37 (0, 0))) : ad.block ≠ gr := by
  obtain ⟨cells, hc⟩ := Kd.S_typed h ad.block rfl
  exact blk_ne hc hb (by decide)
theorem row_ne {W : World} {gr n cp x base : Nat} {ad : Addr} {ok : Nat → Prop} {R : List S81} {cs : Array Value} (h : Kd.S k81 81 W base ok (.slice (some ad) n cp) R) (hb : W.heap[gr]? = some (.cells cs 37 (0, 0))) : (ad.add x).block ≠ gr := by
  obtain ⟨cells, hc⟩ := Kd.S_typed h ad.block rfl
  rw [add_block]
  exact blk_ne hc hb (by decide)
theorem below4 {w W : World} (h : Below w.heap.size w W) {g : Nat} (hg : w.heap.size ≤ g) {a b c d : Value} : Below w.heap.size w (set4 W g a b c d) := zai_ (zai_ (zai_ (zai_ h hg) hg) hg) hg
theorem R_set4 {α : Type} {dk : Kd α} {e : Nat} {W : World} {base : Nat} {ok : Nat → Prop} {v : Value} {xs : List α} (h : dk.R e W base ok v xs) {g t : Nat} {cs : Array Value} (hb : W.heap[g]? = some (.cells cs t (0, 0))) (ht : ∀ q, q ∈ e :: dk.E → q ≠ t) {a b c d : Value} : dk.R e (set4 W g a b c d) base ok v xs :=
  Kd.R_mono (Kd.R_step (Kd.zaV_ h hb ht) (fun k hk _ => set4_heap W g a b c d k hk.2)) (fun _ hk => hk.1)
theorem S_set4 {α : Type} {dk : Kd α} {e : Nat} {W : World} {base : Nat} {ok : Nat → Prop} {v : Value} {xs : List α} (h : Kd.S dk e W base ok v xs) {g t : Nat} {cs : Array Value} (hb : W.heap[g]? = some (.cells cs t (0, 0))) (ht : ∀ q, q ∈ e :: dk.E → q ≠ t) {a b c d : Value} : Kd.S dk e (set4 W g a b c d) base ok v xs :=
  Kd.S_mono (Kd.S_step (Kd.zbB_ h hb ht) (fun k hk _ => set4_heap W g a b c d k hk.2)) (fun _ hk => hk.1)
structure PP (w : World) (gr go : Nat) (q : Int) (v1 v2 v3 vR : Value) (c h : List Int) (R : List S81) (ts : List S53) (ok3 : Nat → Prop) (W : World) : Prop where
  br : W.heap[gr]? = some (.cells #[.int .i64 0, .slice none 0 0, .slice none 0 0, .slice none 0 0] 37 (0, 0))
  bo : W.heap[go]? = some (.cells #[.int .i64 q, v1, v2, v3] 37 (0, 0))
  nb : gr ≠ go
  gr_ge : w.heap.size ≤ gr
  go_ge : w.heap.size ≤ go
  o1 : Kd.R (Kd.int .i64) 3 W w.heap.size (fun k => some k ≠ v2.ownBlock) v1 c
  o2 : Kd.R (Kd.int .i64) 3 W w.heap.size (fun k => some k ≠ v1.ownBlock) v2 h
  oR : Kd.S k81 81 W w.heap.size (fun _ => True) vR R
  o3 : Kd.S k53 53 W w.heap.size ok3 v3 ts
  be : Below w.heap.size w W
theorem PP.below {w : World} {gr go : Nat} {q : Int} {v1 v2 v3 vR : Value} {c h : List Int} {R : List S81} {ts : List S53} {ok3 : Nat → Prop} {W W' : World} (H : PP w gr go q v1 v2 v3 vR c h R ts ok3 W) (hb : Below W.heap.size W W') : PP w gr go q v1 v2 v3 vR c h R ts ok3 W' :=
  ⟨zan_ H.br hb, zan_ H.bo hb, H.nb, H.gr_ge, H.go_ge, Kd.zaU_ H.o1 hb, Kd.zaU_ H.o2 hb, Kd.zbu_ H.oR hb, Kd.zbu_ H.o3 hb, zaj_ H.be hb⟩
theorem PP.elder {w : World} {gr go : Nat} {q : Int} {v1 v2 v3 vR v5 : Value} {c h : List Int} {R : List S81} {ts : List S53} {ok3 : Nat → Prop} {W W' : World} (H : PP w gr go q v1 v2 v3 vR c h R ts ok3 W) (hbase : ∀ k, v5.ownBlock = some k → W.heap.size ≤ k) (hb : Below W.heap.size W W') : PP w gr go q v1 v2 v3 vR c h R ts (fun k => ok3 k ∧ some k ≠ v5.ownBlock) W' :=
  ⟨zan_ H.br hb, zan_ H.bo hb, H.nb, H.gr_ge, H.go_ge, Kd.zaU_ H.o1 hb, Kd.zaU_ H.o2 hb, Kd.zbu_ H.oR hb, Kd.S_elder' H.o3 hbase hb, zaj_ H.be hb⟩
theorem PP.grow {w : World} {gr go : Nat} {q : Int} {v1 v2 v3 v3' vR : Value} {c h : List Int} {R : List S81} {ts ts' : List S53} {ok3 : Nat → Prop} {W w1 : World} (H : PP w gr go q v1 v2 v3 vR c h R ts ok3 W) (hg : W.grownBy w1 v3.ownBlock) (ho : Kd.S k53 53 w1 w.heap.size (fun _ => True) v3' ts') (hb : Below w.heap.size w w1) :
    w1.heap[go]? = some (.cells #[.int .i64 q, v1, v2, v3] 37 (0, 0)) ∧ PP w gr go q v1 v2 v3' vR c h R ts' (fun _ => True) (w1.setCell ⟨go, 3, none⟩ v3') := by
  have ty := Kd.S_typed H.o3
  have hne : ∀ {g : Nat} {cs : Array Value}, W.heap[g]? = some (.cells cs 37 (0, 0)) → some g ≠ v3.ownBlock := fun hb => Kd.R_ne (Kd.S_R H.o3) hb (by decide)
  have b1 := blk_grown H.br hg (hne H.br)
  have b2 := blk_grown H.bo hg (hne H.bo)
  have o1 := Kd.R_over' H.o1 ty (by decide) hg
  have o2 := Kd.R_over' H.o2 ty (by decide) hg
  have oR := Kd.S_over' H.oR ty (by decide) hg
  exact ⟨b2, zaG_ b1 H.nb _, zat_ (cs := #[.int .i64 q, v1, v2, v3]) b2 3 _ rfl, H.nb, H.gr_ge, H.go_ge, Kd.R_set o1 b2 (by decide) 3 _, Kd.R_set o2 b2 (by decide) 3 _, Kd.S_set oR b2 (by decide) 3 _, Kd.S_set ho b2 (by decide) 3 _, zai_ hb H.go_ge⟩
theorem cut81 (A : Option Addr) (n c m : Nat) (hm : m ≤ n) : ∃ A' : Option Addr, (∀ W : World, (Instr.slice 75 (.slice A n c) (some (.int .i64 (m : Int))) none none).run Tryd.prog W = .ok (.slice A' (n - m) (c - m)) W) ∧
    ∀ (w : World) (xs : List S81), xs.length = n → n ≤ c → k81.C w A n xs → k81.C w A' (n - m) (xs.drop m) := by
  obtain ⟨i, hi, _, hsz, _⟩ := info_parts info81
  refine ⟨if c = m then A else A.map (·.add (m * 2)), fun W => ?_, fun w xs hl hc h => ?_⟩
  · have hel : Tryd.prog.elem 75 = 81 := by simp [Program.elem, Tryd.underlying75]
    have hu : Tryd.prog.underlying 75 = some (.slice (Tryd.prog.elem 75)) := by rw [hel]; exact Tryd.underlying75
    rw [run_slice_l W 75 A n c hu .i64 (m : Int) (Int.natCast_nonneg _) (by omega), hel]
    simp [sizeOf, typeInfo, hi, hsz, sliced, Result.andThen]
  · subst hl
    have := Kd.C_drop (k := k81) (c := c) h hm hc
    rwa [List.length_drop] at this
def zao_.T12 : Bool × List (List Nat × List Nat) := (true, [([], []), ([], []), ([1], [1]), ([0, 0], [0]), ([2, 3, 0, 1, 2, 3], [2]), ([4, 0, 1, 2, 3, 4], [])])
def zao_.B12 : List Nat := [0, 0, 2, 1, 15, 31]
theorem zao_.tab12 : rtab .any (opsOf Tryd.f25 12) = zao_.T12 := by kernel_rfl
theorem zao_.bits12 : waitsOk zao_.T12.2 zao_.B12 = true := by kernel_rfl
def zao_.T15 : Bool × List (List Nat × List Nat) := (true, [([], []), ([], []), ([1], [1]), ([], []), ([0, 0], [0]), ([2, 4, 0, 1, 2, 4], [2]), ([3, 5, 0, 1, 2, 3, 4, 5], [3])])
def zao_.B15 : List Nat := [0, 0, 2, 0, 1, 23, 63]
theorem zao_.tab15 : rtab .any (opsOf Tryd.f25 15) = zao_.T15 := by kernel_rfl
theorem zao_.bits15 : waitsOk zao_.T15.2 zao_.B15 = true := by kernel_rfl
def zao_.T22 : Bool × List (List Nat × List Nat) := (true, [([], []), ([], []), ([], []), ([], []), ([2, 3], [2, 3]), ([1, 4], [1, 4]), ([5], [5]), ([6], [6]), ([], []), ([0, 0], [0]), ([7, 9, 0, 1, 2, 3, 4, 5, 6, 7, 9], [7]), ([8, 10, 0, 1, 2, 3, 4, 5, 6, 7, 8, 9, 10], [8])])
def zao_.B22 : List Nat := [0, 0, 0, 0, 12, 30, 62, 126, 0, 1, 767, 2047]
theorem zao_.tab22 : rtab .any (opsOf Tryd.f25 22) = zao_.T22 := by kernel_rfl
theorem zao_.bits22 : waitsOk zao_.T22.2 zao_.B22 = true := by kernel_rfl
def zao_.T25 : Bool × List (List Nat × List Nat) := (true, [([], []), ([], []), ([1], [1]), ([2], [2]), ([3], [3]), ([], []), ([0, 0], [0]), ([4, 6, 0, 1, 2, 3, 4, 6], [4]), ([5, 7, 0, 1, 2, 3, 4, 5, 6, 7], [5])])
def zao_.B25 : List Nat := [0, 0, 2, 6, 14, 0, 1, 95, 255]
theorem zao_.tab25 : rtab .any (opsOf Tryd.f25 25) = zao_.T25 := by kernel_rfl
theorem zao_.bits25 : waitsOk zao_.T25.2 zao_.B25 = true := by kernel_rfl
set_option maxHeartbeats 16000000 in
set_option maxRecDepth 100000 in
theorem zao_.calls (k : Nat) (a0 : ByteArray) (r1 : Int) (r2 : List Int) (r3 : List Int) (r4 : List (S53)) (r5 : Int) (r6 : Int) (w : World) (hG : Glob w) (h : zao_.f k a0 = some (r1, r2, r3, r4, r5, r6)) :
    Calls Tryd.prog 25 #[.string a0] w fun e w' => ∃ v1_ v2_ v3_ : Value, e = .returned (.tuple #[.agg #[.int .i64 r1, v1_, v2_, v3_], .int .i64 r5, .int .i64 r6]) ∧ Kd.R (Kd.int .i64) 3 w' w.heap.size (fun k_ => some k_ ≠ (v2_ : Value).ownBlock) v1_ r2 ∧ Kd.R (Kd.int .i64) 3 w' w.heap.size (fun k_ => some k_ ≠ (v1_ : Value).ownBlock) v2_ r3 ∧ Kd.S k53 53 w' w.heap.size (fun _ => True) v3_ r4 ∧ Below w.heap.size w w' := by
  suffices H : ∀ r : ParseR, zao_.f k a0 = some r → Calls Tryd.prog 25 #[.string a0] w (ParsePost w r) from H _ h
  clear h
  intro r h
  have hu37 := Tryd.underlying37
  have hu53 := Tryd.underlying53
  have hu81 := Tryd.underlying81
  have HG := Aside0.mk hG
  clear hG
  unfold zao_.f at h
  by_cases c0 : (a0.size : Int) > 2000
  · rw [if_pos c0] at h
    have a9 : decide (2000 < (a0.size : Int)) = true := decide_eq_true c0
    have b3 : decide (2000 < a0.size) = true := decide_eq_true (by omega)
    obtain rfl := Option.some.inj h
    clear h c0
    go_enter Tryd.func25, Tryd.ntmps25
    go_upto_region 1 with (first | ((with_reducible refine zaL_ (N := 2) rfl ?_); (try (refine zaF_ (by rfl) ?_; dsimp only)); refine zaD_ ?hg (N := 2) ?hd (cs := #[.int .i64 0, .slice none 0 0, .slice none 0 0, .slice none 0 0]) (t := 37) ?hr ?_; (case hd => rfl); (case hg => rfl); (case hr => first | (go_simp; done) | (go_simp; rfl)); intro gr hg w1 hbox hb; have GR := Aside0.mk (show w.heap.size ≤ gr by rw [hg]; exact Nat.le_refl _); have BR := Aside0.mk hbox; have HB := Aside0.mk hb; clear hg hbox hb))
    have hr_0 : w1.cell? ⟨gr, 0, none⟩ = some (.int .i64 0) := (zab_ BR.out 0).trans rfl
    have hr_1 : w1.cell? ⟨gr, 1, none⟩ = some (.slice none 0 0) := (zab_ BR.out 1).trans rfl
    have hr_2 : w1.cell? ⟨gr, 2, none⟩ = some (.slice none 0 0) := (zab_ BR.out 2).trans rfl
    have hr_3 : w1.cell? ⟨gr, 3, none⟩ = some (.slice none 0 0) := (zab_ BR.out 3).trans rfl
    have hrf_0 := zaa_ BR.out 0
    have hrf_1 := zaa_ BR.out 1
    have hrf_2 := zaa_ BR.out 2
    have hrf_3 := zaa_ BR.out 3
    go_wp2
    refine bodyPost_ret (zbo_ rfl _ _ gr 37 #[.int .i64 0, .slice none 0 0, .slice none 0 0, .slice none 0 0] (0, 0) _ rfl (set4_blk BR.out) Tryd.underlying37 rfl (by kernel_rfl)) rfl ?_
    exact ⟨_, _, _, rfl, Kd.R_nil _ _ _ _ _, Kd.R_nil _ _ _ _ _, Kd.S_nil _ _ _ _ _, below4 HB.out GR.out⟩
  rw [if_neg c0] at h
  have a9 : decide (2000 < (a0.size : Int)) = false := decide_eq_false c0
  have b3 : decide (2000 < a0.size) = false := decide_eq_false (by omega)
  clear c0
  obtain ⟨L, hL, h⟩ := Option.bind_eq_some_iff.1 h
  obtain ⟨R, hR, h⟩ := Option.bind_eq_some_iff.1 h
  obtain ⟨⟨q, c, h_, t0, first, ok⟩, hH, h⟩ := Option.bind_eq_some_iff.1 h
  dsimp only at h
  have HL := Aside0.mk hL
  have HR := Aside0.mk hR
  have HH0 := Aside0.mk hH
  clear hL hR hH
  cases hok : ok with
  | false =>
    rw [hok, if_neg Bool.false_ne_true] at h
    obtain ⟨n, hn, h⟩ := Option.bind_eq_some_iff.1 h
    obtain rfl := Option.some.inj h
    have HN := Aside0.mk hn
    have HH := Aside0.mk (hok ▸ HH0.out)
    clear h hn HH0 hok
    go_enter Tryd.func25, Tryd.ntmps25
    go_upto_region 6 with (first | ((with_reducible refine zaL_ (N := 2) rfl ?_); (try (refine zaF_ (by rfl) ?_; dsimp only)); refine zaD_ ?hg (N := 2) ?hd (cs := #[.int .i64 0, .slice none 0 0, .slice none 0 0, .slice none 0 0]) (t := 37) ?hr ?_; (case hd => rfl); (case hg => rfl); (case hr => first | (go_simp; done) | (go_simp; rfl)); intro gr hg w1 hbox hb; have GR := Aside0.mk (show w.heap.size ≤ gr by rw [hg]; exact Nat.le_refl _); have BR := Aside0.mk hbox; have HB := Aside0.mk hb; clear hg hbox hb) | (go_at_call 13; (with_reducible refine (words_Lines.calls a0 L _ (Glob.below HG.out HB.out) HL.out).mono ?_); rintro e_ w2 ⟨v_, rfl, ho, hb⟩; obtain ⟨AL, cL, eL⟩ := Kd.zbf_ ho; subst eL; have OL := Aside0.mk ho; have HB2 := Aside0.mk (zaj_ HB.out hb); have BR2 := Aside0.mk (zan_ BR.out hb); clear ho hb) | (go_at_call 39; (with_reducible refine (zba_.calls k AL cL L R _ (Kd.zaS_ OL.out).2.2 (Kd.zaS_ OL.out).2.1 (Glob.below HG.out HB2.out) HR.out).mono ?_); rintro e_ w3 ⟨v_, rfl, ho, hb⟩; obtain ⟨AR, cR, eR⟩ := Kd.S_slice ho; subst eR; have OR := Aside0.mk (Kd.S_lower ho HB2.out.size); have HB3 := Aside0.mk (zaj_ HB2.out hb); have BR3 := Aside0.mk (zan_ BR2.out hb); clear ho hb) | (go_at_call 40; (with_reducible refine (zap_.calls k AR cR R q c h_ t0 first false _ (Kd.zbq_ OR.out).2.2 (Kd.zbq_ OR.out).2.1 (Glob.below HG.out HB3.out) HH.out).mono ?_); rintro e_ w4 ⟨u1, u2, u3, rfl, a2, a3, a4, hb⟩; obtain ⟨A1, c1, e1⟩ := Kd.zbf_ a2; obtain ⟨A2, c2, e2⟩ := Kd.zbf_ a3; obtain ⟨A3, c3, e3⟩ := Kd.S_slice a4; subst e1; subst e2; subst e3; have O1 := Aside0.mk (Kd.zbp_ a2 HB3.out.size); have O2 := Aside0.mk (Kd.zbp_ a3 HB3.out.size); have O3 := Aside0.mk (Kd.S_lower a4 HB3.out.size); have OR4 := Aside0.mk (Kd.zbu_ OR.out hb); have HB4 := Aside0.mk (zaj_ HB3.out hb); have BR4 := Aside0.mk (zan_ BR3.out hb); clear a2 a3 a4 hb))
    have BR5 := Aside0.mk (zad_ BR4.out (.cells #[.int .i64 q, .slice A1 c.length c1, .slice A2 h_.length c2, .slice A3 t0.length c3] 37 (0, 0)))
    have OR5 := Aside0.mk (Kd.zbg_ OR4.out (.cells #[.int .i64 q, .slice A1 c.length c1, .slice A2 h_.length c2, .slice A3 t0.length c3] 37 (0, 0)))
    have HB5 := Aside0.mk (zah_ HB4.out (.cells #[.int .i64 q, .slice A1 c.length c1, .slice A2 h_.length c2, .slice A3 t0.length c3] 37 (0, 0)))
    clear HB HB2 HB3 HB4 BR BR2 BR3 BR4 O1 O2 O3 OR OR4 OL
    generalize w4.alloc (.cells #[.int .i64 q, .slice A1 c.length c1, .slice A2 h_.length c2, .slice A3 t0.length c3] 37 (0, 0)) = w5 at BR5 OR5 HB5 ⊢
    have hr_0 : w5.cell? ⟨gr, 0, none⟩ = some (.int .i64 0) := (zab_ BR5.out 0).trans rfl
    have hr_1 : w5.cell? ⟨gr, 1, none⟩ = some (.slice none 0 0) := (zab_ BR5.out 1).trans rfl
    have hr_2 : w5.cell? ⟨gr, 2, none⟩ = some (.slice none 0 0) := (zab_ BR5.out 2).trans rfl
    have hr_3 : w5.cell? ⟨gr, 3, none⟩ = some (.slice none 0 0) := (zab_ BR5.out 3).trans rfl
    have hrf_0 := zaa_ BR5.out 0
    have hrf_1 := zaa_ BR5.out 1
    have hrf_2 := zaa_ BR5.out 2
    have hrf_3 := zaa_ BR5.out 3
    go_wp2_with (first | (go_at_call 41; (with_reducible refine (text_line.calls AR cR R first (L.length : Int) n _ (Kd.zbq_ OR5.out).2.2 (Kd.zbq_ OR5.out).2.1 HN.out).mono ?_); rintro e_ w' ⟨rfl, ⟨⟨nd, rfl⟩⟩⟩))
    refine bodyPost_ret (zbo_ rfl _ _ gr 37 #[.int .i64 0, .slice none 0 0, .slice none 0 0, .slice none 0 0] (0, 0) _ rfl (set4_blk (zac_ BR5.out nd)) Tryd.underlying37 rfl (by kernel_rfl)) rfl ?_
    exact ⟨_, _, _, rfl, Kd.R_nil _ _ _ _ _, Kd.R_nil _ _ _ _ _, Kd.S_nil _ _ _ _ _, below4 (zae_ HB5.out _) GR.out⟩
  | true =>
    rw [hok, if_pos rfl] at h
    by_cases cc : t0.length = 0 ∧ 0 ≤ first ∧ first ≤ (R.length : Int) ∧ R.length ≤ 1000000
    rotate_left
    · rw [if_neg cc] at h; cases h
    rw [if_pos cc] at h
    obtain ⟨ct, cf0, cf1, cf2⟩ := cc
    obtain rfl : t0 = [] := List.length_eq_zero_iff.1 ct
    obtain ⟨fn, rfl⟩ := Int.eq_ofNat_of_zero_le cf0
    rw [Int.toNat_natCast] at h
    have hfn : fn ≤ R.length := by omega
    clear ct cf0 cf1
    have HF := Aside0.mk hfn
    have HRL := Aside0.mk cf2
    have H := Aside0.mk h
    have HH := Aside0.mk (hok ▸ HH0.out)
    clear h HH0 hok hfn cf2
    go_enter Tryd.func25, Tryd.ntmps25
    go_upto_region 6 with (first | ((with_reducible refine zaL_ (N := 2) rfl ?_); (try (refine zaF_ (by rfl) ?_; dsimp only)); refine zaD_ ?hg (N := 2) ?hd (cs := #[.int .i64 0, .slice none 0 0, .slice none 0 0, .slice none 0 0]) (t := 37) ?hr ?_; (case hd => rfl); (case hg => rfl); (case hr => first | (go_simp; done) | (go_simp; rfl)); intro gr hg w1 hbox hb; have GR := Aside0.mk (show w.heap.size ≤ gr by rw [hg]; exact Nat.le_refl _); have BR := Aside0.mk hbox; have HB := Aside0.mk hb; clear hg hbox hb) | (go_at_call 13; (with_reducible refine (words_Lines.calls a0 L _ (Glob.below HG.out HB.out) HL.out).mono ?_); rintro e_ w2 ⟨v_, rfl, ho, hb⟩; obtain ⟨AL, cL, eL⟩ := Kd.zbf_ ho; subst eL; have OL := Aside0.mk ho; have HB2 := Aside0.mk (zaj_ HB.out hb); have BR2 := Aside0.mk (zan_ BR.out hb); clear ho hb) | (go_at_call 39; (with_reducible refine (zba_.calls k AL cL L R _ (Kd.zaS_ OL.out).2.2 (Kd.zaS_ OL.out).2.1 (Glob.below HG.out HB2.out) HR.out).mono ?_); rintro e_ w3 ⟨v_, rfl, ho, hb⟩; obtain ⟨AR, cR, eR⟩ := Kd.S_slice ho; subst eR; have OR := Aside0.mk (Kd.S_lower ho HB2.out.size); have HB3 := Aside0.mk (zaj_ HB2.out hb); have BR3 := Aside0.mk (zan_ BR2.out hb); clear ho hb) | (go_at_call 40; (with_reducible refine (zap_.calls k AR cR R q c h_ [] (fn : Int) true _ (Kd.zbq_ OR.out).2.2 (Kd.zbq_ OR.out).2.1 (Glob.below HG.out HB3.out) HH.out).mono ?_); rintro e_ w4 ⟨u1, u2, u3, rfl, a2, a3, a4, hb⟩; obtain ⟨A1, c1, e1⟩ := Kd.zbf_ a2; obtain ⟨A2, c2, e2⟩ := Kd.zbf_ a3; obtain ⟨A3, c3, e3⟩ := Kd.S_slice a4; subst e1; subst e2; subst e3; have O1 := Aside0.mk (Kd.zbp_ a2 HB3.out.size); have O2 := Aside0.mk (Kd.zbp_ a3 HB3.out.size); have O3 := Aside0.mk (Kd.S_lower a4 HB3.out.size); have OR4 := Aside0.mk (Kd.zbu_ OR.out hb); have HB4 := Aside0.mk (zaj_ HB3.out hb); have BR4 := Aside0.mk (zan_ BR3.out hb); clear a2 a3 a4 hb))
    have HP := Aside0.mk (show PP w gr w4.heap.size q (.slice A1 c.length c1) (.slice A2 h_.length c2) (.slice A3 ([] : List S53).length c3) (.slice AR R.length cR) c h_ R [] (fun _ => True) (w4.alloc (.cells #[.int .i64 q, .slice A1 c.length c1, .slice A2 h_.length c2, .slice A3 ([] : List S53).length c3] 37 (0, 0))) from
      ⟨zad_ BR4.out _, blk_new _ _, by have := blk_lt BR4.out; omega, GR.out, HB4.out.size, Kd.zav_ O1.out _, Kd.zav_ O2.out _, Kd.zbg_ OR4.out _, Kd.zbg_ O3.out _, zah_ HB4.out _⟩)
    clear HB HB2 HB3 HB4 BR BR2 BR3 BR4 O1 O2 O3 OR OR4 OL GR
    simp only [List.length_nil] at HP ⊢
    generalize w4.alloc (.cells #[.int .i64 q, .slice A1 c.length c1, .slice A2 h_.length c2, .slice A3 0 c3] 37 (0, 0)) = w5 at HP ⊢
    generalize w4.heap.size = go at HP ⊢
    obtain ⟨AC, hcut, hCC⟩ := cut81 AR R.length cR fn HF.out
    have HCC := Aside0.mk hCC
    clear hCC
    have cfb : decide (fn ≤ R.length) = true := decide_eq_true HF.out
    have cfc : fn ≤ R.length := HF.out
    go_wp2
    go_loopg [42] (R.length - fn) (fun kq b4 w' => ∃ (i : Nat) (v3 : Value) (ts : List S53), b4 = .int .i64 i ∧ Aside0 (kq + i = R.length - fn) ∧ Aside0 (zao_.lp k R (L.length : Int) q c h_ (fn : Int) ((R.drop fn).drop i) ts = some r) ∧ Aside0 (PP w gr go q (.slice A1 c.length c1) (.slice A2 h_.length c2) v3 (.slice AR R.length cR) c h_ R ts (fun _ => True) w'))
    case atStart => exact ⟨0, _, [], rfl, ⟨by omega⟩, ⟨H.out⟩, HP⟩
    clear HP H
    obtain ⟨i, v3, ts, rfl, HI, H, HP⟩ := hrel
    obtain ⟨gko, rfl⟩ : ∃ x, x = gk := ⟨gk, rfl⟩
    obtain ⟨A3, c3, e3⟩ := Kd.S_slice HP.out.o3
    subst e3
    by_cases hlt : i < R.length - fn
    rotate_left
    · have hn : R.length - fn ≤ i := by omega
      have h := H.out
      rw [List.drop_eq_nil_of_le (by rw [List.length_drop]; exact hn)] at h
      clear H
      unfold zao_.lp zao_.fin at h
      obtain ⟨⟨n, e⟩, hck, h⟩ := Option.bind_eq_some_iff.1 h
      dsimp only at h
      have HCK := Aside0.mk hck
      clear hck
      have hg_0 : wr.cell? ⟨go, 0, none⟩ = some (.int .i64 q) := (zab_ HP.out.bo 0).trans rfl
      have hg_1 : wr.cell? ⟨go, 1, none⟩ = some (.slice A1 c.length c1) := (zab_ HP.out.bo 1).trans rfl
      have hg_2 : wr.cell? ⟨go, 2, none⟩ = some (.slice A2 h_.length c2) := (zab_ HP.out.bo 2).trans rfl
      have hg_3 : wr.cell? ⟨go, 3, none⟩ = some (.slice A3 ts.length c3) := (zab_ HP.out.bo 3).trans rfl
      have hgf_0 := zaa_ HP.out.bo 0
      have hgf_1 := zaa_ HP.out.bo 1
      have hgf_2 := zaa_ HP.out.bo 2
      have hgf_3 := zaa_ HP.out.bo 3
      go_upto_region 19 with (first | (go_at_call 33; (with_reducible refine (zaR_.calls k q A1 c1 c A2 c2 h_ A3 c3 ts n e _ (Kd.zaS_ HP.out.o1).2.2 (Kd.zaS_ HP.out.o1).2.1 (Kd.zaS_ HP.out.o2).2.2 (Kd.zaS_ HP.out.o2).2.1 (Kd.zbq_ HP.out.o3).2.2 (Kd.zbq_ HP.out.o3).2.1 HCK.out).mono ?_); rintro e_ w8 ⟨rfl, hb⟩; have HP8 := Aside0.mk (HP.out.below hb); clear hb))
      clear HP hg_0 hg_1 hg_2 hg_3 hgf_0 hgf_1 hgf_2 hgf_3
      have hg_0 : w8.cell? ⟨go, 0, none⟩ = some (.int .i64 q) := (zab_ HP8.out.bo 0).trans rfl
      have hg_1 : w8.cell? ⟨go, 1, none⟩ = some (.slice A1 c.length c1) := (zab_ HP8.out.bo 1).trans rfl
      have hg_2 : w8.cell? ⟨go, 2, none⟩ = some (.slice A2 h_.length c2) := (zab_ HP8.out.bo 2).trans rfl
      have hg_3 : w8.cell? ⟨go, 3, none⟩ = some (.slice A3 ts.length c3) := (zab_ HP8.out.bo 3).trans rfl
      have hgf_0 := zaa_ HP8.out.bo 0
      have hgf_1 := zaa_ HP8.out.bo 1
      have hgf_2 := zaa_ HP8.out.bo 2
      have hgf_3 := zaa_ HP8.out.bo 3
      have hr_0 : w8.cell? ⟨gr, 0, none⟩ = some (.int .i64 0) := (zab_ HP8.out.br 0).trans rfl
      have hr_1 : w8.cell? ⟨gr, 1, none⟩ = some (.slice none 0 0) := (zab_ HP8.out.br 1).trans rfl
      have hr_2 : w8.cell? ⟨gr, 2, none⟩ = some (.slice none 0 0) := (zab_ HP8.out.br 2).trans rfl
      have hr_3 : w8.cell? ⟨gr, 3, none⟩ = some (.slice none 0 0) := (zab_ HP8.out.br 3).trans rfl
      have hrf_0 := zaa_ HP8.out.br 0
      have hrf_1 := zaa_ HP8.out.br 1
      have hrf_2 := zaa_ HP8.out.br 2
      have hrf_3 := zaa_ HP8.out.br 3
      have hnb := HP8.out.nb
      have hnc := HP8.out.nb.symm
      by_cases ce : e = 0
      · rw [if_pos ce] at h
        subst ce
        obtain rfl := Option.some.inj h
        go_wp2
        refine bodyPost_ret (zbo_ rfl _ _ gr 37 #[.int .i64 q, .slice A1 c.length c1, .slice A2 h_.length c2, .slice A3 ts.length c3] (0, 0) _ rfl (set4_blk HP8.out.br) Tryd.underlying37 rfl (by kernel_rfl)) rfl ?_
        exact ⟨_, _, _, rfl, R_set4 HP8.out.o1 HP8.out.br (by decide), R_set4 HP8.out.o2 HP8.out.br (by decide), S_set4 HP8.out.o3 HP8.out.br (by decide), below4 HP8.out.be HP8.out.gr_ge⟩
      rw [if_neg ce] at h
      have ceb : (e == 0) = false := beq_eq_false_iff_ne.2 ce
      by_cases cn : 0 ≤ n
      · rw [if_pos cn] at h
        have cnb : decide (0 ≤ n) = true := decide_eq_true cn
        by_cases cm : (fn : Int) + n < (R.length : Int)
        rotate_left
        · rw [if_neg cm] at h; cases h
        rw [if_pos cm] at h
        obtain rfl := Option.some.inj h
        have hw : wrap64 ((fn : Int) + n) = (fn : Int) + n := by have := HRL.out; unfold wrap64; omega
        have p0 : (0 : Int) ≤ (fn : Int) + n := by omega
        obtain ⟨ad, B1, b1, eA, a1, a5, hl1, hi1⟩ := at_T81 (Kd.zbq_ HP8.out.oR).2.2 ((fn : Int) + n) p0 cm
        cases eA
        clear a5 hl1 hi1 h
        have p0b := eq_true p0
        have cmb := eq_true cm
        go_upto_region 22 with (fail)
        have HP := Aside0.mk (HP8.out.below (zag_ (Below.refl _ _)))
        have HX := Aside0.mk (show w8.drew.cell? (ad.add (((fn : Int) + n).toNat * 2)) = some (.int .i64 (rd_T81 R ((fn : Int) + n)).f0) from a1)
        clear hg_0 hg_1 hg_2 hg_3 hgf_0 hgf_1 hgf_2 hgf_3 hr_0 hr_1 hr_2 hr_3 hrf_0 hrf_1 hrf_2 hrf_3 a1 HP8
        refine start_ (n := 12) (S := fun w' => w'.cell? (ad.add (((fn : Int) + n).toNat * 2)) = some (.int .i64 (rd_T81 R ((fn : Int) + n)).f0)) (ds := []) (bs 12 0) (by kernel_rfl) rfl rfl (HX.out) (fun hHeld => ?_)
        refine zbv_ zao_.tab22 zao_.bits22 (fun HT_ HW_ => ?_)
        generalize w8.drew = w9 at HP HX hHeld ⊢
        refine pure_ (i := 0) (N := some 87) (v := ?_) (a' := ?_) (bs 12 1) rfl rfl (any_of HT_.out (by kernel_rfl)) (fun _ _ _ h => h) (Or.inl ⟨by rfl, ?_⟩) ?_ ?_
        rotate_left
        · intro w'
          go_simp
          with_reducible rfl
        rotate_left
        · simp only [Act.put, List.setIfInBounds_toArray, List.set_cons_zero, List.set_cons_succ, i64_w, i32_w]
          rfl
        refine pure_ (i := 1) (N := some 88) (v := ?_) (a' := ?_) (bs 12 3) rfl rfl (any_of HT_.out (by kernel_rfl)) (fun _ _ _ h => h) (Or.inl ⟨by rfl, ?_⟩) ?_ ?_
        rotate_left
        · intro w'
          go_simp
          with_reducible rfl
        rotate_left
        · simp only [Act.put, List.setIfInBounds_toArray, List.set_cons_zero, List.set_cons_succ, i64_w, i32_w]
          rfl
        refine pure_ (i := 2) (N := some 89) (v := ?_) (a' := ?_) (bs 12 7) rfl rfl (any_of HT_.out (by kernel_rfl)) (fun _ _ _ h => h) (Or.inl ⟨by rfl, ?_⟩) ?_ ?_
        rotate_left
        · intro w'
          go_simp
          with_reducible rfl
        rotate_left
        · simp only [Act.put, List.setIfInBounds_toArray, List.set_cons_zero, List.set_cons_succ, i64_w, i32_w]
          rfl
        refine pure_ (i := 3) (N := some 90) (v := ?_) (a' := ?_) (bs 12 15) rfl rfl (any_of HT_.out (by kernel_rfl)) (fun _ _ _ h => h) (Or.inl ⟨by rfl, ?_⟩) ?_ ?_
        rotate_left
        · intro w'
          go_simp
          with_reducible rfl
        rotate_left
        · simp only [Act.put, List.setIfInBounds_toArray, List.set_cons_zero, List.set_cons_succ, i64_w, i32_w]
          rfl
        refine pure_ (i := 4) (N := some 91) (v := ?_) (a' := ?_) (bs 12 31) rfl rfl (any_of HT_.out (by kernel_rfl)) (fun _ _ _ h => h) (Or.inl ⟨by rfl, ?_⟩) ?_ ?_
        rotate_left
        · intro w'
          go_simp
          with_reducible rfl
        rotate_left
        · simp only [Act.put, List.setIfInBounds_toArray, List.set_cons_zero, List.set_cons_succ, i64_w, i32_w]
          rfl
        refine pure_ (i := 5) (N := some 92) (v := ?_) (a' := ?_) (bs 12 63) rfl rfl (any_of HT_.out (by kernel_rfl)) (fun _ _ _ h => h) (Or.inl ⟨by rfl, ?_⟩) ?_ ?_
        rotate_left
        · intro w'
          go_simp
          with_reducible rfl
        rotate_left
        · simp only [Act.put, List.setIfInBounds_toArray, List.set_cons_zero, List.set_cons_succ, i64_w, i32_w]
          rfl
        refine pure_ (i := 6) (N := some 93) (v := ?_) (a' := ?_) (bs 12 127) rfl rfl (any_of HT_.out (by kernel_rfl)) (fun _ _ _ h => h) (Or.inl ⟨by rfl, ?_⟩) ?_ ?_
        rotate_left
        · intro w'
          go_simp
          with_reducible rfl
        rotate_left
        · simp only [Act.put, List.setIfInBounds_toArray, List.set_cons_zero, List.set_cons_succ, i64_w, i32_w]
          rfl
        refine pure_ (i := 8) (N := some 95) (v := ?_) (a' := ?_) (bs 12 383) rfl rfl (any_of HT_.out (by kernel_rfl)) (fun _ _ _ h => h) (Or.inl ⟨by rfl, ?_⟩) ?_ ?_
        rotate_left
        · intro w'
          go_simp
          with_reducible rfl
        rotate_left
        · simp only [Act.put, List.setIfInBounds_toArray, List.set_cons_zero, List.set_cons_succ, i64_w, i32_w]
          rfl
        refine take_ (i := 7) (N := some 94) (v := ?_) (a' := ?_) (bs 12 511) rfl rfl (zaT_ HT_.out HW_.out (by kernel_rfl)) (fun _ _ _ h => h) (Or.inl ⟨by rfl, ?_⟩) hHeld ?_ ?_
        rotate_left
        · intro w' s0
          go_simp
          with_reducible rfl
        rotate_left
        · simp only [Act.put, List.setIfInBounds_toArray, List.set_cons_zero, List.set_cons_succ, i64_w, i32_w]
          rfl
        refine one_ (i := 9) (N := none) (bs 12 1023) rfl rfl (one_of HT_.out (by kernel_rfl)) (by decide) (fun K hK => ?_)
        have hs_0 : w9.cell? ⟨gr, 0, none⟩ = some (.int .i64 0) := (zab_ HP.out.br 0).trans rfl
        have hs_1 : w9.cell? ⟨gr, 1, none⟩ = some (.slice none 0 0) := (zab_ HP.out.br 1).trans rfl
        have hs_2 : w9.cell? ⟨gr, 2, none⟩ = some (.slice none 0 0) := (zab_ HP.out.br 2).trans rfl
        have hs_3 : w9.cell? ⟨gr, 3, none⟩ = some (.slice none 0 0) := (zab_ HP.out.br 3).trans rfl
        have hsf_0 := zaa_ HP.out.br 0
        have hsf_1 := zaa_ HP.out.br 1
        have hsf_2 := zaa_ HP.out.br 2
        have hsf_3 := zaa_ HP.out.br 3
        refine skip_ (w1 := ?_) (by rfl) rfl ?_ ?_
        rotate_left
        · go_simp
          rfl
        refine hK.out _ _ (cell_set4 HX.out (row_ne HP.out.oR HP.out.br)) (fun hHeld => ?_)
        clear hK K
        refine pure_ (i := 10) (N := some 3) (v := ?_) (a' := ?_) (bs 12 2047) rfl rfl (any_of HT_.out (by kernel_rfl)) (fun _ _ _ h => h) (Or.inl ⟨by rfl, ?_⟩) ?_ ?_
        rotate_left
        · intro w'
          go_simp
          with_reducible rfl
        rotate_left
        · simp only [Act.put, List.setIfInBounds_toArray, List.set_cons_zero, List.set_cons_succ, i64_w, i32_w]
          rfl
        refine pure_ (i := 11) (N := some 4) (v := ?_) (a' := ?_) (bs 12 4095) rfl rfl (any_of HT_.out (by kernel_rfl)) (fun _ _ _ h => h) (Or.inl ⟨by rfl, ?_⟩) ?_ ?_
        rotate_left
        · intro w'
          go_simp
          with_reducible rfl
        rotate_left
        · simp only [Act.put, List.setIfInBounds_toArray, List.set_cons_zero, List.set_cons_succ, i64_w, i32_w]
          rfl
        refine done_ (done_of HT_.out (by kernel_rfl)) ?_
        try go_wp2
        refine bodyPost_ret (zbo_ rfl _ _ gr 37 #[.int .i64 0, .slice none 0 0, .slice none 0 0, .slice none 0 0] (0, 0) _ rfl (set4_blk HP.out.br) Tryd.underlying37 rfl (by kernel_rfl)) rfl ?_
        exact ⟨_, _, _, rfl, Kd.R_nil _ _ _ _ _, Kd.R_nil _ _ _ _ _, Kd.S_nil _ _ _ _ _, below4 HP.out.be HP.out.gr_ge⟩
      rw [if_neg cn] at h
      have cnb : decide (0 ≤ n) = false := decide_eq_false cn
      by_cases a6 : e = 14
      · rw [if_pos a6] at h
        subst a6
        obtain rfl := Option.some.inj h
        go_wp2
        refine bodyPost_ret (zbo_ rfl _ _ gr 37 #[.int .i64 0, .slice none 0 0, .slice none 0 0, .slice none 0 0] (0, 0) _ rfl (set4_blk HP8.out.br) Tryd.underlying37 rfl (by kernel_rfl)) rfl ?_
        exact ⟨_, _, _, rfl, Kd.R_nil _ _ _ _ _, Kd.R_nil _ _ _ _ _, Kd.S_nil _ _ _ _ _, below4 HP8.out.be HP8.out.gr_ge⟩
      rw [if_neg a6] at h
      have c14b : (e == 14) = false := beq_eq_false_iff_ne.2 a6
      by_cases a7 : e = 11
      · rw [if_pos a7] at h
        subst a7
        obtain rfl := Option.some.inj h
        go_wp2
        refine bodyPost_ret (zbo_ rfl _ _ gr 37 #[.int .i64 0, .slice none 0 0, .slice none 0 0, .slice none 0 0] (0, 0) _ rfl (set4_blk HP8.out.br) Tryd.underlying37 rfl (by kernel_rfl)) rfl ?_
        exact ⟨_, _, _, rfl, Kd.R_nil _ _ _ _ _, Kd.R_nil _ _ _ _ _, Kd.S_nil _ _ _ _ _, below4 HP8.out.be HP8.out.gr_ge⟩
      rw [if_neg a7] at h
      have c11b : (e == 11) = false := beq_eq_false_iff_ne.2 a7
      by_cases cm : 1 < R.length
      rotate_left
      · rw [if_neg cm] at h; cases h
      rw [if_pos cm] at h
      obtain rfl := Option.some.inj h
      have p0 : (0 : Int) ≤ 1 := by omega
      have q0 : (1 : Int) < (R.length : Int) := by omega
      obtain ⟨ad, B1, b1, eA, a1, a5, hl1, hi1⟩ := at_T81 (Kd.zbq_ HP8.out.oR).2.2 1 p0 q0
      cases eA
      clear a5 hl1 hi1 h
      rw [show ((1 : Int)).toNat * 2 = 2 from rfl] at a1
      simp only [Go.Addr.add, Nat.reduceEqDiff, ↓reduceIte] at a1
      have qi : (1 < R.length) = True := eq_true cm
      have q0b := eq_true q0
      go_upto_region 25 with (fail)
      have HP := Aside0.mk (HP8.out.below (zag_ (Below.refl _ _)))
      have HX := Aside0.mk (show w8.drew.cell? ⟨ad.block, ad.off + 2, none⟩ = some (.int .i64 (rd_T81 R 1).f0) from a1)
      clear hg_0 hg_1 hg_2 hg_3 hgf_0 hgf_1 hgf_2 hgf_3 hr_0 hr_1 hr_2 hr_3 hrf_0 hrf_1 hrf_2 hrf_3 a1 HP8
      refine start_ (n := 9) (S := fun w' => w'.cell? ⟨ad.block, ad.off + 2, none⟩ = some (.int .i64 (rd_T81 R 1).f0)) (ds := []) (bs 9 0) (by kernel_rfl) rfl rfl (HX.out) (fun hHeld => ?_)
      refine zbv_ zao_.tab25 zao_.bits25 (fun HT_ HW_ => ?_)
      generalize w8.drew = w9 at HP HX hHeld ⊢
      refine pure_ (i := 0) (N := some 107) (v := ?_) (a' := ?_) (bs 9 1) rfl rfl (any_of HT_.out (by kernel_rfl)) (fun _ _ _ h => h) (Or.inl ⟨by rfl, ?_⟩) ?_ ?_
      rotate_left
      · intro w'
        go_simp
        with_reducible rfl
      rotate_left
      · simp only [Act.put, List.setIfInBounds_toArray, List.set_cons_zero, List.set_cons_succ, i64_w, i32_w]
        rfl
      refine pure_ (i := 1) (N := some 108) (v := ?_) (a' := ?_) (bs 9 3) rfl rfl (any_of HT_.out (by kernel_rfl)) (fun _ _ _ h => h) (Or.inl ⟨by rfl, ?_⟩) ?_ ?_
      rotate_left
      · intro w'
        go_simp
        with_reducible rfl
      rotate_left
      · simp only [Act.put, List.setIfInBounds_toArray, List.set_cons_zero, List.set_cons_succ, i64_w, i32_w]
        rfl
      refine pure_ (i := 2) (N := some 109) (v := ?_) (a' := ?_) (bs 9 7) rfl rfl (any_of HT_.out (by kernel_rfl)) (fun _ _ _ h => h) (Or.inl ⟨by rfl, ?_⟩) ?_ ?_
      rotate_left
      · intro w'
        go_simp
        with_reducible rfl
      rotate_left
      · simp only [Act.put, List.setIfInBounds_toArray, List.set_cons_zero, List.set_cons_succ, i64_w, i32_w]
        rfl
      refine pure_ (i := 3) (N := some 110) (v := ?_) (a' := ?_) (bs 9 15) rfl rfl (any_of HT_.out (by kernel_rfl)) (fun _ _ _ h => h) (Or.inl ⟨by rfl, ?_⟩) ?_ ?_
      rotate_left
      · intro w'
        go_simp
        with_reducible rfl
      rotate_left
      · simp only [Act.put, List.setIfInBounds_toArray, List.set_cons_zero, List.set_cons_succ, i64_w, i32_w]
        rfl
      refine pure_ (i := 5) (N := some 112) (v := ?_) (a' := ?_) (bs 9 47) rfl rfl (any_of HT_.out (by kernel_rfl)) (fun _ _ _ h => h) (Or.inl ⟨by rfl, ?_⟩) ?_ ?_
      rotate_left
      · intro w'
        go_simp
        with_reducible rfl
      rotate_left
      · simp only [Act.put, List.setIfInBounds_toArray, List.set_cons_zero, List.set_cons_succ, i64_w, i32_w]
        rfl
      refine take_ (i := 4) (N := some 111) (v := ?_) (a' := ?_) (bs 9 63) rfl rfl (zaT_ HT_.out HW_.out (by kernel_rfl)) (fun _ _ _ h => h) (Or.inl ⟨by rfl, ?_⟩) hHeld ?_ ?_
      rotate_left
      · intro w' s0
        go_simp
        with_reducible rfl
      rotate_left
      · simp only [Act.put, List.setIfInBounds_toArray, List.set_cons_zero, List.set_cons_succ, i64_w, i32_w]
        rfl
      refine one_ (i := 6) (N := none) (bs 9 127) rfl rfl (one_of HT_.out (by kernel_rfl)) (by decide) (fun K hK => ?_)
      have hs_0 : w9.cell? ⟨gr, 0, none⟩ = some (.int .i64 0) := (zab_ HP.out.br 0).trans rfl
      have hs_1 : w9.cell? ⟨gr, 1, none⟩ = some (.slice none 0 0) := (zab_ HP.out.br 1).trans rfl
      have hs_2 : w9.cell? ⟨gr, 2, none⟩ = some (.slice none 0 0) := (zab_ HP.out.br 2).trans rfl
      have hs_3 : w9.cell? ⟨gr, 3, none⟩ = some (.slice none 0 0) := (zab_ HP.out.br 3).trans rfl
      have hsf_0 := zaa_ HP.out.br 0
      have hsf_1 := zaa_ HP.out.br 1
      have hsf_2 := zaa_ HP.out.br 2
      have hsf_3 := zaa_ HP.out.br 3
      refine skip_ (w1 := ?_) (by rfl) rfl ?_ ?_
      rotate_left
      · go_simp
        rfl
      refine hK.out _ _ (cell_set4 HX.out (row_ne0 (ad := ad) HP.out.oR HP.out.br)) (fun hHeld => ?_)
      clear hK K
      refine pure_ (i := 7) (N := some 3) (v := ?_) (a' := ?_) (bs 9 255) rfl rfl (any_of HT_.out (by kernel_rfl)) (fun _ _ _ h => h) (Or.inl ⟨by rfl, ?_⟩) ?_ ?_
      rotate_left
      · intro w'
        go_simp
        with_reducible rfl
      rotate_left
      · simp only [Act.put, List.setIfInBounds_toArray, List.set_cons_zero, List.set_cons_succ, i64_w, i32_w]
        rfl
      refine pure_ (i := 8) (N := some 4) (v := ?_) (a' := ?_) (bs 9 511) rfl rfl (any_of HT_.out (by kernel_rfl)) (fun _ _ _ h => h) (Or.inl ⟨by rfl, ?_⟩) ?_ ?_
      rotate_left
      · intro w'
        go_simp
        with_reducible rfl
      rotate_left
      · simp only [Act.put, List.setIfInBounds_toArray, List.set_cons_zero, List.set_cons_succ, i64_w, i32_w]
        rfl
      refine done_ (done_of HT_.out (by kernel_rfl)) ?_
      try go_wp2
      refine bodyPost_ret (zbo_ rfl _ _ gr 37 #[.int .i64 0, .slice none 0 0, .slice none 0 0, .slice none 0 0] (0, 0) _ rfl (set4_blk HP.out.br) Tryd.underlying37 rfl (by kernel_rfl)) rfl ?_
      exact ⟨_, _, _, rfl, Kd.R_nil _ _ _ _ _, Kd.R_nil _ _ _ _ _, Kd.S_nil _ _ _ _ _, below4 HP.out.be HP.out.gr_ge⟩
    have p0 : (0 : Int) ≤ (i : Int) := by omega
    have q0 : (i : Int) < ((R.length - fn : Nat) : Int) := by omega
    have hly : i < (R.drop fn).length := by rw [List.length_drop]; exact hlt
    obtain ⟨ad, B1, b1, eA, a1, a5, hl1, hi1⟩ := at_T81 (HCC.out wr R rfl (Kd.zbq_ HP.out.oR).2.1 (Kd.zbq_ HP.out.oR).2.2) (i : Int) p0 q0
    cases eA
    have eg : rd_T81 (R.drop fn) (i : Int) = (R.drop fn)[i] := by unfold rd_T81; simp [hlt]
    simp only [Int.toNat_natCast, eg] at a1 a5 hl1 hi1
    have h := H.out
    rw [List.drop_eq_getElem_cons hly] at h
    clear H eg
    generalize (R.drop fn)[i] = rw_ at a1 a5 hl1 hi1 h
    unfold zao_.lp at h
    by_cases cl : 0 < rw_.f1.length
    rotate_left
    · rw [if_neg cl] at h; cases h
    rw [if_pos cl] at h
    obtain ⟨ad1, e1_, hs0⟩ := Kd.zbj_ hi1 0 (by omega) (by omega)
    cases e1_
    rw [show ((0 : Int)).toNat = 0 from rfl, Addr.add_zero'] at hs0
    have qi : (0 < rw_.f1.length) = True := eq_true cl
    have qj : ((0 : Int) < (rw_.f1.length : Int)) = True := eq_true (by omega)
    have hq0 : ((i : Int) < ((R.length - fn : Nat) : Int)) = True := eq_true q0
    go_upto_region 11 with (fail)
    have hba : Below wr.heap.size wr (wr.alloc (.cells #[.int .i64 rw_.f0, .slice (some ad1) rw_.f1.length b1] 81 (0, 0))) := zah_ (Below.refl _ _) _
    have bt := blk_new wr (.cells #[.int .i64 rw_.f0, .slice (some ad1) rw_.f1.length b1] 81 (0, 0))
    have hp_ := HP.out.below hba
    have hi_ := Kd.zaB_ hi1 hba
    replace hs0 := (hba.cell (World.block_lt_of_cell? wr _ hs0)).trans hs0
    clear HP hi1 a1 a5 hba
    generalize wr.alloc (.cells #[.int .i64 rw_.f0, .slice (some ad1) rw_.f1.length b1] 81 (0, 0)) = w6 at bt hp_ hi_ hs0 ⊢
    generalize wr.heap.size = gt at bt ⊢
    have BT := Aside0.mk bt
    have HP := Aside0.mk hp_
    have HI1 := Aside0.mk hi_
    have HL1 := Aside0.mk hl1
    clear bt hp_ hi_ hl1
    have ht_0 : w6.cell? ⟨gt, 0, none⟩ = some (.int .i64 rw_.f0) := (zab_ BT.out 0).trans rfl
    have ht_1 : w6.cell? ⟨gt, 1, none⟩ = some (.slice (some ad1) rw_.f1.length b1) := (zab_ BT.out 1).trans rfl
    have htf_0 := zaa_ BT.out 0
    have htf_1 := zaa_ BT.out 1
    by_cases cw : (rdOf ByteArray.empty rw_.f1 0).toList = ([116, 97, 115, 107] : List UInt8)
    rotate_left
    · rw [if_neg cw] at h
      have cwb0 : ((rdOf ByteArray.empty rw_.f1 0).toList == ([116, 97, 115, 107] : List UInt8)) = false := beq_eq_false_iff_ne.2 cw
      have cwb1 : ((rdOf ByteArray.empty rw_.f1 0).toList != ([116, 97, 115, 107] : List UInt8)) = true := bne_iff_ne.2 cw
      obtain rfl := Option.some.inj h
      clear h
      go_upto_region 12 with (fail)
      have hp_ := HP.out.below (zag_ (Below.refl _ _))
      clear HP
      have HP := Aside0.mk hp_
      have bt_ := zaf_ BT.out
      clear BT
      have BT := Aside0.mk bt_
      clear bt_ hp_ ht_0 ht_1 htf_0 htf_1 hs0
      refine start_ (n := 6) (S := fun w' => w'.cell? ⟨gt, 0, none⟩ = some (.int .i64 rw_.f0)) (ds := []) (bs 6 0) (by kernel_rfl) rfl rfl ((zab_ BT.out 0).trans rfl) (fun hHeld => ?_)
      refine zbv_ zao_.tab12 zao_.bits12 (fun HT_ HW_ => ?_)
      generalize w6.drew = w7 at HP BT hHeld ⊢
      refine pure_ (i := 0) (N := some 51) (v := ?_) (a' := ?_) (bs 6 1) rfl rfl (any_of HT_.out (by kernel_rfl)) (fun _ _ _ h => h) (Or.inl ⟨by rfl, ?_⟩) ?_ ?_
      rotate_left
      · intro w'
        go_simp
        with_reducible rfl
      rotate_left
      · simp only [Act.put, List.setIfInBounds_toArray, List.set_cons_zero, List.set_cons_succ, i64_w, i32_w]
        rfl
      refine pure_ (i := 1) (N := some 52) (v := ?_) (a' := ?_) (bs 6 3) rfl rfl (any_of HT_.out (by kernel_rfl)) (fun _ _ _ h => h) (Or.inl ⟨by rfl, ?_⟩) ?_ ?_
      rotate_left
      · intro w'
        go_simp
        with_reducible rfl
      rotate_left
      · simp only [Act.put, List.setIfInBounds_toArray, List.set_cons_zero, List.set_cons_succ, i64_w, i32_w]
        rfl
      refine take_ (i := 2) (N := some 53) (v := ?_) (a' := ?_) (bs 6 7) rfl rfl (zaT_ HT_.out HW_.out (by kernel_rfl)) (fun _ _ _ h => h) (Or.inl ⟨by rfl, ?_⟩) hHeld ?_ ?_
      rotate_left
      · intro w' s0
        go_simp
        with_reducible rfl
      rotate_left
      · simp only [Act.put, List.setIfInBounds_toArray, List.set_cons_zero, List.set_cons_succ, i64_w, i32_w]
        rfl
      refine one_ (i := 3) (N := none) (bs 6 15) rfl rfl (one_of HT_.out (by kernel_rfl)) (by decide) (fun K hK => ?_)
      have hs_0 : w7.cell? ⟨gr, 0, none⟩ = some (.int .i64 0) := (zab_ HP.out.br 0).trans rfl
      have hs_1 : w7.cell? ⟨gr, 1, none⟩ = some (.slice none 0 0) := (zab_ HP.out.br 1).trans rfl
      have hs_2 : w7.cell? ⟨gr, 2, none⟩ = some (.slice none 0 0) := (zab_ HP.out.br 2).trans rfl
      have hs_3 : w7.cell? ⟨gr, 3, none⟩ = some (.slice none 0 0) := (zab_ HP.out.br 3).trans rfl
      have hsf_0 := zaa_ HP.out.br 0
      have hsf_1 := zaa_ HP.out.br 1
      have hsf_2 := zaa_ HP.out.br 2
      have hsf_3 := zaa_ HP.out.br 3
      refine skip_ (w1 := ?_) (by rfl) rfl ?_ ?_
      rotate_left
      · go_simp
        rfl
      refine hK.out _ _ (cell_set4 ((zab_ BT.out 0).trans rfl) (blk_ne BT.out HP.out.br (by decide))) (fun hHeld => ?_)
      clear hK K
      refine pure_ (i := 4) (N := some 3) (v := ?_) (a' := ?_) (bs 6 31) rfl rfl (any_of HT_.out (by kernel_rfl)) (fun _ _ _ h => h) (Or.inl ⟨by rfl, ?_⟩) ?_ ?_
      rotate_left
      · intro w'
        go_simp
        with_reducible rfl
      rotate_left
      · simp only [Act.put, List.setIfInBounds_toArray, List.set_cons_zero, List.set_cons_succ, i64_w, i32_w]
        rfl
      refine pure_ (i := 5) (N := some 4) (v := ?_) (a' := ?_) (bs 6 63) rfl rfl (any_of HT_.out (by kernel_rfl)) (fun _ _ _ h => h) (Or.inl ⟨by rfl, ?_⟩) ?_ ?_
      rotate_left
      · intro w'
        go_simp
        with_reducible rfl
      rotate_left
      · simp only [Act.put, List.setIfInBounds_toArray, List.set_cons_zero, List.set_cons_succ, i64_w, i32_w]
        rfl
      refine done_ (done_of HT_.out (by kernel_rfl)) ?_
      try go_wp2
      refine bodyPost_ret (zbo_ rfl _ _ gr 37 #[.int .i64 0, .slice none 0 0, .slice none 0 0, .slice none 0 0] (0, 0) _ rfl (set4_blk HP.out.br) Tryd.underlying37 rfl (by kernel_rfl)) rfl ?_
      exact ⟨_, _, _, rfl, Kd.R_nil _ _ _ _ _, Kd.R_nil _ _ _ _ _, Kd.S_nil _ _ _ _ _, below4 HP.out.be HP.out.gr_ge⟩
    rw [if_pos cw] at h
    have cwb0 : ((rdOf ByteArray.empty rw_.f1 0).toList == ([116, 97, 115, 107] : List UInt8)) = true := beq_iff_eq.2 cw
    have cwb1 : ((rdOf ByteArray.empty rw_.f1 0).toList != ([116, 97, 115, 107] : List UInt8)) = false := bne_eq_false_iff_eq.2 cw
    obtain ⟨⟨t1, t2, t3, t4, t5, t6, t7⟩, htk, h⟩ := Option.bind_eq_some_iff.1 h
    dsimp only at h
    have HTK := Aside0.mk htk
    clear htk cw
    go_upto_region 14 with (first | (go_at_call 42; (with_reducible refine (zay_.calls k (some ad1) b1 rw_.f1 t1 t2 t3 t4 t5 t6 t7 _ HI1.out HL1.out (Glob.below HG.out HP.out.be) HTK.out).mono ?_); rintro e_ w8 ⟨v5, rfl, ho, hb⟩; obtain ⟨A5, c5, e5⟩ := Kd.zbf_ ho; subst e5; have O5 := Aside0.mk (Kd.zbp_ ho HP.out.be.size); have HP8 := Aside0.mk (HP.out.elder (Kd.R_base ho) hb); have BT8 := Aside0.mk (zan_ BT.out hb); clear ho hb))
    have bx := blk_new w8 (.cells #[.string t1, .int .i64 t2, .int .i64 t3, .int .i64 t4, .int .i64 t5, .slice A5 t6.length c5] 53 (0, 0))
    have hp_ := HP8.out.below (zah_ (Below.refl _ _) (.cells #[.string t1, .int .i64 t2, .int .i64 t3, .int .i64 t4, .int .i64 t5, .slice A5 t6.length c5] 53 (0, 0)))
    have bt_ := zad_ BT8.out (.cells #[.string t1, .int .i64 t2, .int .i64 t3, .int .i64 t4, .int .i64 t5, .slice A5 t6.length c5] 53 (0, 0))
    have o5_ := Kd.zav_ O5.out (.cells #[.string t1, .int .i64 t2, .int .i64 t3, .int .i64 t4, .int .i64 t5, .slice A5 t6.length c5] 53 (0, 0))
    clear HP HP8 BT BT8 O5 ht_0 ht_1 htf_0 htf_1 hs0 HI1 HL1
    generalize w8.alloc (.cells #[.string t1, .int .i64 t2, .int .i64 t3, .int .i64 t4, .int .i64 t5, .slice A5 t6.length c5] 53 (0, 0)) = w9 at bx hp_ bt_ o5_ ⊢
    generalize w8.heap.size = gx at bx ⊢
    have BX := Aside0.mk bx
    have HP := Aside0.mk hp_
    have BT := Aside0.mk bt_
    have O5 := Aside0.mk o5_
    clear bx hp_ bt_ o5_
    by_cases ct : t7 = 0
    rotate_left
    · rw [if_neg ct] at h
      have ctb0 : (t7 == 0) = false := beq_eq_false_iff_ne.2 ct
      have ctb1 : (t7 != 0) = true := bne_iff_ne.2 ct
      obtain rfl := Option.some.inj h
      clear h
      go_upto_region 15 with (fail)
      have hp_ := HP.out.below (zag_ (Below.refl _ _))
      clear HP
      have HP := Aside0.mk hp_
      have bt_ := zaf_ BT.out
      clear BT
      have BT := Aside0.mk bt_
      clear bt_ hp_ O5 BX
      refine start_ (n := 7) (S := fun w' => w'.cell? ⟨gt, 0, none⟩ = some (.int .i64 rw_.f0)) (ds := []) (bs 7 0) (by kernel_rfl) rfl rfl ((zab_ BT.out 0).trans rfl) (fun hHeld => ?_)
      refine zbv_ zao_.tab15 zao_.bits15 (fun HT_ HW_ => ?_)
      generalize w9.drew = a8 at HP BT hHeld ⊢
      refine pure_ (i := 0) (N := some 62) (v := ?_) (a' := ?_) (bs 7 1) rfl rfl (any_of HT_.out (by kernel_rfl)) (fun _ _ _ h => h) (Or.inl ⟨by rfl, ?_⟩) ?_ ?_
      rotate_left
      · intro w'
        go_simp
        with_reducible rfl
      rotate_left
      · simp only [Act.put, List.setIfInBounds_toArray, List.set_cons_zero, List.set_cons_succ, i64_w, i32_w]
        rfl
      refine pure_ (i := 1) (N := some 63) (v := ?_) (a' := ?_) (bs 7 3) rfl rfl (any_of HT_.out (by kernel_rfl)) (fun _ _ _ h => h) (Or.inl ⟨by rfl, ?_⟩) ?_ ?_
      rotate_left
      · intro w'
        go_simp
        with_reducible rfl
      rotate_left
      · simp only [Act.put, List.setIfInBounds_toArray, List.set_cons_zero, List.set_cons_succ, i64_w, i32_w]
        rfl
      refine pure_ (i := 3) (N := some 65) (v := ?_) (a' := ?_) (bs 7 11) rfl rfl (any_of HT_.out (by kernel_rfl)) (fun _ _ _ h => h) (Or.inl ⟨by rfl, ?_⟩) ?_ ?_
      rotate_left
      · intro w'
        go_simp
        with_reducible rfl
      rotate_left
      · simp only [Act.put, List.setIfInBounds_toArray, List.set_cons_zero, List.set_cons_succ, i64_w, i32_w]
        rfl
      refine take_ (i := 2) (N := some 64) (v := ?_) (a' := ?_) (bs 7 15) rfl rfl (zaT_ HT_.out HW_.out (by kernel_rfl)) (fun _ _ _ h => h) (Or.inl ⟨by rfl, ?_⟩) hHeld ?_ ?_
      rotate_left
      · intro w' s0
        go_simp
        with_reducible rfl
      rotate_left
      · simp only [Act.put, List.setIfInBounds_toArray, List.set_cons_zero, List.set_cons_succ, i64_w, i32_w]
        rfl
      refine one_ (i := 4) (N := none) (bs 7 31) rfl rfl (one_of HT_.out (by kernel_rfl)) (by decide) (fun K hK => ?_)
      have hs_0 : a8.cell? ⟨gr, 0, none⟩ = some (.int .i64 0) := (zab_ HP.out.br 0).trans rfl
      have hs_1 : a8.cell? ⟨gr, 1, none⟩ = some (.slice none 0 0) := (zab_ HP.out.br 1).trans rfl
      have hs_2 : a8.cell? ⟨gr, 2, none⟩ = some (.slice none 0 0) := (zab_ HP.out.br 2).trans rfl
      have hs_3 : a8.cell? ⟨gr, 3, none⟩ = some (.slice none 0 0) := (zab_ HP.out.br 3).trans rfl
      have hsf_0 := zaa_ HP.out.br 0
      have hsf_1 := zaa_ HP.out.br 1
      have hsf_2 := zaa_ HP.out.br 2
      have hsf_3 := zaa_ HP.out.br 3
      refine skip_ (w1 := ?_) (by rfl) rfl ?_ ?_
      rotate_left
      · go_simp
        rfl
      refine hK.out _ _ (cell_set4 ((zab_ BT.out 0).trans rfl) (blk_ne BT.out HP.out.br (by decide))) (fun hHeld => ?_)
      clear hK K
      refine pure_ (i := 5) (N := some 3) (v := ?_) (a' := ?_) (bs 7 63) rfl rfl (any_of HT_.out (by kernel_rfl)) (fun _ _ _ h => h) (Or.inl ⟨by rfl, ?_⟩) ?_ ?_
      rotate_left
      · intro w'
        go_simp
        with_reducible rfl
      rotate_left
      · simp only [Act.put, List.setIfInBounds_toArray, List.set_cons_zero, List.set_cons_succ, i64_w, i32_w]
        rfl
      refine pure_ (i := 6) (N := some 4) (v := ?_) (a' := ?_) (bs 7 127) rfl rfl (any_of HT_.out (by kernel_rfl)) (fun _ _ _ h => h) (Or.inl ⟨by rfl, ?_⟩) ?_ ?_
      rotate_left
      · intro w'
        go_simp
        with_reducible rfl
      rotate_left
      · simp only [Act.put, List.setIfInBounds_toArray, List.set_cons_zero, List.set_cons_succ, i64_w, i32_w]
        rfl
      refine done_ (done_of HT_.out (by kernel_rfl)) ?_
      try go_wp2
      refine bodyPost_ret (zbo_ rfl _ _ gr 37 #[.int .i64 0, .slice none 0 0, .slice none 0 0, .slice none 0 0] (0, 0) _ rfl (set4_blk HP.out.br) Tryd.underlying37 rfl (by kernel_rfl)) rfl ?_
      exact ⟨_, _, _, rfl, Kd.R_nil _ _ _ _ _, Kd.R_nil _ _ _ _ _, Kd.S_nil _ _ _ _ _, below4 HP.out.be HP.out.gr_ge⟩
    rw [if_pos ct] at h
    subst ct
    by_cases cs : ts.length < 1000000
    rotate_left
    · rw [if_neg cs] at h; cases h
    rw [if_pos cs] at h
    have HTS := Aside0.mk cs
    have H := Aside0.mk h
    clear h cs BT
    have hg_0 : w9.cell? ⟨go, 0, none⟩ = some (.int .i64 q) := (zab_ HP.out.bo 0).trans rfl
    have hg_1 : w9.cell? ⟨go, 1, none⟩ = some (.slice A1 c.length c1) := (zab_ HP.out.bo 1).trans rfl
    have hg_2 : w9.cell? ⟨go, 2, none⟩ = some (.slice A2 h_.length c2) := (zab_ HP.out.bo 2).trans rfl
    have hg_3 : w9.cell? ⟨go, 3, none⟩ = some (.slice A3 ts.length c3) := (zab_ HP.out.bo 3).trans rfl
    have hgf_0 := zaa_ HP.out.bo 0
    have hgf_1 := zaa_ HP.out.bo 1
    have hgf_2 := zaa_ HP.out.bo 2
    have hgf_3 := zaa_ HP.out.bo 3
    have hx_0 : w9.cell? ⟨gx, 0, none⟩ = some (.string t1) := (zab_ BX.out 0).trans rfl
    have hx_1 : w9.cell? ⟨gx, 1, none⟩ = some (.int .i64 t2) := (zab_ BX.out 1).trans rfl
    have hx_2 : w9.cell? ⟨gx, 2, none⟩ = some (.int .i64 t3) := (zab_ BX.out 2).trans rfl
    have hx_3 : w9.cell? ⟨gx, 3, none⟩ = some (.int .i64 t4) := (zab_ BX.out 3).trans rfl
    have hx_4 : w9.cell? ⟨gx, 4, none⟩ = some (.int .i64 t5) := (zab_ BX.out 4).trans rfl
    have hx_5 : w9.cell? ⟨gx, 5, none⟩ = some (.slice A5 t6.length c5) := (zab_ BX.out 5).trans rfl
    have hxf_0 := zaa_ BX.out 0
    have hxf_1 := zaa_ BX.out 1
    have hxf_2 := zaa_ BX.out 2
    have hxf_3 := zaa_ BX.out 3
    have hxf_4 := zaa_ BX.out 4
    have hxf_5 := zaa_ BX.out 5
    go_wp2_with (first | ((with_reducible refine zbD_ (b := .append) (xs := #[.tmp 67, .tmp 69]) rfl ?_); at_builtin; refine Kd.S_append k53 (w0 := w) w.heap.size rfl (.tmp 67) (.tmp 69) 35 53 (.agg #[(.string ⟨#[]⟩), (.int .i64 0), (.int .i64 0), (.int .i64 0), (.int .i64 0), (.slice none 0 0)]) 72 rfl Tryd.underlying35 info53 rfl (by decide) (by omega) (.slice A3 ts.length c3) ts (⟨t1, t2, t3, t4, t5, t6⟩ : S53) [.string t1, .int .i64 t2, .int .i64 t3, .int .i64 t4, .int .i64 t5, .slice A5 t6.length c5] (fun _ => True) (fun k_ => some k_ = (.slice A5 t6.length c5 : Value).ownBlock) rfl rfl ?aP (fun k_ hk_ => ⟨trivial, ((Kd.R_apart' O5.out (Kd.S_typed HP.out.o3) (by decide)).1 k_ hk_.symm).2⟩) (fun _ _ => trivial) ?aO ?aB ?aS ?aL ?_; (case aP => exact k53_mkM _ _ _ (⟨t1, t2, t3, t4, t5, t6⟩ : S53) (Kd.R_tight rfl O5.out)); (case aO => exact Kd.S_mono HP.out.o3 (fun k_ hk_ => ⟨trivial, fun e_ => hk_.2 e_⟩)); (case aB => exact HP.out.be); (case aS => exact HP.out.be.size); (case aL => have := HTS.out; omega); intro v_ b5 ho hb hg hat; obtain ⟨A9, c9, e9⟩ := Kd.S_slice ho; obtain ⟨n9, hn9⟩ : ∃ n, n = (ts ++ [(⟨t1, t2, t3, t4, t5, t6⟩ : S53)]).length := ⟨_, rfl⟩; rw [← hn9] at e9; clear hn9; subst e9; have hgr_ := HP.out.grow hg ho hb; have B2 := Aside0.mk hgr_.1; have HPn := Aside0.mk hgr_.2; clear hgr_ ho hb hg hat; have hq_3 : b5.cell? ⟨go, 3, none⟩ = some (.slice A3 ts.length c3) := (zab_ B2.out 3).trans rfl; have hqf_3 := zaa_ B2.out 3))
    go_roundg (gko - 1)
    case measure => have := HI.out; omega
    case rel => exact ⟨i + 1, _, _, congrArg (Value.int .i64) (show wrap64 ((i : Int) + 1) = ((i + 1 : Nat) : Int) by have := HRL.out; unfold wrap64; omega), ⟨by have := HI.out; omega⟩, H, HPn⟩
end Go.Proofs.YtgkjoodlcojkkaaDoor.QD
end
section
set_option linter.unusedVariables false
namespace Go.Proofs
open Go.Shelf
def Tryd.b166_ren : Go.Shelf.Ren := ⟨fun | 166 => 34 | 169 => 38 | 240 => 55 | 276 => 76 | n => n, fun | 0 => 0 | 3 => 3 | 4 => 4 | 5 => 5 | 9 => 9 | 20 => 20 | 37 => 55 | 70 => 69 | 72 => 71 | 75 => 58 | 80 => 74 | 127 => 92 | 164 => 113 | n => n, fun | n => n⟩
theorem Tryd.b166 : Go.Proofs.Lays.n166 Tryd.prog Tryd.b166_ren := {
  mixed := by kernel_rfl
  f166 := Tryd.func34.trans (congrArg some (by kernel_rfl))
  f240 := Tryd.func55.trans (congrArg some (by kernel_rfl))
  f276 := Tryd.func76.trans (congrArg some (by kernel_rfl))
  t0 := Tryd.underlying0
  a0 := Tryd.isAgg0
  z0 := Tryd.sizeOf0
  v0 := Tryd.zeroValue0
  t3 := Tryd.underlying3
  a3 := Tryd.isAgg3
  z3 := Tryd.sizeOf3
  v3 := Tryd.zeroValue3
  t4 := Tryd.underlying4
  a4 := Tryd.isAgg4
  z4 := Tryd.sizeOf4
  v4 := Tryd.zeroValue4
  t9 := Tryd.underlying9
  a9 := Tryd.isAgg9
  z9 := Tryd.sizeOf9
  v9 := Tryd.zeroValue9
  t20 := Tryd.underlying20
  a20 := Tryd.isAgg20
  z20 := Tryd.sizeOf20
  v20 := Tryd.zeroValue20
  t37 := Tryd.underlying55
  a37 := Tryd.isAgg55
  z37 := Tryd.sizeOf55
  v37 := Tryd.zeroValue55
  t70 := Tryd.underlying69
  a70 := Tryd.isAgg69
  z70 := Tryd.sizeOf69
  v70 := Tryd.zeroValue69
  t72 := Tryd.underlying71
  a72 := Tryd.isAgg71
  z72 := Tryd.sizeOf71
  v72 := Tryd.zeroValue71
  t75 := Tryd.underlying58
  a75 := Tryd.isAgg58
  z75 := Tryd.sizeOf58
  v75 := Tryd.zeroValue58
  t164 := Tryd.underlying113
  a164 := Tryd.isAgg113
  z164 := Tryd.sizeOf113
  v164 := Tryd.zeroValue113 }
theorem Tryd.Builder_Extra_b166 : Builder.Extra Tryd.prog Tryd.b166_ren := {
  sizeBuilder := by kernel_rfl
  liesBuilder := by kernel_rfl
  t5 := Tryd.underlying5
  a5 := Tryd.isAgg5
  z5 := Tryd.sizeOf5
  v5 := Tryd.zeroValue5
  infoByte := by kernel_rfl
  cellsByte := by kernel_rfl
  sizeByte := by kernel_rfl
  neB5 := by decide }
def Tryd.b169_ren : Go.Shelf.Ren := ⟨fun | 166 => 34 | 169 => 38 | 240 => 55 | 276 => 76 | n => n, fun | 0 => 0 | 3 => 3 | 4 => 4 | 5 => 5 | 9 => 9 | 20 => 20 | 37 => 55 | 70 => 69 | 72 => 71 | 75 => 58 | 80 => 74 | 127 => 92 | 164 => 113 | n => n, fun | n => n⟩
theorem Tryd.b169 : Go.Proofs.Lays.n169 Tryd.prog Tryd.b169_ren := {
  mixed := by kernel_rfl
  f169 := Tryd.func38.trans (congrArg some (by kernel_rfl))
  t0 := Tryd.underlying0
  a0 := Tryd.isAgg0
  z0 := Tryd.sizeOf0
  v0 := Tryd.zeroValue0
  t3 := Tryd.underlying3
  a3 := Tryd.isAgg3
  z3 := Tryd.sizeOf3
  v3 := Tryd.zeroValue3
  t9 := Tryd.underlying9
  a9 := Tryd.isAgg9
  z9 := Tryd.sizeOf9
  v9 := Tryd.zeroValue9
  t37 := Tryd.underlying55
  a37 := Tryd.isAgg55
  z37 := Tryd.sizeOf55
  v37 := Tryd.zeroValue55
  t70 := Tryd.underlying69
  a70 := Tryd.isAgg69
  z70 := Tryd.sizeOf69
  v70 := Tryd.zeroValue69
  t72 := Tryd.underlying71
  a72 := Tryd.isAgg71
  z72 := Tryd.sizeOf71
  v72 := Tryd.zeroValue71
  t127 := Tryd.underlying92
  a127 := Tryd.isAgg92
  z127 := Tryd.sizeOf92
  v127 := Tryd.zeroValue92 }
theorem Tryd.Builder_Extra_b169 : Builder.Extra Tryd.prog Tryd.b169_ren := {
  sizeBuilder := by kernel_rfl
  liesBuilder := by kernel_rfl
  t5 := Tryd.underlying5
  a5 := Tryd.isAgg5
  z5 := Tryd.sizeOf5
  v5 := Tryd.zeroValue5
  infoByte := by kernel_rfl
  cellsByte := by kernel_rfl
  sizeByte := by kernel_rfl
  neB5 := by decide }
open Go.RowKit in
theorem Tryd.bWriteString (B b : Nat) (bs : List Value) (s : ByteArray) (w : World) (h : Lib.IsBuilderF 71 5 B b bs w) (hlen : bs.length + s.size ≤ 140737488355328) (hBw : B ≤ w.heap.size) :
    Calls Tryd.prog 34 #[.pointer (some ⟨b, 0, none⟩), .string s] w fun e w' => e = .returned (.tuple #[.int .i64 s.size, .nilIface]) ∧ (Lib.BuilderAtF 71 5 B b (.pointer (some ⟨b, 0, none⟩)) (bs ++ Lib.strCells s) w' ∧ Below B w w' ∧ Lib.OthersKept 5 (some b) w w') := Any.Builder_WriteString_k Tryd.b166 Tryd.Builder_Extra_b166 B b bs s w h hlen hBw
open Go.RowKit in
theorem Tryd.bString (B b : Nat) (l : List UInt8) (w : World) (h : Lib.IsBuilderF 71 5 B b (Lib.byteCells l) w) (hBw : B ≤ w.heap.size) :
    Calls Tryd.prog 38 #[.pointer (some ⟨b, 0, none⟩)] w fun e w' => e = .returned (.string ⟨l.toArray⟩) ∧ (Lib.IsBuilderF 71 5 B b (Lib.byteCells l) w' ∧ Below B w w' ∧ Lib.OthersKept 5 (some b) w w') := Any.Builder_String_any_k Tryd.b169 Tryd.Builder_Extra_b169 B b l w h hBw
end Go.Proofs
end
section
namespace Go.Proofs.YtgkjoodlcojkkaaDoor.QD
open Go.RowKit Go.Proofs.YtgkjoodlcojkkaaDoorW.PrintWords Go.Proofs.YtgkjoodlcojkkaaDoorW.PrintLast Go.Proofs.YtgkjoodlcojkkaaDoorW.PrintMore
attribute [local go_sem] zbd_ zbe_ zbm_ zbl_ zaW_ zaX_ zbc_ zbb_
set_option linter.unusedVariables false
set_option linter.unusedSimpArgs false
def zbx_.f (a3 : Int) (a4 : Int) (a6 : Int) : Option (ByteArray) := if a3 = 1 then ((zbn_.f a4).bind fun a7 => (if 4 + a7.size ≤ 9223372036854775807 then (some ((⟨#[114, 117, 110, 58]⟩ : ByteArray) ++ a7)) else (none))) else (if a3 = 2 then ((zbn_.f a4).bind fun a8 => (if 6 + a8.size ≤ 9223372036854775807 then (some ((⟨#[115, 108, 101, 101, 112, 58]⟩ : ByteArray) ++ a8)) else (none))) else ((zbn_.f a6).bind fun a2 => (if 5 + a2.size ≤ 9223372036854775807 then (if ((⟨#[108, 111, 99, 107, 58]⟩ : ByteArray) ++ a2).size + 1 ≤ 9223372036854775807 then ((zbn_.f a4).bind fun a5 => (if (((⟨#[108, 111, 99, 107, 58]⟩ : ByteArray) ++ a2) ++ (⟨#[58]⟩ : ByteArray)).size + a5.size ≤ 9223372036854775807 then (some ((((⟨#[108, 111, 99, 107, 58]⟩ : ByteArray) ++ a2) ++ (⟨#[58]⟩ : ByteArray)) ++ a5)) else (none))) else (none)) else (none))))
def zbx_.T6 : Bool × List (List Nat × List Nat) := (true, [([], []), ([0], [0]), ([1], [1]), ([2], [2]), ([3], [3]), ([], []), ([5], [5]), ([6, 2], [6]), ([4, 7], [4, 7]), ([8, 7, 0, 1, 2, 3, 4, 5, 6, 7, 8], [8])])
def zbx_.B6 : List Nat := [0, 1, 3, 7, 15, 0, 32, 103, 255, 511]
theorem zbx_.tab6 : rtab .any (opsOf Tryd.f37 6) = zbx_.T6 := by kernel_rfl
theorem zbx_.bits6 : waitsOk zbx_.T6.2 zbx_.B6 = true := by kernel_rfl
set_option maxHeartbeats 8000000 in
set_option maxRecDepth 100000 in
theorem zbx_.calls (a3 : Int) (a4 : Int) (a6 : Int) (r : ByteArray) (w : World) (hG : Glob w) (h : zbx_.f a3 a4 a6 = some r) :
    Calls Tryd.prog 37 #[.agg #[.int .i64 a3, .int .i64 a4, .int .i64 a6]] w fun e w' => e = .returned (.string r) ∧ Below w.heap.size w w' := by
  have hu50 := Tryd.underlying50
  have HG := Aside0.mk hG
  clear hG
  have HB := Aside0.mk (Below.refl w.heap.size w)
  have H : (if a3 = 1 then ((zbn_.f a4).bind fun a7 => (if 4 + a7.size ≤ 9223372036854775807 then (some ((⟨#[114, 117, 110, 58]⟩ : ByteArray) ++ a7)) else (none))) else (if a3 = 2 then ((zbn_.f a4).bind fun a8 => (if 6 + a8.size ≤ 9223372036854775807 then (some ((⟨#[115, 108, 101, 101, 112, 58]⟩ : ByteArray) ++ a8)) else (none))) else ((zbn_.f a6).bind fun a2 => (if 5 + a2.size ≤ 9223372036854775807 then (if ((⟨#[108, 111, 99, 107, 58]⟩ : ByteArray) ++ a2).size + 1 ≤ 9223372036854775807 then ((zbn_.f a4).bind fun a5 => (if (((⟨#[108, 111, 99, 107, 58]⟩ : ByteArray) ++ a2) ++ (⟨#[58]⟩ : ByteArray)).size + a5.size ≤ 9223372036854775807 then (some ((((⟨#[108, 111, 99, 107, 58]⟩ : ByteArray) ++ a2) ++ (⟨#[58]⟩ : ByteArray)) ++ a5)) else (none))) else (none)) else (none))))) = some r := h
  clear h
  by_cases c2 : a3 = 1
  · rw [if_pos c2] at H
    have e1 : (a3 == 1) = true := beq_iff_eq.mpr c2
    have e2 : (a3 != 1) = false := bne_eq_false_iff_eq.mpr c2
    clear c2
    replace H := Option.bind_eq_some_iff.mp H
    obtain ⟨a7, g2, H⟩ := H
    replace H : (if 4 + a7.size ≤ 9223372036854775807 then (some ((⟨#[114, 117, 110, 58]⟩ : ByteArray) ++ a7)) else (none)) = some r := H
    have A3 := Aside0.mk g2
    clear g2
    by_cases c4 : 4 + a7.size ≤ 9223372036854775807
    rotate_left
    · rw [if_neg c4] at H
      exact absurd H (by simp)
    rw [if_pos c4] at H
    have h4 := eq_true c4
    have h5 : decide (4 + a7.size ≤ 9223372036854775807) = true := decide_eq_true c4
    try have h6 : (9223372036854775807 < 4 + a7.size) = False := eq_false (Nat.not_lt.2 c4)
    obtain rfl := Option.some.inj H
    go_enter Tryd.func37, Tryd.ntmps37
    go_wp2_with (first | ((with_reducible refine zaL_ (N := 1) rfl ?_); refine zaD_ ?hg (N := 1) ?hd (cs := #[.int .i64 a3, .int .i64 a4, .int .i64 a6]) (t := 50) ?hr ?_; (case hd => rfl); (case hg => rfl); (case hr => first | (go_simp; done) | (go_simp; rfl)); intro a1 hg w5 hbox hb; have a9 := Aside0.mk (zaj_ (HB.out) hb); have b0 := Aside0.mk (hbox); have b2 := Aside0.mk ((by rw [hg]; exact (zam_ (HB.out)) : w.heap.size ≤ a1)); have b3 := Aside0.mk ((by rw [hg]; exact (zam_ (HB.out)) : w.heap.size ≤ a1)); clear HB; have HB := a9; have a0 := b0; have b4 := b2; have b5 := b3; clear a9 b0 b2 b3; clear hb hbox hg; have e3 : w5.cell? ⟨a1, 0, none⟩ = some (.int .i64 a3) := (zab_ a0.out 0).trans rfl; have e4 : w5.cell? ⟨a1, 1, none⟩ = some (.int .i64 a4) := (zab_ a0.out 1).trans rfl; have e5 : w5.cell? ⟨a1, 2, none⟩ = some (.int .i64 a6) := (zab_ a0.out 2).trans rfl; have e6 := zaa_ a0.out 0; have e7 := zaa_ a0.out 1; have e8 := zaa_ a0.out 2) | ((with_reducible refine zar_ (f := 19) rfl ?_); refine goesL_ (some 9) rfl rfl Tryd.func19 (by kernel_rfl) rfl #[.int .i64 a4] rfl (by (try simp only [List.map_toArray, List.map_cons, List.map_nil]); first | done | rfl | (simp only [List.length_drop, List.length_take]; rfl)) ?_; (with_reducible refine (zbn_.calls a4 a7 _ ?side1 A3.out).mono ?_); (case side1 => first | exact Glob.below HG.out (HB.out) | (repeat (first | exact Glob.below HG.out HB.out | (with_reducible refine Glob.alloc ?_ _) | (with_reducible refine Glob.drewN ?_ _) | (with_reducible refine Glob.drew ?_)))); rintro e w7 ⟨rfl, hb⟩; refine ⟨_, rfl, ?_⟩; have a9 := Aside0.mk (zan_ a0.out hb); have b0 := Aside0.mk (zaj_ (HB.out) hb); clear a0; clear HB; have a0 := a9; have HB := b0; clear a9 b0; (try clear hb); (try clear hb2); (try clear hk); (try clear hi)))
    go_ret
    exact ⟨by first | rfl | (simp [zal_, zak_] <;> rfl) | (simp [*, zal_, zak_] <;> rfl), HB.out⟩
  rw [if_neg c2] at H
  have e1 : (a3 == 1) = false := beq_eq_false_iff_ne.mpr c2
  have e2 : (a3 != 1) = true := bne_iff_ne.mpr c2
  by_cases c8 : a3 = 2
  · rw [if_pos c8] at H
    have e9 : (a3 == 2) = true := beq_iff_eq.mpr c8
    have g0 : (a3 != 2) = false := bne_eq_false_iff_eq.mpr c8
    clear c8
    replace H := Option.bind_eq_some_iff.mp H
    obtain ⟨a8, g3, H⟩ := H
    replace H : (if 6 + a8.size ≤ 9223372036854775807 then (some ((⟨#[115, 108, 101, 101, 112, 58]⟩ : ByteArray) ++ a8)) else (none)) = some r := H
    have A9 := Aside0.mk g3
    clear g3
    by_cases b7 : 6 + a8.size ≤ 9223372036854775807
    rotate_left
    · rw [if_neg b7] at H
      exact absurd H (by simp)
    rw [if_pos b7] at H
    have g4 := eq_true b7
    have g5 : decide (6 + a8.size ≤ 9223372036854775807) = true := decide_eq_true b7
    try have g6 : (9223372036854775807 < 6 + a8.size) = False := eq_false (Nat.not_lt.2 b7)
    obtain rfl := Option.some.inj H
    go_enter Tryd.func37, Tryd.ntmps37
    go_wp2_with (first | ((with_reducible refine zaL_ (N := 1) rfl ?_); refine zaD_ ?hg (N := 1) ?hd (cs := #[.int .i64 a3, .int .i64 a4, .int .i64 a6]) (t := 50) ?hr ?_; (case hd => rfl); (case hg => rfl); (case hr => first | (go_simp; done) | (go_simp; rfl)); intro a1 hg g1 hbox hb; have a9 := Aside0.mk (zaj_ (HB.out) hb); have b0 := Aside0.mk (hbox); have b2 := Aside0.mk ((by rw [hg]; exact (zam_ (HB.out)) : w.heap.size ≤ a1)); have b3 := Aside0.mk ((by rw [hg]; exact (zam_ (HB.out)) : w.heap.size ≤ a1)); clear HB; have HB := a9; have a0 := b0; have b4 := b2; have b5 := b3; clear a9 b0 b2 b3; clear hb hbox hg; have c7 : g1.cell? ⟨a1, 0, none⟩ = some (.int .i64 a3) := (zab_ a0.out 0).trans rfl; have c9 : g1.cell? ⟨a1, 1, none⟩ = some (.int .i64 a4) := (zab_ a0.out 1).trans rfl; have d0 : g1.cell? ⟨a1, 2, none⟩ = some (.int .i64 a6) := (zab_ a0.out 2).trans rfl; have d1 := zaa_ a0.out 0; have d2 := zaa_ a0.out 1; have d3 := zaa_ a0.out 2) | ((with_reducible refine zar_ (f := 19) rfl ?_); refine goesL_ (some 15) rfl rfl Tryd.func19 (by kernel_rfl) rfl #[.int .i64 a4] rfl (by (try simp only [List.map_toArray, List.map_cons, List.map_nil]); first | done | rfl | (simp only [List.length_drop, List.length_take]; rfl)) ?_; (with_reducible refine (zbn_.calls a4 a8 _ ?side1 A9.out).mono ?_); (case side1 => first | exact Glob.below HG.out (HB.out) | (repeat (first | exact Glob.below HG.out HB.out | (with_reducible refine Glob.alloc ?_ _) | (with_reducible refine Glob.drewN ?_ _) | (with_reducible refine Glob.drew ?_)))); rintro e h9 ⟨rfl, hb⟩; refine ⟨_, rfl, ?_⟩; have a9 := Aside0.mk (zan_ a0.out hb); have b0 := Aside0.mk (zaj_ (HB.out) hb); clear a0; clear HB; have a0 := a9; have HB := b0; clear a9 b0; (try clear hb); (try clear hb2); (try clear hk); (try clear hi)))
    go_ret
    exact ⟨by first | rfl | (simp [zal_, zak_] <;> rfl) | (simp [*, zal_, zak_] <;> rfl), HB.out⟩
  rw [if_neg c8] at H
  have e9 : (a3 == 2) = false := beq_eq_false_iff_ne.mpr c8
  have g0 : (a3 != 2) = true := bne_iff_ne.mpr c8
  replace H := Option.bind_eq_some_iff.mp H
  obtain ⟨a2, b8, H⟩ := H
  replace H : (if 5 + a2.size ≤ 9223372036854775807 then (if ((⟨#[108, 111, 99, 107, 58]⟩ : ByteArray) ++ a2).size + 1 ≤ 9223372036854775807 then ((zbn_.f a4).bind fun a5 => (if (((⟨#[108, 111, 99, 107, 58]⟩ : ByteArray) ++ a2) ++ (⟨#[58]⟩ : ByteArray)).size + a5.size ≤ 9223372036854775807 then (some ((((⟨#[108, 111, 99, 107, 58]⟩ : ByteArray) ++ a2) ++ (⟨#[58]⟩ : ByteArray)) ++ a5)) else (none))) else (none)) else (none)) = some r := H
  have h7 := Aside0.mk b8
  clear b8
  by_cases b9 : 5 + a2.size ≤ 9223372036854775807
  rotate_left
  · rw [if_neg b9] at H
    exact absurd H (by simp)
  rw [if_pos b9] at H
  have g7 := eq_true b9
  have g8 : decide (5 + a2.size ≤ 9223372036854775807) = true := decide_eq_true b9
  try have g9 : (9223372036854775807 < 5 + a2.size) = False := eq_false (Nat.not_lt.2 b9)
  by_cases c0 : ((⟨#[108, 111, 99, 107, 58]⟩ : ByteArray) ++ a2).size + 1 ≤ 9223372036854775807
  rotate_left
  · rw [if_neg c0] at H
    exact absurd H (by simp)
  rw [if_pos c0] at H
  have h0 := eq_true c0
  have h1 : decide (((⟨#[108, 111, 99, 107, 58]⟩ : ByteArray) ++ a2).size + 1 ≤ 9223372036854775807) = true := decide_eq_true c0
  try have c1 : (9223372036854775807 < ((⟨#[108, 111, 99, 107, 58]⟩ : ByteArray) ++ a2).size + 1) = False := eq_false (Nat.not_lt.2 c0)
  try (have b6 := c1; (repeat rw [ByteArray.size_append] at b6); (try rw [show (⟨#[108, 111, 99, 107, 58]⟩ : ByteArray).size = 5 from rfl] at b6))
  replace H := Option.bind_eq_some_iff.mp H
  obtain ⟨a5, c3, H⟩ := H
  replace H : (if (((⟨#[108, 111, 99, 107, 58]⟩ : ByteArray) ++ a2) ++ (⟨#[58]⟩ : ByteArray)).size + a5.size ≤ 9223372036854775807 then (some ((((⟨#[108, 111, 99, 107, 58]⟩ : ByteArray) ++ a2) ++ (⟨#[58]⟩ : ByteArray)) ++ a5)) else (none)) = some r := H
  have h8 := Aside0.mk c3
  clear c3
  by_cases c5 : (((⟨#[108, 111, 99, 107, 58]⟩ : ByteArray) ++ a2) ++ (⟨#[58]⟩ : ByteArray)).size + a5.size ≤ 9223372036854775807
  rotate_left
  · rw [if_neg c5] at H
    exact absurd H (by simp)
  rw [if_pos c5] at H
  have h2 := eq_true c5
  have h3 : decide ((((⟨#[108, 111, 99, 107, 58]⟩ : ByteArray) ++ a2) ++ (⟨#[58]⟩ : ByteArray)).size + a5.size ≤ 9223372036854775807) = true := decide_eq_true c5
  try have c6 : (9223372036854775807 < (((⟨#[108, 111, 99, 107, 58]⟩ : ByteArray) ++ a2) ++ (⟨#[58]⟩ : ByteArray)).size + a5.size) = False := eq_false (Nat.not_lt.2 c5)
  try (have b1 := c6; (repeat rw [ByteArray.size_append] at b1); (try rw [show (⟨#[108, 111, 99, 107, 58]⟩ : ByteArray).size = 5 from rfl] at b1); (try rw [show (⟨#[58]⟩ : ByteArray).size = 1 from rfl] at b1))
  obtain rfl := Option.some.inj H
  go_enter Tryd.func37, Tryd.ntmps37
  try go_wp2_with (first | ((with_reducible refine zaL_ (N := 1) rfl ?_); refine zaD_ ?hg (N := 1) ?hd (cs := #[.int .i64 a3, .int .i64 a4, .int .i64 a6]) (t := 50) ?hr ?_; (case hd => rfl); (case hg => rfl); (case hr => first | (go_simp; done) | (go_simp; rfl)); intro a1 hg d4 hbox hb; have a9 := Aside0.mk (zaj_ (HB.out) hb); have b0 := Aside0.mk (hbox); have b2 := Aside0.mk ((by rw [hg]; exact (zam_ (HB.out)) : w.heap.size ≤ a1)); have b3 := Aside0.mk ((by rw [hg]; exact (zam_ (HB.out)) : w.heap.size ≤ a1)); clear HB; have HB := a9; have a0 := b0; have b4 := b2; have b5 := b3; clear a9 b0 b2 b3; clear hb hbox hg; have d5 : d4.cell? ⟨a1, 0, none⟩ = some (.int .i64 a3) := (zab_ a0.out 0).trans rfl; have d6 : d4.cell? ⟨a1, 1, none⟩ = some (.int .i64 a4) := (zab_ a0.out 1).trans rfl; have d7 : d4.cell? ⟨a1, 2, none⟩ = some (.int .i64 a6) := (zab_ a0.out 2).trans rfl; have d8 := zaa_ a0.out 0; have d9 := zaa_ a0.out 1; have e0 := zaa_ a0.out 2))
  have a9 := Aside0.mk (zaf_ a0.out)
  have b0 := Aside0.mk (zag_ HB.out)
  clear a0
  clear HB
  have a0 := a9
  have HB := b0
  clear a9 b0
  refine start_ (n := 10) (S := fun w' => w'.cell? ⟨a1, 0, none⟩ = some (.int .i64 a3) ∧ w'.cell? ⟨a1, 1, none⟩ = some (.int .i64 a4) ∧ w'.cell? ⟨a1, 2, none⟩ = some (.int .i64 a6)) (ds := []) (bs 10 0) (by kernel_rfl) rfl rfl ⟨(zab_ a0.out 0).trans rfl, (zab_ a0.out 1).trans rfl, (zab_ a0.out 2).trans rfl⟩ (fun hHeld => ?_); refine zbv_ zbx_.tab6 zbx_.bits6 (fun HT_ HW_ => ?_)
  generalize d4.drew = j0 at a0 HB hHeld ⊢
  refine pure_ (i := 0) (N := some 17) (v := ?_) (a' := ?_) (bs 10 1) rfl rfl (any_of HT_.out (by kernel_rfl)) (fun _ _ _ h => h) (Or.inl ⟨by rfl, ?_⟩) ?_ ?_
  rotate_left
  · intro w'
    go_simp
    with_reducible rfl
  rotate_left
  · simp only [Act.put, List.setIfInBounds_toArray, List.set_cons_zero, List.set_cons_succ, i64_w, i32_w]
    rfl
  refine pure_ (i := 5) (N := some 22) (v := ?_) (a' := ?_) (bs 10 33) rfl rfl (any_of HT_.out (by kernel_rfl)) (fun _ _ _ h => h) (Or.inl ⟨by rfl, ?_⟩) ?_ ?_
  rotate_left
  · intro w'
    go_simp
    with_reducible rfl
  rotate_left
  · simp only [Act.put, List.setIfInBounds_toArray, List.set_cons_zero, List.set_cons_succ, i64_w, i32_w]
    rfl
  refine take_ (i := 1) (N := some 18) (v := ?_) (a' := ?_) (bs 10 35) rfl rfl (zaT_ HT_.out HW_.out (by kernel_rfl)) (fun _ _ _ h => h) (Or.inl ⟨by rfl, ?_⟩) hHeld ?_ ?_
  rotate_left
  · rintro w' ⟨s0, s1, s2⟩
    go_simp
    with_reducible rfl
  rotate_left
  · simp only [Act.put, List.setIfInBounds_toArray, List.set_cons_zero, List.set_cons_succ, i64_w, i32_w]
    rfl
  refine take_ (i := 6) (N := some 23) (v := ?_) (a' := ?_) (bs 10 99) rfl rfl (zaT_ HT_.out HW_.out (by kernel_rfl)) (fun _ _ _ h => h) (Or.inl ⟨by rfl, ?_⟩) hHeld ?_ ?_
  rotate_left
  · rintro w' ⟨s0, s1, s2⟩
    go_simp
    with_reducible rfl
  rotate_left
  · simp only [Act.put, List.setIfInBounds_toArray, List.set_cons_zero, List.set_cons_succ, i64_w, i32_w]
    rfl
  refine one_ (i := 2) (N := some 19) (bs 10 103) rfl rfl (one_of HT_.out (by kernel_rfl)) (by decide) (fun K hK => ?_)
  refine goes_ Tryd.func19 (by kernel_rfl) rfl #[.int .i64 a6] (by rfl) rfl rfl (by (try simp only [List.map_toArray, List.map_cons, List.map_nil]); first | done | rfl | (simp only [List.length_drop, List.length_take]; rfl)) ?_
  with_reducible refine (zbn_.calls a6 a2 _ ?side1 h7.out).mono ?_
  (case side1 => first | exact Glob.below HG.out (HB.out) | (repeat (first | exact Glob.below HG.out HB.out | (with_reducible refine Glob.alloc ?_ _) | (with_reducible refine Glob.drewN ?_ _) | (with_reducible refine Glob.drew ?_))))
  rintro e j1 ⟨rfl, hb⟩
  refine ⟨_, rfl, ?_⟩
  have a9 := Aside0.mk (zan_ a0.out hb)
  have b0 := Aside0.mk (zaj_ (HB.out) hb)
  clear a0
  clear HB
  have a0 := a9
  have HB := b0
  clear a9 b0
  refine hK.out _ _ ⟨(zab_ a0.out 0).trans rfl, (zab_ a0.out 1).trans rfl, (zab_ a0.out 2).trans rfl⟩ (fun hHeld => ?_)
  clear hK K
  refine norm_ (a' := ?_) ?_ ?_
  rotate_left
  · show Act.put _ (some 19) _ = _
    simp only [Act.put, List.setIfInBounds_toArray, List.set_cons_zero, List.set_cons_succ, i64_w, i32_w]
    rfl
  refine pure_ (i := 3) (N := some 20) (v := ?_) (a' := ?_) (bs 10 111) rfl rfl (any_of HT_.out (by kernel_rfl)) (fun _ _ _ h => h) (Or.inl ⟨by rfl, ?_⟩) ?_ ?_
  rotate_left
  · intro w'
    go_simp
    with_reducible rfl
  rotate_left
  · simp only [Act.put, List.setIfInBounds_toArray, List.set_cons_zero, List.set_cons_succ, i64_w, i32_w]
    rfl
  refine pure_ (i := 4) (N := some 21) (v := ?_) (a' := ?_) (bs 10 127) rfl rfl (any_of HT_.out (by kernel_rfl)) (fun _ _ _ h => h) (Or.inl ⟨by rfl, ?_⟩) ?_ ?_
  rotate_left
  · intro w'
    go_simp
    with_reducible rfl
  rotate_left
  · simp only [Act.put, List.setIfInBounds_toArray, List.set_cons_zero, List.set_cons_succ, i64_w, i32_w]
    rfl
  refine one_ (i := 7) (N := some 24) (bs 10 255) rfl rfl (one_of HT_.out (by kernel_rfl)) (by decide) (fun K hK => ?_)
  refine goes_ Tryd.func19 (by kernel_rfl) rfl #[.int .i64 a4] (by rfl) rfl rfl (by (try simp only [List.map_toArray, List.map_cons, List.map_nil]); first | done | rfl | (simp only [List.length_drop, List.length_take]; rfl)) ?_
  with_reducible refine (zbn_.calls a4 a5 _ ?side1 h8.out).mono ?_
  (case side1 => first | exact Glob.below HG.out (HB.out) | (repeat (first | exact Glob.below HG.out HB.out | (with_reducible refine Glob.alloc ?_ _) | (with_reducible refine Glob.drewN ?_ _) | (with_reducible refine Glob.drew ?_))))
  rintro e j2 ⟨rfl, hb⟩
  refine ⟨_, rfl, ?_⟩
  have a9 := Aside0.mk (zan_ a0.out hb)
  have b0 := Aside0.mk (zaj_ (HB.out) hb)
  clear a0
  clear HB
  have a0 := a9
  have HB := b0
  clear a9 b0
  refine hK.out _ _ ⟨(zab_ a0.out 0).trans rfl, (zab_ a0.out 1).trans rfl, (zab_ a0.out 2).trans rfl⟩ (fun hHeld => ?_)
  clear hK K
  refine norm_ (a' := ?_) ?_ ?_
  rotate_left
  · show Act.put _ (some 24) _ = _
    simp only [Act.put, List.setIfInBounds_toArray, List.set_cons_zero, List.set_cons_succ, i64_w, i32_w]
    rfl
  refine pure_ (i := 8) (N := some 25) (v := ?_) (a' := ?_) (bs 10 511) rfl rfl (any_of HT_.out (by kernel_rfl)) (fun _ _ _ h => h) (Or.inl ⟨by rfl, ?_⟩) ?_ ?_
  rotate_left
  · intro w'
    go_simp
    with_reducible rfl
  rotate_left
  · simp only [Act.put, List.setIfInBounds_toArray, List.set_cons_zero, List.set_cons_succ, i64_w, i32_w]
    rfl
  refine pure_ (i := 9) (N := some 2) (v := ?_) (a' := ?_) (bs 10 1023) rfl rfl (any_of HT_.out (by kernel_rfl)) (fun _ _ _ h => h) (Or.inl ⟨by rfl, ?_⟩) ?_ ?_
  rotate_left
  · intro w'
    go_simp
    with_reducible rfl
  rotate_left
  · simp only [Act.put, List.setIfInBounds_toArray, List.set_cons_zero, List.set_cons_succ, i64_w, i32_w]
    rfl
  refine done_ (done_of HT_.out (by kernel_rfl)) ?_
  try go_wp2
  go_ret
  exact ⟨by first | rfl | (simp [zal_, zak_] <;> rfl) | (simp [*, zal_, zak_] <;> rfl), HB.out⟩
end Go.Proofs.YtgkjoodlcojkkaaDoor.QD
end
section
namespace Go.Proofs.YtgkjoodlcojkkaaDoor.QD
open Go.RowKit Go.Proofs.YtgkjoodlcojkkaaDoorW.PrintWords Go.Proofs.YtgkjoodlcojkkaaDoorW.PrintLast Go.Proofs.YtgkjoodlcojkkaaDoorW.PrintMore
attribute [local go_sem] zbd_ zbe_ zbm_ zbl_ zaW_ zaX_ zbc_ zbb_
set_option linter.unusedVariables false
set_option linter.unusedSimpArgs false
theorem bld_below {T e : TypeId} {B b : Nat} {bs : List Value} {W W' : World} (h : Lib.IsBuilderF T e B b bs W) (hb : Below W.heap.size W W') : Lib.IsBuilderF T e B b bs W' := by
  have key : ∀ p, Lib.BuilderAtF T e B b p bs W → Lib.BuilderAtF T e B b p bs W' := by
    intro p h
    have hlt := h.lt
    obtain ⟨hB, v, hbk, hown, hne⟩ := h
    exact ⟨hB, v, (hb.block b hlt).trans hbk, hown.kept (row := none) ⟨hb.os, hb.tape, hb.output, hb.size, fun k hk _ => hb.block k hk⟩ (by cases hv : v.ownBlock <;> simp), hne⟩
  exact h.elim (fun x => .inl (key _ x)) (fun x => .inr (key _ x))
theorem bld_blk {T e : TypeId} {B b : Nat} {bs : List Value} {W : World} (h : Lib.IsBuilderF T e B b bs W) : ∃ p v, W.heap[b]? = some (.cells #[p, v] T (0, 0)) := by
  rcases h with h | h
  · obtain ⟨_, v, hb, _⟩ := h; exact ⟨_, v, hb⟩
  · obtain ⟨_, v, hb, _⟩ := h; exact ⟨_, v, hb⟩
theorem bld_fresh (B : Nat) (W : World) (h : B ≤ W.heap.size) : Lib.IsBuilderF 71 5 B W.heap.size (Lib.strCells ⟨#[]⟩) (W.alloc (.cells #[.pointer none, .slice none 0 0] 71 (0, 0))) :=
  Or.inl (Lib.BuilderAtF.of ⟨h, .slice none 0 0, heap_alloc_new W _, World.ownsRow_nil _ _ _ _, by simp [Value.ownBlock]⟩)
theorem blk_wrote {W W' : World} {g gb B : Nat} {cs : Array Value} {t : TypeId} {bs : List Value} (h : W.heap[g]? = some (.cells cs t (0, 0))) (h71 : t ≠ 71) (h5 : t ≠ 5) (hI : Lib.IsBuilderF 71 5 B gb bs W) (hk : Lib.OthersKept 5 (some gb) W W') : W'.heap[g]? = some (.cells cs t (0, 0)) := by
  obtain ⟨p, v, hp⟩ := bld_blk hI
  have hne : g ≠ gb := blk_ne h hp h71
  exact hk g _ h (fun e => hne (Option.some.inj e)) (fun c fz e => by cases e; exact h5 rfl)
theorem strCells_app (a b : ByteArray) : Lib.strCells (a ++ b) = Lib.strCells a ++ Lib.strCells b := by
  unfold Lib.strCells
  rw [← List.map_append]
  congr 1
structure PS (w : World) (gs gb : Nat) (cs : Array Value) (acc : ByteArray) (W : World) : Prop where
  sb : W.heap[gs]? = some (.cells cs 37 (0, 0))
  bl : Lib.IsBuilderF 71 5 w.heap.size gb (Lib.strCells acc) W
  be : Below w.heap.size w W
theorem PS.below {w : World} {gs gb : Nat} {cs : Array Value} {acc : ByteArray} {W W' : World} (h : PS w gs gb cs acc W) (hb : Below W.heap.size W W') : PS w gs gb cs acc W' := ⟨zan_ h.sb hb, bld_below h.bl hb, zaj_ h.be hb⟩
theorem PS.write {w : World} {gs gb : Nat} {cs : Array Value} {acc s : ByteArray} {W W' : World} (h : PS w gs gb cs acc W) (hA : Lib.BuilderAtF 71 5 w.heap.size gb (.pointer (some ⟨gb, 0, none⟩)) (Lib.strCells acc ++ Lib.strCells s) W') (hb : Below w.heap.size W W') (hk : Lib.OthersKept 5 (some gb) W W') : PS w gs gb cs (acc ++ s) W' :=
  ⟨blk_wrote h.sb (by decide) (by decide) h.bl hk, .inr (by rw [strCells_app]; exact hA), h.be.trans hb⟩
theorem strCells_data (acc : ByteArray) : (⟨acc.data.toList.toArray⟩ : ByteArray) = acc := by cases acc; simp
theorem bWrite_ (B b : Nat) (bs : List Value) (s : ByteArray) (w : World) (h : Lib.IsBuilderF 71 5 B b bs w) (hlen : bs.length + s.size ≤ 140737488355328) (hBw : B ≤ w.heap.size) :
    Calls Tryd.prog 34 #[.pointer (some ⟨b, 0, none⟩), .string s] w fun e w' => ∃ v, e = .returned v ∧ (Lib.BuilderAtF 71 5 B b (.pointer (some ⟨b, 0, none⟩)) (bs ++ Lib.strCells s) w' ∧ Below B w w' ∧ Lib.OthersKept 5 (some b) w w') :=
  (Tryd.bWriteString B b bs s w h hlen hBw).mono fun e w' ⟨he, hr⟩ => ⟨_, he, hr⟩
theorem check_len {k : Nat} {p n : Int} {c h : List Int} {ts : List S53} (hh : zaR_.f k p c h ts = some (n, 0)) : ts.length ≤ 6 := by
  unfold zaR_.f at hh
  obtain ⟨b, _, hh⟩ := Option.bind_eq_some_iff.1 hh
  by_cases hb : b = true
  · rw [if_pos hb] at hh
    obtain ⟨b2, _, hh⟩ := Option.bind_eq_some_iff.1 hh
    by_cases hb2 : b2 = true
    · rw [if_pos hb2] at hh
      by_cases h6 : (ts.length : Int) > 6
      · rw [if_pos h6] at hh; simp at hh
      · omega
    · rw [if_neg hb2] at hh; simp at hh
  · rw [if_neg hb] at hh; simp at hh
def zau_.lp : List S50 → ByteArray → Option ByteArray
  | [], b => some b
  | q :: qs, b => (zbx_.f q.f0 q.f1 q.f2).bind fun s => if b.size + s.size ≤ 1000000000 then zau_.lp qs (b ++ ((⟨#[32]⟩ : ByteArray) ++ s)) else none
def zau_.lt (k : Nat) : List S53 → ByteArray → Option ByteArray
  | [], b => some b
  | t :: ts, b => (zaZ_.f k [t.f1, t.f2, t.f3, t.f4]).bind fun sn => if b.size + t.f0.size + sn.size ≤ 1000000000 then (zau_.lp t.f5 (b ++ (((⟨#[116, 97, 115, 107, 32]⟩ : ByteArray) ++ t.f0) ++ sn))).bind fun b2 => (if b2.size ≤ 1000000000 then zau_.lt k ts (b2 ++ (⟨#[10]⟩ : ByteArray)) else none) else none
def zau_.f (k : Nat) (a7 : Int) (a6 : List Int) (a5 : List Int) (a4 : List (S53)) : Option (ByteArray) :=
  (zaR_.f k a7 a6 a5 a4).bind fun x => if x.2 = 0 then (zbt_.f a7).bind fun ap => (zaZ_.f k a6).bind fun sc => if ap.size + sc.size ≤ 1000000000 then
    (if a5.length > 0 then (zaZ_.f k a5).bind fun sh => if sh.size ≤ 1000000000 then zau_.lt k a4 (((((((⟨#[112, 114, 111, 116, 111, 99, 111, 108, 32]⟩ : ByteArray) ++ ap) ++ (⟨#[10]⟩ : ByteArray)) ++ (⟨#[99, 111, 114, 101, 115]⟩ : ByteArray)) ++ sc) ++ (⟨#[10]⟩ : ByteArray)) ++ (((⟨#[104, 111, 109, 101, 115]⟩ : ByteArray) ++ sh) ++ (⟨#[10]⟩ : ByteArray))) else none
     else zau_.lt k a4 ((((((⟨#[112, 114, 111, 116, 111, 99, 111, 108, 32]⟩ : ByteArray) ++ ap) ++ (⟨#[10]⟩ : ByteArray)) ++ (⟨#[99, 111, 114, 101, 115]⟩ : ByteArray)) ++ sc) ++ (⟨#[10]⟩ : ByteArray))) else none else some (⟨#[]⟩ : ByteArray)
theorem zau_.mono_lt (k : Nat) : ∀ (ts : List S53) (b : ByteArray), LeO (zau_.lt k ts b) (zau_.lt (k + 1) ts b)
  | [], b => LeO.refl _
  | t :: ts, b => by
    unfold zau_.lt
    refine LeO.bind (zaZ_.mono _ _) (fun _ => LeO.ite (LeO.bind (LeO.refl _) (fun _ => LeO.ite (zau_.mono_lt k ts _) (LeO.none _))) (LeO.none _))
theorem zau_.mono : ∀ a0 a1 a2 a3 k, LeO (zau_.f k a0 a1 a2 a3) (zau_.f (k + 1) a0 a1 a2 a3) := by
  intro a0 a1 a2 a3 k
  unfold zau_.f
  exact LeO.bind (zaR_.mono _ _ _ _ _) (fun _ => LeO.ite (LeO.bind (LeO.refl _) (fun _ => LeO.bind (zaZ_.mono _ _) (fun _ => LeO.ite (LeO.ite (LeO.bind (zaZ_.mono _ _) (fun _ => LeO.ite (zau_.mono_lt _ _ _) (LeO.none _))) (zau_.mono_lt _ _ _)) (LeO.none _)))) (LeO.refl _))
def zau_.T5 : Bool × List (List Nat × List Nat) := (true, [([], []), ([0], [0]), ([1], [1]), ([2], [2]), ([3], [3]), ([4], [4]), ([], []), ([6], [6]), ([7, 2], [7]), ([5, 8], [5, 8]), ([9], [9]), ([10, 8], [10])])
def zau_.B5 : List Nat := [0, 1, 3, 7, 15, 31, 0, 64, 199, 511, 1023, 2047]
theorem zau_.tab5 : rtab .any (opsOf Tryd.f24 5) = zau_.T5 := by kernel_rfl
theorem zau_.bits5 : waitsOk zau_.T5.2 zau_.B5 = true := by kernel_rfl
def zau_.T11 : Bool × List (List Nat × List Nat) := (true, [([], []), ([0], [0]), ([1], [1]), ([], []), ([3], [3]), ([], []), ([5], [5]), ([], []), ([7], [7]), ([], []), ([9], [9]), ([4, 6, 8, 10], [4, 6, 8, 10]), ([11], [11]), ([2, 12], [2, 12]), ([13, 12], [13])])
def zau_.B11 : List Nat := [0, 1, 3, 0, 8, 0, 32, 0, 128, 0, 512, 2040, 4088, 8191, 16383]
theorem zau_.tab11 : rtab .any (opsOf Tryd.f24 11) = zau_.T11 := by kernel_rfl
theorem zau_.bits11 : waitsOk zau_.T11.2 zau_.B11 = true := by kernel_rfl
set_option maxHeartbeats 8000000 in
set_option maxRecDepth 100000 in
theorem zau_.calls (k : Nat) (a7 : Int) (a8 : Option Addr) (a9 : Nat) (a6 : List Int) (b0 : Option Addr) (b1 : Nat) (a5 : List Int) (b4 : Option Addr) (b3 : Nat) (a4 : List (S53)) (r : ByteArray) (w : World) (b5 : Kd.C (Kd.int .i64) w a8 a6.length a6) (b6 : a6.length ≤ a9) (b7 : Kd.C (Kd.int .i64) w b0 a5.length a5) (b8 : a5.length ≤ b1) (b9 : Kd.C k53 w b4 a4.length a4) (c0 : a4.length ≤ b3) (hG : Glob w) (h : zau_.f k a7 a6 a5 a4 = some r) :
    Calls Tryd.prog 24 #[.agg #[.int .i64 a7, .slice a8 a6.length a9, .slice b0 a5.length b1, .slice b4 a4.length b3]] w fun e w' => e = .returned (.string r) ∧ Below w.heap.size w w' := by
  have hu37 := Tryd.underlying37
  have hu53 := Tryd.underlying53
  have hu50 := Tryd.underlying50
  have c9 := Aside0.mk b5
  have HC1 := Aside0.mk b6
  have d0 := Aside0.mk b7
  have HC2 := Aside0.mk b8
  have d1 := Aside0.mk b9
  have HC3 := Aside0.mk c0
  have HG := Aside0.mk hG
  clear b5 b6 b7 b8 b9 c0 hG
  unfold zau_.f at h
  obtain ⟨⟨n, e⟩, hck, h⟩ := Option.bind_eq_some_iff.1 h
  have HCK := Aside0.mk hck
  clear hck
  dsimp only at h
  by_cases ce : e = 0
  rotate_left
  · rw [if_neg ce] at h
    obtain rfl := Option.some.inj h
    have ceb : (e != 0) = true := bne_iff_ne.2 ce
    have ceb1 : (e == 0) = false := beq_eq_false_iff_ne.2 ce
    go_enter Tryd.func24, Tryd.ntmps24
    go_wp2_with (first | ((with_reducible refine zaL_ (N := 1) rfl ?_); refine zaD_ ?hg (N := 1) ?hd (cs := #[.int .i64 a7, .slice a8 a6.length a9, .slice b0 a5.length b1, .slice b4 a4.length b3]) (t := 37) ?hr ?_; (case hd => rfl); (case hg => rfl); (case hr => first | (go_simp; done) | (go_simp; rfl)); intro gs hg w1 hbox hb; have BS := Aside0.mk hbox; have HB := Aside0.mk hb; clear hg hbox hb; have hza_0 : w1.cell? ⟨gs, 0, none⟩ = some (.int .i64 a7) := (zab_ BS.out 0).trans rfl; have hza_1 : w1.cell? ⟨gs, 1, none⟩ = some (.slice a8 a6.length a9) := (zab_ BS.out 1).trans rfl; have hza_2 : w1.cell? ⟨gs, 2, none⟩ = some (.slice b0 a5.length b1) := (zab_ BS.out 2).trans rfl; have hza_3 : w1.cell? ⟨gs, 3, none⟩ = some (.slice b4 a4.length b3) := (zab_ BS.out 3).trans rfl) | (go_at_call 33; (with_reducible refine (zaR_.calls k a7 a8 a9 a6 b0 b1 a5 b4 b3 a4 n e _ (Kd.zaB_ c9.out HB.out) HC1.out (Kd.zaB_ d0.out HB.out) HC2.out (Kd.zaB_ d1.out HB.out) HC3.out HCK.out).mono ?_); rintro e_ w2 ⟨rfl, hb⟩; have HB2 := Aside0.mk (zaj_ HB.out hb); have BS2 := Aside0.mk (zan_ BS.out hb); clear hb))
    go_ret
    exact ⟨rfl, HB2.out⟩
  rw [if_pos ce] at h
  subst ce
  have HL6 := Aside0.mk (check_len HCK.out)
  obtain ⟨ap, hap, h⟩ := Option.bind_eq_some_iff.1 h
  obtain ⟨sc, hsc, h⟩ := Option.bind_eq_some_iff.1 h
  have HAP := Aside0.mk hap
  have HSC := Aside0.mk hsc
  clear hap hsc
  by_cases cz : ap.size + sc.size ≤ 1000000000
  rotate_left
  · rw [if_neg cz] at h; cases h
  rw [if_pos cz] at h
  have HSZ := Aside0.mk cz
  have z1 : (9223372036854775807 < 9 + ap.size) = False := eq_false (by omega)
  have z2 : (9223372036854775807 < 9 + ap.size + 1) = False := eq_false (by omega)
  have z3 : (9223372036854775807 < 9 + ap.size + 1 + 5) = False := eq_false (by omega)
  have z4 : (9223372036854775807 < 9 + ap.size + 1 + 5 + sc.size) = False := eq_false (by omega)
  have z5 : (9223372036854775807 < 9 + ap.size + 1 + 5 + sc.size + 1) = False := eq_false (by omega)
  clear cz
  have H := Aside0.mk h
  clear h
  go_enter Tryd.func24, Tryd.ntmps24
  go_wp2_with (first | ((with_reducible refine zaL_ (N := 1) rfl ?_); refine zaD_ ?hg (N := 1) ?hd (cs := #[.int .i64 a7, .slice a8 a6.length a9, .slice b0 a5.length b1, .slice b4 a4.length b3]) (t := 37) ?hr ?_; (case hd => rfl); (case hg => rfl); (case hr => first | (go_simp; done) | (go_simp; rfl)); intro gs hg w1 hbox hb; have BS := Aside0.mk hbox; have HB := Aside0.mk hb; clear hg hbox hb; have hza_0 : w1.cell? ⟨gs, 0, none⟩ = some (.int .i64 a7) := (zab_ BS.out 0).trans rfl; have hza_1 : w1.cell? ⟨gs, 1, none⟩ = some (.slice a8 a6.length a9) := (zab_ BS.out 1).trans rfl; have hza_2 : w1.cell? ⟨gs, 2, none⟩ = some (.slice b0 a5.length b1) := (zab_ BS.out 2).trans rfl; have hza_3 : w1.cell? ⟨gs, 3, none⟩ = some (.slice b4 a4.length b3) := (zab_ BS.out 3).trans rfl) | (go_at_call 33; (with_reducible refine (zaR_.calls k a7 a8 a9 a6 b0 b1 a5 b4 b3 a4 n 0 _ (Kd.zaB_ c9.out HB.out) HC1.out (Kd.zaB_ d0.out HB.out) HC2.out (Kd.zaB_ d1.out HB.out) HC3.out HCK.out).mono ?_); rintro e_ w2 ⟨rfl, hb⟩; have HB2 := Aside0.mk (zaj_ HB.out hb); have BS2 := Aside0.mk (zan_ BS.out hb); clear hb))
  have hp_ : PS w gs w2.heap.size #[.int .i64 a7, .slice a8 a6.length a9, .slice b0 a5.length b1, .slice b4 a4.length b3] ⟨#[]⟩ (w2.alloc (.cells #[.pointer none, .slice none 0 0] 71 (0, 0))) := ⟨zad_ BS2.out _, bld_fresh _ _ HB2.out.size, zah_ HB2.out _⟩
  generalize w2.alloc (.cells #[.pointer none, .slice none 0 0] 71 (0, 0)) = w3 at hp_ ⊢
  generalize w2.heap.size = gb at hp_ ⊢
  have HP := Aside0.mk (hp_.below (zag_ (Below.refl _ _)))
  clear hp_
  refine start_ (n := 12) (S := fun w' => w'.cell? ⟨gs, 0, none⟩ = some (.int .i64 a7) ∧ w'.cell? ⟨gs, 1, none⟩ = some (.slice a8 a6.length a9)) (ds := []) (bs 12 0) (by kernel_rfl) rfl rfl ⟨(zab_ HP.out.sb 0).trans rfl, (zab_ HP.out.sb 1).trans rfl⟩ (fun hHeld => ?_)
  refine zbv_ zau_.tab5 zau_.bits5 (fun HT_ HW_ => ?_)
  generalize w3.drew = w4 at HP hHeld ⊢
  refine pure_ (i := 0) (N := some 17) (v := ?_) (a' := ?_) (bs 12 1) rfl rfl (any_of HT_.out (by kernel_rfl)) (fun _ _ _ h => h) (Or.inl ⟨by rfl, ?_⟩) ?_ ?_
  rotate_left
  · intro w'
    go_simp
    with_reducible rfl
  rotate_left
  · simp only [Act.put, List.setIfInBounds_toArray, List.set_cons_zero, List.set_cons_succ, i64_w, i32_w]
    rfl
  refine pure_ (i := 6) (N := some 23) (v := ?_) (a' := ?_) (bs 12 65) rfl rfl (any_of HT_.out (by kernel_rfl)) (fun _ _ _ h => h) (Or.inl ⟨by rfl, ?_⟩) ?_ ?_
  rotate_left
  · intro w'
    go_simp
    with_reducible rfl
  rotate_left
  · simp only [Act.put, List.setIfInBounds_toArray, List.set_cons_zero, List.set_cons_succ, i64_w, i32_w]
    rfl
  refine take_ (i := 1) (N := some 18) (v := ?_) (a' := ?_) (bs 12 67) rfl rfl (zaT_ HT_.out HW_.out (by kernel_rfl)) (fun _ _ _ h => h) (Or.inl ⟨by rfl, ?_⟩) hHeld ?_ ?_
  rotate_left
  · rintro w' ⟨s0, s1⟩
    go_simp
    with_reducible rfl
  rotate_left
  · simp only [Act.put, List.setIfInBounds_toArray, List.set_cons_zero, List.set_cons_succ, i64_w, i32_w]
    rfl
  refine take_ (i := 7) (N := some 24) (v := ?_) (a' := ?_) (bs 12 195) rfl rfl (zaT_ HT_.out HW_.out (by kernel_rfl)) (fun _ _ _ h => h) (Or.inl ⟨by rfl, ?_⟩) hHeld ?_ ?_
  rotate_left
  · rintro w' ⟨s0, s1⟩
    go_simp
    with_reducible rfl
  rotate_left
  · simp only [Act.put, List.setIfInBounds_toArray, List.set_cons_zero, List.set_cons_succ, i64_w, i32_w]
    rfl
  refine one_ (i := 2) (N := some 19) (bs 12 199) rfl rfl (one_of HT_.out (by kernel_rfl)) (by decide) (fun K hK => ?_)
  refine goes_ Tryd.func35 (by kernel_rfl) rfl #[.int .i64 a7] (by rfl) rfl rfl (by (try simp only [List.map_toArray, List.map_cons, List.map_nil]); first | done | rfl | (simp only [List.length_drop, List.length_take]; rfl)) ?_
  with_reducible refine (zbt_.calls a7 ap _ HAP.out).mono ?_
  rintro e_ w5 ⟨rfl, hb⟩
  refine ⟨_, rfl, ?_⟩
  have hp_ := HP.out.below hb
  clear HP
  have HP := Aside0.mk hp_
  clear hp_
  clear hb
  refine hK.out _ _ ⟨(zab_ HP.out.sb 0).trans rfl, (zab_ HP.out.sb 1).trans rfl⟩ (fun hHeld => ?_)
  clear hK K
  refine norm_ (a' := ?_) ?_ ?_
  rotate_left
  · show Act.put _ (some 19) _ = _
    simp only [Act.put, List.setIfInBounds_toArray, List.set_cons_zero, List.set_cons_succ, i64_w, i32_w]
    rfl
  refine pure_ (i := 3) (N := some 20) (v := ?_) (a' := ?_) (bs 12 207) rfl rfl (any_of HT_.out (by kernel_rfl)) (fun _ _ _ h => h) (Or.inl ⟨by rfl, ?_⟩) ?_ ?_
  rotate_left
  · intro w'
    go_simp
    with_reducible rfl
  rotate_left
  · simp only [Act.put, List.setIfInBounds_toArray, List.set_cons_zero, List.set_cons_succ, i64_w, i32_w]
    rfl
  refine pure_ (i := 4) (N := some 21) (v := ?_) (a' := ?_) (bs 12 223) rfl rfl (any_of HT_.out (by kernel_rfl)) (fun _ _ _ h => h) (Or.inl ⟨by rfl, ?_⟩) ?_ ?_
  rotate_left
  · intro w'
    go_simp
    with_reducible rfl
  rotate_left
  · simp only [Act.put, List.setIfInBounds_toArray, List.set_cons_zero, List.set_cons_succ, i64_w, i32_w]
    rfl
  refine pure_ (i := 5) (N := some 22) (v := ?_) (a' := ?_) (bs 12 255) rfl rfl (any_of HT_.out (by kernel_rfl)) (fun _ _ _ h => h) (Or.inl ⟨by rfl, ?_⟩) ?_ ?_
  rotate_left
  · intro w'
    go_simp
    with_reducible rfl
  rotate_left
  · simp only [Act.put, List.setIfInBounds_toArray, List.set_cons_zero, List.set_cons_succ, i64_w, i32_w]
    rfl
  refine one_ (i := 8) (N := some 25) (bs 12 511) rfl rfl (one_of HT_.out (by kernel_rfl)) (by decide) (fun K hK => ?_)
  refine goes_ Tryd.func36 (by kernel_rfl) rfl #[.slice a8 a6.length a9] (by rfl) rfl rfl (by (try simp only [List.map_toArray, List.map_cons, List.map_nil]); first | done | rfl | (simp only [List.length_drop, List.length_take]; rfl)) ?_
  with_reducible refine (zaZ_.calls k a8 a9 a6 sc _ (Kd.zaB_ c9.out HP.out.be) HC1.out (Glob.below HG.out HP.out.be) HSC.out).mono ?_
  rintro e_ w6 ⟨rfl, hb⟩
  refine ⟨_, rfl, ?_⟩
  have hp_ := HP.out.below hb
  clear HP
  have HP := Aside0.mk hp_
  clear hp_
  clear hb
  refine hK.out _ _ ⟨(zab_ HP.out.sb 0).trans rfl, (zab_ HP.out.sb 1).trans rfl⟩ (fun hHeld => ?_)
  clear hK K
  refine norm_ (a' := ?_) ?_ ?_
  rotate_left
  · show Act.put _ (some 25) _ = _
    simp only [Act.put, List.setIfInBounds_toArray, List.set_cons_zero, List.set_cons_succ, i64_w, i32_w]
    rfl
  refine pure_ (i := 9) (N := some 26) (v := ?_) (a' := ?_) (bs 12 1023) rfl rfl (any_of HT_.out (by kernel_rfl)) (fun _ _ _ h => h) (Or.inl ⟨by rfl, ?_⟩) ?_ ?_
  rotate_left
  · intro w'
    go_simp
    with_reducible rfl
  rotate_left
  · simp only [Act.put, List.setIfInBounds_toArray, List.set_cons_zero, List.set_cons_succ, i64_w, i32_w]
    rfl
  refine pure_ (i := 10) (N := some 27) (v := ?_) (a' := ?_) (bs 12 2047) rfl rfl (any_of HT_.out (by kernel_rfl)) (fun _ _ _ h => h) (Or.inl ⟨by rfl, ?_⟩) ?_ ?_
  rotate_left
  · intro w'
    go_simp
    with_reducible rfl
  rotate_left
  · simp only [Act.put, List.setIfInBounds_toArray, List.set_cons_zero, List.set_cons_succ, i64_w, i32_w]
    rfl
  refine one_ (i := 11) (N := some 28) (bs 12 4095) rfl rfl (one_of HT_.out (by kernel_rfl)) (by decide) (fun K hK => ?_)
  refine goes_ Tryd.func34 (by kernel_rfl) rfl #[.pointer (some ⟨gb, 0, none⟩), .string ((((((⟨#[112, 114, 111, 116, 111, 99, 111, 108, 32]⟩ : ByteArray) ++ ap) ++ (⟨#[10]⟩ : ByteArray)) ++ (⟨#[99, 111, 114, 101, 115]⟩ : ByteArray)) ++ sc) ++ (⟨#[10]⟩ : ByteArray))] (by rfl) rfl rfl (by (try simp only [List.map_toArray, List.map_cons, List.map_nil]); first | done | rfl | (simp only [List.length_drop, List.length_take]; rfl)) ?_
  with_reducible refine (bWrite_ w.heap.size gb (Lib.strCells ⟨#[]⟩) ((((((⟨#[112, 114, 111, 116, 111, 99, 111, 108, 32]⟩ : ByteArray) ++ ap) ++ (⟨#[10]⟩ : ByteArray)) ++ (⟨#[99, 111, 114, 101, 115]⟩ : ByteArray)) ++ sc) ++ (⟨#[10]⟩ : ByteArray)) _ HP.out.bl (by rw [Lib.strCells_length]; simp only [ByteArray.size_append]; have := HSZ.out; simp only [ByteArray.size, List.size_toArray, List.length_cons, List.length_nil] at this ⊢; omega) HP.out.be.size).mono ?_
  rintro e_ w7 ⟨v_, rfl, hA, hb, hk⟩
  refine ⟨_, rfl, ?_⟩
  have hp_ := HP.out.write hA hb hk
  clear HP
  have HP := Aside0.mk hp_
  clear hp_ hA hb hk
  refine hK.out _ _ ⟨(zab_ HP.out.sb 0).trans rfl, (zab_ HP.out.sb 1).trans rfl⟩ (fun hHeld => ?_)
  clear hK K
  refine norm_ (a' := ?_) ?_ ?_
  rotate_left
  · show Act.put _ (some 28) _ = _
    simp only [Act.put, List.setIfInBounds_toArray, List.set_cons_zero, List.set_cons_succ, i64_w, i32_w]
    rfl
  refine done_ (done_of HT_.out (by kernel_rfl)) ?_
  clear z1 z2 z3 z4 z5
  have hzc_2 : w7.cell? ⟨gs, 2, none⟩ = some (.slice b0 a5.length b1) := (zab_ HP.out.sb 2).trans rfl
  go_upto_if 32 with (fail)
  (try simp only [Act.put, List.setIfInBounds_toArray, List.set_cons_zero, List.set_cons_succ])
  go_cut [] (fun wc => ∃ (acc : ByteArray), Aside0 (zau_.lt k a4 acc = some r) ∧ Aside0 (PS w gs gb #[.int .i64 a7, .slice a8 a6.length a9, .slice b0 a5.length b1, .slice b4 a4.length b3] acc wc))
  case first =>
    have h := H.out
    clear H
    by_cases c2 : a5.length > 0
    · rw [if_pos c2] at h
      have d2 : decide (0 < a5.length) = true := decide_eq_true c2
      have d3 : decide (0 < (a5.length : Int)) = true := decide_eq_true (by omega)
      obtain ⟨sh, hsh, h⟩ := Option.bind_eq_some_iff.1 h
      have HSH := Aside0.mk hsh
      clear hsh
      by_cases cz : sh.size ≤ 1000000000
      rotate_left
      · rw [if_neg cz] at h; cases h
      rw [if_pos cz] at h
      have H := Aside0.mk h
      have HSZ2 := Aside0.mk cz
      clear h
      have z1 : (9223372036854775807 < 5 + sh.size) = False := eq_false (by omega)
      have z2 : (9223372036854775807 < 5 + sh.size + 1) = False := eq_false (by omega)
      clear cz
      go_wp2_with (first | (go_at_call 36; (with_reducible refine (zaZ_.calls k b0 b1 a5 sh _ (Kd.zaB_ d0.out HP.out.be) HC2.out (Glob.below HG.out HP.out.be) HSH.out).mono ?_); rintro e_ w8 ⟨rfl, hb⟩; have HP2 := Aside0.mk (HP.out.below hb); clear hb) | (go_at_call 34; refine (bWrite_ w.heap.size gb (Lib.strCells ((((((⟨#[112, 114, 111, 116, 111, 99, 111, 108, 32]⟩ : ByteArray) ++ ap) ++ (⟨#[10]⟩ : ByteArray)) ++ (⟨#[99, 111, 114, 101, 115]⟩ : ByteArray)) ++ sc) ++ (⟨#[10]⟩ : ByteArray))) (((⟨#[104, 111, 109, 101, 115]⟩ : ByteArray) ++ sh) ++ (⟨#[10]⟩ : ByteArray)) _ HP2.out.bl (by rw [Lib.strCells_length]; have h1 := HSZ.out; have h2 := HSZ2.out; simp only [ByteArray.size_append]; simp only [ByteArray.size, List.size_toArray, List.length_cons, List.length_nil] at h1 h2 ⊢; omega) HP2.out.be.size).mono ?_; rintro e_ w9 ⟨v_, rfl, hA, hb, hk⟩; have HP3 := Aside0.mk (HP2.out.write hA hb hk); clear hA hb hk))
      go_meet
      case rel => exact ⟨_, H, HP3⟩
    · rw [if_neg c2] at h
      have d2 : decide (0 < a5.length) = false := decide_eq_false c2
      have d3 : decide (0 < (a5.length : Int)) = false := decide_eq_false (by omega)
      have H := Aside0.mk h
      clear h
      go_wp2
      go_meet
      case rel => exact ⟨_, H, HP⟩
  clear HP H
  obtain ⟨acc0, H, HP⟩ := hcut
  have hzd_3 : wc.cell? ⟨gs, 3, none⟩ = some (.slice b4 a4.length b3) := (zab_ HP.out.sb 3).trans rfl
  go_wp2
  go_loopg [42] a4.length (fun kq d5 w' => ∃ (i : Nat) (acc : ByteArray), d5 = .int .i64 i ∧ Aside0 (kq + i = a4.length) ∧ Aside0 (zau_.lt k (a4.drop i) acc = some r) ∧ Aside0 (PS w gs gb #[.int .i64 a7, .slice a8 a6.length a9, .slice b0 a5.length b1, .slice b4 a4.length b3] acc w'))
  case atStart => exact ⟨0, acc0, rfl, ⟨by omega⟩, ⟨H.out⟩, HP⟩
  clear HP H
  obtain ⟨i, acc, rfl, HI, H, HP⟩ := hrel
  obtain ⟨gko, rfl⟩ : ∃ x, x = gk := ⟨gk, rfl⟩
  by_cases hlt : i < a4.length
  rotate_left
  · have hn : a4.length ≤ i := by omega
    have h := H.out
    rw [List.drop_eq_nil_of_le hn] at h
    obtain rfl : acc = r := Option.some.inj h
    clear h H
    go_wp2_with (first | (go_at_call 38; refine (Tryd.bString w.heap.size gb acc.data.toList _ HP.out.bl HP.out.be.size).mono ?_; rintro e_ w8 ⟨rfl, _, hb, _⟩; have HB9 := Aside0.mk (HP.out.be.trans hb); clear hb))
    go_ret
    exact ⟨congrArg (fun z => Ending.returned (Value.string z)) (strCells_data acc), HB9.out⟩
  have p0 : (0 : Int) ≤ (i : Int) := by omega
  have q0 : (i : Int) < (a4.length : Int) := by omega
  obtain ⟨ad, A5, c5, e3, c1, c3, c4, c6, c7, c8, hl5, hi5⟩ := at_T53 d1.out (i : Int) p0 q0
  cases e3
  have eg : rd_T53 a4 (i : Int) = a4[i] := by unfold rd_T53; simp [hlt]
  simp only [Int.toNat_natCast, eg] at c1 c3 c4 c6 c7 c8 hl5 hi5
  have h := H.out
  rw [List.drop_eq_getElem_cons hlt] at h
  clear H eg
  generalize a4[i] = t at c1 c3 c4 c6 c7 c8 hl5 hi5 h
  have HI5 := Aside0.mk hi5
  have HL5 := Aside0.mk hl5
  clear hi5 hl5
  unfold zau_.lt at h
  obtain ⟨sn, hsn, h⟩ := Option.bind_eq_some_iff.1 h
  have HSN := Aside0.mk hsn
  clear hsn
  by_cases cz : acc.size + t.f0.size + sn.size ≤ 1000000000
  rotate_left
  · rw [if_neg cz] at h; cases h
  rw [if_pos cz] at h
  have HSZ := Aside0.mk cz
  obtain ⟨b2, hb2, h⟩ := Option.bind_eq_some_iff.1 h
  have HB2P := Aside0.mk hb2
  clear hb2
  by_cases cy : b2.size ≤ 1000000000
  rotate_left
  · rw [if_neg cy] at h; cases h
  rw [if_pos cy] at h
  have HSY := Aside0.mk cy
  have H := Aside0.mk h
  clear h cy
  have z1 : (9223372036854775807 < 5 + t.f0.size) = False := eq_false (by omega)
  have z2 : (9223372036854775807 < 5 + t.f0.size + sn.size) = False := eq_false (by omega)
  clear cz
  replace c1 := (HP.out.be.cell (World.block_lt_of_cell? w _ c1)).trans c1
  replace c3 := (HP.out.be.cell (World.block_lt_of_cell? w _ c3)).trans c3
  replace c4 := (HP.out.be.cell (World.block_lt_of_cell? w _ c4)).trans c4
  replace c6 := (HP.out.be.cell (World.block_lt_of_cell? w _ c6)).trans c6
  replace c7 := (HP.out.be.cell (World.block_lt_of_cell? w _ c7)).trans c7
  replace c8 := (HP.out.be.cell (World.block_lt_of_cell? w _ c8)).trans c8
  go_wp2
  have bt := blk_new wr (.cells #[.string t.f0, .int .i64 t.f1, .int .i64 t.f2, .int .i64 t.f3, .int .i64 t.f4, .slice A5 t.f5.length c5] 53 (0, 0))
  have hp_ := HP.out.below (zah_ (Below.refl _ _) (.cells #[.string t.f0, .int .i64 t.f1, .int .i64 t.f2, .int .i64 t.f3, .int .i64 t.f4, .slice A5 t.f5.length c5] 53 (0, 0)))
  clear HP c1 c3 c4 c6 c7 c8
  generalize wr.alloc (.cells #[.string t.f0, .int .i64 t.f1, .int .i64 t.f2, .int .i64 t.f3, .int .i64 t.f4, .slice A5 t.f5.length c5] 53 (0, 0)) = w3 at bt hp_ ⊢
  generalize wr.heap.size = gt at bt ⊢
  have BT := Aside0.mk (zaf_ bt)
  have HP := Aside0.mk (hp_.below (zag_ (Below.refl _ _)))
  clear bt hp_
  refine start_ (n := 15) (S := fun w' => w'.cell? ⟨gt, 0, none⟩ = some (.string t.f0) ∧ w'.cell? ⟨gt, 1, none⟩ = some (.int .i64 t.f1) ∧ w'.cell? ⟨gt, 2, none⟩ = some (.int .i64 t.f2) ∧ w'.cell? ⟨gt, 3, none⟩ = some (.int .i64 t.f3) ∧ w'.cell? ⟨gt, 4, none⟩ = some (.int .i64 t.f4)) (ds := []) (bs 15 0) (by kernel_rfl) rfl rfl ⟨(zab_ BT.out 0).trans rfl, (zab_ BT.out 1).trans rfl, (zab_ BT.out 2).trans rfl, (zab_ BT.out 3).trans rfl, (zab_ BT.out 4).trans rfl⟩ (fun hHeld => ?_)
  refine zbv_ zau_.tab11 zau_.bits11 (fun HT_ HW_ => ?_)
  generalize w3.drew = w4 at HP BT hHeld ⊢
  refine pure_ (i := 0) (N := some 46) (v := ?_) (a' := ?_) (bs 15 1) rfl rfl (any_of HT_.out (by kernel_rfl)) (fun _ _ _ h => h) (Or.inl ⟨by rfl, ?_⟩) ?_ ?_
  rotate_left
  · intro w'
    go_simp
    with_reducible rfl
  rotate_left
  · simp only [Act.put, List.setIfInBounds_toArray, List.set_cons_zero, List.set_cons_succ, i64_w, i32_w]
    rfl
  refine pure_ (i := 3) (N := some 49) (v := ?_) (a' := ?_) (bs 15 9) rfl rfl (any_of HT_.out (by kernel_rfl)) (fun _ _ _ h => h) (Or.inl ⟨by rfl, ?_⟩) ?_ ?_
  rotate_left
  · intro w'
    go_simp
    with_reducible rfl
  rotate_left
  · simp only [Act.put, List.setIfInBounds_toArray, List.set_cons_zero, List.set_cons_succ, i64_w, i32_w]
    rfl
  refine pure_ (i := 5) (N := some 51) (v := ?_) (a' := ?_) (bs 15 41) rfl rfl (any_of HT_.out (by kernel_rfl)) (fun _ _ _ h => h) (Or.inl ⟨by rfl, ?_⟩) ?_ ?_
  rotate_left
  · intro w'
    go_simp
    with_reducible rfl
  rotate_left
  · simp only [Act.put, List.setIfInBounds_toArray, List.set_cons_zero, List.set_cons_succ, i64_w, i32_w]
    rfl
  refine pure_ (i := 7) (N := some 53) (v := ?_) (a' := ?_) (bs 15 169) rfl rfl (any_of HT_.out (by kernel_rfl)) (fun _ _ _ h => h) (Or.inl ⟨by rfl, ?_⟩) ?_ ?_
  rotate_left
  · intro w'
    go_simp
    with_reducible rfl
  rotate_left
  · simp only [Act.put, List.setIfInBounds_toArray, List.set_cons_zero, List.set_cons_succ, i64_w, i32_w]
    rfl
  refine pure_ (i := 9) (N := some 55) (v := ?_) (a' := ?_) (bs 15 681) rfl rfl (any_of HT_.out (by kernel_rfl)) (fun _ _ _ h => h) (Or.inl ⟨by rfl, ?_⟩) ?_ ?_
  rotate_left
  · intro w'
    go_simp
    with_reducible rfl
  rotate_left
  · simp only [Act.put, List.setIfInBounds_toArray, List.set_cons_zero, List.set_cons_succ, i64_w, i32_w]
    rfl
  refine take_ (i := 1) (N := some 47) (v := ?_) (a' := ?_) (bs 15 683) rfl rfl (zaT_ HT_.out HW_.out (by kernel_rfl)) (fun _ _ _ h => h) (Or.inl ⟨by rfl, ?_⟩) hHeld ?_ ?_
  rotate_left
  · rintro w' ⟨s0, s1, s2, s3, s4⟩
    go_simp
    with_reducible rfl
  rotate_left
  · simp only [Act.put, List.setIfInBounds_toArray, List.set_cons_zero, List.set_cons_succ, i64_w, i32_w]
    rfl
  refine pure_ (i := 2) (N := some 48) (v := ?_) (a' := ?_) (bs 15 687) rfl rfl (any_of HT_.out (by kernel_rfl)) (fun _ _ _ h => h) (Or.inl ⟨by rfl, ?_⟩) ?_ ?_
  rotate_left
  · intro w'
    go_simp
    with_reducible rfl
  rotate_left
  · simp only [Act.put, List.setIfInBounds_toArray, List.set_cons_zero, List.set_cons_succ, i64_w, i32_w]
    rfl
  refine take_ (i := 4) (N := some 50) (v := ?_) (a' := ?_) (bs 15 703) rfl rfl (zaT_ HT_.out HW_.out (by kernel_rfl)) (fun _ _ _ h => h) (Or.inl ⟨by rfl, ?_⟩) hHeld ?_ ?_
  rotate_left
  · rintro w' ⟨s0, s1, s2, s3, s4⟩
    go_simp
    with_reducible rfl
  rotate_left
  · simp only [Act.put, List.setIfInBounds_toArray, List.set_cons_zero, List.set_cons_succ, i64_w, i32_w]
    rfl
  refine take_ (i := 6) (N := some 52) (v := ?_) (a' := ?_) (bs 15 767) rfl rfl (zaT_ HT_.out HW_.out (by kernel_rfl)) (fun _ _ _ h => h) (Or.inl ⟨by rfl, ?_⟩) hHeld ?_ ?_
  rotate_left
  · rintro w' ⟨s0, s1, s2, s3, s4⟩
    go_simp
    with_reducible rfl
  rotate_left
  · simp only [Act.put, List.setIfInBounds_toArray, List.set_cons_zero, List.set_cons_succ, i64_w, i32_w]
    rfl
  refine take_ (i := 8) (N := some 54) (v := ?_) (a' := ?_) (bs 15 1023) rfl rfl (zaT_ HT_.out HW_.out (by kernel_rfl)) (fun _ _ _ h => h) (Or.inl ⟨by rfl, ?_⟩) hHeld ?_ ?_
  rotate_left
  · rintro w' ⟨s0, s1, s2, s3, s4⟩
    go_simp
    with_reducible rfl
  rotate_left
  · simp only [Act.put, List.setIfInBounds_toArray, List.set_cons_zero, List.set_cons_succ, i64_w, i32_w]
    rfl
  refine take_ (i := 10) (N := some 56) (v := ?_) (a' := ?_) (bs 15 2047) rfl rfl (zaT_ HT_.out HW_.out (by kernel_rfl)) (fun _ _ _ h => h) (Or.inl ⟨by rfl, ?_⟩) hHeld ?_ ?_
  rotate_left
  · rintro w' ⟨s0, s1, s2, s3, s4⟩
    go_simp
    with_reducible rfl
  rotate_left
  · simp only [Act.put, List.setIfInBounds_toArray, List.set_cons_zero, List.set_cons_succ, i64_w, i32_w]
    rfl
  refine one_ (i := 11) (N := some 57) (bs 15 4095) rfl rfl (one_of HT_.out (by kernel_rfl)) (by decide) (fun K hK => ?_)
  refine Kd.R_lit_step (Kd.int .i64) _ 3 ?hg (N := 57) ?hd (xs := ([t.f1, t.f2, t.f3, t.f4] : List Int)) (inner := [.int .i64 t.f1, .int .i64 t.f2, .int .i64 t.f3, .int .i64 t.f4]) (ok := fun _ => True) (okp := fun _ => True) ?hr ?hp (fun _ hk => hk) trivial (Below.refl _ _) (Nat.le_refl _) (by simp) ?_; (case hd => rfl); (case hg => rfl); (case hr => first | (go_simp; done) | (go_simp; rfl)); (case hp => exact (Reps.one (show Kd.M (Kd.int .i64) _ _ _ t.f1 [.int .i64 t.f1] from rfl) (Reps.one (show Kd.M (Kd.int .i64) _ _ _ t.f2 [.int .i64 t.f2] from rfl) (Reps.one (show Kd.M (Kd.int .i64) _ _ _ t.f3 [.int .i64 t.f3] from rfl) (Reps.one (show Kd.M (Kd.int .i64) _ _ _ t.f4 [.int .i64 t.f4] from rfl) ((Reps.none _ _)))))))
  intro d4 w8 ho hb hg_ hnew_
  clear hg_ hnew_
  have HO := Aside0.mk ho
  clear ho
  have hp_ := HP.out.below hb
  clear HP
  have HP := Aside0.mk hp_
  clear hp_
  have bt_ := zan_ BT.out hb
  clear BT
  have BT := Aside0.mk bt_
  clear bt_ hb
  obtain ⟨Ao, co, eo⟩ := Kd.zbf_ HO.out
  have HO := Aside0.mk (eo ▸ HO.out)
  have EO := Aside0.mk eo
  clear eo
  refine hK.out _ _ ⟨(zab_ BT.out 0).trans rfl, (zab_ BT.out 1).trans rfl, (zab_ BT.out 2).trans rfl, (zab_ BT.out 3).trans rfl, (zab_ BT.out 4).trans rfl⟩ (fun hHeld => ?_)
  clear hK K
  refine norm_ (a' := ?_) ?_ ?_
  rotate_left
  · show Act.put _ (some 57) _ = _
    simp only [Act.put, List.setIfInBounds_toArray, List.set_cons_zero, List.set_cons_succ, i64_w, i32_w]
    rfl
  refine one_ (i := 12) (N := some 58) (bs 15 8191) rfl rfl (one_of HT_.out (by kernel_rfl)) (by decide) (fun K hK => ?_)
  refine goes_ Tryd.func36 (by kernel_rfl) rfl #[d4] (by rfl) rfl rfl (by (try simp only [List.map_toArray, List.map_cons, List.map_nil]); first | done | rfl | (simp only [List.length_drop, List.length_take]; rfl)) ?_
  with_reducible refine (calls_of_args (show #[d4] = #[.slice Ao ([t.f1, t.f2, t.f3, t.f4] : List Int).length co] by rw [EO.out]) (zaZ_.calls k Ao co [t.f1, t.f2, t.f3, t.f4] sn _ (Kd.zaS_ HO.out).2.2 (Kd.zaS_ HO.out).2.1 (Glob.below HG.out HP.out.be) HSN.out)).mono ?_
  rintro e_ w9 ⟨rfl, hb⟩
  refine ⟨_, rfl, ?_⟩
  have hp_ := HP.out.below hb
  clear HP
  have HP := Aside0.mk hp_
  clear hp_
  have bt_ := zan_ BT.out hb
  clear BT
  have BT := Aside0.mk bt_
  clear bt_ hb
  clear HO
  refine hK.out _ _ ⟨(zab_ BT.out 0).trans rfl, (zab_ BT.out 1).trans rfl, (zab_ BT.out 2).trans rfl, (zab_ BT.out 3).trans rfl, (zab_ BT.out 4).trans rfl⟩ (fun hHeld => ?_)
  clear hK K
  refine norm_ (a' := ?_) ?_ ?_
  rotate_left
  · show Act.put _ (some 58) _ = _
    simp only [Act.put, List.setIfInBounds_toArray, List.set_cons_zero, List.set_cons_succ, i64_w, i32_w]
    rfl
  refine pure_ (i := 13) (N := some 59) (v := ?_) (a' := ?_) (bs 15 16383) rfl rfl (any_of HT_.out (by kernel_rfl)) (fun _ _ _ h => h) (Or.inl ⟨by rfl, ?_⟩) ?_ ?_
  rotate_left
  · intro w'
    go_simp
    with_reducible rfl
  rotate_left
  · simp only [Act.put, List.setIfInBounds_toArray, List.set_cons_zero, List.set_cons_succ, i64_w, i32_w]
    rfl
  refine one_ (i := 14) (N := some 60) (bs 15 32767) rfl rfl (one_of HT_.out (by kernel_rfl)) (by decide) (fun K hK => ?_)
  refine goes_ Tryd.func34 (by kernel_rfl) rfl #[.pointer (some ⟨gb, 0, none⟩), .string (((⟨#[116, 97, 115, 107, 32]⟩ : ByteArray) ++ t.f0) ++ sn)] (by rfl) rfl rfl (by (try simp only [List.map_toArray, List.map_cons, List.map_nil]); first | done | rfl | (simp only [List.length_drop, List.length_take]; rfl)) ?_
  with_reducible refine (bWrite_ w.heap.size gb (Lib.strCells acc) (((⟨#[116, 97, 115, 107, 32]⟩ : ByteArray) ++ t.f0) ++ sn) _ HP.out.bl (by rw [Lib.strCells_length]; simp only [ByteArray.size_append]; have := HSZ.out; simp only [ByteArray.size, List.size_toArray, List.length_cons, List.length_nil] at this ⊢; omega) HP.out.be.size).mono ?_
  rintro e_ d6 ⟨v_, rfl, hA, hb, hk⟩
  refine ⟨_, rfl, ?_⟩
  have bt_ := blk_wrote BT.out (by decide) (by decide) HP.out.bl hk
  clear BT
  have BT := Aside0.mk bt_
  clear bt_
  have hp_ := HP.out.write hA hb hk
  clear HP
  have HP := Aside0.mk hp_
  clear hp_ hA hb hk
  refine hK.out _ _ ⟨(zab_ BT.out 0).trans rfl, (zab_ BT.out 1).trans rfl, (zab_ BT.out 2).trans rfl, (zab_ BT.out 3).trans rfl, (zab_ BT.out 4).trans rfl⟩ (fun hHeld => ?_)
  clear hK K
  refine norm_ (a' := ?_) ?_ ?_
  rotate_left
  · show Act.put _ (some 60) _ = _
    simp only [Act.put, List.setIfInBounds_toArray, List.set_cons_zero, List.set_cons_succ, i64_w, i32_w]
    rfl
  refine done_ (done_of HT_.out (by kernel_rfl)) ?_
  clear z1 z2
  have ht_5 : d6.cell? ⟨gt, 5, none⟩ = some (.slice A5 t.f5.length c5) := (zab_ BT.out 5).trans rfl
  go_wp2
  go_loopg [64] t.f5.length (fun kq d7 w' => ∃ (j : Nat) (acc : ByteArray), d7 = .int .i64 j ∧ Aside0 (kq + j = t.f5.length) ∧ Aside0 (zau_.lp (t.f5.drop j) acc = some b2) ∧ Aside0 (PS w gs gb #[.int .i64 a7, .slice a8 a6.length a9, .slice b0 a5.length b1, .slice (some ad) a4.length b3] acc w'))
  case atStart => exact ⟨0, _, rfl, ⟨by omega⟩, HB2P, HP⟩
  clear HP HB2P BT ht_5
  obtain ⟨j, acc2, rfl, HJ, HB2P, HP⟩ := hrel
  by_cases hlj : j < t.f5.length
  rotate_left
  · have hn : t.f5.length ≤ j := by omega
    have h := HB2P.out
    rw [List.drop_eq_nil_of_le hn] at h
    obtain rfl : acc2 = b2 := Option.some.inj h
    clear h HB2P
    go_wp2_with (first | (go_at_call 34; refine (bWrite_ w.heap.size gb (Lib.strCells acc2) (⟨#[10]⟩ : ByteArray) _ HP.out.bl (by rw [Lib.strCells_length]; have := HSY.out; simp only [ByteArray.size, List.size_toArray, List.length_cons, List.length_nil] at this ⊢; omega) HP.out.be.size).mono ?_; rintro e_ w9 ⟨v_, rfl, hA, hb, hk⟩; have HP3 := Aside0.mk (HP.out.write hA hb hk); clear hA hb hk))
    go_roundg (gko - 1)
    case measure => have := HI.out; omega
    case rel => exact ⟨i + 1, _, congrArg (Value.int .i64) (show wrap64 ((i : Int) + 1) = ((i + 1 : Nat) : Int) by have := HL6.out; unfold wrap64; omega), ⟨by have := HI.out; omega⟩, H, HP3⟩
  have pj : (0 : Int) ≤ (j : Int) := by omega
  have qj : (j : Int) < (t.f5.length : Int) := by omega
  obtain ⟨ad5, e5, hy0, hy1, hy2⟩ := at_T50 HI5.out (j : Int) pj qj
  cases e5
  have eg : rd_T50 t.f5 (j : Int) = t.f5[j] := by unfold rd_T50; simp [hlj]
  simp only [Int.toNat_natCast, eg] at hy0 hy1 hy2
  have h := HB2P.out
  rw [List.drop_eq_getElem_cons hlj] at h
  clear HB2P eg
  generalize t.f5[j] = q at hy0 hy1 hy2 h
  unfold zau_.lp at h
  obtain ⟨sp, hsp, h⟩ := Option.bind_eq_some_iff.1 h
  have HSP := Aside0.mk hsp
  clear hsp
  by_cases cz : acc2.size + sp.size ≤ 1000000000
  rotate_left
  · rw [if_neg cz] at h; cases h
  rw [if_pos cz] at h
  have HSX := Aside0.mk cz
  have HB2P := Aside0.mk h
  clear h
  have z1 : (9223372036854775807 < 1 + sp.size) = False := eq_false (by omega)
  clear cz
  replace hy0 := (HP.out.be.cell (World.block_lt_of_cell? w _ hy0)).trans hy0
  replace hy1 := (HP.out.be.cell (World.block_lt_of_cell? w _ hy1)).trans hy1
  replace hy2 := (HP.out.be.cell (World.block_lt_of_cell? w _ hy2)).trans hy2
  go_wp2_with (first | (go_at_call 37; refine (zbx_.calls q.f0 q.f1 q.f2 sp _ (Glob.below HG.out (zah_ HP.out.be _)) HSP.out).mono ?_; rintro e_ w8 ⟨rfl, hb⟩; have HP2 := Aside0.mk ((HP.out.below (zah_ (Below.refl _ _) _)).below hb); clear hb) | (go_at_call 34; refine (bWrite_ w.heap.size gb (Lib.strCells acc2) ((⟨#[32]⟩ : ByteArray) ++ sp) _ HP2.out.bl (by rw [Lib.strCells_length]; simp only [ByteArray.size_append]; have := HSX.out; simp only [ByteArray.size, List.size_toArray, List.length_cons, List.length_nil] at this ⊢; omega) HP2.out.be.size).mono ?_; rintro e_ w9 ⟨v_, rfl, hA, hb, hk⟩; have HP3 := Aside0.mk (HP2.out.write hA hb hk); clear hA hb hk))
  go_roundg (gk - 1)
  case measure => have := HJ.out; omega
  case rel => exact ⟨j + 1, _, congrArg (Value.int .i64) (show wrap64 ((j : Int) + 1) = ((j + 1 : Nat) : Int) by have := HI5.out.2.1; unfold wrap64; omega), ⟨by have := HJ.out; omega⟩, HB2P, HP3⟩
end Go.Proofs.YtgkjoodlcojkkaaDoor.QD
end
section
namespace Go.Proofs.YtgkjoodlcojkkaaDoor.Y
open Go.RowKit Go.Proofs.YtgkjoodlcojkkaaDoorW.PrintWords Go.Proofs.YtgkjoodlcojkkaaDoorW.PrintLast Go.Proofs.YtgkjoodlcojkkaaDoorW.PrintMore Go.Proofs.YtgkjoodlcojkkaaDoor.QD
set_option linter.unusedVariables false
set_option linter.unusedSimpArgs false
theorem splitL_piece (c : UInt8) : ∀ (l : Bs), ∀ p ∈ splitL c l, p.length ≤ l.length
  | [], p, h => by simp [splitL] at h; simp [h]
  | x :: xs, p, h => by
    have ih := splitL_piece c xs
    unfold splitL at h
    split at h
    · rcases List.mem_cons.1 h with rfl | h
      · simp
      · have := ih p h; simp; omega
    · split at h
      · simp at h; subst h; simp
      · rename_i q qs hq
        rcases List.mem_cons.1 h with rfl | h
        · have := ih q (by rw [hq]; simp); simp; omega
        · have := ih p (by rw [hq]; simp [h]); simp; omega
def T4 (x : S50 × Int) : Int × Int × Int × Int := (x.1.f0, x.1.f1, x.1.f2, x.2)
def readsQ (q : List Bs) (b : Bool) : S50 × Int := if b = true then (z50, 18) else match numbersS (q.drop 1) with
    | none => (z50, 10)
    | some n => partOf (q.getD 0 []) n
theorem readsS_q (w : Bs) : readsS w = readsQ (splitL 58 w) (nestB w) := rfl
theorem rd0_ (n : List Int) : rd n 0 = n.getD 0 0 := rfl
theorem rd1_ (n : List Int) : rd n 1 = n.getD 1 0 := rfl
theorem reads_j2 (q : List Bs) (hq : q ≠ []) (n : List Int) (b : Bool) (hb : b = true → n.length = 1) (k : Nat) :
    zas_.j2 (k + 1) (q.map B) n b = some (if b = true then (2, n.getD 0 0, 0, 0) else if q.getD 0 [] = lockW ∧ n.length = 2 then (3, n.getD 1 0, n.getD 0 0, 0) else (0, 0, 0, 10)) := by
  have hl : 0 < q.length := List.length_pos_iff.2 hq
  rw [zas_.j2]
  by_cases h : b = true
  · have := hb h
    rw [if_pos h, if_pos h, if_pos (by omega), rd0_]
  · rw [if_neg h, if_neg h, List.length_map, if_pos (by omega), rdw0]
    by_cases h1 : q.getD 0 [] = ([108, 111, 99, 107] : List UInt8)
    · rw [if_pos h1]
      by_cases h2 : n.length = 2
      · rw [if_pos (by omega), if_pos (by omega), if_pos (by omega), if_pos ⟨h1, h2⟩, rd0_, rd1_]
      · rw [if_neg (by omega), if_neg (fun h => h2 h.2)]
    · rw [if_neg h1, if_neg (fun h => h1 h.1)]
theorem reads_j1 (q : List Bs) (hq : q ≠ []) (n : List Int) (b : Bool) (hb : b = true → n.length = 1) (k : Nat) :
    zas_.j1 (k + 2) (q.map B) n b = some (if b = true then (1, n.getD 0 0, 0, 0) else if q.getD 0 [] = sleepB ∧ n.length = 1 then (2, n.getD 0 0, 0, 0) else if q.getD 0 [] = lockW ∧ n.length = 2 then (3, n.getD 1 0, n.getD 0 0, 0) else (0, 0, 0, 10)) := by
  have hl : 0 < q.length := List.length_pos_iff.2 hq
  rw [zas_.j1]
  by_cases h : b = true
  · have := hb h
    rw [if_pos h, if_pos h, if_pos (by omega), rd0_]
  · rw [if_neg h, if_neg h, List.length_map, if_pos (by omega), rdw0]
    by_cases h1 : q.getD 0 [] = ([115, 108, 101, 101, 112] : List UInt8)
    · rw [if_pos h1, reads_j2 q hq n _ (fun e => by have := beq_iff_eq.1 e; omega)]
      by_cases h2 : n.length = 1
      · rw [if_pos (beq_iff_eq.2 (by omega)), if_pos ⟨h1, h2⟩]
      · have n1 : ¬ (q.getD 0 [] = sleepB ∧ n.length = 1) := fun e => h2 e.2
        rw [if_neg (fun e => h2 (by have := beq_iff_eq.1 e; omega)), if_neg n1]
    · have n1 : ¬ (q.getD 0 [] = sleepB ∧ n.length = 1) := fun e => h1 e.1
      rw [if_neg h1, reads_j2 q hq n _ (fun e => by cases e), if_neg Bool.false_ne_true, if_neg n1]
theorem numbers_some {ps : List Bs} {n : List Int} (hn : numbersS ps = some n) (hs : ∀ p ∈ ps, p.length ≤ 281474976710656) (hl : ps.length < 17592186044416) (k : Nat) (hk : ps.length < k) : zaq_.f k (ps.map B) = some (n, true) := by rw [numbers_eq ps hs hl k hk, hn]; rfl
theorem numbers_none {ps : List Bs} (hn : numbersS ps = none) (hs : ∀ p ∈ ps, p.length ≤ 281474976710656) (hl : ps.length < 17592186044416) (k : Nat) (hk : ps.length < k) : zaq_.f k (ps.map B) = some ([], false) := by rw [numbers_eq ps hs hl k hk, hn]; rfl
theorem reads_j0 (q : List Bs) (hq : q ≠ []) (b : Bool) (hs : ∀ p ∈ q, p.length ≤ 281474976710656) (hl : q.length < 17592186044416) (k : Nat) (hk : q.length < k) :
    zas_.j0 (k + 3) (q.map B) b = some (T4 (readsQ q b)) := by
  have hlp : 0 < q.length := List.length_pos_iff.2 hq
  rw [zas_.j0]
  unfold readsQ
  by_cases h : b = true
  · rw [if_pos h, if_pos h]; rfl
  · rw [if_neg h, if_neg h, List.length_map, if_pos (by omega), ← List.map_drop]
    cases hn : numbersS (q.drop 1) with
    | none => rw [numbers_none hn (fun p hp => hs p (List.drop_subset _ _ hp)) (by rw [List.length_drop]; omega) (k + 2) (by rw [List.length_drop]; omega)]; rfl
    | some n =>
      rw [numbers_some hn (fun p hp => hs p (List.drop_subset _ _ hp)) (by rw [List.length_drop]; omega) (k + 2) (by rw [List.length_drop]; omega), Option.bind_some, if_pos (show ((n, true) : List Int × Bool).2 = true from rfl), if_pos (by omega), rdw0]
      show (if q.getD 0 [] = ([114, 117, 110] : List UInt8) then zas_.j1 (k + 2) (q.map B) n ((n.length : Int) == 1) else zas_.j1 (k + 2) (q.map B) n false) = some (T4 (partOf (q.getD 0 []) n))
      unfold partOf
      by_cases h1 : q.getD 0 [] = ([114, 117, 110] : List UInt8)
      · rw [if_pos h1, reads_j1 q hq n _ (fun e => by have := beq_iff_eq.1 e; omega)]
        by_cases h2 : n.length = 1
        · rw [if_pos (beq_iff_eq.2 (by omega)), if_pos ⟨h1, h2⟩]; rfl
        · have n1 : ¬ (q.getD 0 [] = sleepB ∧ n.length = 1) := fun e => h2 e.2
          have n2 : ¬ (q.getD 0 [] = runB ∧ n.length = 1) := fun e => h2 e.2
          have n3 : ¬ (q.getD 0 [] = lockW ∧ n.length = 2) := fun e => absurd (h1.symm.trans e.1) (by decide)
          rw [if_neg (fun e => h2 (by have := beq_iff_eq.1 e; omega)), if_neg n1, if_neg n3, if_neg n2, if_neg n1, if_neg n3]; rfl
      · have n2 : ¬ (q.getD 0 [] = runB ∧ n.length = 1) := fun e => h1 e.1
        rw [if_neg h1, reads_j1 q hq n _ (fun e => by cases e), if_neg Bool.false_ne_true, if_neg n2]
        by_cases n1 : q.getD 0 [] = sleepB ∧ n.length = 1
        · rw [if_pos n1, if_pos n1]; rfl
        · rw [if_neg n1, if_neg n1]
          by_cases n3 : q.getD 0 [] = lockW ∧ n.length = 2
          · rw [if_pos n3, if_pos n3]; rfl
          · rw [if_neg n3, if_neg n3]; rfl
theorem prefix_len {w : Bs} (h : Lib.hasPrefix w lockB = true) : 5 ≤ w.length := by
  unfold Lib.hasPrefix at h
  have := (List.isPrefixOf_iff_prefix.1 h).length_le
  simpa [lockB] using this
theorem reads_eq (w : Bs) (hw : w.length ≤ 1000000) (k : Nat) (hk : w.length + 10 < k) : zas_.f k (B w) = some (T4 (readsS w)) := by
  obtain ⟨k, rfl⟩ : ∃ j, k = j + 3 := ⟨k - 3, by omega⟩
  have hq := splitL_ne 58 w
  have hle := splitL_len 58 w
  have hj := fun b => reads_j0 (splitL 58 w) hq b (fun p hp => by have := splitL_piece 58 w p hp; omega) (by omega) k (by omega)
  unfold zas_.f strings_HasPrefix.f
  rw [show (⟨#[58]⟩ : ByteArray) = B [58] from rfl, Split_eq 58 w (by omega), Option.bind_some, Option.bind_some, show (⟨#[108, 111, 99, 107, 58]⟩ : ByteArray) = B lockB from rfl, data_B, data_B, readsS_q]
  by_cases h : Lib.hasPrefix w lockB = true
  · have h5 := prefix_len h
    rw [if_pos h, size_B, if_pos (by omega), extract_B]
    unfold strings_Contains.f
    rw [if_pos (by rw [size_B, List.length_drop, List.length_take]; omega), Option.bind_some, data_B, data_B, List.take_length, hj]
    unfold nestB
    rw [h, Bool.true_and]
  · rw [if_neg h, hj]
    unfold nestB
    rw [Bool.eq_false_iff.2 h, Bool.false_and]
theorem reads18 (w : Bs) : (readsS w).2 = 18 ↔ nestB w = true := by
  rw [readsS_q]
  unfold readsQ
  constructor
  · intro h
    by_cases c : nestB w = true
    · exact c
    · rw [if_neg c] at h
      cases hn : numbersS ((splitL 58 w).drop 1) with
      | none => rw [hn] at h; exact absurd (show (10 : Int) = 18 from h) (by decide)
      | some n =>
        rw [hn] at h
        simp only [partOf] at h
        split at h
        · exact absurd (show (0 : Int) = 18 from h) (by decide)
        · split at h
          · exact absurd (show (0 : Int) = 18 from h) (by decide)
          · split at h
            · exact absurd (show (0 : Int) = 18 from h) (by decide)
            · exact absurd (show (10 : Int) = 18 from h) (by decide)
  · intro h; rw [if_pos h]
theorem nested_loop (ps : List Bs) (m : Nat) (hs : ∀ p ∈ ps, p.length ≤ m) (hm : m ≤ 1000000) (hl : ps.length < 1000000000) : ∀ (n i k : Nat), i + n = ps.length → n + m + 10 < k →
    zaN_.l0 k (ps.map B) (ps.length : Int) (i : Int) = some ((ps.drop i).any nestB)
  | n, i, 0, hn, hk => by omega
  | 0, i, k + 1, hn, hk => by
    unfold zaN_.l0
    rw [if_neg (by omega), List.drop_eq_nil_of_le (by omega)]
    rfl
  | n + 1, i, k + 1, hn, hk => by
    unfold zaN_.l0
    have hi : i < ps.length := by omega
    have e0 : ps.getD i [] = ps[i] := by simp [hi]
    have hp := hs _ (List.getElem_mem hi)
    rw [if_pos (by omega), if_pos (by omega), List.length_map, if_pos (by omega), rdOf_B, e0, reads_eq _ (by omega) k (by omega), Option.bind_some, w64s i (by omega), nested_loop ps m hs hm hl n (i + 1) k (by omega) (by omega), List.drop_eq_getElem_cons hi, List.any_cons]
    by_cases h : nestB ps[i] = true
    · rw [if_pos (show (T4 (readsS ps[i])).2.2.2 = 18 from (reads18 _).2 h), h]; rfl
    · rw [if_neg (show ¬ (T4 (readsS ps[i])).2.2.2 = 18 from fun e => h ((reads18 _).1 e)), Bool.eq_false_iff.2 h]; rfl
theorem nested_eq (ps : List Bs) (m : Nat) (hs : ∀ p ∈ ps, p.length ≤ m) (hm : m ≤ 1000000) (hl : ps.length < 1000000000) (k : Nat) (hk : ps.length + m + 10 < k) : zaN_.f k (ps.map B) = some (ps.any nestB) := by
  unfold zaN_.f
  rw [List.length_map]
  have := nested_loop ps m hs hm hl ps.length 0 k (by omega) hk
  simpa using this
def T7 (x : S53 × Int) : ByteArray × Int × Int × Int × Int × (List (S50)) × Int := (x.1.f0, x.1.f1, x.1.f2, x.1.f3, x.1.f4, x.1.f5, x.2)
theorem parts_loop (bad : Int) (nm : ByteArray) (a b c d : Int) (ps : List Bs) (m : Nat) (hs : ∀ p ∈ ps, p.length ≤ m) (hm : m ≤ 1000000) (hl : ps.length < 1000000000) : ∀ (n : Nat) (out : List S50) (i k : Nat), i + n = ps.length → n + m + 10 < k → out.length ≤ i →
    zay_.l0 k bad (ps.map B) (ps.length : Int) (i : Int) nm a b c d out = some (match partsS (ps.drop i) with | some l => (nm, a, b, c, d, out ++ l, 0) | none => (⟨#[]⟩, 0, 0, 0, 0, [], bad))
  | n, out, i, 0, hn, hk, ho => by omega
  | 0, out, i, k + 1, hn, hk, ho => by
    rw [zay_.l0, if_neg (by omega), List.drop_eq_nil_of_le (by omega)]
    simp [partsS]
  | n + 1, out, i, k + 1, hn, hk, ho => by
    have hi : i < ps.length := by omega
    have e0 : ps.getD i [] = ps[i] := by simp [hi]
    have hp := hs _ (List.getElem_mem hi)
    rw [zay_.l0, if_pos (by omega), if_pos (by omega), List.length_map, if_pos (by omega), rdOf_B, e0, reads_eq _ (by omega) k (by omega), Option.bind_some, w64s i (by omega), List.drop_eq_getElem_cons hi]
    unfold partsS
    by_cases h : (readsS ps[i]).2 = 0
    · rw [if_pos (show (T4 (readsS ps[i])).2.2.2 = 0 from h), if_pos h, if_pos (by omega), parts_loop bad nm a b c d ps m hs hm hl n _ (i + 1) k (by omega) (by omega) (by simp; omega)]
      cases partsS (ps.drop (i + 1)) with
      | none => rfl
      | some l => simp [T4]
    · rw [if_neg (show ¬ (T4 (readsS ps[i])).2.2.2 = 0 from h), if_neg h]
theorem numbersS_len : ∀ (l : List Bs) (n : List Int), numbersS l = some n → n.length = l.length
  | [], n, h => by simp [numbersS] at h; subst h; rfl
  | w :: ws, n, h => by
    rw [zbE_] at h
    by_cases c : (numS w).2 = true
    · rw [if_pos c] at h
      cases hn : numbersS ws with
      | none => rw [hn] at h; simp at h
      | some l =>
        rw [hn] at h
        simp at h
        subst h
        simp [numbersS_len ws l hn]
    · rw [if_neg c] at h; cases h
theorem tasked_eq (ws : List Bs) (hne : ws ≠ []) (m : Nat) (hs : ∀ p ∈ ws, p.length ≤ m) (hm : m ≤ 1000000) (hl : ws.length < 1000000000) (k : Nat) (hk : ws.length + m + 20 < k) : zay_.f k (ws.map B) = some (T7 (taskedS ws)) := by
  have hlp : 0 < ws.length := List.length_pos_iff.2 hne
  have key : ∀ bad : Int, zay_.j0 k (ws.map B) bad = some (T7 (if ws.length < 6 then (z53, bad) else match numbersS ((ws.take 6).drop 2) with
      | none => (z53, bad)
      | some n => match partsS (ws.drop 6) with
        | none => (z53, bad)
        | some ps => (⟨B (ws.getD 1 []), n.getD 0 0, n.getD 1 0, n.getD 2 0, n.getD 3 0, ps⟩, 0))) := by
    intro bad
    obtain ⟨k, rfl⟩ : ∃ j, k = j + 1 := ⟨k - 1, by omega⟩
    rw [zay_.j0, List.length_map]
    by_cases h6 : ws.length < 6
    · rw [if_pos (by omega), if_pos h6]; rfl
    · have e1 : ((ws.map B).take 6).drop 2 = (((ws.take 6).drop 2)).map B := by rw [List.map_drop, List.map_take]
      rw [if_neg (by omega), if_neg h6, if_pos (by decide), if_pos (by omega), e1]
      cases hn : numbersS ((ws.take 6).drop 2) with
      | none => rw [numbers_none hn (fun p hp => by have := hs p (List.take_subset _ _ (List.drop_subset _ _ hp)); omega) (by rw [List.length_drop, List.length_take]; omega) k (by rw [List.length_drop, List.length_take]; omega)]; rfl
      | some n =>
        have hnl : n.length = 4 := by rw [numbersS_len _ n hn, List.length_drop, List.length_take]; omega
        have e2 : (rdOf ByteArray.empty (ws.map B) 1) = B (ws.getD 1 []) := rdOf_B ws 1
        rw [numbers_some hn (fun p hp => by have := hs p (List.take_subset _ _ (List.drop_subset _ _ hp)); omega) (by rw [List.length_drop, List.length_take]; omega) k (by rw [List.length_drop, List.length_take]; omega), Option.bind_some, if_pos (show ((n, true) : List Int × Bool).2 = true from rfl), if_pos (by omega),
          if_pos (show (0 : Int) < (n.length : Int) by omega), if_pos (show (1 : Int) < (n.length : Int) by omega), if_pos (show (2 : Int) < (n.length : Int) by omega), if_pos (show (3 : Int) < (n.length : Int) by omega), e2, ← List.map_drop, List.length_map]
        have := parts_loop bad (B (ws.getD 1 [])) (rd n 0) (rd n 1) (rd n 2) (rd n 3) (ws.drop 6) m (fun p hp => hs p (List.drop_subset _ _ hp)) hm (by rw [List.length_drop]; omega) (ws.drop 6).length [] 0 k (by omega) (by rw [List.length_drop]; omega) (Nat.zero_le _)
        rw [List.drop_zero] at this
        refine Eq.trans this ?_
        cases partsS (ws.drop 6) with
        | none => rfl
        | some l => rfl
  unfold zay_.f
  rw [List.length_map, if_pos (by omega), ← List.map_drop, nested_eq _ m (fun p hp => hs p (List.drop_subset _ _ hp)) hm (by rw [List.length_drop]; omega) k (by rw [List.length_drop]; omega), Option.bind_some]
  unfold taskedS badS
  by_cases h : (ws.drop 1).any nestB = true
  · rw [if_pos h, key, if_pos h]; rfl
  · rw [if_neg h, key, if_neg h]; rfl
theorem partsS_len : ∀ (l : List Bs) (n : List S50), partsS l = some n → n.length = l.length
  | [], n, h => by simp [partsS] at h; subst h; rfl
  | w :: ws, n, h => by
    unfold partsS at h
    by_cases c : (readsS w).2 = 0
    · rw [if_pos c] at h
      cases hn : partsS ws with
      | none => rw [hn] at h; simp at h
      | some l =>
        rw [hn] at h
        simp at h
        subst h
        simp [partsS_len ws l hn]
    · rw [if_neg c] at h; cases h
theorem getD_len (ws : List Bs) (m i : Nat) (hs : ∀ p ∈ ws, p.length ≤ m) : (ws.getD i []).length ≤ m := by
  by_cases h : i < ws.length
  · rw [show ws.getD i [] = ws[i] by simp [h]]; exact hs _ (List.getElem_mem h)
  · simp [h]
theorem taskedS_small (ws : List Bs) (m : Nat) (hs : ∀ p ∈ ws, p.length ≤ m) (hl : ws.length ≤ m) : (taskedS ws).1.f0.size ≤ m ∧ (taskedS ws).1.f5.length ≤ m := by
  have hz : z53.f0.size ≤ m ∧ z53.f5.length ≤ m := ⟨by show (0 : Nat) ≤ m; omega, by show (0 : Nat) ≤ m; omega⟩
  unfold taskedS
  split
  · exact hz
  · split
    · exact hz
    · split
      · exact hz
      · rename_i ps hps
        have := partsS_len _ ps hps
        rw [List.length_drop] at this
        refine ⟨?_, ?_⟩
        · show (B (ws.getD 1 [])).size ≤ m
          rw [size_B]; exact getD_len ws m 1 hs
        · show ps.length ≤ m; omega
theorem tasksS_facts (m : Nat) : ∀ (rs : List (Nat × List Bs)), (∀ r ∈ rs, r.2.length ≤ m ∧ ∀ p ∈ r.2, p.length ≤ m) → (∀ t ∈ (tasksS rs).1, t.f0.size ≤ m ∧ t.f5.length ≤ m) ∧ ((tasksS rs).2.2 = 0 → (tasksS rs).1.length = rs.length)
  | [], _ => ⟨fun t ht => by simp [tasksS] at ht, fun _ => rfl⟩
  | r :: rs, h => by
    have ih := tasksS_facts m rs (fun x hx => h x (by simp [hx]))
    have hr := h r (by simp)
    unfold tasksS
    split
    · split
      · refine ⟨fun t ht => ?_, fun e => ?_⟩
        · rcases List.mem_cons.1 ht with rfl | ht
          · exact taskedS_small r.2 m hr.2 hr.1
          · exact ih.1 t ht
        · simp [ih.2 e]
      · rename_i hne
        exact ⟨fun t ht => by simp at ht, fun e => absurd e hne⟩
    · exact ⟨fun t ht => by simp at ht, fun e => absurd (show (10 : Int) = 0 from e) (by decide)⟩
theorem checkGo_lt (cs hs : List Int) (ts : List S53) : ∀ (l : List S53) (i : Nat), 0 ≤ (checkGo cs hs ts i l).1 → (checkGo cs hs ts i l).1 < ((i + l.length : Nat) : Int)
  | [], i, h => by simp [checkGo] at h
  | t :: r, i, h => by
    unfold checkGo at h ⊢
    by_cases c : oneS cs hs ts t i = 0
    · rw [if_pos c] at h ⊢
      have := checkGo_lt cs hs ts r (i + 1) h
      simp only [List.length_cons]; omega
    · rw [if_neg c]
      simp only [List.length_cons]; omega
theorem checkS_lt (p : Int) (cs hs : List Int) (ts : List S53) (h : 0 ≤ (checkS p cs hs ts).1) : (checkS p cs hs ts).1 < (ts.length : Int) := by
  unfold checkS at h ⊢
  split at h
  · rename_i h1
    rw [if_pos h1]
    split at h
    · rename_i h2
      rw [if_pos h2]
      split at h
      · exact absurd h (by decide)
      · rename_i h3
        rw [if_neg h3]
        split at h
        · exact absurd h (by decide)
        · rename_i h4
          rw [if_neg h4]
          have := checkGo_lt cs hs ts ts 0 h
          omega
    · exact absurd h (by decide)
  · exact absurd h (by decide)
theorem headS_first (rs : List (Nat × List Bs)) (h : (headS rs).2.2.2.2 = true) : 2 ≤ (headS rs).2.2.2.1 ∧ (headS rs).2.2.2.1 ≤ rs.length := by
  revert h
  match rs with
  | [] => intro h; exact absurd (show false = true from h) (by decide)
  | [r0] =>
    intro h
    simp only [headS, headT] at h
    split at h
    · split at h
      · split at h <;> exact absurd (show false = true from h) (by decide)
      · exact absurd (show false = true from h) (by decide)
    · exact absurd (show false = true from h) (by decide)
  | r0 :: r1 :: rest =>
    simp only [headS, headT]
    split
    · split
      · split
        · intro h; exact absurd (show false = true from h) (by decide)
        · split
          · split
            · intro h; exact absurd (show false = true from h) (by decide)
            · intro h; exact absurd (show false = true from h) (by decide)
            · split
              · intro h; simp
              · split
                · split
                  · intro h; exact absurd (show false = true from h) (by decide)
                  · intro h; exact absurd (show false = true from h) (by decide)
                  · intro h; simp
                · intro h; simp
          · intro h; exact absurd (show false = true from h) (by decide)
      · intro h; exact absurd (show false = true from h) (by decide)
    · intro h; exact absurd (show false = true from h) (by decide)
theorem fin_eq (rs : List (Nat × List Bs)) (all : Nat) (p : Int) (cs hs : List Int) (first : Nat) (ts : List S53) (m : Nat) (hb : ∀ t ∈ ts, t.f0.size ≤ m ∧ t.f5.length ≤ m) (h2 : 2 ≤ rs.length) (hf : first + ts.length ≤ rs.length) (k : Nat) (hk : 3 * m + 20 < k) (hk2 : k < 9223372036854775807) :
    zao_.fin k (rs.map R81) (all : Int) p cs hs (first : Int) ts = some (finS rs all p cs hs first ts) := by
  unfold zao_.fin finS
  rw [check_eq p cs hs ts (3 * m + 1) (fun t ht => by have := hb t ht; omega) k (by omega) hk2, Option.bind_some]
  by_cases c0 : (checkS p cs hs ts).2 = 0
  · rw [if_pos c0, if_pos c0]
  · rw [if_neg c0, if_neg c0]
    by_cases c1 : 0 ≤ (checkS p cs hs ts).1
    · have hlt := checkS_lt p cs hs ts c1
      obtain ⟨j, hj⟩ := Int.eq_ofNat_of_zero_le c1
      rw [if_pos c1, if_pos c1, List.length_map, if_pos (by omega), hj, Int.toNat_natCast, show ((first : Int) + (j : Int)) = ((first + j : Nat) : Int) by omega, rd_R81]
      rfl
    · rw [if_neg c1, if_neg c1]
      by_cases c2 : (checkS p cs hs ts).2 = 14
      · rw [if_pos c2, if_pos (Or.inl c2)]; rfl
      · rw [if_neg c2]
        by_cases c3 : (checkS p cs hs ts).2 = 11
        · rw [if_pos c3, if_pos (Or.inr c3)]; rfl
        · rw [if_neg c3, List.length_map, if_pos (show 1 < rs.length by omega), rd_R81_1, if_neg (fun e => e.elim c2 c3)]; rfl
theorem lp_eq (R : List S81) (nl p : Int) (cs hs : List Int) (first : Int) (m : Nat) (hm : m ≤ 1000000) (k : Nat) (hk : 2 * m + 30 < k) : ∀ (rs : List (Nat × List Bs)) (ts : List S53), (∀ r ∈ rs, r.2 ≠ [] ∧ r.2.length ≤ m ∧ ∀ q ∈ r.2, q.length ≤ m) → ts.length + rs.length ≤ 1000000 →
    zao_.lp k R nl p cs hs first (rs.map R81) ts = if (tasksS rs).2.2 = 0 then zao_.fin k R nl p cs hs first (ts ++ (tasksS rs).1) else some (zres (((tasksS rs).2.1 : Nat) : Int) (tasksS rs).2.2)
  | [], ts, _, _ => by
    rw [List.map_nil]
    unfold zao_.lp
    rw [if_pos (show (tasksS []).2.2 = 0 from rfl)]
    simp [tasksS]
  | r :: rs, ts, h, hl => by
    have hr := h r (by simp)
    have hlen : 0 < r.2.length := List.length_pos_iff.2 hr.1
    have hl' : ts.length + (rs.length + 1) ≤ 1000000 := by simpa using hl
    rw [List.map_cons]
    unfold zao_.lp tasksS
    rw [R81_f1, List.length_map, if_pos (by omega), rdw0, R81_f0]
    by_cases c : r.2.getD 0 [] = taskB
    · rw [if_pos (show r.2.getD 0 [] = ([116, 97, 115, 107] : List UInt8) from c), if_pos c, tasked_eq r.2 hr.1 m hr.2.2 hm (by omega) k (by omega), Option.bind_some]
      by_cases c0 : (taskedS r.2).2 = 0
      · rw [if_pos (show (T7 (taskedS r.2)).2.2.2.2.2.2 = 0 from c0), if_pos c0, if_pos (by omega)]
        have := lp_eq R nl p cs hs first m hm k hk rs (ts ++ [(taskedS r.2).1]) (fun x hx => h x (by simp [hx])) (by simp; omega)
        rw [List.append_assoc] at this
        exact this
      · rw [if_neg (show ¬ (T7 (taskedS r.2)).2.2.2.2.2.2 = 0 from c0), if_neg c0, if_neg c0]
        rfl
    · rw [if_neg (show ¬ r.2.getD 0 [] = ([116, 97, 115, 107] : List UInt8) from c), if_neg c, if_neg (show ¬ (10 : Int) = 0 by decide)]
theorem cutL_len' (c : UInt8) (l : Bs) : (cutL c l).length ≤ l.length + 1 := by
  have h := splitL_len c l
  unfold cutL dropLastE
  split
  · simp; omega
  · exact h
theorem cutL_piece (c : UInt8) (l : Bs) : ∀ p ∈ cutL c l, p.length ≤ l.length := by
  intro p hp
  refine splitL_piece c l p ?_
  unfold cutL dropLastE at hp
  split at hp
  · exact List.dropLast_subset _ hp
  · exact hp
theorem wordsL_piece (l : Bs) : ∀ p ∈ wordsL l, p.length ≤ l.length := by
  intro p hp
  have := splitL_piece 32 (upto l) p (List.mem_filter.1 hp).1
  have := upto_len l
  omega
theorem wordsL_len' (l : Bs) : (wordsL l).length ≤ l.length + 1 := by
  have h := splitL_len 32 (upto l)
  have h2 := upto_len l
  have h3 : (wordsL l).length ≤ (splitL 32 (upto l)).length := List.length_filter_le _ _
  omega
theorem rowsS_small (m : Nat) : ∀ (l : List Bs) (i : Nat), (∀ p ∈ l, p.length ≤ m) → ∀ r ∈ rowsS i l, r.2 ≠ [] ∧ r.2.length ≤ m + 1 ∧ ∀ q ∈ r.2, q.length ≤ m + 1
  | [], i, _, r, h => by simp [rowsS] at h
  | s :: ss, i, hs, r, h => by
    have ih := rowsS_small m ss (i + 1) (fun p hp => hs p (by simp [hp]))
    rw [rowsS_cons] at h
    by_cases c : wordsL s = []
    · rw [if_pos c] at h; exact ih r h
    · rw [if_neg c] at h
      rcases List.mem_cons.1 h with rfl | h
      · have h1 := hs s (by simp)
        have h2 := wordsL_len' s
        exact ⟨c, by show (wordsL s).length ≤ m + 1; omega, fun q hq => by have := wordsL_piece s q hq; omega⟩
      · exact ih r h
theorem parse_eq (l : Bs) (hl : l.length ≤ 1000000) (k : Nat) (hk : 20000 < k) (hk2 : k < 9223372036854775807) : zao_.f k (B l) = some (parseS l) := by
  unfold zao_.f parseS
  rw [size_B]
  by_cases h : l.length > 2000
  · rw [if_pos (by omega), if_pos h]; rfl
  · rw [if_neg (by omega), if_neg h]
    have c1 := cutL_len' 10 l
    have c2 := cutL_piece 10 l
    have hsm := rowsS_small 2000 (cutL 10 l) 0 (fun p hp => by have := c2 p hp; omega)
    have hrl := rowsS_len (cutL 10 l) 0
    rw [words_Lines_eq l (by omega), Option.bind_some, rows_eq (cutL 10 l) 2000 (fun p hp => by have := c2 p hp; omega) (by decide) (by omega) k (by omega), Option.bind_some]
    generalize rowsS 0 (cutL 10 l) = rs at hsm hrl ⊢
    rw [head_eq rs (fun r hr => (hsm r hr).1) (fun r hr p hp => by have := (hsm r hr).2.2 p hp; omega) 2001 (fun r hr => (hsm r hr).2.1) (by decide) k (by omega), Option.bind_some]
    unfold parseR
    by_cases ho : (headS rs).2.2.2.2 = true
    · have hf := headS_first rs ho
      rw [if_pos (show (hR (headS rs)).2.2.2.2.2 = true from ho), if_pos ho, if_pos (show (hR (headS rs)).2.2.2.1.length = 0 ∧ 0 ≤ (hR (headS rs)).2.2.2.2.1 ∧ (hR (headS rs)).2.2.2.2.1 ≤ ((rs.map R81).length : Int) ∧ (rs.map R81).length ≤ 1000000 from ⟨rfl, by show (0 : Int) ≤ (((headS rs).2.2.2.1 : Nat) : Int); omega, by show (((headS rs).2.2.2.1 : Nat) : Int) ≤ _; rw [List.length_map]; omega, by rw [List.length_map]; omega⟩)]
      have hd : (rs.map R81).drop (hR (headS rs)).2.2.2.2.1.toNat = (rs.drop (headS rs).2.2.2.1).map R81 := by rw [List.map_drop]; rfl
      have hft := tasksS_facts 2001 (rs.drop (headS rs).2.2.2.1) (fun r hr => (hsm r (List.drop_subset _ _ hr)).2)
      rw [hd, lp_eq _ _ _ _ _ _ 2001 (by decide) k (by omega) _ [] (fun r hr => hsm r (List.drop_subset _ _ hr)) (by rw [List.length_drop]; simp; omega), List.nil_append]
      by_cases c0 : (tasksS (rs.drop (headS rs).2.2.2.1)).2.2 = 0
      · rw [if_pos c0, if_pos c0, List.length_map]
        exact fin_eq rs _ _ _ _ _ _ 2001 hft.1 (by omega) (by rw [hft.2 c0, List.length_drop]; omega) k (by omega) hk2
      · rw [if_neg c0, if_neg c0]; rfl
    · rw [if_neg (show ¬ (hR (headS rs)).2.2.2.2.2 = true from ho), if_neg ho, List.length_map]
      have hln := line_eq rs (headS rs).2.2.2.1 (((cutL 10 l).length : Nat) : Int)
      have : text_line.f (rs.map R81) (hR (headS rs)).2.2.2.2.1 (((cutL 10 l).length : Nat) : Int) = _ := hln
      rw [this, Option.bind_some]
      unfold zres bad
      by_cases c : (headS rs).2.2.2.1 < rs.length
      · rw [if_pos c, if_pos c]
      · rw [if_neg c, if_neg c]
theorem part_eq (q : S50) : zbx_.f q.f0 q.f1 q.f2 = some (B (partW q)) := by
  have l1 := textS_len q.f1
  have l2 := textS_len q.f2
  unfold zbx_.f partW
  by_cases h1 : q.f0 = 1
  · rw [if_pos h1, if_pos h1, words_Text_eq, Option.bind_some, size_B, if_pos (by omega), show (⟨#[114, 117, 110, 58]⟩ : ByteArray) = B [114, 117, 110, 58] from rfl, zbs_]; rfl
  · rw [if_neg h1, if_neg h1]
    by_cases h2 : q.f0 = 2
    · rw [if_pos h2, if_pos h2, words_Text_eq, Option.bind_some, size_B, if_pos (by omega), show (⟨#[115, 108, 101, 101, 112, 58]⟩ : ByteArray) = B [115, 108, 101, 101, 112, 58] from rfl, zbs_]; rfl
    · rw [if_neg h2, if_neg h2, words_Text_eq, Option.bind_some, size_B, if_pos (by omega), show (⟨#[108, 111, 99, 107, 58]⟩ : ByteArray) = B [108, 111, 99, 107, 58] from rfl, zbs_, size_B, if_pos (by simp; omega), words_Text_eq, Option.bind_some, show (⟨#[58]⟩ : ByteArray) = B [58] from rfl, zbs_, size_B, size_B, if_pos (by simp; omega), zbs_]
      simp [lockW]
theorem partW_len (q : S50) : (partW q).length ≤ 30 := by
  have l1 := textS_len q.f1
  have l2 := textS_len q.f2
  unfold partW
  split
  · simp [runB]; omega
  · split
    · simp [sleepB]; omega
    · simp [lockW]; omega
theorem lpP_eq : ∀ (qs : List S50) (b : Bs), b.length + 31 * qs.length ≤ 900000000 → zau_.lp qs (B b) = some (B (b ++ (qs.map partW).flatMap (32 :: ·)))
  | [], b, _ => by unfold zau_.lp; simp
  | q :: qs, b, h => by
    have hl := partW_len q
    have h' : b.length + 31 * (qs.length + 1) ≤ 900000000 := by simpa using h
    unfold zau_.lp
    rw [part_eq, Option.bind_some, size_B, size_B, if_pos (by omega), show (⟨#[32]⟩ : ByteArray) = B [32] from rfl, zbs_, zbs_, lpP_eq qs _ (by simp; omega)]
    simp
theorem numsS_flat : ∀ (l : List Int), numsS l = (l.map textS).flatMap (32 :: ·)
  | [] => rfl
  | n :: l => by rw [numsS, numsS_flat l]; simp
theorem numsS_len : ∀ (l : List Int), (numsS l).length ≤ 11 * l.length
  | [] => by simp [numsS]
  | n :: l => by
    have := numsS_len l
    have := textS_len n
    unfold numsS
    simp only [List.length_cons, List.length_append]
    omega
theorem flat_len (qs : List S50) : ((qs.map partW).flatMap (32 :: ·)).length ≤ 31 * qs.length := by
  induction qs with
  | nil => simp
  | cons q qs ih =>
    have := partW_len q
    rw [List.map_cons, List.flatMap_cons, List.length_append, List.length_cons, List.length_cons]
    omega
theorem ltP_eq (k : Nat) (hk : 10 < k) : ∀ (ts : List S53) (b : Bs), (∀ t ∈ ts, t.f0.size ≤ 1000 ∧ t.f5.length ≤ 1000) → b.length + 100000 * ts.length ≤ 100000000 → zau_.lt k ts (B b) = some (B (b ++ linesT (ts.map taskWs)))
  | [], b, _, _ => by unfold zau_.lt; simp [linesT]
  | t :: ts, b, hs, h => by
    have ht := hs t (by simp)
    have h' : b.length + 100000 * (ts.length + 1) ≤ 100000000 := by simpa using h
    have hn := numsS_len [t.f1, t.f2, t.f3, t.f4]
    have hsz : (B (t.f0.data.toList)).size ≤ 1000 := by rw [B_data]; exact ht.1
    rw [size_B] at hsz
    simp only [List.length_cons, List.length_nil] at hn
    unfold zau_.lt
    have hf := flat_len t.f5
    have e0 : t.f0 = B t.f0.data.toList := (B_data _).symm
    rw [nums_eq _ (by simp) k (by simp; omega), Option.bind_some, size_B, size_B, if_pos (by have := ht.1; omega)]
    have e1 : B b ++ (((⟨#[116, 97, 115, 107, 32]⟩ : ByteArray) ++ t.f0) ++ B (numsS [t.f1, t.f2, t.f3, t.f4])) = B (b ++ ([116, 97, 115, 107, 32] ++ t.f0.data.toList ++ numsS [t.f1, t.f2, t.f3, t.f4])) := by
      conv => lhs; rw [e0]
      rw [show (⟨#[116, 97, 115, 107, 32]⟩ : ByteArray) = B [116, 97, 115, 107, 32] from rfl, zbs_, zbs_, zbs_]
    rw [e1, lpP_eq _ _ (by simp only [List.length_append, List.length_cons, List.length_nil]; omega), Option.bind_some, size_B, if_pos (by simp only [List.length_append, List.length_cons, List.length_nil]; omega), show (⟨#[10]⟩ : ByteArray) = B [10] from rfl, zbs_,
      ltP_eq k hk ts _ (fun x hx => hs x (by simp [hx])) (by simp only [List.length_append, List.length_cons, List.length_nil]; omega)]
    congr 2
    rw [List.map_cons]
    unfold linesT taskWs joinW
    rw [numsS_flat]
    simp [taskB]
theorem print_eq (p : Int) (cs hs : List Int) (ts : List S53) (m : Nat) (hb : ∀ t ∈ ts, t.f0.size < m ∧ 3 * t.f5.length < m) (k : Nat) (hk : m + 1000 < k) (hk2 : k < 9223372036854775807) : zau_.f k p cs hs ts = some (B (printS p cs hs ts)) := by
  unfold zau_.f printS
  rw [check_eq p cs hs ts m hb k (by omega) hk2, Option.bind_some]
  by_cases hck : (checkS p cs hs ts).2 = 0
  · have h := okS_of hck
    have hp : zbt_.f p = some (B (protoW p)) := by
      have := h.kp
      unfold btw at this
      simp only [Bool.and_eq_true, decide_eq_true_eq] at this
      have : p = 1 ∨ p = 2 ∨ p = 3 := by omega
      rcases this with rfl | rfl | rfl <;> rfl
    have hpl : (protoW p).length ≤ 10 := by unfold protoW; split; · decide
                                            · split <;> decide
    have hcl := h.ncs
    have hhl := h.nhs
    have htl := h.nts
    have hn1 := numsS_len cs
    have hn2 := numsS_len hs
    have hsm : ∀ t ∈ ts, t.f0.size ≤ 1000 ∧ t.f5.length ≤ 1000 := by
      intro t ht
      have o := h.each t ht
      have hnm := o.name
      have hnp := o.np
      unfold nameS at hnm
      simp only [Bool.and_eq_true, decide_eq_true_eq] at hnm
      have := hnm.2.2
      rw [len_data] at this
      exact ⟨by omega, by omega⟩
    rw [if_pos hck, if_pos hck, hp, Option.bind_some, nums_eq cs (by omega) k (by omega), Option.bind_some, size_B, size_B, if_pos (by omega)]
    have e1 : (((((⟨#[112, 114, 111, 116, 111, 99, 111, 108, 32]⟩ : ByteArray) ++ B (protoW p)) ++ (⟨#[10]⟩ : ByteArray)) ++ (⟨#[99, 111, 114, 101, 115]⟩ : ByteArray)) ++ B (numsS cs)) ++ (⟨#[10]⟩ : ByteArray) = B (linesT [[protocolB, protoW p], coresB :: cs.map textS]) := by
      rw [show (⟨#[112, 114, 111, 116, 111, 99, 111, 108, 32]⟩ : ByteArray) = B (protocolB ++ [32]) from rfl, show (⟨#[10]⟩ : ByteArray) = B [10] from rfl, show (⟨#[99, 111, 114, 101, 115]⟩ : ByteArray) = B coresB from rfl, zbs_, zbs_, zbs_, zbs_, zbs_]
      congr 1
      unfold linesT joinW
      rw [numsS_flat]
      simp
    have hA : ∀ (a b : List (List Bs)), linesT (a ++ b) = linesT a ++ linesT b := by intro a b; unfold linesT; rw [List.flatMap_append]
    have hL2 : (linesT [[protocolB, protoW p], coresB :: cs.map textS]).length ≤ 1000 := by
      have : (((((⟨#[112, 114, 111, 116, 111, 99, 111, 108, 32]⟩ : ByteArray) ++ B (protoW p)) ++ (⟨#[10]⟩ : ByteArray)) ++ (⟨#[99, 111, 114, 101, 115]⟩ : ByteArray)) ++ B (numsS cs)) ++ (⟨#[10]⟩ : ByteArray) = _ := e1
      have h3 := congrArg ByteArray.size this
      rw [size_B] at h3
      rw [← h3]
      simp only [ByteArray.size_append, size_B]
      show 9 + (protoW p).length + 1 + 5 + (numsS cs).length + 1 ≤ 1000
      omega
    rw [e1]
    by_cases hh : hs = []
    · subst hh
      rw [if_neg (by simp), ltP_eq k (by omega) ts _ hsm (by omega)]
      congr 2
      unfold setWs
      rw [if_pos rfl, List.nil_append, ← hA]
      rfl
    · have hpos : hs.length > 0 := List.length_pos_iff.2 hh
      rw [if_pos hpos, nums_eq hs (by omega) k (by omega), Option.bind_some, size_B, if_pos (by omega)]
      have e2 : ((⟨#[104, 111, 109, 101, 115]⟩ : ByteArray) ++ B (numsS hs)) ++ (⟨#[10]⟩ : ByteArray) = B (linesT [homesB :: hs.map textS]) := by
        rw [show (⟨#[104, 111, 109, 101, 115]⟩ : ByteArray) = B homesB from rfl, show (⟨#[10]⟩ : ByteArray) = B [10] from rfl, zbs_, zbs_]
        congr 1
        unfold linesT joinW
        rw [numsS_flat]
        simp
      have hL3 : (linesT [homesB :: hs.map textS]).length ≤ 1000 := by
        have h3 := congrArg ByteArray.size e2
        rw [size_B] at h3
        rw [← h3]
        simp only [ByteArray.size_append, size_B]
        show 5 + (numsS hs).length + 1 ≤ 1000
        omega
      rw [e2, zbs_, ltP_eq k (by omega) ts _ hsm (by rw [List.length_append]; omega)]
      congr 2
      unfold setWs
      rw [if_neg hh, ← hA, ← hA]
      rfl
  · rw [if_neg hck, if_neg hck]; rfl
end Go.Proofs.YtgkjoodlcojkkaaDoor.Y
end
section
namespace Go.Proofs.YtgkjoodlcojkkaaDoor.QD
open Go.RowKit Go.Proofs.YtgkjoodlcojkkaaDoorW.PrintWords Go.Proofs.YtgkjoodlcojkkaaDoorW.PrintLast Go.Proofs.YtgkjoodlcojkkaaDoorW.PrintMore
attribute [local go_sem] zbd_ zbe_ zbm_ zbl_ zaW_ zaX_ zbc_ zbb_
set_option linter.unusedVariables false
set_option linter.unusedSimpArgs false
theorem eqA50 (d : Nat) (w : World) (x0 y0 : Int) (x1 y1 : Int) (x2 y2 : Int) :
    (Op.equalIn (d + 2) 50 (.agg #[.int .i64 x0, .int .i64 x1, .int .i64 x2]) (.agg #[.int .i64 y0, .int .i64 y1, .int .i64 y2])).run Tryd.prog w = .ok (x0 == y0 && (x1 == y1 && (x2 == y2))) w := by
  refine eqA_of Tryd.underlying50 (by kernel_rfl) ?_
  refine eqf_cons (by rfl) (by go_simp; rfl) (by go_simp; rfl) (by go_simp) ?_
  refine eqf_cons (by rfl) (by go_simp; rfl) (by go_simp; rfl) (by go_simp) ?_
  exact eqf_last (by rfl) (by go_simp; rfl) (by go_simp; rfl) (by go_simp)
end Go.Proofs.YtgkjoodlcojkkaaDoor.QD
end
