import Derived.Test.YtgkjoodlcojkkaaDoorMB2
import Derived.Test.YtgkjoodlcojkkaaDoorMB5
section
namespace Go.Proofs.YtgkjoodlcojkkaaDoor.QD
open Go.RowKit Go.Proofs.YtgkjoodlcojkkaaDoorW.PrintWords Go.Proofs.YtgkjoodlcojkkaaDoorW.PrintLast Go.Proofs.YtgkjoodlcojkkaaDoorW.PrintMore
attribute [local go_sem] zbd_ zbe_ zbm_ zbl_ zaW_ zaX_ zbc_ zbb_
set_option linter.unusedVariables false
set_option linter.unusedSimpArgs false
mutual
def zaA_.j0 : Nat → Int → Bool → Int → List Int → List Int → List (S53) → ByteArray → Int → Int → Int → Int → List (S50) → Option (Int)
  | 0, _, _, _, _, _, _, _, _, _, _, _, _ => none
  | k + 1, x1, x48, c1, b9, c2, b8, c5, c7, c8, c6, c0, b6 => if x48 = true then (some 10) else (if c0 < 0 then (zaA_.j1 k x1 true c1 b9 c2 b8 c5 c7 c8 c6 c0 b6) else (zaA_.j1 k x1 (decide (c0 ≥ (b9.length : Int))) c1 b9 c2 b8 c5 c7 c8 c6 c0 b6))
def zaA_.j1 : Nat → Int → Bool → Int → List Int → List Int → List (S53) → ByteArray → Int → Int → Int → Int → List (S50) → Option (Int)
  | 0, _, _, _, _, _, _, _, _, _, _, _, _ => none
  | k + 1, x1, x59, c1, b9, c2, b8, c5, c7, c8, c6, c0, b6 => if x59 = true then (some 16) else (zaA_.l0 k x1 0 c1 b9 c2 b8 c5 c7 c8 c6 c0 b6)
def zaA_.l0 : Nat → Int → Int → Int → List Int → List Int → List (S53) → ByteArray → Int → Int → Int → Int → List (S50) → Option (Int)
  | 0, _, _, _, _, _, _, _, _, _, _, _, _ => none
  | k + 1, x1, x6, c1, b9, c2, b8, c5, c7, c8, c6, c0, b6 => if x6 < x1 then (if 0 ≤ x6 then (if x6 < (b8.length : Int) then (if ((rd_T53 b8 x6).f0).toList = c5.toList then (some 17) else (if ((rd_T53 b8 x6).f3) = c6 then (some 17) else (zaA_.l0 k x1 (wrap64 (x6 + 1)) c1 b9 c2 b8 c5 c7 c8 c6 c0 b6))) else (none)) else (none)) else (if (b6.length : Int) < 1 then (zaA_.j3 k true c1 b9 c2 b8 c5 c7 c8 c6 c0 b6) else (zaA_.j3 k (decide ((b6.length : Int) > 6)) c1 b9 c2 b8 c5 c7 c8 c6 c0 b6))
def zaA_.j3 : Nat → Bool → Int → List Int → List Int → List (S53) → ByteArray → Int → Int → Int → Int → List (S50) → Option (Int)
  | 0, _, _, _, _, _, _, _, _, _, _, _ => none
  | k + 1, x94, c1, b9, c2, b8, c5, c7, c8, c6, c0, b6 => if x94 = true then (some 15) else (zaA_.l1 k 0 c1 b9 c2 b8 c5 c7 c8 c6 c0 b6)
def zaA_.l1 : Nat → Int → Int → List Int → List Int → List (S53) → ByteArray → Int → Int → Int → Int → List (S50) → Option (Int)
  | 0, _, _, _, _, _, _, _, _, _, _, _ => none
  | k + 1, x7, c1, b9, c2, b8, c5, c7, c8, c6, c0, b6 => if x7 < (b6.length : Int) then (if 0 ≤ x7 then ((sr_part.f c1 b9 c2 b8 ((rd_T50 b6 x7).f0) ((rd_T50 b6 x7).f1) ((rd_T50 b6 x7).f2)).bind fun g5 => (if g5 = true then (zaA_.l1 k (wrap64 (x7 + 1)) c1 b9 c2 b8 c5 c7 c8 c6 c0 b6) else (some 15))) else (none)) else (some 0)
end
def zaA_.f (k : Nat) (b5 : Int) (b3 : List Int) (b4 : List Int) (a5 : List (S53)) (a1 : Int) : Option (Int) := if 0 ≤ a1 then (if a1 < (a5.length : Int) then ((zbh_.f k ((rd_T53 a5 a1).f0)).bind fun g3 => (if g3 = true then (if ((rd_T53 a5 a1).f1) < 1 then (zaA_.j0 k a1 true b5 b3 b4 a5 ((rd_T53 a5 a1).f0) ((rd_T53 a5 a1).f1) ((rd_T53 a5 a1).f2) ((rd_T53 a5 a1).f3) ((rd_T53 a5 a1).f4) ((rd_T53 a5 a1).f5)) else (if ((rd_T53 a5 a1).f1) > 3000 then (zaA_.j0 k a1 true b5 b3 b4 a5 ((rd_T53 a5 a1).f0) ((rd_T53 a5 a1).f1) ((rd_T53 a5 a1).f2) ((rd_T53 a5 a1).f3) ((rd_T53 a5 a1).f4) ((rd_T53 a5 a1).f5)) else (if ((rd_T53 a5 a1).f2) < 1 then (zaA_.j0 k a1 true b5 b3 b4 a5 ((rd_T53 a5 a1).f0) ((rd_T53 a5 a1).f1) ((rd_T53 a5 a1).f2) ((rd_T53 a5 a1).f3) ((rd_T53 a5 a1).f4) ((rd_T53 a5 a1).f5)) else (if ((rd_T53 a5 a1).f2) > ((rd_T53 a5 a1).f1) then (zaA_.j0 k a1 true b5 b3 b4 a5 ((rd_T53 a5 a1).f0) ((rd_T53 a5 a1).f1) ((rd_T53 a5 a1).f2) ((rd_T53 a5 a1).f3) ((rd_T53 a5 a1).f4) ((rd_T53 a5 a1).f5)) else (if ((rd_T53 a5 a1).f3) < 1 then (zaA_.j0 k a1 true b5 b3 b4 a5 ((rd_T53 a5 a1).f0) ((rd_T53 a5 a1).f1) ((rd_T53 a5 a1).f2) ((rd_T53 a5 a1).f3) ((rd_T53 a5 a1).f4) ((rd_T53 a5 a1).f5)) else (zaA_.j0 k a1 (decide (((rd_T53 a5 a1).f3) > 1000)) b5 b3 b4 a5 ((rd_T53 a5 a1).f0) ((rd_T53 a5 a1).f1) ((rd_T53 a5 a1).f2) ((rd_T53 a5 a1).f3) ((rd_T53 a5 a1).f4) ((rd_T53 a5 a1).f5))))))) else (zaA_.j0 k a1 true b5 b3 b4 a5 ((rd_T53 a5 a1).f0) ((rd_T53 a5 a1).f1) ((rd_T53 a5 a1).f2) ((rd_T53 a5 a1).f3) ((rd_T53 a5 a1).f4) ((rd_T53 a5 a1).f5)))) else (none)) else (none)
theorem zaA_.mono_l : ∀ k, (∀ y0 y1 y2 y3 y4 y5 y6 y7 y8 y9 y10 y11, LeO (zaA_.j0 k y0 y1 y2 y3 y4 y5 y6 y7 y8 y9 y10 y11) (zaA_.j0 (k + 1) y0 y1 y2 y3 y4 y5 y6 y7 y8 y9 y10 y11)) ∧ (∀ y0 y1 y2 y3 y4 y5 y6 y7 y8 y9 y10 y11, LeO (zaA_.j1 k y0 y1 y2 y3 y4 y5 y6 y7 y8 y9 y10 y11) (zaA_.j1 (k + 1) y0 y1 y2 y3 y4 y5 y6 y7 y8 y9 y10 y11)) ∧ (∀ y0 y1 y2 y3 y4 y5 y6 y7 y8 y9 y10 y11, LeO (zaA_.l0 k y0 y1 y2 y3 y4 y5 y6 y7 y8 y9 y10 y11) (zaA_.l0 (k + 1) y0 y1 y2 y3 y4 y5 y6 y7 y8 y9 y10 y11)) ∧ (∀ y0 y1 y2 y3 y4 y5 y6 y7 y8 y9 y10, LeO (zaA_.j3 k y0 y1 y2 y3 y4 y5 y6 y7 y8 y9 y10) (zaA_.j3 (k + 1) y0 y1 y2 y3 y4 y5 y6 y7 y8 y9 y10)) ∧ (∀ y0 y1 y2 y3 y4 y5 y6 y7 y8 y9 y10, LeO (zaA_.l1 k y0 y1 y2 y3 y4 y5 y6 y7 y8 y9 y10) (zaA_.l1 (k + 1) y0 y1 y2 y3 y4 y5 y6 y7 y8 y9 y10))
  | 0 => ⟨fun _ _ _ _ _ _ _ _ _ _ _ _ r h => by simp [zaA_.j0] at h, fun _ _ _ _ _ _ _ _ _ _ _ _ r h => by simp [zaA_.j1] at h, fun _ _ _ _ _ _ _ _ _ _ _ _ r h => by simp [zaA_.l0] at h, fun _ _ _ _ _ _ _ _ _ _ _ r h => by simp [zaA_.j3] at h, fun _ _ _ _ _ _ _ _ _ _ _ r h => by simp [zaA_.l1] at h⟩
  | k + 1 => by
    obtain ⟨ih0, ih1, ih2, ih3, ih4⟩ := zaA_.mono_l k
    refine ⟨?_, ?_, ?_, ?_, ?_⟩
    · intro y0 y1 y2 y3 y4 y5 y6 y7 y8 y9 y10 y11
      unfold zaA_.j0
      repeat' first
      | (with_reducible exact ih0 _ _ _ _ _ _ _ _ _ _ _ _)
      | (with_reducible exact ih1 _ _ _ _ _ _ _ _ _ _ _ _)
      | (with_reducible exact ih2 _ _ _ _ _ _ _ _ _ _ _ _)
      | (with_reducible exact ih3 _ _ _ _ _ _ _ _ _ _ _)
      | (with_reducible exact ih4 _ _ _ _ _ _ _ _ _ _ _)
      | (with_reducible exact zbh_.mono _ _)
      | (with_reducible exact LeO.refl _)
      | (with_reducible exact LeO.none _)
      | (with_reducible refine LeO.ite ?_ ?_)
      | (with_reducible refine LeO.bind ?_ (fun _ => ?_))
      | exact ih0 _ _ _ _ _ _ _ _ _ _ _ _
      | exact ih1 _ _ _ _ _ _ _ _ _ _ _ _
      | exact ih2 _ _ _ _ _ _ _ _ _ _ _ _
      | exact ih3 _ _ _ _ _ _ _ _ _ _ _
      | exact ih4 _ _ _ _ _ _ _ _ _ _ _
      | exact zbh_.mono _ _
      | exact LeO.none _
      | refine LeO.ite ?_ ?_
      | refine LeO.bind ?_ (fun _ => ?_)
    · intro y0 y1 y2 y3 y4 y5 y6 y7 y8 y9 y10 y11
      unfold zaA_.j1
      repeat' first
      | (with_reducible exact ih0 _ _ _ _ _ _ _ _ _ _ _ _)
      | (with_reducible exact ih1 _ _ _ _ _ _ _ _ _ _ _ _)
      | (with_reducible exact ih2 _ _ _ _ _ _ _ _ _ _ _ _)
      | (with_reducible exact ih3 _ _ _ _ _ _ _ _ _ _ _)
      | (with_reducible exact ih4 _ _ _ _ _ _ _ _ _ _ _)
      | (with_reducible exact zbh_.mono _ _)
      | (with_reducible exact LeO.refl _)
      | (with_reducible exact LeO.none _)
      | (with_reducible refine LeO.ite ?_ ?_)
      | (with_reducible refine LeO.bind ?_ (fun _ => ?_))
      | exact ih0 _ _ _ _ _ _ _ _ _ _ _ _
      | exact ih1 _ _ _ _ _ _ _ _ _ _ _ _
      | exact ih2 _ _ _ _ _ _ _ _ _ _ _ _
      | exact ih3 _ _ _ _ _ _ _ _ _ _ _
      | exact ih4 _ _ _ _ _ _ _ _ _ _ _
      | exact zbh_.mono _ _
      | exact LeO.none _
      | refine LeO.ite ?_ ?_
      | refine LeO.bind ?_ (fun _ => ?_)
    · intro y0 y1 y2 y3 y4 y5 y6 y7 y8 y9 y10 y11
      unfold zaA_.l0
      repeat' first
      | (with_reducible exact ih0 _ _ _ _ _ _ _ _ _ _ _ _)
      | (with_reducible exact ih1 _ _ _ _ _ _ _ _ _ _ _ _)
      | (with_reducible exact ih2 _ _ _ _ _ _ _ _ _ _ _ _)
      | (with_reducible exact ih3 _ _ _ _ _ _ _ _ _ _ _)
      | (with_reducible exact ih4 _ _ _ _ _ _ _ _ _ _ _)
      | (with_reducible exact zbh_.mono _ _)
      | (with_reducible exact LeO.refl _)
      | (with_reducible exact LeO.none _)
      | (with_reducible refine LeO.ite ?_ ?_)
      | (with_reducible refine LeO.bind ?_ (fun _ => ?_))
      | exact ih0 _ _ _ _ _ _ _ _ _ _ _ _
      | exact ih1 _ _ _ _ _ _ _ _ _ _ _ _
      | exact ih2 _ _ _ _ _ _ _ _ _ _ _ _
      | exact ih3 _ _ _ _ _ _ _ _ _ _ _
      | exact ih4 _ _ _ _ _ _ _ _ _ _ _
      | exact zbh_.mono _ _
      | exact LeO.none _
      | refine LeO.ite ?_ ?_
      | refine LeO.bind ?_ (fun _ => ?_)
    · intro y0 y1 y2 y3 y4 y5 y6 y7 y8 y9 y10
      unfold zaA_.j3
      repeat' first
      | (with_reducible exact ih0 _ _ _ _ _ _ _ _ _ _ _ _)
      | (with_reducible exact ih1 _ _ _ _ _ _ _ _ _ _ _ _)
      | (with_reducible exact ih2 _ _ _ _ _ _ _ _ _ _ _ _)
      | (with_reducible exact ih3 _ _ _ _ _ _ _ _ _ _ _)
      | (with_reducible exact ih4 _ _ _ _ _ _ _ _ _ _ _)
      | (with_reducible exact zbh_.mono _ _)
      | (with_reducible exact LeO.refl _)
      | (with_reducible exact LeO.none _)
      | (with_reducible refine LeO.ite ?_ ?_)
      | (with_reducible refine LeO.bind ?_ (fun _ => ?_))
      | exact ih0 _ _ _ _ _ _ _ _ _ _ _ _
      | exact ih1 _ _ _ _ _ _ _ _ _ _ _ _
      | exact ih2 _ _ _ _ _ _ _ _ _ _ _ _
      | exact ih3 _ _ _ _ _ _ _ _ _ _ _
      | exact ih4 _ _ _ _ _ _ _ _ _ _ _
      | exact zbh_.mono _ _
      | exact LeO.none _
      | refine LeO.ite ?_ ?_
      | refine LeO.bind ?_ (fun _ => ?_)
    · intro y0 y1 y2 y3 y4 y5 y6 y7 y8 y9 y10
      unfold zaA_.l1
      repeat' first
      | (with_reducible exact ih0 _ _ _ _ _ _ _ _ _ _ _ _)
      | (with_reducible exact ih1 _ _ _ _ _ _ _ _ _ _ _ _)
      | (with_reducible exact ih2 _ _ _ _ _ _ _ _ _ _ _ _)
      | (with_reducible exact ih3 _ _ _ _ _ _ _ _ _ _ _)
      | (with_reducible exact ih4 _ _ _ _ _ _ _ _ _ _ _)
      | (with_reducible exact zbh_.mono _ _)
      | (with_reducible exact LeO.refl _)
      | (with_reducible exact LeO.none _)
      | (with_reducible refine LeO.ite ?_ ?_)
      | (with_reducible refine LeO.bind ?_ (fun _ => ?_))
      | exact ih0 _ _ _ _ _ _ _ _ _ _ _ _
      | exact ih1 _ _ _ _ _ _ _ _ _ _ _ _
      | exact ih2 _ _ _ _ _ _ _ _ _ _ _ _
      | exact ih3 _ _ _ _ _ _ _ _ _ _ _
      | exact ih4 _ _ _ _ _ _ _ _ _ _ _
      | exact zbh_.mono _ _
      | exact LeO.none _
      | refine LeO.ite ?_ ?_
      | refine LeO.bind ?_ (fun _ => ?_)
theorem zaA_.mono : ∀ a0 a1 a2 a3 a4 k, LeO (zaA_.f k a0 a1 a2 a3 a4) (zaA_.f (k + 1) a0 a1 a2 a3 a4) := by
  intro a0 a1 a2 a3 a4 k
  obtain ⟨ih0, ih1, ih2, ih3, ih4⟩ := zaA_.mono_l k
  unfold zaA_.f
  repeat' first
      | (with_reducible exact ih0 _ _ _ _ _ _ _ _ _ _ _ _)
      | (with_reducible exact ih1 _ _ _ _ _ _ _ _ _ _ _ _)
      | (with_reducible exact ih2 _ _ _ _ _ _ _ _ _ _ _ _)
      | (with_reducible exact ih3 _ _ _ _ _ _ _ _ _ _ _)
      | (with_reducible exact ih4 _ _ _ _ _ _ _ _ _ _ _)
      | (with_reducible exact zbh_.mono _ _)
      | (with_reducible exact LeO.refl _)
      | (with_reducible exact LeO.none _)
      | (with_reducible refine LeO.ite ?_ ?_)
      | (with_reducible refine LeO.bind ?_ (fun _ => ?_))
      | exact ih0 _ _ _ _ _ _ _ _ _ _ _ _
      | exact ih1 _ _ _ _ _ _ _ _ _ _ _ _
      | exact ih2 _ _ _ _ _ _ _ _ _ _ _ _
      | exact ih3 _ _ _ _ _ _ _ _ _ _ _
      | exact ih4 _ _ _ _ _ _ _ _ _ _ _
      | exact zbh_.mono _ _
      | exact LeO.none _
      | refine LeO.ite ?_ ?_
      | refine LeO.bind ?_ (fun _ => ?_)
def zaA_.T9 : Bool × List (List Nat × List Nat) := (true, [([], []), ([0], [0]), ([], []), ([1, 2], [1, 2]), ([3], [3]), ([4], [4]), ([], []), ([6], [6]), ([5, 7], [5, 7]), ([8], [8]), ([9], [9]), ([10, 9], [9, 10]), ([9], [9]), ([11, 12, 9], [9, 11, 12]), ([13, 9], [9, 13]), ([14, 9], [9, 14]), ([9], [9]), ([16, 9], [9, 16]), ([15, 17, 9], [9, 15, 17]), ([9, 18], [9, 18])])
def zaA_.B9 : List Nat := [0, 1, 0, 7, 15, 31, 0, 64, 255, 511, 1023, 2047, 1023, 8191, 16383, 32767, 1023, 66559, 262143, 524287]
theorem zaA_.tab9 : rtab .any (opsOf Tryd.f51 9) = zaA_.T9 := by kernel_rfl
theorem zaA_.bits9 : waitsOk zaA_.T9.2 zaA_.B9 = true := by kernel_rfl
def zaA_.T16 : Bool × List (List Nat × List Nat) := (true, [([], []), ([], []), ([1], [1]), ([], []), ([2, 3], [2, 3]), ([4], [4]), ([0, 5], [0, 5]), ([6], [6])])
def zaA_.B16 : List Nat := [0, 0, 2, 0, 14, 30, 63, 127]
theorem zaA_.tab16 : rtab .any (opsOf Tryd.f51 16) = zaA_.T16 := by kernel_rfl
theorem zaA_.bits16 : waitsOk zaA_.T16.2 zaA_.B16 = true := by kernel_rfl
set_option maxHeartbeats 8000000 in
set_option maxRecDepth 100000 in
theorem zaA_.calls (k : Nat) (b5 : Int) (d0 : Option Addr) (d1 : Nat) (b3 : List Int) (d2 : Option Addr) (d3 : Nat) (b4 : List Int) (g6 : Option Addr) (d4 : Nat) (a5 : List (S53)) (a1 : Int) (r : Int) (w : World) (g7 : Kd.C (Kd.int .i64) w d0 b3.length b3) (g8 : b3.length ≤ d1) (g9 : Kd.C (Kd.int .i64) w d2 b4.length b4) (h0 : b4.length ≤ d3) (h1 : Kd.C k53 w g6 a5.length a5) (h2 : a5.length ≤ d4) (h : zaA_.f k b5 b3 b4 a5 a1 = some r) :
    Calls Tryd.prog 51 #[.agg #[.int .i64 b5, .slice d0 b3.length d1, .slice d2 b4.length d3, .slice g6 a5.length d4], .int .i64 a1] w fun e w' => e = .returned (.int .i64 r) ∧ Below w.heap.size w w' := by
  have hu37 := Tryd.underlying37
  have hu53 := Tryd.underlying53
  have hu50 := Tryd.underlying50
  have HR0_1 := Aside0.mk g7
  have HC0_1 := Aside0.mk g8
  clear g7 g8
  have HR0_2 := Aside0.mk g9
  have HC0_2 := Aside0.mk h0
  clear g9 h0
  have HR0_3 := Aside0.mk h1
  have HC0_3 := Aside0.mk h2
  clear h1 h2
  have HB := Aside0.mk (Below.refl w.heap.size w)
  have H : (if 0 ≤ a1 then (if a1 < (a5.length : Int) then ((zbh_.f k ((rd_T53 a5 a1).f0)).bind fun g3 => (if g3 = true then (if ((rd_T53 a5 a1).f1) < 1 then (zaA_.j0 k a1 true b5 b3 b4 a5 ((rd_T53 a5 a1).f0) ((rd_T53 a5 a1).f1) ((rd_T53 a5 a1).f2) ((rd_T53 a5 a1).f3) ((rd_T53 a5 a1).f4) ((rd_T53 a5 a1).f5)) else (if ((rd_T53 a5 a1).f1) > 3000 then (zaA_.j0 k a1 true b5 b3 b4 a5 ((rd_T53 a5 a1).f0) ((rd_T53 a5 a1).f1) ((rd_T53 a5 a1).f2) ((rd_T53 a5 a1).f3) ((rd_T53 a5 a1).f4) ((rd_T53 a5 a1).f5)) else (if ((rd_T53 a5 a1).f2) < 1 then (zaA_.j0 k a1 true b5 b3 b4 a5 ((rd_T53 a5 a1).f0) ((rd_T53 a5 a1).f1) ((rd_T53 a5 a1).f2) ((rd_T53 a5 a1).f3) ((rd_T53 a5 a1).f4) ((rd_T53 a5 a1).f5)) else (if ((rd_T53 a5 a1).f2) > ((rd_T53 a5 a1).f1) then (zaA_.j0 k a1 true b5 b3 b4 a5 ((rd_T53 a5 a1).f0) ((rd_T53 a5 a1).f1) ((rd_T53 a5 a1).f2) ((rd_T53 a5 a1).f3) ((rd_T53 a5 a1).f4) ((rd_T53 a5 a1).f5)) else (if ((rd_T53 a5 a1).f3) < 1 then (zaA_.j0 k a1 true b5 b3 b4 a5 ((rd_T53 a5 a1).f0) ((rd_T53 a5 a1).f1) ((rd_T53 a5 a1).f2) ((rd_T53 a5 a1).f3) ((rd_T53 a5 a1).f4) ((rd_T53 a5 a1).f5)) else (zaA_.j0 k a1 (decide (((rd_T53 a5 a1).f3) > 1000)) b5 b3 b4 a5 ((rd_T53 a5 a1).f0) ((rd_T53 a5 a1).f1) ((rd_T53 a5 a1).f2) ((rd_T53 a5 a1).f3) ((rd_T53 a5 a1).f4) ((rd_T53 a5 a1).f5))))))) else (zaA_.j0 k a1 true b5 b3 b4 a5 ((rd_T53 a5 a1).f0) ((rd_T53 a5 a1).f1) ((rd_T53 a5 a1).f2) ((rd_T53 a5 a1).f3) ((rd_T53 a5 a1).f4) ((rd_T53 a5 a1).f5)))) else (none)) else (none)) = some r := h
  clear h
  by_cases c3 : 0 ≤ a1
  rotate_left
  · rw [if_neg c3] at H
    exact absurd H (by simp)
  rw [if_pos c3] at H
  have L6 : decide (0 ≤ a1) = true := decide_eq_true c3
  clear c3
  by_cases c4 : a1 < (a5.length : Int)
  rotate_left
  · rw [if_neg c4] at H
    exact absurd H (by simp)
  rw [if_pos c4] at H
  have L7 : decide (a1 < (a5.length : Int)) = true := decide_eq_true c4
  clear c4
  have HC5 := Aside0.mk H
  clear H
  go_enter Tryd.func51, Tryd.ntmps51
  go_upto_region 2 with (first | ((with_reducible refine zaL_ (N := 2) rfl ?_); (try (refine zaF_ (by rfl) ?_; dsimp only)); refine zaD_ ?hg (N := 2) ?hd (cs := #[.int .i64 b5, .slice d0 b3.length d1, .slice d2 b4.length d3, .slice g6 a5.length d4]) (t := 37) ?hr ?_; (case hd => rfl); (case hg => rfl); (case hr => first | (go_simp; done) | (go_simp; rfl)); intro b2 hg w6 hbox hb; have d7 := Aside0.mk (zaj_ (HB.out) hb); have d8 := Aside0.mk (hbox); have d6 := Aside0.mk ((by rw [hg]; exact (zam_ (HB.out)) : w.heap.size ≤ b2)); have j2 := d6; clear HB; have HB := d7; have a9 := d8; have K6 := d6; have d9 := j2; clear d7 d8 d6 j2; clear hb hbox hg; have J8 : w6.cell? ⟨b2, 0, none⟩ = some (.int .i64 b5) := (zab_ a9.out 0).trans rfl; have J9 : w6.cell? ⟨b2, 1, none⟩ = some (.slice d0 b3.length d1) := (zab_ a9.out 1).trans rfl; have K0 : w6.cell? ⟨b2, 2, none⟩ = some (.slice d2 b4.length d3) := (zab_ a9.out 2).trans rfl; have K1 : w6.cell? ⟨b2, 3, none⟩ = some (.slice g6 a5.length d4) := (zab_ a9.out 3).trans rfl; have K2 := zaa_ a9.out 0; have K3 := zaa_ a9.out 1; have K4 := zaa_ a9.out 2; have K5 := zaa_ a9.out 3; have h4 : 0 ≤ (a1 : Int) := of_decide_eq_true (by first | (with_reducible assumption) | assumption); have h5 : a1 < (a5.length : Int) := of_decide_eq_true (by first | (with_reducible assumption) | assumption); obtain ⟨ad316, c9, c316_5, e316, hx316_0, hx316_1, hx316_2, hx316_3, hx316_4, hx316_5, hl316_5, hi316_5⟩ := at_T53 HR0_3.out a1 h4 h5; cases e316; replace hx316_0 := (HB.out.cell (World.block_lt_of_cell? w _ hx316_0)).trans hx316_0; replace hx316_1 := (HB.out.cell (World.block_lt_of_cell? w _ hx316_1)).trans hx316_1; replace hx316_2 := (HB.out.cell (World.block_lt_of_cell? w _ hx316_2)).trans hx316_2; replace hx316_3 := (HB.out.cell (World.block_lt_of_cell? w _ hx316_3)).trans hx316_3; replace hx316_4 := (HB.out.cell (World.block_lt_of_cell? w _ hx316_4)).trans hx316_4; replace hx316_5 := (HB.out.cell (World.block_lt_of_cell? w _ hx316_5)).trans hx316_5; have HR316_5 := Aside0.mk hi316_5; have HC316_5 := Aside0.mk hl316_5; clear hi316_5 hl316_5; replace h4 := eq_true h4; replace h5 := eq_true h5) | ((with_reducible refine zaL_ (N := 5) rfl ?_); (try (refine zaF_ (by rfl) ?_; dsimp only)); refine zaD_ ?hg (N := 5) ?hd (cs := #[.string (⟨#[]⟩ : ByteArray), .int .i64 0, .int .i64 0, .int .i64 0, .int .i64 0, .slice none 0 0]) (t := 53) ?hr ?_; (case hd => rfl); (case hg => rfl); (case hr => first | (go_simp; done) | (go_simp; rfl)); intro a8 hg w8 hbox hb; have d7 := Aside0.mk (zan_ a9.out hb); have d8 := Aside0.mk (zaj_ (HB.out) hb); have d6 := Aside0.mk (hbox); have j2 := Aside0.mk ((by rw [hg]; exact (zam_ (HB.out)) : w.heap.size ≤ a8)); have K7 := j2; have K8 := Aside0.mk ((by rw [hg]; exact Nat.ne_of_lt (blk_lt a9.out) : b2 ≠ a8)); have K9 := Aside0.mk ((by rw [hg]; exact Nat.ne_of_gt (blk_lt a9.out) : a8 ≠ b2)); clear a9; clear HB; have a9 := d7; have HB := d8; have a6 := d6; have L0 := j2; have e0 := K7; have a7 := K8; have b1 := K9; clear d7 d8 d6 j2 K7 K8 K9; clear hb hbox hg; have hnb9 := b1.out; have hnc9 := a7.out; have m4 : w8.cell? ⟨a8, 0, none⟩ = some (.string (⟨#[]⟩ : ByteArray)) := (zab_ a6.out 0).trans rfl; have m5 : w8.cell? ⟨a8, 1, none⟩ = some (.int .i64 0) := (zab_ a6.out 1).trans rfl; have m6 : w8.cell? ⟨a8, 2, none⟩ = some (.int .i64 0) := (zab_ a6.out 2).trans rfl; have m7 : w8.cell? ⟨a8, 3, none⟩ = some (.int .i64 0) := (zab_ a6.out 3).trans rfl; have m8 : w8.cell? ⟨a8, 4, none⟩ = some (.int .i64 0) := (zab_ a6.out 4).trans rfl; have m9 : w8.cell? ⟨a8, 5, none⟩ = some (.slice none 0 0) := (zab_ a6.out 5).trans rfl; have n0 := zaa_ a6.out 0; have n1 := zaa_ a6.out 1; have n2 := zaa_ a6.out 2; have n3 := zaa_ a6.out 3; have n4 := zaa_ a6.out 4; have n5 := zaa_ a6.out 5))
  (try simp only [Act.put, List.setIfInBounds_toArray, List.set_cons_zero, List.set_cons_succ])
  go_cut [48] (fun L8 wc => ∃ (kq : Nat) (g2 : Bool), L8 = .bool g2 ∧ Aside0 (zaA_.j0 kq a1 g2 b5 b3 b4 a5 ((rd_T53 a5 a1).f0) ((rd_T53 a5 a1).f1) ((rd_T53 a5 a1).f2) ((rd_T53 a5 a1).f3) ((rd_T53 a5 a1).f4) ((rd_T53 a5 a1).f5) = some r) ∧ Aside0 (kq ≤ k) ∧ Aside0 (wc.heap[b2]? = some (.cells #[.int .i64 b5, (.slice d0 b3.length d1), (.slice d2 b4.length d3), (.slice (some ad316) a5.length d4)] 37 (0, 0))) ∧ Aside0 (wc.heap[a8]? = some (.cells #[.string ((rd_T53 a5 a1).f0), .int .i64 ((rd_T53 a5 a1).f1), .int .i64 ((rd_T53 a5 a1).f2), .int .i64 ((rd_T53 a5 a1).f3), .int .i64 ((rd_T53 a5 a1).f4), (.slice c9 ((rd_T53 a5 a1).f5).length c316_5)] 53 (0, 0))) ∧ Aside0 (Below w.heap.size w wc))
  case first =>
    have H := HC5.out
    clear HC5
    replace H := Option.bind_eq_some_iff.mp H
    obtain ⟨g3, k6, H⟩ := H
    replace H : (if g3 = true then (if ((rd_T53 a5 a1).f1) < 1 then (zaA_.j0 k a1 true b5 b3 b4 a5 ((rd_T53 a5 a1).f0) ((rd_T53 a5 a1).f1) ((rd_T53 a5 a1).f2) ((rd_T53 a5 a1).f3) ((rd_T53 a5 a1).f4) ((rd_T53 a5 a1).f5)) else (if ((rd_T53 a5 a1).f1) > 3000 then (zaA_.j0 k a1 true b5 b3 b4 a5 ((rd_T53 a5 a1).f0) ((rd_T53 a5 a1).f1) ((rd_T53 a5 a1).f2) ((rd_T53 a5 a1).f3) ((rd_T53 a5 a1).f4) ((rd_T53 a5 a1).f5)) else (if ((rd_T53 a5 a1).f2) < 1 then (zaA_.j0 k a1 true b5 b3 b4 a5 ((rd_T53 a5 a1).f0) ((rd_T53 a5 a1).f1) ((rd_T53 a5 a1).f2) ((rd_T53 a5 a1).f3) ((rd_T53 a5 a1).f4) ((rd_T53 a5 a1).f5)) else (if ((rd_T53 a5 a1).f2) > ((rd_T53 a5 a1).f1) then (zaA_.j0 k a1 true b5 b3 b4 a5 ((rd_T53 a5 a1).f0) ((rd_T53 a5 a1).f1) ((rd_T53 a5 a1).f2) ((rd_T53 a5 a1).f3) ((rd_T53 a5 a1).f4) ((rd_T53 a5 a1).f5)) else (if ((rd_T53 a5 a1).f3) < 1 then (zaA_.j0 k a1 true b5 b3 b4 a5 ((rd_T53 a5 a1).f0) ((rd_T53 a5 a1).f1) ((rd_T53 a5 a1).f2) ((rd_T53 a5 a1).f3) ((rd_T53 a5 a1).f4) ((rd_T53 a5 a1).f5)) else (zaA_.j0 k a1 (decide (((rd_T53 a5 a1).f3) > 1000)) b5 b3 b4 a5 ((rd_T53 a5 a1).f0) ((rd_T53 a5 a1).f1) ((rd_T53 a5 a1).f2) ((rd_T53 a5 a1).f3) ((rd_T53 a5 a1).f4) ((rd_T53 a5 a1).f5))))))) else (zaA_.j0 k a1 true b5 b3 b4 a5 ((rd_T53 a5 a1).f0) ((rd_T53 a5 a1).f1) ((rd_T53 a5 a1).f2) ((rd_T53 a5 a1).f3) ((rd_T53 a5 a1).f4) ((rd_T53 a5 a1).f5))) = some r := H
    have h6 := Aside0.mk k6
    clear k6
    by_cases n6 : g3 = true
    rotate_left
    · replace n6 := Bool.eq_false_iff.mpr n6
      subst n6
      rw [if_neg (show ¬ (false = true) by decide)] at H
      have H' := Aside0.mk H
      clear H
      have hnb13 := b1.out
      have hnc13 := a7.out
      have n7 : w8.cell? ⟨a8, 0, none⟩ = some (.string (⟨#[]⟩ : ByteArray)) := (zab_ a6.out 0).trans rfl
      have n8 : w8.cell? ⟨a8, 1, none⟩ = some (.int .i64 0) := (zab_ a6.out 1).trans rfl
      have n9 : w8.cell? ⟨a8, 2, none⟩ = some (.int .i64 0) := (zab_ a6.out 2).trans rfl
      have o0 : w8.cell? ⟨a8, 3, none⟩ = some (.int .i64 0) := (zab_ a6.out 3).trans rfl
      have o1 : w8.cell? ⟨a8, 4, none⟩ = some (.int .i64 0) := (zab_ a6.out 4).trans rfl
      have o2 : w8.cell? ⟨a8, 5, none⟩ = some (.slice none 0 0) := (zab_ a6.out 5).trans rfl
      have o3 := zaa_ a6.out 0
      have o4 := zaa_ a6.out 1
      have o5 := zaa_ a6.out 2
      have o6 := zaa_ a6.out 3
      have o7 := zaa_ a6.out 4
      have o8 := zaa_ a6.out 5
      go_wp2_with (first | ((with_reducible refine zar_ (f := 18) rfl ?_); refine goesL_ (some 15) rfl rfl Tryd.func18 (by kernel_rfl) rfl #[.string ((rd_T53 a5 a1).f0)] rfl (by (try simp only [List.map_toArray, List.map_cons, List.map_nil]); first | done | rfl | (simp only [List.length_drop, List.length_take]; rfl)) ?_; (with_reducible refine (zbh_.calls k ((rd_T53 a5 a1).f0) false _ h6.out).mono ?_); rintro e w' ⟨rfl, ⟨nd, rfl⟩⟩; refine ⟨_, rfl, ?_⟩))
      go_meet
      case rel => exact ⟨_, (true), (by first | rfl | (simp; done) | (simp [*]; done)), H', ⟨by first | omega | exact Nat.le_refl _⟩, ⟨by (with_reducible repeat (first | refine zac_ ?_ _ | refine zaf_ ?_ | refine zad_ ?_ _)); refine zaG_ ?_ a7.out _; (with_reducible repeat (first | refine zac_ ?_ _ | refine zaf_ ?_ | refine zad_ ?_ _)); refine zaG_ ?_ a7.out _; (with_reducible repeat (first | refine zac_ ?_ _ | refine zaf_ ?_ | refine zad_ ?_ _)); refine zaG_ ?_ a7.out _; (with_reducible repeat (first | refine zac_ ?_ _ | refine zaf_ ?_ | refine zad_ ?_ _)); refine zaG_ ?_ a7.out _; (with_reducible repeat (first | refine zac_ ?_ _ | refine zaf_ ?_ | refine zad_ ?_ _)); refine zaG_ ?_ a7.out _; (with_reducible repeat (first | refine zac_ ?_ _ | refine zaf_ ?_ | refine zad_ ?_ _)); refine zaG_ ?_ a7.out _; (with_reducible repeat (first | refine zac_ ?_ _ | refine zaf_ ?_ | refine zad_ ?_ _)); exact a9.out⟩, ⟨by (with_reducible repeat (first | refine zac_ ?_ _ | refine zaf_ ?_ | refine zad_ ?_ _)); refine zat_ (cs := #[.string ((rd_T53 a5 a1).f0), .int .i64 ((rd_T53 a5 a1).f1), .int .i64 ((rd_T53 a5 a1).f2), .int .i64 ((rd_T53 a5 a1).f3), .int .i64 ((rd_T53 a5 a1).f4), .slice none 0 0]) ?_ 5 _ rfl; (with_reducible repeat (first | refine zac_ ?_ _ | refine zaf_ ?_ | refine zad_ ?_ _)); refine zat_ (cs := #[.string ((rd_T53 a5 a1).f0), .int .i64 ((rd_T53 a5 a1).f1), .int .i64 ((rd_T53 a5 a1).f2), .int .i64 ((rd_T53 a5 a1).f3), .int .i64 0, .slice none 0 0]) ?_ 4 _ rfl; (with_reducible repeat (first | refine zac_ ?_ _ | refine zaf_ ?_ | refine zad_ ?_ _)); refine zat_ (cs := #[.string ((rd_T53 a5 a1).f0), .int .i64 ((rd_T53 a5 a1).f1), .int .i64 ((rd_T53 a5 a1).f2), .int .i64 0, .int .i64 0, .slice none 0 0]) ?_ 3 _ rfl; (with_reducible repeat (first | refine zac_ ?_ _ | refine zaf_ ?_ | refine zad_ ?_ _)); refine zat_ (cs := #[.string ((rd_T53 a5 a1).f0), .int .i64 ((rd_T53 a5 a1).f1), .int .i64 0, .int .i64 0, .int .i64 0, .slice none 0 0]) ?_ 2 _ rfl; (with_reducible repeat (first | refine zac_ ?_ _ | refine zaf_ ?_ | refine zad_ ?_ _)); refine zat_ (cs := #[.string ((rd_T53 a5 a1).f0), .int .i64 0, .int .i64 0, .int .i64 0, .int .i64 0, .slice none 0 0]) ?_ 1 _ rfl; (with_reducible repeat (first | refine zac_ ?_ _ | refine zaf_ ?_ | refine zad_ ?_ _)); refine zat_ (cs := #[.string (⟨#[]⟩ : ByteArray), .int .i64 0, .int .i64 0, .int .i64 0, .int .i64 0, .slice none 0 0]) ?_ 0 _ rfl; (with_reducible repeat (first | refine zac_ ?_ _ | refine zaf_ ?_ | refine zad_ ?_ _)); exact a6.out⟩, ⟨by repeat (first | (with_reducible first | exact HB.out | apply zah_ | apply zae_ | apply zag_ | refine zai_ ?_ d9.out | refine zai_ ?_ e0.out) | exact HB.out)⟩⟩
    subst n6
    rw [if_pos rfl] at H
    by_cases j4 : ((rd_T53 a5 a1).f1) < 1
    · rw [if_pos j4] at H
      have e5 : decide (((rd_T53 a5 a1).f1) < 1) = true := decide_eq_true j4
      clear j4
      (first | rw [e5] | (simp only [i64_w, i32_w]; rw [e5]) | skip)
      have H' := Aside0.mk H
      clear H
      have hnb16 := b1.out
      have hnc16 := a7.out
      have o9 : w8.cell? ⟨a8, 0, none⟩ = some (.string (⟨#[]⟩ : ByteArray)) := (zab_ a6.out 0).trans rfl
      have p0 : w8.cell? ⟨a8, 1, none⟩ = some (.int .i64 0) := (zab_ a6.out 1).trans rfl
      have p1 : w8.cell? ⟨a8, 2, none⟩ = some (.int .i64 0) := (zab_ a6.out 2).trans rfl
      have p2 : w8.cell? ⟨a8, 3, none⟩ = some (.int .i64 0) := (zab_ a6.out 3).trans rfl
      have p3 : w8.cell? ⟨a8, 4, none⟩ = some (.int .i64 0) := (zab_ a6.out 4).trans rfl
      have p4 : w8.cell? ⟨a8, 5, none⟩ = some (.slice none 0 0) := (zab_ a6.out 5).trans rfl
      have p5 := zaa_ a6.out 0
      have p6 := zaa_ a6.out 1
      have p7 := zaa_ a6.out 2
      have p8 := zaa_ a6.out 3
      have p9 := zaa_ a6.out 4
      have q0 := zaa_ a6.out 5
      go_wp2_with (first | ((with_reducible refine zar_ (f := 18) rfl ?_); refine goesL_ (some 15) rfl rfl Tryd.func18 (by kernel_rfl) rfl #[.string ((rd_T53 a5 a1).f0)] rfl (by (try simp only [List.map_toArray, List.map_cons, List.map_nil]); first | done | rfl | (simp only [List.length_drop, List.length_take]; rfl)) ?_; (with_reducible refine (zbh_.calls k ((rd_T53 a5 a1).f0) true _ h6.out).mono ?_); rintro e w' ⟨rfl, ⟨nd, rfl⟩⟩; refine ⟨_, rfl, ?_⟩))
      go_meet
      case rel => exact ⟨_, (true), (by first | rfl | (simp; done) | (simp [*]; done)), H', ⟨by first | omega | exact Nat.le_refl _⟩, ⟨by (with_reducible repeat (first | refine zac_ ?_ _ | refine zaf_ ?_ | refine zad_ ?_ _)); refine zaG_ ?_ a7.out _; (with_reducible repeat (first | refine zac_ ?_ _ | refine zaf_ ?_ | refine zad_ ?_ _)); refine zaG_ ?_ a7.out _; (with_reducible repeat (first | refine zac_ ?_ _ | refine zaf_ ?_ | refine zad_ ?_ _)); refine zaG_ ?_ a7.out _; (with_reducible repeat (first | refine zac_ ?_ _ | refine zaf_ ?_ | refine zad_ ?_ _)); refine zaG_ ?_ a7.out _; (with_reducible repeat (first | refine zac_ ?_ _ | refine zaf_ ?_ | refine zad_ ?_ _)); refine zaG_ ?_ a7.out _; (with_reducible repeat (first | refine zac_ ?_ _ | refine zaf_ ?_ | refine zad_ ?_ _)); refine zaG_ ?_ a7.out _; (with_reducible repeat (first | refine zac_ ?_ _ | refine zaf_ ?_ | refine zad_ ?_ _)); exact a9.out⟩, ⟨by (with_reducible repeat (first | refine zac_ ?_ _ | refine zaf_ ?_ | refine zad_ ?_ _)); refine zat_ (cs := #[.string ((rd_T53 a5 a1).f0), .int .i64 ((rd_T53 a5 a1).f1), .int .i64 ((rd_T53 a5 a1).f2), .int .i64 ((rd_T53 a5 a1).f3), .int .i64 ((rd_T53 a5 a1).f4), .slice none 0 0]) ?_ 5 _ rfl; (with_reducible repeat (first | refine zac_ ?_ _ | refine zaf_ ?_ | refine zad_ ?_ _)); refine zat_ (cs := #[.string ((rd_T53 a5 a1).f0), .int .i64 ((rd_T53 a5 a1).f1), .int .i64 ((rd_T53 a5 a1).f2), .int .i64 ((rd_T53 a5 a1).f3), .int .i64 0, .slice none 0 0]) ?_ 4 _ rfl; (with_reducible repeat (first | refine zac_ ?_ _ | refine zaf_ ?_ | refine zad_ ?_ _)); refine zat_ (cs := #[.string ((rd_T53 a5 a1).f0), .int .i64 ((rd_T53 a5 a1).f1), .int .i64 ((rd_T53 a5 a1).f2), .int .i64 0, .int .i64 0, .slice none 0 0]) ?_ 3 _ rfl; (with_reducible repeat (first | refine zac_ ?_ _ | refine zaf_ ?_ | refine zad_ ?_ _)); refine zat_ (cs := #[.string ((rd_T53 a5 a1).f0), .int .i64 ((rd_T53 a5 a1).f1), .int .i64 0, .int .i64 0, .int .i64 0, .slice none 0 0]) ?_ 2 _ rfl; (with_reducible repeat (first | refine zac_ ?_ _ | refine zaf_ ?_ | refine zad_ ?_ _)); refine zat_ (cs := #[.string ((rd_T53 a5 a1).f0), .int .i64 0, .int .i64 0, .int .i64 0, .int .i64 0, .slice none 0 0]) ?_ 1 _ rfl; (with_reducible repeat (first | refine zac_ ?_ _ | refine zaf_ ?_ | refine zad_ ?_ _)); refine zat_ (cs := #[.string (⟨#[]⟩ : ByteArray), .int .i64 0, .int .i64 0, .int .i64 0, .int .i64 0, .slice none 0 0]) ?_ 0 _ rfl; (with_reducible repeat (first | refine zac_ ?_ _ | refine zaf_ ?_ | refine zad_ ?_ _)); exact a6.out⟩, ⟨by repeat (first | (with_reducible first | exact HB.out | apply zah_ | apply zae_ | apply zag_ | refine zai_ ?_ d9.out | refine zai_ ?_ e0.out) | exact HB.out)⟩⟩
    rw [if_neg j4] at H
    have e5 : decide (((rd_T53 a5 a1).f1) < 1) = false := decide_eq_false j4
    clear j4
    (first | rw [e5] | (simp only [i64_w, i32_w]; rw [e5]) | skip)
    by_cases j5 : ((rd_T53 a5 a1).f1) > 3000
    · rw [if_pos j5] at H
      have k7 : decide (3000 < ((rd_T53 a5 a1).f1)) = true := decide_eq_true j5
      clear j5
      have H' := Aside0.mk H
      clear H
      have hnb19 := b1.out
      have hnc19 := a7.out
      have q1 : w8.cell? ⟨a8, 0, none⟩ = some (.string (⟨#[]⟩ : ByteArray)) := (zab_ a6.out 0).trans rfl
      have q2 : w8.cell? ⟨a8, 1, none⟩ = some (.int .i64 0) := (zab_ a6.out 1).trans rfl
      have q3 : w8.cell? ⟨a8, 2, none⟩ = some (.int .i64 0) := (zab_ a6.out 2).trans rfl
      have q4 : w8.cell? ⟨a8, 3, none⟩ = some (.int .i64 0) := (zab_ a6.out 3).trans rfl
      have q5 : w8.cell? ⟨a8, 4, none⟩ = some (.int .i64 0) := (zab_ a6.out 4).trans rfl
      have q6 : w8.cell? ⟨a8, 5, none⟩ = some (.slice none 0 0) := (zab_ a6.out 5).trans rfl
      have q7 := zaa_ a6.out 0
      have q8 := zaa_ a6.out 1
      have q9 := zaa_ a6.out 2
      have r0 := zaa_ a6.out 3
      have r1 := zaa_ a6.out 4
      have r2 := zaa_ a6.out 5
      go_wp2_with (first | ((with_reducible refine zar_ (f := 18) rfl ?_); refine goesL_ (some 15) rfl rfl Tryd.func18 (by kernel_rfl) rfl #[.string ((rd_T53 a5 a1).f0)] rfl (by (try simp only [List.map_toArray, List.map_cons, List.map_nil]); first | done | rfl | (simp only [List.length_drop, List.length_take]; rfl)) ?_; (with_reducible refine (zbh_.calls k ((rd_T53 a5 a1).f0) true _ h6.out).mono ?_); rintro e w' ⟨rfl, ⟨nd, rfl⟩⟩; refine ⟨_, rfl, ?_⟩))
      go_meet
      case rel => exact ⟨_, (true), (by first | rfl | (simp; done) | (simp [*]; done)), H', ⟨by first | omega | exact Nat.le_refl _⟩, ⟨by (with_reducible repeat (first | refine zac_ ?_ _ | refine zaf_ ?_ | refine zad_ ?_ _)); refine zaG_ ?_ a7.out _; (with_reducible repeat (first | refine zac_ ?_ _ | refine zaf_ ?_ | refine zad_ ?_ _)); refine zaG_ ?_ a7.out _; (with_reducible repeat (first | refine zac_ ?_ _ | refine zaf_ ?_ | refine zad_ ?_ _)); refine zaG_ ?_ a7.out _; (with_reducible repeat (first | refine zac_ ?_ _ | refine zaf_ ?_ | refine zad_ ?_ _)); refine zaG_ ?_ a7.out _; (with_reducible repeat (first | refine zac_ ?_ _ | refine zaf_ ?_ | refine zad_ ?_ _)); refine zaG_ ?_ a7.out _; (with_reducible repeat (first | refine zac_ ?_ _ | refine zaf_ ?_ | refine zad_ ?_ _)); refine zaG_ ?_ a7.out _; (with_reducible repeat (first | refine zac_ ?_ _ | refine zaf_ ?_ | refine zad_ ?_ _)); exact a9.out⟩, ⟨by (with_reducible repeat (first | refine zac_ ?_ _ | refine zaf_ ?_ | refine zad_ ?_ _)); refine zat_ (cs := #[.string ((rd_T53 a5 a1).f0), .int .i64 ((rd_T53 a5 a1).f1), .int .i64 ((rd_T53 a5 a1).f2), .int .i64 ((rd_T53 a5 a1).f3), .int .i64 ((rd_T53 a5 a1).f4), .slice none 0 0]) ?_ 5 _ rfl; (with_reducible repeat (first | refine zac_ ?_ _ | refine zaf_ ?_ | refine zad_ ?_ _)); refine zat_ (cs := #[.string ((rd_T53 a5 a1).f0), .int .i64 ((rd_T53 a5 a1).f1), .int .i64 ((rd_T53 a5 a1).f2), .int .i64 ((rd_T53 a5 a1).f3), .int .i64 0, .slice none 0 0]) ?_ 4 _ rfl; (with_reducible repeat (first | refine zac_ ?_ _ | refine zaf_ ?_ | refine zad_ ?_ _)); refine zat_ (cs := #[.string ((rd_T53 a5 a1).f0), .int .i64 ((rd_T53 a5 a1).f1), .int .i64 ((rd_T53 a5 a1).f2), .int .i64 0, .int .i64 0, .slice none 0 0]) ?_ 3 _ rfl; (with_reducible repeat (first | refine zac_ ?_ _ | refine zaf_ ?_ | refine zad_ ?_ _)); refine zat_ (cs := #[.string ((rd_T53 a5 a1).f0), .int .i64 ((rd_T53 a5 a1).f1), .int .i64 0, .int .i64 0, .int .i64 0, .slice none 0 0]) ?_ 2 _ rfl; (with_reducible repeat (first | refine zac_ ?_ _ | refine zaf_ ?_ | refine zad_ ?_ _)); refine zat_ (cs := #[.string ((rd_T53 a5 a1).f0), .int .i64 0, .int .i64 0, .int .i64 0, .int .i64 0, .slice none 0 0]) ?_ 1 _ rfl; (with_reducible repeat (first | refine zac_ ?_ _ | refine zaf_ ?_ | refine zad_ ?_ _)); refine zat_ (cs := #[.string (⟨#[]⟩ : ByteArray), .int .i64 0, .int .i64 0, .int .i64 0, .int .i64 0, .slice none 0 0]) ?_ 0 _ rfl; (with_reducible repeat (first | refine zac_ ?_ _ | refine zaf_ ?_ | refine zad_ ?_ _)); exact a6.out⟩, ⟨by repeat (first | (with_reducible first | exact HB.out | apply zah_ | apply zae_ | apply zag_ | refine zai_ ?_ d9.out | refine zai_ ?_ e0.out) | exact HB.out)⟩⟩
    rw [if_neg j5] at H
    have k7 : decide (3000 < ((rd_T53 a5 a1).f1)) = false := decide_eq_false j5
    clear j5
    by_cases j6 : ((rd_T53 a5 a1).f2) < 1
    · rw [if_pos j6] at H
      have k8 : decide (((rd_T53 a5 a1).f2) < 1) = true := decide_eq_true j6
      clear j6
      have H' := Aside0.mk H
      clear H
      have hnb22 := b1.out
      have hnc22 := a7.out
      have r3 : w8.cell? ⟨a8, 0, none⟩ = some (.string (⟨#[]⟩ : ByteArray)) := (zab_ a6.out 0).trans rfl
      have r4 : w8.cell? ⟨a8, 1, none⟩ = some (.int .i64 0) := (zab_ a6.out 1).trans rfl
      have r5 : w8.cell? ⟨a8, 2, none⟩ = some (.int .i64 0) := (zab_ a6.out 2).trans rfl
      have r6 : w8.cell? ⟨a8, 3, none⟩ = some (.int .i64 0) := (zab_ a6.out 3).trans rfl
      have r7 : w8.cell? ⟨a8, 4, none⟩ = some (.int .i64 0) := (zab_ a6.out 4).trans rfl
      have r8 : w8.cell? ⟨a8, 5, none⟩ = some (.slice none 0 0) := (zab_ a6.out 5).trans rfl
      have r9 := zaa_ a6.out 0
      have t0 := zaa_ a6.out 1
      have t1 := zaa_ a6.out 2
      have t2 := zaa_ a6.out 3
      have t3 := zaa_ a6.out 4
      have t4 := zaa_ a6.out 5
      go_wp2_with (first | ((with_reducible refine zar_ (f := 18) rfl ?_); refine goesL_ (some 15) rfl rfl Tryd.func18 (by kernel_rfl) rfl #[.string ((rd_T53 a5 a1).f0)] rfl (by (try simp only [List.map_toArray, List.map_cons, List.map_nil]); first | done | rfl | (simp only [List.length_drop, List.length_take]; rfl)) ?_; (with_reducible refine (zbh_.calls k ((rd_T53 a5 a1).f0) true _ h6.out).mono ?_); rintro e w' ⟨rfl, ⟨nd, rfl⟩⟩; refine ⟨_, rfl, ?_⟩))
      go_meet
      case rel => exact ⟨_, (true), (by first | rfl | (simp; done) | (simp [*]; done)), H', ⟨by first | omega | exact Nat.le_refl _⟩, ⟨by (with_reducible repeat (first | refine zac_ ?_ _ | refine zaf_ ?_ | refine zad_ ?_ _)); refine zaG_ ?_ a7.out _; (with_reducible repeat (first | refine zac_ ?_ _ | refine zaf_ ?_ | refine zad_ ?_ _)); refine zaG_ ?_ a7.out _; (with_reducible repeat (first | refine zac_ ?_ _ | refine zaf_ ?_ | refine zad_ ?_ _)); refine zaG_ ?_ a7.out _; (with_reducible repeat (first | refine zac_ ?_ _ | refine zaf_ ?_ | refine zad_ ?_ _)); refine zaG_ ?_ a7.out _; (with_reducible repeat (first | refine zac_ ?_ _ | refine zaf_ ?_ | refine zad_ ?_ _)); refine zaG_ ?_ a7.out _; (with_reducible repeat (first | refine zac_ ?_ _ | refine zaf_ ?_ | refine zad_ ?_ _)); refine zaG_ ?_ a7.out _; (with_reducible repeat (first | refine zac_ ?_ _ | refine zaf_ ?_ | refine zad_ ?_ _)); exact a9.out⟩, ⟨by (with_reducible repeat (first | refine zac_ ?_ _ | refine zaf_ ?_ | refine zad_ ?_ _)); refine zat_ (cs := #[.string ((rd_T53 a5 a1).f0), .int .i64 ((rd_T53 a5 a1).f1), .int .i64 ((rd_T53 a5 a1).f2), .int .i64 ((rd_T53 a5 a1).f3), .int .i64 ((rd_T53 a5 a1).f4), .slice none 0 0]) ?_ 5 _ rfl; (with_reducible repeat (first | refine zac_ ?_ _ | refine zaf_ ?_ | refine zad_ ?_ _)); refine zat_ (cs := #[.string ((rd_T53 a5 a1).f0), .int .i64 ((rd_T53 a5 a1).f1), .int .i64 ((rd_T53 a5 a1).f2), .int .i64 ((rd_T53 a5 a1).f3), .int .i64 0, .slice none 0 0]) ?_ 4 _ rfl; (with_reducible repeat (first | refine zac_ ?_ _ | refine zaf_ ?_ | refine zad_ ?_ _)); refine zat_ (cs := #[.string ((rd_T53 a5 a1).f0), .int .i64 ((rd_T53 a5 a1).f1), .int .i64 ((rd_T53 a5 a1).f2), .int .i64 0, .int .i64 0, .slice none 0 0]) ?_ 3 _ rfl; (with_reducible repeat (first | refine zac_ ?_ _ | refine zaf_ ?_ | refine zad_ ?_ _)); refine zat_ (cs := #[.string ((rd_T53 a5 a1).f0), .int .i64 ((rd_T53 a5 a1).f1), .int .i64 0, .int .i64 0, .int .i64 0, .slice none 0 0]) ?_ 2 _ rfl; (with_reducible repeat (first | refine zac_ ?_ _ | refine zaf_ ?_ | refine zad_ ?_ _)); refine zat_ (cs := #[.string ((rd_T53 a5 a1).f0), .int .i64 0, .int .i64 0, .int .i64 0, .int .i64 0, .slice none 0 0]) ?_ 1 _ rfl; (with_reducible repeat (first | refine zac_ ?_ _ | refine zaf_ ?_ | refine zad_ ?_ _)); refine zat_ (cs := #[.string (⟨#[]⟩ : ByteArray), .int .i64 0, .int .i64 0, .int .i64 0, .int .i64 0, .slice none 0 0]) ?_ 0 _ rfl; (with_reducible repeat (first | refine zac_ ?_ _ | refine zaf_ ?_ | refine zad_ ?_ _)); exact a6.out⟩, ⟨by repeat (first | (with_reducible first | exact HB.out | apply zah_ | apply zae_ | apply zag_ | refine zai_ ?_ d9.out | refine zai_ ?_ e0.out) | exact HB.out)⟩⟩
    rw [if_neg j6] at H
    have k8 : decide (((rd_T53 a5 a1).f2) < 1) = false := decide_eq_false j6
    clear j6
    by_cases j7 : ((rd_T53 a5 a1).f2) > ((rd_T53 a5 a1).f1)
    · rw [if_pos j7] at H
      have k9 : decide (((rd_T53 a5 a1).f1) < ((rd_T53 a5 a1).f2)) = true := decide_eq_true j7
      clear j7
      have H' := Aside0.mk H
      clear H
      have hnb25 := b1.out
      have hnc25 := a7.out
      have t5 : w8.cell? ⟨a8, 0, none⟩ = some (.string (⟨#[]⟩ : ByteArray)) := (zab_ a6.out 0).trans rfl
      have t6 : w8.cell? ⟨a8, 1, none⟩ = some (.int .i64 0) := (zab_ a6.out 1).trans rfl
      have t7 : w8.cell? ⟨a8, 2, none⟩ = some (.int .i64 0) := (zab_ a6.out 2).trans rfl
      have t8 : w8.cell? ⟨a8, 3, none⟩ = some (.int .i64 0) := (zab_ a6.out 3).trans rfl
      have t9 : w8.cell? ⟨a8, 4, none⟩ = some (.int .i64 0) := (zab_ a6.out 4).trans rfl
      have v0 : w8.cell? ⟨a8, 5, none⟩ = some (.slice none 0 0) := (zab_ a6.out 5).trans rfl
      have v1 := zaa_ a6.out 0
      have v2 := zaa_ a6.out 1
      have v3 := zaa_ a6.out 2
      have v4 := zaa_ a6.out 3
      have v5 := zaa_ a6.out 4
      have v8 := zaa_ a6.out 5
      go_wp2_with (first | ((with_reducible refine zar_ (f := 18) rfl ?_); refine goesL_ (some 15) rfl rfl Tryd.func18 (by kernel_rfl) rfl #[.string ((rd_T53 a5 a1).f0)] rfl (by (try simp only [List.map_toArray, List.map_cons, List.map_nil]); first | done | rfl | (simp only [List.length_drop, List.length_take]; rfl)) ?_; (with_reducible refine (zbh_.calls k ((rd_T53 a5 a1).f0) true _ h6.out).mono ?_); rintro e w' ⟨rfl, ⟨nd, rfl⟩⟩; refine ⟨_, rfl, ?_⟩))
      go_meet
      case rel => exact ⟨_, (true), (by first | rfl | (simp; done) | (simp [*]; done)), H', ⟨by first | omega | exact Nat.le_refl _⟩, ⟨by (with_reducible repeat (first | refine zac_ ?_ _ | refine zaf_ ?_ | refine zad_ ?_ _)); refine zaG_ ?_ a7.out _; (with_reducible repeat (first | refine zac_ ?_ _ | refine zaf_ ?_ | refine zad_ ?_ _)); refine zaG_ ?_ a7.out _; (with_reducible repeat (first | refine zac_ ?_ _ | refine zaf_ ?_ | refine zad_ ?_ _)); refine zaG_ ?_ a7.out _; (with_reducible repeat (first | refine zac_ ?_ _ | refine zaf_ ?_ | refine zad_ ?_ _)); refine zaG_ ?_ a7.out _; (with_reducible repeat (first | refine zac_ ?_ _ | refine zaf_ ?_ | refine zad_ ?_ _)); refine zaG_ ?_ a7.out _; (with_reducible repeat (first | refine zac_ ?_ _ | refine zaf_ ?_ | refine zad_ ?_ _)); refine zaG_ ?_ a7.out _; (with_reducible repeat (first | refine zac_ ?_ _ | refine zaf_ ?_ | refine zad_ ?_ _)); exact a9.out⟩, ⟨by (with_reducible repeat (first | refine zac_ ?_ _ | refine zaf_ ?_ | refine zad_ ?_ _)); refine zat_ (cs := #[.string ((rd_T53 a5 a1).f0), .int .i64 ((rd_T53 a5 a1).f1), .int .i64 ((rd_T53 a5 a1).f2), .int .i64 ((rd_T53 a5 a1).f3), .int .i64 ((rd_T53 a5 a1).f4), .slice none 0 0]) ?_ 5 _ rfl; (with_reducible repeat (first | refine zac_ ?_ _ | refine zaf_ ?_ | refine zad_ ?_ _)); refine zat_ (cs := #[.string ((rd_T53 a5 a1).f0), .int .i64 ((rd_T53 a5 a1).f1), .int .i64 ((rd_T53 a5 a1).f2), .int .i64 ((rd_T53 a5 a1).f3), .int .i64 0, .slice none 0 0]) ?_ 4 _ rfl; (with_reducible repeat (first | refine zac_ ?_ _ | refine zaf_ ?_ | refine zad_ ?_ _)); refine zat_ (cs := #[.string ((rd_T53 a5 a1).f0), .int .i64 ((rd_T53 a5 a1).f1), .int .i64 ((rd_T53 a5 a1).f2), .int .i64 0, .int .i64 0, .slice none 0 0]) ?_ 3 _ rfl; (with_reducible repeat (first | refine zac_ ?_ _ | refine zaf_ ?_ | refine zad_ ?_ _)); refine zat_ (cs := #[.string ((rd_T53 a5 a1).f0), .int .i64 ((rd_T53 a5 a1).f1), .int .i64 0, .int .i64 0, .int .i64 0, .slice none 0 0]) ?_ 2 _ rfl; (with_reducible repeat (first | refine zac_ ?_ _ | refine zaf_ ?_ | refine zad_ ?_ _)); refine zat_ (cs := #[.string ((rd_T53 a5 a1).f0), .int .i64 0, .int .i64 0, .int .i64 0, .int .i64 0, .slice none 0 0]) ?_ 1 _ rfl; (with_reducible repeat (first | refine zac_ ?_ _ | refine zaf_ ?_ | refine zad_ ?_ _)); refine zat_ (cs := #[.string (⟨#[]⟩ : ByteArray), .int .i64 0, .int .i64 0, .int .i64 0, .int .i64 0, .slice none 0 0]) ?_ 0 _ rfl; (with_reducible repeat (first | refine zac_ ?_ _ | refine zaf_ ?_ | refine zad_ ?_ _)); exact a6.out⟩, ⟨by repeat (first | (with_reducible first | exact HB.out | apply zah_ | apply zae_ | apply zag_ | refine zai_ ?_ d9.out | refine zai_ ?_ e0.out) | exact HB.out)⟩⟩
    rw [if_neg j7] at H
    have k9 : decide (((rd_T53 a5 a1).f1) < ((rd_T53 a5 a1).f2)) = false := decide_eq_false j7
    clear j7
    by_cases j8 : ((rd_T53 a5 a1).f3) < 1
    · rw [if_pos j8] at H
      have l2 : decide (((rd_T53 a5 a1).f3) < 1) = true := decide_eq_true j8
      clear j8
      have H' := Aside0.mk H
      clear H
      have hnb28 := b1.out
      have hnc28 := a7.out
      have v9 : w8.cell? ⟨a8, 0, none⟩ = some (.string (⟨#[]⟩ : ByteArray)) := (zab_ a6.out 0).trans rfl
      have w0 : w8.cell? ⟨a8, 1, none⟩ = some (.int .i64 0) := (zab_ a6.out 1).trans rfl
      have w1 : w8.cell? ⟨a8, 2, none⟩ = some (.int .i64 0) := (zab_ a6.out 2).trans rfl
      have w2 : w8.cell? ⟨a8, 3, none⟩ = some (.int .i64 0) := (zab_ a6.out 3).trans rfl
      have w3 : w8.cell? ⟨a8, 4, none⟩ = some (.int .i64 0) := (zab_ a6.out 4).trans rfl
      have w4 : w8.cell? ⟨a8, 5, none⟩ = some (.slice none 0 0) := (zab_ a6.out 5).trans rfl
      have w5 := zaa_ a6.out 0
      have w7 := zaa_ a6.out 1
      have w9 := zaa_ a6.out 2
      have x0 := zaa_ a6.out 3
      have x2 := zaa_ a6.out 4
      have x3 := zaa_ a6.out 5
      go_wp2_with (first | ((with_reducible refine zar_ (f := 18) rfl ?_); refine goesL_ (some 15) rfl rfl Tryd.func18 (by kernel_rfl) rfl #[.string ((rd_T53 a5 a1).f0)] rfl (by (try simp only [List.map_toArray, List.map_cons, List.map_nil]); first | done | rfl | (simp only [List.length_drop, List.length_take]; rfl)) ?_; (with_reducible refine (zbh_.calls k ((rd_T53 a5 a1).f0) true _ h6.out).mono ?_); rintro e w' ⟨rfl, ⟨nd, rfl⟩⟩; refine ⟨_, rfl, ?_⟩))
      go_meet
      case rel => exact ⟨_, (true), (by first | rfl | (simp; done) | (simp [*]; done)), H', ⟨by first | omega | exact Nat.le_refl _⟩, ⟨by (with_reducible repeat (first | refine zac_ ?_ _ | refine zaf_ ?_ | refine zad_ ?_ _)); refine zaG_ ?_ a7.out _; (with_reducible repeat (first | refine zac_ ?_ _ | refine zaf_ ?_ | refine zad_ ?_ _)); refine zaG_ ?_ a7.out _; (with_reducible repeat (first | refine zac_ ?_ _ | refine zaf_ ?_ | refine zad_ ?_ _)); refine zaG_ ?_ a7.out _; (with_reducible repeat (first | refine zac_ ?_ _ | refine zaf_ ?_ | refine zad_ ?_ _)); refine zaG_ ?_ a7.out _; (with_reducible repeat (first | refine zac_ ?_ _ | refine zaf_ ?_ | refine zad_ ?_ _)); refine zaG_ ?_ a7.out _; (with_reducible repeat (first | refine zac_ ?_ _ | refine zaf_ ?_ | refine zad_ ?_ _)); refine zaG_ ?_ a7.out _; (with_reducible repeat (first | refine zac_ ?_ _ | refine zaf_ ?_ | refine zad_ ?_ _)); exact a9.out⟩, ⟨by (with_reducible repeat (first | refine zac_ ?_ _ | refine zaf_ ?_ | refine zad_ ?_ _)); refine zat_ (cs := #[.string ((rd_T53 a5 a1).f0), .int .i64 ((rd_T53 a5 a1).f1), .int .i64 ((rd_T53 a5 a1).f2), .int .i64 ((rd_T53 a5 a1).f3), .int .i64 ((rd_T53 a5 a1).f4), .slice none 0 0]) ?_ 5 _ rfl; (with_reducible repeat (first | refine zac_ ?_ _ | refine zaf_ ?_ | refine zad_ ?_ _)); refine zat_ (cs := #[.string ((rd_T53 a5 a1).f0), .int .i64 ((rd_T53 a5 a1).f1), .int .i64 ((rd_T53 a5 a1).f2), .int .i64 ((rd_T53 a5 a1).f3), .int .i64 0, .slice none 0 0]) ?_ 4 _ rfl; (with_reducible repeat (first | refine zac_ ?_ _ | refine zaf_ ?_ | refine zad_ ?_ _)); refine zat_ (cs := #[.string ((rd_T53 a5 a1).f0), .int .i64 ((rd_T53 a5 a1).f1), .int .i64 ((rd_T53 a5 a1).f2), .int .i64 0, .int .i64 0, .slice none 0 0]) ?_ 3 _ rfl; (with_reducible repeat (first | refine zac_ ?_ _ | refine zaf_ ?_ | refine zad_ ?_ _)); refine zat_ (cs := #[.string ((rd_T53 a5 a1).f0), .int .i64 ((rd_T53 a5 a1).f1), .int .i64 0, .int .i64 0, .int .i64 0, .slice none 0 0]) ?_ 2 _ rfl; (with_reducible repeat (first | refine zac_ ?_ _ | refine zaf_ ?_ | refine zad_ ?_ _)); refine zat_ (cs := #[.string ((rd_T53 a5 a1).f0), .int .i64 0, .int .i64 0, .int .i64 0, .int .i64 0, .slice none 0 0]) ?_ 1 _ rfl; (with_reducible repeat (first | refine zac_ ?_ _ | refine zaf_ ?_ | refine zad_ ?_ _)); refine zat_ (cs := #[.string (⟨#[]⟩ : ByteArray), .int .i64 0, .int .i64 0, .int .i64 0, .int .i64 0, .slice none 0 0]) ?_ 0 _ rfl; (with_reducible repeat (first | refine zac_ ?_ _ | refine zaf_ ?_ | refine zad_ ?_ _)); exact a6.out⟩, ⟨by repeat (first | (with_reducible first | exact HB.out | apply zah_ | apply zae_ | apply zag_ | refine zai_ ?_ d9.out | refine zai_ ?_ e0.out) | exact HB.out)⟩⟩
    rw [if_neg j8] at H
    have l2 : decide (((rd_T53 a5 a1).f3) < 1) = false := decide_eq_false j8
    clear j8
    have H' := Aside0.mk H
    clear H
    have hnb30 := b1.out
    have hnc30 := a7.out
    have x4 : w8.cell? ⟨a8, 0, none⟩ = some (.string (⟨#[]⟩ : ByteArray)) := (zab_ a6.out 0).trans rfl
    have x5 : w8.cell? ⟨a8, 1, none⟩ = some (.int .i64 0) := (zab_ a6.out 1).trans rfl
    have x8 : w8.cell? ⟨a8, 2, none⟩ = some (.int .i64 0) := (zab_ a6.out 2).trans rfl
    have x9 : w8.cell? ⟨a8, 3, none⟩ = some (.int .i64 0) := (zab_ a6.out 3).trans rfl
    have z0 : w8.cell? ⟨a8, 4, none⟩ = some (.int .i64 0) := (zab_ a6.out 4).trans rfl
    have z1 : w8.cell? ⟨a8, 5, none⟩ = some (.slice none 0 0) := (zab_ a6.out 5).trans rfl
    have z2 := zaa_ a6.out 0
    have z3 := zaa_ a6.out 1
    have z4 := zaa_ a6.out 2
    have z5 := zaa_ a6.out 3
    have z6 := zaa_ a6.out 4
    have z7 := zaa_ a6.out 5
    go_wp2_with (first | ((with_reducible refine zar_ (f := 18) rfl ?_); refine goesL_ (some 15) rfl rfl Tryd.func18 (by kernel_rfl) rfl #[.string ((rd_T53 a5 a1).f0)] rfl (by (try simp only [List.map_toArray, List.map_cons, List.map_nil]); first | done | rfl | (simp only [List.length_drop, List.length_take]; rfl)) ?_; (with_reducible refine (zbh_.calls k ((rd_T53 a5 a1).f0) true _ h6.out).mono ?_); rintro e w' ⟨rfl, ⟨nd, rfl⟩⟩; refine ⟨_, rfl, ?_⟩))
    go_meet
    case rel => exact ⟨_, (decide (((rd_T53 a5 a1).f3) > 1000)), (by first | rfl | (simp; done) | (simp [*]; done)), H', ⟨by first | omega | exact Nat.le_refl _⟩, ⟨by (with_reducible repeat (first | refine zac_ ?_ _ | refine zaf_ ?_ | refine zad_ ?_ _)); refine zaG_ ?_ a7.out _; (with_reducible repeat (first | refine zac_ ?_ _ | refine zaf_ ?_ | refine zad_ ?_ _)); refine zaG_ ?_ a7.out _; (with_reducible repeat (first | refine zac_ ?_ _ | refine zaf_ ?_ | refine zad_ ?_ _)); refine zaG_ ?_ a7.out _; (with_reducible repeat (first | refine zac_ ?_ _ | refine zaf_ ?_ | refine zad_ ?_ _)); refine zaG_ ?_ a7.out _; (with_reducible repeat (first | refine zac_ ?_ _ | refine zaf_ ?_ | refine zad_ ?_ _)); refine zaG_ ?_ a7.out _; (with_reducible repeat (first | refine zac_ ?_ _ | refine zaf_ ?_ | refine zad_ ?_ _)); refine zaG_ ?_ a7.out _; (with_reducible repeat (first | refine zac_ ?_ _ | refine zaf_ ?_ | refine zad_ ?_ _)); exact a9.out⟩, ⟨by (with_reducible repeat (first | refine zac_ ?_ _ | refine zaf_ ?_ | refine zad_ ?_ _)); refine zat_ (cs := #[.string ((rd_T53 a5 a1).f0), .int .i64 ((rd_T53 a5 a1).f1), .int .i64 ((rd_T53 a5 a1).f2), .int .i64 ((rd_T53 a5 a1).f3), .int .i64 ((rd_T53 a5 a1).f4), .slice none 0 0]) ?_ 5 _ rfl; (with_reducible repeat (first | refine zac_ ?_ _ | refine zaf_ ?_ | refine zad_ ?_ _)); refine zat_ (cs := #[.string ((rd_T53 a5 a1).f0), .int .i64 ((rd_T53 a5 a1).f1), .int .i64 ((rd_T53 a5 a1).f2), .int .i64 ((rd_T53 a5 a1).f3), .int .i64 0, .slice none 0 0]) ?_ 4 _ rfl; (with_reducible repeat (first | refine zac_ ?_ _ | refine zaf_ ?_ | refine zad_ ?_ _)); refine zat_ (cs := #[.string ((rd_T53 a5 a1).f0), .int .i64 ((rd_T53 a5 a1).f1), .int .i64 ((rd_T53 a5 a1).f2), .int .i64 0, .int .i64 0, .slice none 0 0]) ?_ 3 _ rfl; (with_reducible repeat (first | refine zac_ ?_ _ | refine zaf_ ?_ | refine zad_ ?_ _)); refine zat_ (cs := #[.string ((rd_T53 a5 a1).f0), .int .i64 ((rd_T53 a5 a1).f1), .int .i64 0, .int .i64 0, .int .i64 0, .slice none 0 0]) ?_ 2 _ rfl; (with_reducible repeat (first | refine zac_ ?_ _ | refine zaf_ ?_ | refine zad_ ?_ _)); refine zat_ (cs := #[.string ((rd_T53 a5 a1).f0), .int .i64 0, .int .i64 0, .int .i64 0, .int .i64 0, .slice none 0 0]) ?_ 1 _ rfl; (with_reducible repeat (first | refine zac_ ?_ _ | refine zaf_ ?_ | refine zad_ ?_ _)); refine zat_ (cs := #[.string (⟨#[]⟩ : ByteArray), .int .i64 0, .int .i64 0, .int .i64 0, .int .i64 0, .slice none 0 0]) ?_ 0 _ rfl; (with_reducible repeat (first | refine zac_ ?_ _ | refine zaf_ ?_ | refine zad_ ?_ _)); exact a6.out⟩, ⟨by repeat (first | (with_reducible first | exact HB.out | apply zah_ | apply zae_ | apply zag_ | refine zai_ ?_ d9.out | refine zai_ ?_ e0.out) | exact HB.out)⟩⟩
  clear HC5
  obtain ⟨kq, g2, rfl, HA, h3, a9, a6, HB⟩ := hcut
  cases kq with
  | zero => exact absurd HA.out (by simp [zaA_.j0])
  | succ L9 => ?_
  have H := HA.out
  clear HA
  simp only [zaA_.j0] at H
  by_cases z8 : g2 = true
  · subst z8
    rw [if_pos rfl] at H
    obtain rfl := Option.some.inj H
    go_wp2
    go_ret
    exact ⟨by first | rfl | (simp [zal_, zak_] <;> rfl) | (simp [*, zal_, zak_] <;> rfl), HB.out⟩
  replace z8 := Bool.eq_false_iff.mpr z8
  subst z8
  rw [if_neg (show ¬ (false = true) by decide)] at H
  have HC33 := Aside0.mk H
  clear H
  go_upto_region 4 with (fail)
  go_cut [59] (fun M0 wc => ∃ (kq : Nat) (e3 : Bool), M0 = .bool e3 ∧ Aside0 (zaA_.j1 kq a1 e3 b5 b3 b4 a5 ((rd_T53 a5 a1).f0) ((rd_T53 a5 a1).f1) ((rd_T53 a5 a1).f2) ((rd_T53 a5 a1).f3) ((rd_T53 a5 a1).f4) ((rd_T53 a5 a1).f5) = some r) ∧ Aside0 (kq ≤ L9) ∧ Aside0 (wc.heap[b2]? = some (.cells #[.int .i64 b5, (.slice d0 b3.length d1), (.slice d2 b4.length d3), (.slice (some ad316) a5.length d4)] 37 (0, 0))) ∧ Aside0 (wc.heap[a8]? = some (.cells #[.string ((rd_T53 a5 a1).f0), .int .i64 ((rd_T53 a5 a1).f1), .int .i64 ((rd_T53 a5 a1).f2), .int .i64 ((rd_T53 a5 a1).f3), .int .i64 ((rd_T53 a5 a1).f4), (.slice c9 ((rd_T53 a5 a1).f5).length c316_5)] 53 (0, 0))) ∧ Aside0 (Below w.heap.size w wc))
  case first =>
    have H := HC33.out
    clear HC33
    by_cases j9 : ((rd_T53 a5 a1).f4) < 0
    · rw [if_pos j9] at H
      have e6 : decide (((rd_T53 a5 a1).f4) < 0) = true := decide_eq_true j9
      clear j9
      (first | rw [e6] | (simp only [i64_w, i32_w]; rw [e6]) | skip)
      have H' := Aside0.mk H
      clear H
      have hnb35 := b1.out
      have hnc35 := a7.out
      have z9 : wc.cell? ⟨a8, 0, none⟩ = some (.string ((rd_T53 a5 a1).f0)) := (zab_ a6.out 0).trans rfl
      have A0 : wc.cell? ⟨a8, 1, none⟩ = some (.int .i64 ((rd_T53 a5 a1).f1)) := (zab_ a6.out 1).trans rfl
      have A1 : wc.cell? ⟨a8, 2, none⟩ = some (.int .i64 ((rd_T53 a5 a1).f2)) := (zab_ a6.out 2).trans rfl
      have A2 : wc.cell? ⟨a8, 3, none⟩ = some (.int .i64 ((rd_T53 a5 a1).f3)) := (zab_ a6.out 3).trans rfl
      have A3 : wc.cell? ⟨a8, 4, none⟩ = some (.int .i64 ((rd_T53 a5 a1).f4)) := (zab_ a6.out 4).trans rfl
      have A4 : wc.cell? ⟨a8, 5, none⟩ = some (.slice c9 ((rd_T53 a5 a1).f5).length c316_5) := (zab_ a6.out 5).trans rfl
      have A5 := zaa_ a6.out 0
      have A6 := zaa_ a6.out 1
      have A7 := zaa_ a6.out 2
      have A8 := zaa_ a6.out 3
      have A9 := zaa_ a6.out 4
      have B0 := zaa_ a6.out 5
      go_wp2
      go_meet
      case rel => exact ⟨_, (true), (by first | rfl | (simp; done) | (simp [*]; done)), H', ⟨by have := h3.out; first | omega | exact Nat.le_refl _⟩, ⟨a9.out⟩, ⟨a6.out⟩, ⟨HB.out⟩⟩
    rw [if_neg j9] at H
    have e6 : decide (((rd_T53 a5 a1).f4) < 0) = false := decide_eq_false j9
    clear j9
    (first | rw [e6] | (simp only [i64_w, i32_w]; rw [e6]) | skip)
    have H' := Aside0.mk H
    clear H
    have hnb37 := b1.out
    have hnc37 := a7.out
    have B1 : wc.cell? ⟨a8, 0, none⟩ = some (.string ((rd_T53 a5 a1).f0)) := (zab_ a6.out 0).trans rfl
    have B2 : wc.cell? ⟨a8, 1, none⟩ = some (.int .i64 ((rd_T53 a5 a1).f1)) := (zab_ a6.out 1).trans rfl
    have B3 : wc.cell? ⟨a8, 2, none⟩ = some (.int .i64 ((rd_T53 a5 a1).f2)) := (zab_ a6.out 2).trans rfl
    have B4 : wc.cell? ⟨a8, 3, none⟩ = some (.int .i64 ((rd_T53 a5 a1).f3)) := (zab_ a6.out 3).trans rfl
    have B5 : wc.cell? ⟨a8, 4, none⟩ = some (.int .i64 ((rd_T53 a5 a1).f4)) := (zab_ a6.out 4).trans rfl
    have B6 : wc.cell? ⟨a8, 5, none⟩ = some (.slice c9 ((rd_T53 a5 a1).f5).length c316_5) := (zab_ a6.out 5).trans rfl
    have B7 := zaa_ a6.out 0
    have B8 := zaa_ a6.out 1
    have C0 := zaa_ a6.out 2
    have C1 := zaa_ a6.out 3
    have C2 := zaa_ a6.out 4
    have C3 := zaa_ a6.out 5
    have C4 : wc.cell? ⟨b2, 0, none⟩ = some (.int .i64 b5) := (zab_ a9.out 0).trans rfl
    have C5 : wc.cell? ⟨b2, 1, none⟩ = some (.slice d0 b3.length d1) := (zab_ a9.out 1).trans rfl
    have C6 : wc.cell? ⟨b2, 2, none⟩ = some (.slice d2 b4.length d3) := (zab_ a9.out 2).trans rfl
    have C7 : wc.cell? ⟨b2, 3, none⟩ = some (.slice (some ad316) a5.length d4) := (zab_ a9.out 3).trans rfl
    have C8 := zaa_ a9.out 0
    have C9 := zaa_ a9.out 1
    have D0 := zaa_ a9.out 2
    have D1 := zaa_ a9.out 3
    go_wp2
    go_meet
    case rel => exact ⟨_, (decide (((rd_T53 a5 a1).f4) ≥ (b3.length : Int))), (by first | rfl | (simp; done) | (simp [*]; done)), H', ⟨by have := h3.out; first | omega | exact Nat.le_refl _⟩, ⟨a9.out⟩, ⟨a6.out⟩, ⟨HB.out⟩⟩
  clear HC33
  obtain ⟨kq, e3, rfl, HA, g4, a9, a6, HB⟩ := hcut
  cases kq with
  | zero => exact absurd HA.out (by simp [zaA_.j1])
  | succ l3 => ?_
  have H := HA.out
  clear HA
  simp only [zaA_.j1] at H
  by_cases D2 : e3 = true
  · subst D2
    rw [if_pos rfl] at H
    obtain rfl := Option.some.inj H
    go_wp2
    go_ret
    exact ⟨by first | rfl | (simp [zal_, zak_] <;> rfl) | (simp [*, zal_, zak_] <;> rfl), HB.out⟩
  replace D2 := Bool.eq_false_iff.mpr D2
  subst D2
  rw [if_neg (show ¬ (false = true) by decide)] at H
  have H' := Aside0.mk H
  clear H
  go_wp2
  go_loopg [6] l3 (fun kq v6 w' => ∃ (b0 : Int), v6 = .int .i64 b0 ∧ Aside0 (zaA_.l0 kq a1 b0 b5 b3 b4 a5 ((rd_T53 a5 a1).f0) ((rd_T53 a5 a1).f1) ((rd_T53 a5 a1).f2) ((rd_T53 a5 a1).f3) ((rd_T53 a5 a1).f4) ((rd_T53 a5 a1).f5) = some r) ∧ Aside0 (kq ≤ l3) ∧ Aside0 (w'.heap[b2]? = some (.cells #[.int .i64 b5, (.slice d0 b3.length d1), (.slice d2 b4.length d3), (.slice (some ad316) a5.length d4)] 37 (0, 0))) ∧ Aside0 (w'.heap[a8]? = some (.cells #[.string ((rd_T53 a5 a1).f0), .int .i64 ((rd_T53 a5 a1).f1), .int .i64 ((rd_T53 a5 a1).f2), .int .i64 ((rd_T53 a5 a1).f3), .int .i64 ((rd_T53 a5 a1).f4), (.slice c9 ((rd_T53 a5 a1).f5).length c316_5)] 53 (0, 0))) ∧ Aside0 (Below w.heap.size w w'))
  case atStart => exact ⟨(0), (by first | rfl | (simp; done) | (simp [*]; done)), H', ⟨Nat.le_refl _⟩, ⟨a9.out⟩, ⟨a6.out⟩, ⟨HB.out⟩⟩
  clear H'
  obtain ⟨b0, rfl, HA, k0, a9, a6, HB⟩ := hrel
  cases gk with
  | zero => exact absurd HA.out (by simp [zaA_.l0])
  | succ k3 => ?_
  have H := HA.out
  clear HA
  simp only [zaA_.l0] at H
  by_cases k1 : b0 < a1
  rotate_left
  · rw [if_neg k1] at H
    have l4 : decide (b0 < a1) = false := decide_eq_false k1
    clear k1
    have HC42 := Aside0.mk H
    clear H
    go_upto_region 11 with (fail)
    go_cut [94] (fun M1 wc => ∃ (kq : Nat) (e4 : Bool), M1 = .bool e4 ∧ Aside0 (zaA_.j3 kq e4 b5 b3 b4 a5 ((rd_T53 a5 a1).f0) ((rd_T53 a5 a1).f1) ((rd_T53 a5 a1).f2) ((rd_T53 a5 a1).f3) ((rd_T53 a5 a1).f4) ((rd_T53 a5 a1).f5) = some r) ∧ Aside0 (kq ≤ k3) ∧ Aside0 (wc.heap[b2]? = some (.cells #[.int .i64 b5, (.slice d0 b3.length d1), (.slice d2 b4.length d3), (.slice (some ad316) a5.length d4)] 37 (0, 0))) ∧ Aside0 (wc.heap[a8]? = some (.cells #[.string ((rd_T53 a5 a1).f0), .int .i64 ((rd_T53 a5 a1).f1), .int .i64 ((rd_T53 a5 a1).f2), .int .i64 ((rd_T53 a5 a1).f3), .int .i64 ((rd_T53 a5 a1).f4), (.slice c9 ((rd_T53 a5 a1).f5).length c316_5)] 53 (0, 0))) ∧ Aside0 (Below w.heap.size w wc))
    case first =>
      have H := HC42.out
      clear HC42
      by_cases k2 : (((rd_T53 a5 a1).f5).length : Int) < 1
      · rw [if_pos k2] at H
        have e7 : decide ((((rd_T53 a5 a1).f5).length : Int) < 1) = true := decide_eq_true k2
        have l5 : decide (((rd_T53 a5 a1).f5).length < 1) = true := decide_eq_true (by omega)
        clear k2
        (first | rw [e7] | (simp only [i64_w, i32_w]; rw [e7]) | skip)
        have H' := Aside0.mk H
        clear H
        have hnb44 := b1.out
        have hnc44 := a7.out
        have D3 : wr.cell? ⟨a8, 0, none⟩ = some (.string ((rd_T53 a5 a1).f0)) := (zab_ a6.out 0).trans rfl
        have D4 : wr.cell? ⟨a8, 1, none⟩ = some (.int .i64 ((rd_T53 a5 a1).f1)) := (zab_ a6.out 1).trans rfl
        have D5 : wr.cell? ⟨a8, 2, none⟩ = some (.int .i64 ((rd_T53 a5 a1).f2)) := (zab_ a6.out 2).trans rfl
        have D6 : wr.cell? ⟨a8, 3, none⟩ = some (.int .i64 ((rd_T53 a5 a1).f3)) := (zab_ a6.out 3).trans rfl
        have D7 : wr.cell? ⟨a8, 4, none⟩ = some (.int .i64 ((rd_T53 a5 a1).f4)) := (zab_ a6.out 4).trans rfl
        have D8 : wr.cell? ⟨a8, 5, none⟩ = some (.slice c9 ((rd_T53 a5 a1).f5).length c316_5) := (zab_ a6.out 5).trans rfl
        have D9 := zaa_ a6.out 0
        have E0 := zaa_ a6.out 1
        have E1 := zaa_ a6.out 2
        have E2 := zaa_ a6.out 3
        have E3 := zaa_ a6.out 4
        have E4 := zaa_ a6.out 5
        go_wp2
        go_meet
        case rel => exact ⟨_, (true), (by first | rfl | (simp; done) | (simp [*]; done)), H', ⟨by have := h3.out; have := g4.out; have := k0.out; first | omega | exact Nat.le_refl _⟩, ⟨a9.out⟩, ⟨a6.out⟩, ⟨HB.out⟩⟩
      rw [if_neg k2] at H
      have e7 : decide ((((rd_T53 a5 a1).f5).length : Int) < 1) = false := decide_eq_false k2
      have l5 : decide (((rd_T53 a5 a1).f5).length < 1) = false := decide_eq_false (by omega)
      clear k2
      (first | rw [e7] | (simp only [i64_w, i32_w]; rw [e7]) | skip)
      have H' := Aside0.mk H
      clear H
      have hnb46 := b1.out
      have hnc46 := a7.out
      have E5 : wr.cell? ⟨a8, 0, none⟩ = some (.string ((rd_T53 a5 a1).f0)) := (zab_ a6.out 0).trans rfl
      have E6 : wr.cell? ⟨a8, 1, none⟩ = some (.int .i64 ((rd_T53 a5 a1).f1)) := (zab_ a6.out 1).trans rfl
      have E7 : wr.cell? ⟨a8, 2, none⟩ = some (.int .i64 ((rd_T53 a5 a1).f2)) := (zab_ a6.out 2).trans rfl
      have E8 : wr.cell? ⟨a8, 3, none⟩ = some (.int .i64 ((rd_T53 a5 a1).f3)) := (zab_ a6.out 3).trans rfl
      have E9 : wr.cell? ⟨a8, 4, none⟩ = some (.int .i64 ((rd_T53 a5 a1).f4)) := (zab_ a6.out 4).trans rfl
      have F0 : wr.cell? ⟨a8, 5, none⟩ = some (.slice c9 ((rd_T53 a5 a1).f5).length c316_5) := (zab_ a6.out 5).trans rfl
      have F1 := zaa_ a6.out 0
      have F2 := zaa_ a6.out 1
      have F3 := zaa_ a6.out 2
      have F4 := zaa_ a6.out 3
      have F5 := zaa_ a6.out 4
      have F6 := zaa_ a6.out 5
      go_wp2
      go_meet
      case rel => exact ⟨_, (decide ((((rd_T53 a5 a1).f5).length : Int) > 6)), (by first | rfl | (simp; done) | (simp [*]; done)), H', ⟨by have := h3.out; have := g4.out; have := k0.out; first | omega | exact Nat.le_refl _⟩, ⟨a9.out⟩, ⟨a6.out⟩, ⟨HB.out⟩⟩
    clear HC42
    obtain ⟨kq, e4, rfl, HA, l6, a9, a6, HB⟩ := hcut
    cases kq with
    | zero => exact absurd HA.out (by simp [zaA_.j3])
    | succ l7 => ?_
    have H := HA.out
    clear HA
    simp only [zaA_.j3] at H
    by_cases F7 : e4 = true
    · subst F7
      rw [if_pos rfl] at H
      obtain rfl := Option.some.inj H
      go_wp2
      go_ret
      exact ⟨by first | rfl | (simp [zal_, zak_] <;> rfl) | (simp [*, zal_, zak_] <;> rfl), HB.out⟩
    replace F7 := Bool.eq_false_iff.mpr F7
    subst F7
    rw [if_neg (show ¬ (false = true) by decide)] at H
    have H' := Aside0.mk H
    clear H
    go_wp2
    go_loopg [7] l7 (fun kq v7 w' => ∃ (b7 : Int), v7 = .int .i64 b7 ∧ Aside0 (zaA_.l1 kq b7 b5 b3 b4 a5 ((rd_T53 a5 a1).f0) ((rd_T53 a5 a1).f1) ((rd_T53 a5 a1).f2) ((rd_T53 a5 a1).f3) ((rd_T53 a5 a1).f4) ((rd_T53 a5 a1).f5) = some r) ∧ Aside0 (kq ≤ l7) ∧ Aside0 (w'.heap[b2]? = some (.cells #[.int .i64 b5, (.slice d0 b3.length d1), (.slice d2 b4.length d3), (.slice (some ad316) a5.length d4)] 37 (0, 0))) ∧ Aside0 (w'.heap[a8]? = some (.cells #[.string ((rd_T53 a5 a1).f0), .int .i64 ((rd_T53 a5 a1).f1), .int .i64 ((rd_T53 a5 a1).f2), .int .i64 ((rd_T53 a5 a1).f3), .int .i64 ((rd_T53 a5 a1).f4), (.slice c9 ((rd_T53 a5 a1).f5).length c316_5)] 53 (0, 0))) ∧ Aside0 (Below w.heap.size w w'))
    case atStart => exact ⟨(0), (by first | rfl | (simp; done) | (simp [*]; done)), H', ⟨Nat.le_refl _⟩, ⟨a9.out⟩, ⟨a6.out⟩, ⟨HB.out⟩⟩
    clear H'
    obtain ⟨b7, rfl, HA, L1, a9, a6, HB⟩ := hrel
    cases gk with
    | zero => exact absurd HA.out (by simp [zaA_.l1])
    | succ k5 => ?_
    have H := HA.out
    clear HA
    simp only [zaA_.l1] at H
    by_cases k4 : b7 < (((rd_T53 a5 a1).f5).length : Int)
    rotate_left
    · rw [if_neg k4] at H
      have l8 : decide (b7 < (((rd_T53 a5 a1).f5).length : Int)) = false := decide_eq_false k4
      clear k4
      obtain rfl := Option.some.inj H
      have hnb50 := b1.out
      have hnc50 := a7.out
      have F8 : wr.cell? ⟨a8, 0, none⟩ = some (.string ((rd_T53 a5 a1).f0)) := (zab_ a6.out 0).trans rfl
      have F9 : wr.cell? ⟨a8, 1, none⟩ = some (.int .i64 ((rd_T53 a5 a1).f1)) := (zab_ a6.out 1).trans rfl
      have G0 : wr.cell? ⟨a8, 2, none⟩ = some (.int .i64 ((rd_T53 a5 a1).f2)) := (zab_ a6.out 2).trans rfl
      have G1 : wr.cell? ⟨a8, 3, none⟩ = some (.int .i64 ((rd_T53 a5 a1).f3)) := (zab_ a6.out 3).trans rfl
      have G2 : wr.cell? ⟨a8, 4, none⟩ = some (.int .i64 ((rd_T53 a5 a1).f4)) := (zab_ a6.out 4).trans rfl
      have G3 : wr.cell? ⟨a8, 5, none⟩ = some (.slice c9 ((rd_T53 a5 a1).f5).length c316_5) := (zab_ a6.out 5).trans rfl
      have G4 := zaa_ a6.out 0
      have G5 := zaa_ a6.out 1
      have G6 := zaa_ a6.out 2
      have G7 := zaa_ a6.out 3
      have G8 := zaa_ a6.out 4
      have G9 := zaa_ a6.out 5
      go_wp2
      go_ret
      exact ⟨by first | rfl | (simp [zal_, zak_] <;> rfl) | (simp [*, zal_, zak_] <;> rfl), HB.out⟩
    rw [if_pos k4] at H
    have l8 : decide (b7 < (((rd_T53 a5 a1).f5).length : Int)) = true := decide_eq_true k4
    clear k4
    by_cases H0 : 0 ≤ b7
    rotate_left
    · rw [if_neg H0] at H
      exact absurd H (by simp)
    rw [if_pos H0] at H
    have L2 : decide (0 ≤ b7) = true := decide_eq_true H0
    clear H0
    replace H := Option.bind_eq_some_iff.mp H
    obtain ⟨g5, l9, H⟩ := H
    replace H : (if g5 = true then (zaA_.l1 k5 (wrap64 (b7 + 1)) b5 b3 b4 a5 ((rd_T53 a5 a1).f0) ((rd_T53 a5 a1).f1) ((rd_T53 a5 a1).f2) ((rd_T53 a5 a1).f3) ((rd_T53 a5 a1).f4) ((rd_T53 a5 a1).f5)) else (some 15)) = some r := H
    have L3 := Aside0.mk l9
    clear l9
    by_cases H1 : g5 = true
    rotate_left
    · replace H1 := Bool.eq_false_iff.mpr H1
      subst H1
      rw [if_neg (show ¬ (false = true) by decide)] at H
      obtain rfl := Option.some.inj H
      have hnb55 := b1.out
      have hnc55 := a7.out
      have H2 : wr.cell? ⟨a8, 0, none⟩ = some (.string ((rd_T53 a5 a1).f0)) := (zab_ a6.out 0).trans rfl
      have H3 : wr.cell? ⟨a8, 1, none⟩ = some (.int .i64 ((rd_T53 a5 a1).f1)) := (zab_ a6.out 1).trans rfl
      have H4 : wr.cell? ⟨a8, 2, none⟩ = some (.int .i64 ((rd_T53 a5 a1).f2)) := (zab_ a6.out 2).trans rfl
      have H5 : wr.cell? ⟨a8, 3, none⟩ = some (.int .i64 ((rd_T53 a5 a1).f3)) := (zab_ a6.out 3).trans rfl
      have H6 : wr.cell? ⟨a8, 4, none⟩ = some (.int .i64 ((rd_T53 a5 a1).f4)) := (zab_ a6.out 4).trans rfl
      have H7 : wr.cell? ⟨a8, 5, none⟩ = some (.slice c9 ((rd_T53 a5 a1).f5).length c316_5) := (zab_ a6.out 5).trans rfl
      have H8 := zaa_ a6.out 0
      have H9 := zaa_ a6.out 1
      have I0 := zaa_ a6.out 2
      have I1 := zaa_ a6.out 3
      have I2 := zaa_ a6.out 4
      have I3 := zaa_ a6.out 5
      try go_wp2
      have d7 := Aside0.mk (zaf_ a9.out)
      have d8 := Aside0.mk (zaf_ a6.out)
      have d6 := Aside0.mk (zag_ HB.out)
      clear a9
      clear a6
      clear HB
      have a9 := d7
      have a6 := d8
      have HB := d6
      clear d7 d8 d6
      have e8 : 0 ≤ (b7 : Int) := of_decide_eq_true (by first | (with_reducible assumption) | assumption)
      have e9 : b7 < (((rd_T53 a5 a1).f5).length : Int) := of_decide_eq_true (by first | (with_reducible assumption) | assumption)
      obtain ⟨ad321, e321, hx321_0, hx321_1, hx321_2⟩ := at_T50 HR316_5.out b7 e8 e9
      have hw321_2 := hx321_2
      have hw321_1 := hx321_1
      have hw321_0 := hx321_0
      cases e321
      replace hx321_0 := (HB.out.cell (World.block_lt_of_cell? w _ hx321_0)).trans hx321_0
      replace hx321_1 := (HB.out.cell (World.block_lt_of_cell? w _ hx321_1)).trans hx321_1
      replace hx321_2 := (HB.out.cell (World.block_lt_of_cell? w _ hx321_2)).trans hx321_2
      replace e8 := eq_true e8
      replace e9 := eq_true e9
      refine start_ (n := 8) (S := fun w' => w'.cell? ⟨b2, 0, none⟩ = some (.int .i64 b5) ∧ w'.cell? ⟨b2, 1, none⟩ = some (.slice d0 b3.length d1) ∧ w'.cell? ⟨b2, 2, none⟩ = some (.slice d2 b4.length d3) ∧ w'.cell? ⟨b2, 3, none⟩ = some (.slice (some ad316) a5.length d4) ∧ w'.cell? ⟨a8, 0, none⟩ = some (.string ((rd_T53 a5 a1).f0)) ∧ w'.cell? ⟨a8, 1, none⟩ = some (.int .i64 ((rd_T53 a5 a1).f1)) ∧ w'.cell? ⟨a8, 2, none⟩ = some (.int .i64 ((rd_T53 a5 a1).f2)) ∧ w'.cell? ⟨a8, 3, none⟩ = some (.int .i64 ((rd_T53 a5 a1).f3)) ∧ w'.cell? ⟨a8, 4, none⟩ = some (.int .i64 ((rd_T53 a5 a1).f4)) ∧ w'.cell? ⟨a8, 5, none⟩ = some (.slice (some ad321) ((rd_T53 a5 a1).f5).length c316_5) ∧ w'.cell? (ad321.add ((b7).toNat * 3)) = some (.int .i64 ((rd_T50 ((rd_T53 a5 a1).f5) b7).f0)) ∧ w'.cell? ⟨(ad321.add ((b7).toNat * 3)).block, (ad321.add ((b7).toNat * 3)).off + 1, none⟩ = some (.int .i64 ((rd_T50 ((rd_T53 a5 a1).f5) b7).f1)) ∧ w'.cell? ⟨(ad321.add ((b7).toNat * 3)).block, (ad321.add ((b7).toNat * 3)).off + 2, none⟩ = some (.int .i64 ((rd_T50 ((rd_T53 a5 a1).f5) b7).f2))) (ds := []) (bs 8 0) (by kernel_rfl) rfl rfl ⟨(zab_ a9.out 0).trans rfl, (zab_ a9.out 1).trans rfl, (zab_ a9.out 2).trans rfl, (zab_ a9.out 3).trans rfl, (zab_ a6.out 0).trans rfl, (zab_ a6.out 1).trans rfl, (zab_ a6.out 2).trans rfl, (zab_ a6.out 3).trans rfl, (zab_ a6.out 4).trans rfl, (zab_ a6.out 5).trans rfl, ((HB.out.cell (World.block_lt_of_cell? w _ hw321_0)).trans hw321_0), ((HB.out.cell (World.block_lt_of_cell? w _ hw321_1)).trans hw321_1), ((HB.out.cell (World.block_lt_of_cell? w _ hw321_2)).trans hw321_2)⟩ (fun hHeld => ?_); refine zbv_ zaA_.tab16 zaA_.bits16 (fun HT_ HW_ => ?_)
      generalize wr.drew = M2 at a9 a6 HB hx321_0 hx321_1 hx321_2 hHeld ⊢
      refine pure_ (i := 1) (N := some 103) (v := ?_) (a' := ?_) (bs 8 2) rfl rfl (any_of HT_.out (by kernel_rfl)) (fun _ _ _ h => h) (Or.inl ⟨by rfl, ?_⟩) ?_ ?_
      rotate_left
      · intro w'
        go_simp
        with_reducible rfl
      rotate_left
      · simp only [Act.put, List.setIfInBounds_toArray, List.set_cons_zero, List.set_cons_succ, i64_w, i32_w]
        rfl
      refine pure_ (i := 3) (N := some 105) (v := ?_) (a' := ?_) (bs 8 10) rfl rfl (any_of HT_.out (by kernel_rfl)) (fun _ _ _ h => h) (Or.inl ⟨by rfl, ?_⟩) ?_ ?_
      rotate_left
      · intro w'
        go_simp
        with_reducible rfl
      rotate_left
      · simp only [Act.put, List.setIfInBounds_toArray, List.set_cons_zero, List.set_cons_succ, i64_w, i32_w]
        rfl
      refine take_ (i := 0) (N := some 102) (v := ?_) (a' := ?_) (bs 8 11) rfl rfl (zaT_ HT_.out HW_.out (by kernel_rfl)) (fun _ _ _ h => h) (Or.inl ⟨by rfl, ?_⟩) hHeld ?_ ?_
      rotate_left
      · rintro w' ⟨s0, s1, s2, s3, s4, s5, s6, s7, s8, s9, s10, s11, s12⟩
        go_simp
        with_reducible rfl
      rotate_left
      · simp only [Act.put, List.setIfInBounds_toArray, List.set_cons_zero, List.set_cons_succ, i64_w, i32_w]
        rfl
      refine take_ (i := 2) (N := some 104) (v := ?_) (a' := ?_) (bs 8 15) rfl rfl (zaT_ HT_.out HW_.out (by kernel_rfl)) (fun _ _ _ h => h) (Or.inl ⟨by rfl, ?_⟩) hHeld ?_ ?_
      rotate_left
      · rintro w' ⟨s0, s1, s2, s3, s4, s5, s6, s7, s8, s9, s10, s11, s12⟩
        go_simp
        with_reducible rfl
      rotate_left
      · simp only [Act.put, List.setIfInBounds_toArray, List.set_cons_zero, List.set_cons_succ, i64_w, i32_w]
        rfl
      refine pure_ (i := 4) (N := some 106) (v := ?_) (a' := ?_) (bs 8 31) rfl rfl (any_of HT_.out (by kernel_rfl)) (fun _ _ _ h => h) (Or.inl ⟨by rfl, ?_⟩) ?_ ?_
      rotate_left
      · intro w'
        go_simp
        with_reducible rfl
      rotate_left
      · simp only [Act.put, List.setIfInBounds_toArray, List.set_cons_zero, List.set_cons_succ, i64_w, i32_w]
        rfl
      refine take_ (i := 5) (N := some 107) (v := ?_) (a' := ?_) (bs 8 63) rfl rfl (zaT_ HT_.out HW_.out (by kernel_rfl)) (fun _ _ _ h => h) (Or.inl ⟨by rfl, ?_⟩) hHeld ?_ ?_
      rotate_left
      · rintro w' ⟨s0, s1, s2, s3, s4, s5, s6, s7, s8, s9, s10, s11, s12⟩
        go_simp
        with_reducible rfl
      rotate_left
      · simp only [Act.put, List.setIfInBounds_toArray, List.set_cons_zero, List.set_cons_succ, i64_w, i32_w]
        rfl
      refine one_ (i := 6) (N := some 108) (bs 8 127) rfl rfl (one_of HT_.out (by kernel_rfl)) (by decide) (fun K hK => ?_)
      refine goes_ Tryd.func69 (by kernel_rfl) rfl #[.agg #[.int .i64 b5, .slice d0 b3.length d1, .slice d2 b4.length d3, .slice (some ad316) a5.length d4], .agg #[.int .i64 ((rd_T50 ((rd_T53 a5 a1).f5) b7).f0), .int .i64 ((rd_T50 ((rd_T53 a5 a1).f5) b7).f1), .int .i64 ((rd_T50 ((rd_T53 a5 a1).f5) b7).f2)]] (by rfl) rfl rfl (by (try simp only [List.map_toArray, List.map_cons, List.map_nil]); first | done | rfl | (simp only [List.length_drop, List.length_take]; rfl)) ?_
      with_reducible refine (sr_part.calls b5 _ _ b3 _ _ b4 _ _ a5 ((rd_T50 ((rd_T53 a5 a1).f5) b7).f0) ((rd_T50 ((rd_T53 a5 a1).f5) b7).f1) ((rd_T50 ((rd_T53 a5 a1).f5) b7).f2) false _ ?side1 ?side2 ?side3 ?side4 ?side5 ?side6 L3.out).mono ?_
      (case side1 => repeat (first | exact (Kd.zaB_ HR0_1.out HB.out) | (with_reducible refine Kd.zaI_ ?_ _) | (with_reducible refine Kd.zaJ_ ?_ _) | (with_reducible refine Kd.C_drew ?_)))
      (case side2 => exact HC0_1.out)
      (case side3 => repeat (first | exact (Kd.zaB_ HR0_2.out HB.out) | (with_reducible refine Kd.zaI_ ?_ _) | (with_reducible refine Kd.zaJ_ ?_ _) | (with_reducible refine Kd.C_drew ?_)))
      (case side4 => exact HC0_2.out)
      (case side5 => repeat (first | exact (Kd.zaB_ HR0_3.out HB.out) | (with_reducible refine Kd.zaI_ ?_ _) | (with_reducible refine Kd.zaJ_ ?_ _) | (with_reducible refine Kd.C_drew ?_)))
      (case side6 => exact HC0_3.out)
      rintro e M3 ⟨rfl, hb⟩
      refine ⟨_, rfl, ?_⟩
      have d7 := Aside0.mk (zan_ a9.out hb)
      have d8 := Aside0.mk (zan_ a6.out hb)
      have d6 := Aside0.mk (zaj_ (HB.out) hb)
      clear a9
      clear a6
      clear HB
      have a9 := d7
      have a6 := d8
      have HB := d6
      clear d7 d8 d6
      refine hK.out _ _ ⟨(zab_ a9.out 0).trans rfl, (zab_ a9.out 1).trans rfl, (zab_ a9.out 2).trans rfl, (zab_ a9.out 3).trans rfl, (zab_ a6.out 0).trans rfl, (zab_ a6.out 1).trans rfl, (zab_ a6.out 2).trans rfl, (zab_ a6.out 3).trans rfl, (zab_ a6.out 4).trans rfl, (zab_ a6.out 5).trans rfl, ((HB.out.cell (World.block_lt_of_cell? w _ hw321_0)).trans hw321_0), ((HB.out.cell (World.block_lt_of_cell? w _ hw321_1)).trans hw321_1), ((HB.out.cell (World.block_lt_of_cell? w _ hw321_2)).trans hw321_2)⟩ (fun hHeld => ?_)
      clear hK K
      refine norm_ (a' := ?_) ?_ ?_
      rotate_left
      · show Act.put _ (some 108) _ = _
        simp only [Act.put, List.setIfInBounds_toArray, List.set_cons_zero, List.set_cons_succ, i64_w, i32_w]
        rfl
      refine pure_ (i := 7) (N := some 109) (v := ?_) (a' := ?_) (bs 8 255) rfl rfl (any_of HT_.out (by kernel_rfl)) (fun _ _ _ h => h) (Or.inl ⟨by rfl, ?_⟩) ?_ ?_
      rotate_left
      · intro w'
        go_simp
        with_reducible rfl
      rotate_left
      · simp only [Act.put, List.setIfInBounds_toArray, List.set_cons_zero, List.set_cons_succ, i64_w, i32_w]
        rfl
      refine done_ (done_of HT_.out (by kernel_rfl)) ?_
      try go_wp2
      go_ret
      exact ⟨by first | rfl | (simp [zal_, zak_] <;> rfl) | (simp [*, zal_, zak_] <;> rfl), HB.out⟩
    subst H1
    rw [if_pos rfl] at H
    have H' := Aside0.mk H
    clear H
    have hnb59 := b1.out
    have hnc59 := a7.out
    have I4 : wr.cell? ⟨a8, 0, none⟩ = some (.string ((rd_T53 a5 a1).f0)) := (zab_ a6.out 0).trans rfl
    have I5 : wr.cell? ⟨a8, 1, none⟩ = some (.int .i64 ((rd_T53 a5 a1).f1)) := (zab_ a6.out 1).trans rfl
    have I6 : wr.cell? ⟨a8, 2, none⟩ = some (.int .i64 ((rd_T53 a5 a1).f2)) := (zab_ a6.out 2).trans rfl
    have I7 : wr.cell? ⟨a8, 3, none⟩ = some (.int .i64 ((rd_T53 a5 a1).f3)) := (zab_ a6.out 3).trans rfl
    have I8 : wr.cell? ⟨a8, 4, none⟩ = some (.int .i64 ((rd_T53 a5 a1).f4)) := (zab_ a6.out 4).trans rfl
    have I9 : wr.cell? ⟨a8, 5, none⟩ = some (.slice c9 ((rd_T53 a5 a1).f5).length c316_5) := (zab_ a6.out 5).trans rfl
    have J0 := zaa_ a6.out 0
    have J1 := zaa_ a6.out 1
    have J2 := zaa_ a6.out 2
    have J3 := zaa_ a6.out 3
    have J4 := zaa_ a6.out 4
    have J5 := zaa_ a6.out 5
    try go_wp2
    have d7 := Aside0.mk (zaf_ a9.out)
    have d8 := Aside0.mk (zaf_ a6.out)
    have d6 := Aside0.mk (zag_ HB.out)
    clear a9
    clear a6
    clear HB
    have a9 := d7
    have a6 := d8
    have HB := d6
    clear d7 d8 d6
    have e8 : 0 ≤ (b7 : Int) := of_decide_eq_true (by first | (with_reducible assumption) | assumption)
    have e9 : b7 < (((rd_T53 a5 a1).f5).length : Int) := of_decide_eq_true (by first | (with_reducible assumption) | assumption)
    obtain ⟨ad321, e321, hx321_0, hx321_1, hx321_2⟩ := at_T50 HR316_5.out b7 e8 e9
    have hw321_2 := hx321_2
    have hw321_1 := hx321_1
    have hw321_0 := hx321_0
    cases e321
    replace hx321_0 := (HB.out.cell (World.block_lt_of_cell? w _ hx321_0)).trans hx321_0
    replace hx321_1 := (HB.out.cell (World.block_lt_of_cell? w _ hx321_1)).trans hx321_1
    replace hx321_2 := (HB.out.cell (World.block_lt_of_cell? w _ hx321_2)).trans hx321_2
    replace e8 := eq_true e8
    replace e9 := eq_true e9
    refine start_ (n := 8) (S := fun w' => w'.cell? ⟨b2, 0, none⟩ = some (.int .i64 b5) ∧ w'.cell? ⟨b2, 1, none⟩ = some (.slice d0 b3.length d1) ∧ w'.cell? ⟨b2, 2, none⟩ = some (.slice d2 b4.length d3) ∧ w'.cell? ⟨b2, 3, none⟩ = some (.slice (some ad316) a5.length d4) ∧ w'.cell? ⟨a8, 0, none⟩ = some (.string ((rd_T53 a5 a1).f0)) ∧ w'.cell? ⟨a8, 1, none⟩ = some (.int .i64 ((rd_T53 a5 a1).f1)) ∧ w'.cell? ⟨a8, 2, none⟩ = some (.int .i64 ((rd_T53 a5 a1).f2)) ∧ w'.cell? ⟨a8, 3, none⟩ = some (.int .i64 ((rd_T53 a5 a1).f3)) ∧ w'.cell? ⟨a8, 4, none⟩ = some (.int .i64 ((rd_T53 a5 a1).f4)) ∧ w'.cell? ⟨a8, 5, none⟩ = some (.slice (some ad321) ((rd_T53 a5 a1).f5).length c316_5) ∧ w'.cell? (ad321.add ((b7).toNat * 3)) = some (.int .i64 ((rd_T50 ((rd_T53 a5 a1).f5) b7).f0)) ∧ w'.cell? ⟨(ad321.add ((b7).toNat * 3)).block, (ad321.add ((b7).toNat * 3)).off + 1, none⟩ = some (.int .i64 ((rd_T50 ((rd_T53 a5 a1).f5) b7).f1)) ∧ w'.cell? ⟨(ad321.add ((b7).toNat * 3)).block, (ad321.add ((b7).toNat * 3)).off + 2, none⟩ = some (.int .i64 ((rd_T50 ((rd_T53 a5 a1).f5) b7).f2))) (ds := []) (bs 8 0) (by kernel_rfl) rfl rfl ⟨(zab_ a9.out 0).trans rfl, (zab_ a9.out 1).trans rfl, (zab_ a9.out 2).trans rfl, (zab_ a9.out 3).trans rfl, (zab_ a6.out 0).trans rfl, (zab_ a6.out 1).trans rfl, (zab_ a6.out 2).trans rfl, (zab_ a6.out 3).trans rfl, (zab_ a6.out 4).trans rfl, (zab_ a6.out 5).trans rfl, ((HB.out.cell (World.block_lt_of_cell? w _ hw321_0)).trans hw321_0), ((HB.out.cell (World.block_lt_of_cell? w _ hw321_1)).trans hw321_1), ((HB.out.cell (World.block_lt_of_cell? w _ hw321_2)).trans hw321_2)⟩ (fun hHeld => ?_); refine zbv_ zaA_.tab16 zaA_.bits16 (fun HT_ HW_ => ?_)
    generalize wr.drew = M4 at a9 a6 HB hx321_0 hx321_1 hx321_2 hHeld ⊢
    refine pure_ (i := 1) (N := some 103) (v := ?_) (a' := ?_) (bs 8 2) rfl rfl (any_of HT_.out (by kernel_rfl)) (fun _ _ _ h => h) (Or.inl ⟨by rfl, ?_⟩) ?_ ?_
    rotate_left
    · intro w'
      go_simp
      with_reducible rfl
    rotate_left
    · simp only [Act.put, List.setIfInBounds_toArray, List.set_cons_zero, List.set_cons_succ, i64_w, i32_w]
      rfl
    refine pure_ (i := 3) (N := some 105) (v := ?_) (a' := ?_) (bs 8 10) rfl rfl (any_of HT_.out (by kernel_rfl)) (fun _ _ _ h => h) (Or.inl ⟨by rfl, ?_⟩) ?_ ?_
    rotate_left
    · intro w'
      go_simp
      with_reducible rfl
    rotate_left
    · simp only [Act.put, List.setIfInBounds_toArray, List.set_cons_zero, List.set_cons_succ, i64_w, i32_w]
      rfl
    refine take_ (i := 0) (N := some 102) (v := ?_) (a' := ?_) (bs 8 11) rfl rfl (zaT_ HT_.out HW_.out (by kernel_rfl)) (fun _ _ _ h => h) (Or.inl ⟨by rfl, ?_⟩) hHeld ?_ ?_
    rotate_left
    · rintro w' ⟨s0, s1, s2, s3, s4, s5, s6, s7, s8, s9, s10, s11, s12⟩
      go_simp
      with_reducible rfl
    rotate_left
    · simp only [Act.put, List.setIfInBounds_toArray, List.set_cons_zero, List.set_cons_succ, i64_w, i32_w]
      rfl
    refine take_ (i := 2) (N := some 104) (v := ?_) (a' := ?_) (bs 8 15) rfl rfl (zaT_ HT_.out HW_.out (by kernel_rfl)) (fun _ _ _ h => h) (Or.inl ⟨by rfl, ?_⟩) hHeld ?_ ?_
    rotate_left
    · rintro w' ⟨s0, s1, s2, s3, s4, s5, s6, s7, s8, s9, s10, s11, s12⟩
      go_simp
      with_reducible rfl
    rotate_left
    · simp only [Act.put, List.setIfInBounds_toArray, List.set_cons_zero, List.set_cons_succ, i64_w, i32_w]
      rfl
    refine pure_ (i := 4) (N := some 106) (v := ?_) (a' := ?_) (bs 8 31) rfl rfl (any_of HT_.out (by kernel_rfl)) (fun _ _ _ h => h) (Or.inl ⟨by rfl, ?_⟩) ?_ ?_
    rotate_left
    · intro w'
      go_simp
      with_reducible rfl
    rotate_left
    · simp only [Act.put, List.setIfInBounds_toArray, List.set_cons_zero, List.set_cons_succ, i64_w, i32_w]
      rfl
    refine take_ (i := 5) (N := some 107) (v := ?_) (a' := ?_) (bs 8 63) rfl rfl (zaT_ HT_.out HW_.out (by kernel_rfl)) (fun _ _ _ h => h) (Or.inl ⟨by rfl, ?_⟩) hHeld ?_ ?_
    rotate_left
    · rintro w' ⟨s0, s1, s2, s3, s4, s5, s6, s7, s8, s9, s10, s11, s12⟩
      go_simp
      with_reducible rfl
    rotate_left
    · simp only [Act.put, List.setIfInBounds_toArray, List.set_cons_zero, List.set_cons_succ, i64_w, i32_w]
      rfl
    refine one_ (i := 6) (N := some 108) (bs 8 127) rfl rfl (one_of HT_.out (by kernel_rfl)) (by decide) (fun K hK => ?_)
    refine goes_ Tryd.func69 (by kernel_rfl) rfl #[.agg #[.int .i64 b5, .slice d0 b3.length d1, .slice d2 b4.length d3, .slice (some ad316) a5.length d4], .agg #[.int .i64 ((rd_T50 ((rd_T53 a5 a1).f5) b7).f0), .int .i64 ((rd_T50 ((rd_T53 a5 a1).f5) b7).f1), .int .i64 ((rd_T50 ((rd_T53 a5 a1).f5) b7).f2)]] (by rfl) rfl rfl (by (try simp only [List.map_toArray, List.map_cons, List.map_nil]); first | done | rfl | (simp only [List.length_drop, List.length_take]; rfl)) ?_
    with_reducible refine (sr_part.calls b5 _ _ b3 _ _ b4 _ _ a5 ((rd_T50 ((rd_T53 a5 a1).f5) b7).f0) ((rd_T50 ((rd_T53 a5 a1).f5) b7).f1) ((rd_T50 ((rd_T53 a5 a1).f5) b7).f2) true _ ?side1 ?side2 ?side3 ?side4 ?side5 ?side6 L3.out).mono ?_
    (case side1 => repeat (first | exact (Kd.zaB_ HR0_1.out HB.out) | (with_reducible refine Kd.zaI_ ?_ _) | (with_reducible refine Kd.zaJ_ ?_ _) | (with_reducible refine Kd.C_drew ?_)))
    (case side2 => exact HC0_1.out)
    (case side3 => repeat (first | exact (Kd.zaB_ HR0_2.out HB.out) | (with_reducible refine Kd.zaI_ ?_ _) | (with_reducible refine Kd.zaJ_ ?_ _) | (with_reducible refine Kd.C_drew ?_)))
    (case side4 => exact HC0_2.out)
    (case side5 => repeat (first | exact (Kd.zaB_ HR0_3.out HB.out) | (with_reducible refine Kd.zaI_ ?_ _) | (with_reducible refine Kd.zaJ_ ?_ _) | (with_reducible refine Kd.C_drew ?_)))
    (case side6 => exact HC0_3.out)
    rintro e M5 ⟨rfl, hb⟩
    refine ⟨_, rfl, ?_⟩
    have d7 := Aside0.mk (zan_ a9.out hb)
    have d8 := Aside0.mk (zan_ a6.out hb)
    have d6 := Aside0.mk (zaj_ (HB.out) hb)
    clear a9
    clear a6
    clear HB
    have a9 := d7
    have a6 := d8
    have HB := d6
    clear d7 d8 d6
    refine hK.out _ _ ⟨(zab_ a9.out 0).trans rfl, (zab_ a9.out 1).trans rfl, (zab_ a9.out 2).trans rfl, (zab_ a9.out 3).trans rfl, (zab_ a6.out 0).trans rfl, (zab_ a6.out 1).trans rfl, (zab_ a6.out 2).trans rfl, (zab_ a6.out 3).trans rfl, (zab_ a6.out 4).trans rfl, (zab_ a6.out 5).trans rfl, ((HB.out.cell (World.block_lt_of_cell? w _ hw321_0)).trans hw321_0), ((HB.out.cell (World.block_lt_of_cell? w _ hw321_1)).trans hw321_1), ((HB.out.cell (World.block_lt_of_cell? w _ hw321_2)).trans hw321_2)⟩ (fun hHeld => ?_)
    clear hK K
    refine norm_ (a' := ?_) ?_ ?_
    rotate_left
    · show Act.put _ (some 108) _ = _
      simp only [Act.put, List.setIfInBounds_toArray, List.set_cons_zero, List.set_cons_succ, i64_w, i32_w]
      rfl
    refine pure_ (i := 7) (N := some 109) (v := ?_) (a' := ?_) (bs 8 255) rfl rfl (any_of HT_.out (by kernel_rfl)) (fun _ _ _ h => h) (Or.inl ⟨by rfl, ?_⟩) ?_ ?_
    rotate_left
    · intro w'
      go_simp
      with_reducible rfl
    rotate_left
    · simp only [Act.put, List.setIfInBounds_toArray, List.set_cons_zero, List.set_cons_succ, i64_w, i32_w]
      rfl
    refine done_ (done_of HT_.out (by kernel_rfl)) ?_
    try go_wp2
    go_roundg k5
    case measure => have := h3.out; have := g4.out; have := k0.out; have := l6.out; have := L1.out; omega
    case rel => exact ⟨(wrap64 (b7 + 1)), (by first | rfl | (simp; done) | (simp [*]; done)), H', ⟨by have := h3.out; have := g4.out; have := k0.out; have := l6.out; have := L1.out; omega⟩, ⟨a9.out⟩, ⟨a6.out⟩, ⟨HB.out⟩⟩
  rw [if_pos k1] at H
  have l4 : decide (b0 < a1) = true := decide_eq_true k1
  clear k1
  by_cases J6 : 0 ≤ b0
  rotate_left
  · rw [if_neg J6] at H
    exact absurd H (by simp)
  rw [if_pos J6] at H
  have L4 : decide (0 ≤ b0) = true := decide_eq_true J6
  clear J6
  by_cases J7 : b0 < (a5.length : Int)
  rotate_left
  · rw [if_neg J7] at H
    exact absurd H (by simp)
  rw [if_pos J7] at H
  have L5 : decide (b0 < (a5.length : Int)) = true := decide_eq_true J7
  clear J7
  by_cases h7 : ((rd_T53 a5 b0).f0).toList = ((rd_T53 a5 a1).f0).toList
  · rw [if_pos h7] at H
    have m0 : (((rd_T53 a5 b0).f0).toList == ((rd_T53 a5 a1).f0).toList) = true := beq_iff_eq.mpr h7
    have m1 : (((rd_T53 a5 b0).f0).toList != ((rd_T53 a5 a1).f0).toList) = false := bne_eq_false_iff_eq.mpr h7
    clear h7
    obtain rfl := Option.some.inj H
    try go_wp2
    have d7 := Aside0.mk (zaf_ a9.out)
    have d8 := Aside0.mk (zaf_ a6.out)
    have d6 := Aside0.mk (zag_ HB.out)
    clear a9
    clear a6
    clear HB
    have a9 := d7
    have a6 := d8
    have HB := d6
    clear d7 d8 d6
    have e1 : 0 ≤ (b0 : Int) := of_decide_eq_true (by first | (with_reducible assumption) | assumption)
    have e2 : b0 < (a5.length : Int) := of_decide_eq_true (by first | (with_reducible assumption) | assumption)
    obtain ⟨ad319, d5, c319_5, e319, hx319_0, hx319_1, hx319_2, hx319_3, hx319_4, hx319_5, hl319_5, hi319_5⟩ := at_T53 HR0_3.out b0 e1 e2
    have hw319_5 := hx319_5
    have hw319_4 := hx319_4
    have hw319_3 := hx319_3
    have hw319_2 := hx319_2
    have hw319_1 := hx319_1
    have hw319_0 := hx319_0
    obtain rfl : ad316 = ad319 := (by injection e319)
    replace hx319_0 := (HB.out.cell (World.block_lt_of_cell? w _ hx319_0)).trans hx319_0
    replace hx319_1 := (HB.out.cell (World.block_lt_of_cell? w _ hx319_1)).trans hx319_1
    replace hx319_2 := (HB.out.cell (World.block_lt_of_cell? w _ hx319_2)).trans hx319_2
    replace hx319_3 := (HB.out.cell (World.block_lt_of_cell? w _ hx319_3)).trans hx319_3
    replace hx319_4 := (HB.out.cell (World.block_lt_of_cell? w _ hx319_4)).trans hx319_4
    replace hx319_5 := (HB.out.cell (World.block_lt_of_cell? w _ hx319_5)).trans hx319_5
    have HR319_5 := Aside0.mk hi319_5
    have HC319_5 := Aside0.mk hl319_5
    clear hi319_5 hl319_5
    replace e1 := eq_true e1
    replace e2 := eq_true e2
    refine start_ (n := 20) (S := fun w' => w'.cell? ⟨b2, 0, none⟩ = some (.int .i64 b5) ∧ w'.cell? ⟨b2, 1, none⟩ = some (.slice d0 b3.length d1) ∧ w'.cell? ⟨b2, 2, none⟩ = some (.slice d2 b4.length d3) ∧ w'.cell? ⟨b2, 3, none⟩ = some (.slice (some ad316) a5.length d4) ∧ w'.cell? ⟨a8, 0, none⟩ = some (.string ((rd_T53 a5 a1).f0)) ∧ w'.cell? ⟨a8, 1, none⟩ = some (.int .i64 ((rd_T53 a5 a1).f1)) ∧ w'.cell? ⟨a8, 2, none⟩ = some (.int .i64 ((rd_T53 a5 a1).f2)) ∧ w'.cell? ⟨a8, 3, none⟩ = some (.int .i64 ((rd_T53 a5 a1).f3)) ∧ w'.cell? ⟨a8, 4, none⟩ = some (.int .i64 ((rd_T53 a5 a1).f4)) ∧ w'.cell? ⟨a8, 5, none⟩ = some (.slice c9 ((rd_T53 a5 a1).f5).length c316_5) ∧ w'.cell? (ad316.add ((b0).toNat * 6)) = some (.string ((rd_T53 a5 b0).f0)) ∧ w'.cell? ⟨(ad316.add ((b0).toNat * 6)).block, (ad316.add ((b0).toNat * 6)).off + 1, none⟩ = some (.int .i64 ((rd_T53 a5 b0).f1)) ∧ w'.cell? ⟨(ad316.add ((b0).toNat * 6)).block, (ad316.add ((b0).toNat * 6)).off + 2, none⟩ = some (.int .i64 ((rd_T53 a5 b0).f2)) ∧ w'.cell? ⟨(ad316.add ((b0).toNat * 6)).block, (ad316.add ((b0).toNat * 6)).off + 3, none⟩ = some (.int .i64 ((rd_T53 a5 b0).f3)) ∧ w'.cell? ⟨(ad316.add ((b0).toNat * 6)).block, (ad316.add ((b0).toNat * 6)).off + 4, none⟩ = some (.int .i64 ((rd_T53 a5 b0).f4)) ∧ w'.cell? ⟨(ad316.add ((b0).toNat * 6)).block, (ad316.add ((b0).toNat * 6)).off + 5, none⟩ = some (.slice d5 ((rd_T53 a5 b0).f5).length c319_5)) (ds := []) (bs 20 0) (by kernel_rfl) rfl rfl ⟨(zab_ a9.out 0).trans rfl, (zab_ a9.out 1).trans rfl, (zab_ a9.out 2).trans rfl, (zab_ a9.out 3).trans rfl, (zab_ a6.out 0).trans rfl, (zab_ a6.out 1).trans rfl, (zab_ a6.out 2).trans rfl, (zab_ a6.out 3).trans rfl, (zab_ a6.out 4).trans rfl, (zab_ a6.out 5).trans rfl, ((HB.out.cell (World.block_lt_of_cell? w _ hw319_0)).trans hw319_0), ((HB.out.cell (World.block_lt_of_cell? w _ hw319_1)).trans hw319_1), ((HB.out.cell (World.block_lt_of_cell? w _ hw319_2)).trans hw319_2), ((HB.out.cell (World.block_lt_of_cell? w _ hw319_3)).trans hw319_3), ((HB.out.cell (World.block_lt_of_cell? w _ hw319_4)).trans hw319_4), ((HB.out.cell (World.block_lt_of_cell? w _ hw319_5)).trans hw319_5)⟩ (fun hHeld => ?_); refine zbv_ zaA_.tab9 zaA_.bits9 (fun HT_ HW_ => ?_)
    generalize wr.drew = M6 at a9 a6 HB HR319_5 hx319_0 hx319_1 hx319_2 hx319_3 hx319_4 hx319_5 hHeld ⊢
    refine pure_ (i := 0) (N := some 65) (v := ?_) (a' := ?_) (bs 20 1) rfl rfl (any_of HT_.out (by kernel_rfl)) (fun _ _ _ h => h) (Or.inl ⟨by rfl, ?_⟩) ?_ ?_
    rotate_left
    · intro w'
      go_simp
      with_reducible rfl
    rotate_left
    · simp only [Act.put, List.setIfInBounds_toArray, List.set_cons_zero, List.set_cons_succ, i64_w, i32_w]
      rfl
    refine pure_ (i := 2) (N := some 67) (v := ?_) (a' := ?_) (bs 20 5) rfl rfl (any_of HT_.out (by kernel_rfl)) (fun _ _ _ h => h) (Or.inl ⟨by rfl, ?_⟩) ?_ ?_
    rotate_left
    · intro w'
      go_simp
      with_reducible rfl
    rotate_left
    · simp only [Act.put, List.setIfInBounds_toArray, List.set_cons_zero, List.set_cons_succ, i64_w, i32_w]
      rfl
    refine pure_ (i := 6) (N := some 71) (v := ?_) (a' := ?_) (bs 20 69) rfl rfl (any_of HT_.out (by kernel_rfl)) (fun _ _ _ h => h) (Or.inl ⟨by rfl, ?_⟩) ?_ ?_
    rotate_left
    · intro w'
      go_simp
      with_reducible rfl
    rotate_left
    · simp only [Act.put, List.setIfInBounds_toArray, List.set_cons_zero, List.set_cons_succ, i64_w, i32_w]
      rfl
    refine take_ (i := 1) (N := some 66) (v := ?_) (a' := ?_) (bs 20 71) rfl rfl (zaT_ HT_.out HW_.out (by kernel_rfl)) (fun _ _ _ h => h) (Or.inl ⟨by rfl, ?_⟩) hHeld ?_ ?_
    rotate_left
    · rintro w' ⟨s0, s1, s2, s3, s4, s5, s6, s7, s8, s9, s10, s11, s12, s13, s14, s15⟩
      go_simp
      with_reducible rfl
    rotate_left
    · simp only [Act.put, List.setIfInBounds_toArray, List.set_cons_zero, List.set_cons_succ, i64_w, i32_w]
      rfl
    refine pure_ (i := 3) (N := some 68) (v := ?_) (a' := ?_) (bs 20 79) rfl rfl (any_of HT_.out (by kernel_rfl)) (fun _ _ _ h => h) (Or.inl ⟨by rfl, ?_⟩) ?_ ?_
    rotate_left
    · intro w'
      go_simp
      with_reducible rfl
    rotate_left
    · simp only [Act.put, List.setIfInBounds_toArray, List.set_cons_zero, List.set_cons_succ, i64_w, i32_w]
      rfl
    refine pure_ (i := 4) (N := some 69) (v := ?_) (a' := ?_) (bs 20 95) rfl rfl (any_of HT_.out (by kernel_rfl)) (fun _ _ _ h => h) (Or.inl ⟨by rfl, ?_⟩) ?_ ?_
    rotate_left
    · intro w'
      go_simp
      with_reducible rfl
    rotate_left
    · simp only [Act.put, List.setIfInBounds_toArray, List.set_cons_zero, List.set_cons_succ, i64_w, i32_w]
      rfl
    refine take_ (i := 5) (N := some 70) (v := ?_) (a' := ?_) (bs 20 127) rfl rfl (zaT_ HT_.out HW_.out (by kernel_rfl)) (fun _ _ _ h => h) (Or.inl ⟨by rfl, ?_⟩) hHeld ?_ ?_
    rotate_left
    · rintro w' ⟨s0, s1, s2, s3, s4, s5, s6, s7, s8, s9, s10, s11, s12, s13, s14, s15⟩
      go_simp
      with_reducible rfl
    rotate_left
    · simp only [Act.put, List.setIfInBounds_toArray, List.set_cons_zero, List.set_cons_succ, i64_w, i32_w]
      rfl
    refine take_ (i := 7) (N := some 72) (v := ?_) (a' := ?_) (bs 20 255) rfl rfl (zaT_ HT_.out HW_.out (by kernel_rfl)) (fun _ _ _ h => h) (Or.inl ⟨by rfl, ?_⟩) hHeld ?_ ?_
    rotate_left
    · rintro w' ⟨s0, s1, s2, s3, s4, s5, s6, s7, s8, s9, s10, s11, s12, s13, s14, s15⟩
      go_simp
      with_reducible rfl
    rotate_left
    · simp only [Act.put, List.setIfInBounds_toArray, List.set_cons_zero, List.set_cons_succ, i64_w, i32_w]
      rfl
    refine pure_ (i := 8) (N := some 73) (v := ?_) (a' := ?_) (bs 20 511) rfl rfl (any_of HT_.out (by kernel_rfl)) (fun _ _ _ h => h) (Or.inl ⟨by rfl, ?_⟩) ?_ ?_
    rotate_left
    · intro w'
      go_simp
      with_reducible rfl
    rotate_left
    · simp only [Act.put, List.setIfInBounds_toArray, List.set_cons_zero, List.set_cons_succ, i64_w, i32_w]
      rfl
    refine pure_ (i := 9) (N := some 74) (v := ?_) (a' := ?_) (bs 20 1023) rfl rfl (any_of HT_.out (by kernel_rfl)) (fun _ _ _ h => h) (Or.inl ⟨by rfl, ?_⟩) ?_ ?_
    rotate_left
    · intro w'
      go_simp
      with_reducible rfl
    rotate_left
    · simp only [Act.put, List.setIfInBounds_toArray, List.set_cons_zero, List.set_cons_succ, i64_w, i32_w]
      rfl
    refine pure_ (i := 10) (N := some 75) (v := undef) (a' := ?_) (bs 20 2047) rfl rfl (any_of HT_.out (by kernel_rfl)) (fun _ _ _ h => h) (Or.inr ⟨by rfl, rfl⟩) ?_ ?_
    rotate_left
    · simp only [Act.put, List.setIfInBounds_toArray, List.set_cons_zero, List.set_cons_succ, i64_w, i32_w]
      rfl
    refine pure_ (i := 11) (N := some 76) (v := undef) (a' := ?_) (bs 20 4095) rfl rfl (any_of HT_.out (by kernel_rfl)) (fun _ _ _ h => h) (Or.inr ⟨by rfl, rfl⟩) ?_ ?_
    rotate_left
    · simp only [Act.put, List.setIfInBounds_toArray, List.set_cons_zero, List.set_cons_succ, i64_w, i32_w]
      rfl
    refine pure_ (i := 12) (N := some 77) (v := undef) (a' := ?_) (bs 20 8191) rfl rfl (any_of HT_.out (by kernel_rfl)) (fun _ _ _ h => h) (Or.inr ⟨by rfl, rfl⟩) ?_ ?_
    rotate_left
    · simp only [Act.put, List.setIfInBounds_toArray, List.set_cons_zero, List.set_cons_succ, i64_w, i32_w]
      rfl
    refine pure_ (i := 13) (N := some 78) (v := undef) (a' := ?_) (bs 20 16383) rfl rfl (any_of HT_.out (by kernel_rfl)) (fun _ _ _ h => h) (Or.inr ⟨by rfl, rfl⟩) ?_ ?_
    rotate_left
    · simp only [Act.put, List.setIfInBounds_toArray, List.set_cons_zero, List.set_cons_succ, i64_w, i32_w]
      rfl
    refine pure_ (i := 14) (N := some 79) (v := undef) (a' := ?_) (bs 20 32767) rfl rfl (any_of HT_.out (by kernel_rfl)) (fun _ _ _ h => h) (Or.inr ⟨by rfl, rfl⟩) ?_ ?_
    rotate_left
    · simp only [Act.put, List.setIfInBounds_toArray, List.set_cons_zero, List.set_cons_succ, i64_w, i32_w]
      rfl
    refine pure_ (i := 15) (N := some 80) (v := undef) (a' := ?_) (bs 20 65535) rfl rfl (any_of HT_.out (by kernel_rfl)) (fun _ _ _ h => h) (Or.inr ⟨by rfl, rfl⟩) ?_ ?_
    rotate_left
    · simp only [Act.put, List.setIfInBounds_toArray, List.set_cons_zero, List.set_cons_succ, i64_w, i32_w]
      rfl
    refine pure_ (i := 16) (N := some 81) (v := undef) (a' := ?_) (bs 20 131071) rfl rfl (any_of HT_.out (by kernel_rfl)) (fun _ _ _ h => h) (Or.inr ⟨by rfl, rfl⟩) ?_ ?_
    rotate_left
    · simp only [Act.put, List.setIfInBounds_toArray, List.set_cons_zero, List.set_cons_succ, i64_w, i32_w]
      rfl
    refine pure_ (i := 17) (N := some 82) (v := undef) (a' := ?_) (bs 20 262143) rfl rfl (any_of HT_.out (by kernel_rfl)) (fun _ _ _ h => h) (Or.inr ⟨by rfl, rfl⟩) ?_ ?_
    rotate_left
    · simp only [Act.put, List.setIfInBounds_toArray, List.set_cons_zero, List.set_cons_succ, i64_w, i32_w]
      rfl
    refine pure_ (i := 18) (N := some 83) (v := undef) (a' := ?_) (bs 20 524287) rfl rfl (any_of HT_.out (by kernel_rfl)) (fun _ _ _ h => h) (Or.inr ⟨by rfl, rfl⟩) ?_ ?_
    rotate_left
    · simp only [Act.put, List.setIfInBounds_toArray, List.set_cons_zero, List.set_cons_succ, i64_w, i32_w]
      rfl
    refine pure_ (i := 19) (N := some 84) (v := ?_) (a' := ?_) (bs 20 1048575) rfl rfl (any_of HT_.out (by kernel_rfl)) (fun _ _ _ h => h) (Or.inl ⟨by rfl, ?_⟩) ?_ ?_
    rotate_left
    · intro w'
      go_simp
      with_reducible rfl
    rotate_left
    · simp only [Act.put, List.setIfInBounds_toArray, List.set_cons_zero, List.set_cons_succ, i64_w, i32_w]
      rfl
    refine done_ (done_of HT_.out (by kernel_rfl)) ?_
    try go_wp2
    go_ret
    exact ⟨by first | rfl | (simp [zal_, zak_] <;> rfl) | (simp [*, zal_, zak_] <;> rfl), HB.out⟩
  rw [if_neg h7] at H
  have m0 : (((rd_T53 a5 b0).f0).toList == ((rd_T53 a5 a1).f0).toList) = false := beq_eq_false_iff_ne.mpr h7
  have m1 : (((rd_T53 a5 b0).f0).toList != ((rd_T53 a5 a1).f0).toList) = true := bne_iff_ne.mpr h7
  by_cases h8 : ((rd_T53 a5 b0).f3) = ((rd_T53 a5 a1).f3)
  rotate_left
  · rw [if_neg h8] at H
    have m2 : (((rd_T53 a5 b0).f3) == ((rd_T53 a5 a1).f3)) = false := beq_eq_false_iff_ne.mpr h8
    have m3 : (((rd_T53 a5 b0).f3) != ((rd_T53 a5 a1).f3)) = true := bne_iff_ne.mpr h8
    have H' := Aside0.mk H
    clear H
    try go_wp2
    have d7 := Aside0.mk (zaf_ a9.out)
    have d8 := Aside0.mk (zaf_ a6.out)
    have d6 := Aside0.mk (zag_ HB.out)
    clear a9
    clear a6
    clear HB
    have a9 := d7
    have a6 := d8
    have HB := d6
    clear d7 d8 d6
    have e1 : 0 ≤ (b0 : Int) := of_decide_eq_true (by first | (with_reducible assumption) | assumption)
    have e2 : b0 < (a5.length : Int) := of_decide_eq_true (by first | (with_reducible assumption) | assumption)
    obtain ⟨ad319, d5, c319_5, e319, hx319_0, hx319_1, hx319_2, hx319_3, hx319_4, hx319_5, hl319_5, hi319_5⟩ := at_T53 HR0_3.out b0 e1 e2
    have hw319_5 := hx319_5
    have hw319_4 := hx319_4
    have hw319_3 := hx319_3
    have hw319_2 := hx319_2
    have hw319_1 := hx319_1
    have hw319_0 := hx319_0
    obtain rfl : ad316 = ad319 := (by injection e319)
    replace hx319_0 := (HB.out.cell (World.block_lt_of_cell? w _ hx319_0)).trans hx319_0
    replace hx319_1 := (HB.out.cell (World.block_lt_of_cell? w _ hx319_1)).trans hx319_1
    replace hx319_2 := (HB.out.cell (World.block_lt_of_cell? w _ hx319_2)).trans hx319_2
    replace hx319_3 := (HB.out.cell (World.block_lt_of_cell? w _ hx319_3)).trans hx319_3
    replace hx319_4 := (HB.out.cell (World.block_lt_of_cell? w _ hx319_4)).trans hx319_4
    replace hx319_5 := (HB.out.cell (World.block_lt_of_cell? w _ hx319_5)).trans hx319_5
    have HR319_5 := Aside0.mk hi319_5
    have HC319_5 := Aside0.mk hl319_5
    clear hi319_5 hl319_5
    replace e1 := eq_true e1
    replace e2 := eq_true e2
    have g0 : 0 ≤ (b0 : Int) := of_decide_eq_true (by first | (with_reducible assumption) | assumption)
    have g1 : b0 < (a5.length : Int) := of_decide_eq_true (by first | (with_reducible assumption) | assumption)
    obtain ⟨ad320, h9, c320_5, e320, hx320_0, hx320_1, hx320_2, hx320_3, hx320_4, hx320_5, hl320_5, hi320_5⟩ := at_T53 HR0_3.out b0 g0 g1
    have hw320_5 := hx320_5
    have hw320_4 := hx320_4
    have hw320_3 := hx320_3
    have hw320_2 := hx320_2
    have hw320_1 := hx320_1
    have hw320_0 := hx320_0
    obtain rfl : ad316 = ad320 := (by injection e320)
    replace hx320_0 := (HB.out.cell (World.block_lt_of_cell? w _ hx320_0)).trans hx320_0
    replace hx320_1 := (HB.out.cell (World.block_lt_of_cell? w _ hx320_1)).trans hx320_1
    replace hx320_2 := (HB.out.cell (World.block_lt_of_cell? w _ hx320_2)).trans hx320_2
    replace hx320_3 := (HB.out.cell (World.block_lt_of_cell? w _ hx320_3)).trans hx320_3
    replace hx320_4 := (HB.out.cell (World.block_lt_of_cell? w _ hx320_4)).trans hx320_4
    replace hx320_5 := (HB.out.cell (World.block_lt_of_cell? w _ hx320_5)).trans hx320_5
    have HR320_5 := Aside0.mk hi320_5
    have HC320_5 := Aside0.mk hl320_5
    clear hi320_5 hl320_5
    replace g0 := eq_true g0
    replace g1 := eq_true g1
    have ea_ := Option.some.inj (hx319_5.symm.trans hx320_5)
    injection ea_ with ea_ en_ ec_
    subst ea_
    subst ec_
    clear en_
    refine start_ (n := 20) (S := fun w' => w'.cell? ⟨b2, 0, none⟩ = some (.int .i64 b5) ∧ w'.cell? ⟨b2, 1, none⟩ = some (.slice d0 b3.length d1) ∧ w'.cell? ⟨b2, 2, none⟩ = some (.slice d2 b4.length d3) ∧ w'.cell? ⟨b2, 3, none⟩ = some (.slice (some ad316) a5.length d4) ∧ w'.cell? ⟨a8, 0, none⟩ = some (.string ((rd_T53 a5 a1).f0)) ∧ w'.cell? ⟨a8, 1, none⟩ = some (.int .i64 ((rd_T53 a5 a1).f1)) ∧ w'.cell? ⟨a8, 2, none⟩ = some (.int .i64 ((rd_T53 a5 a1).f2)) ∧ w'.cell? ⟨a8, 3, none⟩ = some (.int .i64 ((rd_T53 a5 a1).f3)) ∧ w'.cell? ⟨a8, 4, none⟩ = some (.int .i64 ((rd_T53 a5 a1).f4)) ∧ w'.cell? ⟨a8, 5, none⟩ = some (.slice c9 ((rd_T53 a5 a1).f5).length c316_5) ∧ w'.cell? (ad316.add ((b0).toNat * 6)) = some (.string ((rd_T53 a5 b0).f0)) ∧ w'.cell? ⟨(ad316.add ((b0).toNat * 6)).block, (ad316.add ((b0).toNat * 6)).off + 1, none⟩ = some (.int .i64 ((rd_T53 a5 b0).f1)) ∧ w'.cell? ⟨(ad316.add ((b0).toNat * 6)).block, (ad316.add ((b0).toNat * 6)).off + 2, none⟩ = some (.int .i64 ((rd_T53 a5 b0).f2)) ∧ w'.cell? ⟨(ad316.add ((b0).toNat * 6)).block, (ad316.add ((b0).toNat * 6)).off + 3, none⟩ = some (.int .i64 ((rd_T53 a5 b0).f3)) ∧ w'.cell? ⟨(ad316.add ((b0).toNat * 6)).block, (ad316.add ((b0).toNat * 6)).off + 4, none⟩ = some (.int .i64 ((rd_T53 a5 b0).f4)) ∧ w'.cell? ⟨(ad316.add ((b0).toNat * 6)).block, (ad316.add ((b0).toNat * 6)).off + 5, none⟩ = some (.slice d5 ((rd_T53 a5 b0).f5).length c319_5) ∧ w'.cell? (ad316.add ((b0).toNat * 6)) = some (.string ((rd_T53 a5 b0).f0)) ∧ w'.cell? ⟨(ad316.add ((b0).toNat * 6)).block, (ad316.add ((b0).toNat * 6)).off + 1, none⟩ = some (.int .i64 ((rd_T53 a5 b0).f1)) ∧ w'.cell? ⟨(ad316.add ((b0).toNat * 6)).block, (ad316.add ((b0).toNat * 6)).off + 2, none⟩ = some (.int .i64 ((rd_T53 a5 b0).f2)) ∧ w'.cell? ⟨(ad316.add ((b0).toNat * 6)).block, (ad316.add ((b0).toNat * 6)).off + 3, none⟩ = some (.int .i64 ((rd_T53 a5 b0).f3)) ∧ w'.cell? ⟨(ad316.add ((b0).toNat * 6)).block, (ad316.add ((b0).toNat * 6)).off + 4, none⟩ = some (.int .i64 ((rd_T53 a5 b0).f4)) ∧ w'.cell? ⟨(ad316.add ((b0).toNat * 6)).block, (ad316.add ((b0).toNat * 6)).off + 5, none⟩ = some (.slice d5 ((rd_T53 a5 b0).f5).length c319_5)) (ds := []) (bs 20 0) (by kernel_rfl) rfl rfl ⟨(zab_ a9.out 0).trans rfl, (zab_ a9.out 1).trans rfl, (zab_ a9.out 2).trans rfl, (zab_ a9.out 3).trans rfl, (zab_ a6.out 0).trans rfl, (zab_ a6.out 1).trans rfl, (zab_ a6.out 2).trans rfl, (zab_ a6.out 3).trans rfl, (zab_ a6.out 4).trans rfl, (zab_ a6.out 5).trans rfl, ((HB.out.cell (World.block_lt_of_cell? w _ hw319_0)).trans hw319_0), ((HB.out.cell (World.block_lt_of_cell? w _ hw319_1)).trans hw319_1), ((HB.out.cell (World.block_lt_of_cell? w _ hw319_2)).trans hw319_2), ((HB.out.cell (World.block_lt_of_cell? w _ hw319_3)).trans hw319_3), ((HB.out.cell (World.block_lt_of_cell? w _ hw319_4)).trans hw319_4), ((HB.out.cell (World.block_lt_of_cell? w _ hw319_5)).trans hw319_5), ((HB.out.cell (World.block_lt_of_cell? w _ hw320_0)).trans hw320_0), ((HB.out.cell (World.block_lt_of_cell? w _ hw320_1)).trans hw320_1), ((HB.out.cell (World.block_lt_of_cell? w _ hw320_2)).trans hw320_2), ((HB.out.cell (World.block_lt_of_cell? w _ hw320_3)).trans hw320_3), ((HB.out.cell (World.block_lt_of_cell? w _ hw320_4)).trans hw320_4), ((HB.out.cell (World.block_lt_of_cell? w _ hw320_5)).trans hw320_5)⟩ (fun hHeld => ?_); refine zbv_ zaA_.tab9 zaA_.bits9 (fun HT_ HW_ => ?_)
    generalize wr.drew = M7 at a9 a6 HB HR319_5 HR320_5 hx319_0 hx319_1 hx319_2 hx319_3 hx319_4 hx319_5 hx320_0 hx320_1 hx320_2 hx320_3 hx320_4 hx320_5 hHeld ⊢
    refine pure_ (i := 0) (N := some 65) (v := ?_) (a' := ?_) (bs 20 1) rfl rfl (any_of HT_.out (by kernel_rfl)) (fun _ _ _ h => h) (Or.inl ⟨by rfl, ?_⟩) ?_ ?_
    rotate_left
    · intro w'
      go_simp
      with_reducible rfl
    rotate_left
    · simp only [Act.put, List.setIfInBounds_toArray, List.set_cons_zero, List.set_cons_succ, i64_w, i32_w]
      rfl
    refine pure_ (i := 2) (N := some 67) (v := ?_) (a' := ?_) (bs 20 5) rfl rfl (any_of HT_.out (by kernel_rfl)) (fun _ _ _ h => h) (Or.inl ⟨by rfl, ?_⟩) ?_ ?_
    rotate_left
    · intro w'
      go_simp
      with_reducible rfl
    rotate_left
    · simp only [Act.put, List.setIfInBounds_toArray, List.set_cons_zero, List.set_cons_succ, i64_w, i32_w]
      rfl
    refine pure_ (i := 6) (N := some 71) (v := ?_) (a' := ?_) (bs 20 69) rfl rfl (any_of HT_.out (by kernel_rfl)) (fun _ _ _ h => h) (Or.inl ⟨by rfl, ?_⟩) ?_ ?_
    rotate_left
    · intro w'
      go_simp
      with_reducible rfl
    rotate_left
    · simp only [Act.put, List.setIfInBounds_toArray, List.set_cons_zero, List.set_cons_succ, i64_w, i32_w]
      rfl
    refine take_ (i := 1) (N := some 66) (v := ?_) (a' := ?_) (bs 20 71) rfl rfl (zaT_ HT_.out HW_.out (by kernel_rfl)) (fun _ _ _ h => h) (Or.inl ⟨by rfl, ?_⟩) hHeld ?_ ?_
    rotate_left
    · rintro w' ⟨s0, s1, s2, s3, s4, s5, s6, s7, s8, s9, s10, s11, s12, s13, s14, s15, s16, s17, s18, s19, s20, s21⟩
      go_simp
      with_reducible rfl
    rotate_left
    · simp only [Act.put, List.setIfInBounds_toArray, List.set_cons_zero, List.set_cons_succ, i64_w, i32_w]
      rfl
    refine pure_ (i := 3) (N := some 68) (v := ?_) (a' := ?_) (bs 20 79) rfl rfl (any_of HT_.out (by kernel_rfl)) (fun _ _ _ h => h) (Or.inl ⟨by rfl, ?_⟩) ?_ ?_
    rotate_left
    · intro w'
      go_simp
      with_reducible rfl
    rotate_left
    · simp only [Act.put, List.setIfInBounds_toArray, List.set_cons_zero, List.set_cons_succ, i64_w, i32_w]
      rfl
    refine pure_ (i := 4) (N := some 69) (v := ?_) (a' := ?_) (bs 20 95) rfl rfl (any_of HT_.out (by kernel_rfl)) (fun _ _ _ h => h) (Or.inl ⟨by rfl, ?_⟩) ?_ ?_
    rotate_left
    · intro w'
      go_simp
      with_reducible rfl
    rotate_left
    · simp only [Act.put, List.setIfInBounds_toArray, List.set_cons_zero, List.set_cons_succ, i64_w, i32_w]
      rfl
    refine take_ (i := 5) (N := some 70) (v := ?_) (a' := ?_) (bs 20 127) rfl rfl (zaT_ HT_.out HW_.out (by kernel_rfl)) (fun _ _ _ h => h) (Or.inl ⟨by rfl, ?_⟩) hHeld ?_ ?_
    rotate_left
    · rintro w' ⟨s0, s1, s2, s3, s4, s5, s6, s7, s8, s9, s10, s11, s12, s13, s14, s15, s16, s17, s18, s19, s20, s21⟩
      go_simp
      with_reducible rfl
    rotate_left
    · simp only [Act.put, List.setIfInBounds_toArray, List.set_cons_zero, List.set_cons_succ, i64_w, i32_w]
      rfl
    refine take_ (i := 7) (N := some 72) (v := ?_) (a' := ?_) (bs 20 255) rfl rfl (zaT_ HT_.out HW_.out (by kernel_rfl)) (fun _ _ _ h => h) (Or.inl ⟨by rfl, ?_⟩) hHeld ?_ ?_
    rotate_left
    · rintro w' ⟨s0, s1, s2, s3, s4, s5, s6, s7, s8, s9, s10, s11, s12, s13, s14, s15, s16, s17, s18, s19, s20, s21⟩
      go_simp
      with_reducible rfl
    rotate_left
    · simp only [Act.put, List.setIfInBounds_toArray, List.set_cons_zero, List.set_cons_succ, i64_w, i32_w]
      rfl
    refine pure_ (i := 8) (N := some 73) (v := ?_) (a' := ?_) (bs 20 511) rfl rfl (any_of HT_.out (by kernel_rfl)) (fun _ _ _ h => h) (Or.inl ⟨by rfl, ?_⟩) ?_ ?_
    rotate_left
    · intro w'
      go_simp
      with_reducible rfl
    rotate_left
    · simp only [Act.put, List.setIfInBounds_toArray, List.set_cons_zero, List.set_cons_succ, i64_w, i32_w]
      rfl
    refine pure_ (i := 9) (N := some 74) (v := ?_) (a' := ?_) (bs 20 1023) rfl rfl (any_of HT_.out (by kernel_rfl)) (fun _ _ _ h => h) (Or.inl ⟨by rfl, ?_⟩) ?_ ?_
    rotate_left
    · intro w'
      go_simp
      with_reducible rfl
    rotate_left
    · simp only [Act.put, List.setIfInBounds_toArray, List.set_cons_zero, List.set_cons_succ, i64_w, i32_w]
      rfl
    refine pure_ (i := 10) (N := some 75) (v := ?_) (a' := ?_) (bs 20 2047) rfl rfl (any_of HT_.out (by kernel_rfl)) (fun _ _ _ h => h) (Or.inl ⟨by rfl, ?_⟩) ?_ ?_
    rotate_left
    · intro w'
      go_simp
      with_reducible rfl
    rotate_left
    · simp only [Act.put, List.setIfInBounds_toArray, List.set_cons_zero, List.set_cons_succ, i64_w, i32_w]
      rfl
    refine pure_ (i := 12) (N := some 77) (v := ?_) (a' := ?_) (bs 20 6143) rfl rfl (any_of HT_.out (by kernel_rfl)) (fun _ _ _ h => h) (Or.inl ⟨by rfl, ?_⟩) ?_ ?_
    rotate_left
    · intro w'
      go_simp
      with_reducible rfl
    rotate_left
    · simp only [Act.put, List.setIfInBounds_toArray, List.set_cons_zero, List.set_cons_succ, i64_w, i32_w]
      rfl
    refine pure_ (i := 16) (N := some 81) (v := ?_) (a' := ?_) (bs 20 71679) rfl rfl (any_of HT_.out (by kernel_rfl)) (fun _ _ _ h => h) (Or.inl ⟨by rfl, ?_⟩) ?_ ?_
    rotate_left
    · intro w'
      go_simp
      with_reducible rfl
    rotate_left
    · simp only [Act.put, List.setIfInBounds_toArray, List.set_cons_zero, List.set_cons_succ, i64_w, i32_w]
      rfl
    refine take_ (i := 11) (N := some 76) (v := ?_) (a' := ?_) (bs 20 73727) rfl rfl (zaT_ HT_.out HW_.out (by kernel_rfl)) (fun _ _ _ h => h) (Or.inl ⟨by rfl, ?_⟩) hHeld ?_ ?_
    rotate_left
    · rintro w' ⟨s0, s1, s2, s3, s4, s5, s6, s7, s8, s9, s10, s11, s12, s13, s14, s15, s16, s17, s18, s19, s20, s21⟩
      go_simp
      with_reducible rfl
    rotate_left
    · simp only [Act.put, List.setIfInBounds_toArray, List.set_cons_zero, List.set_cons_succ, i64_w, i32_w]
      rfl
    refine pure_ (i := 13) (N := some 78) (v := ?_) (a' := ?_) (bs 20 81919) rfl rfl (any_of HT_.out (by kernel_rfl)) (fun _ _ _ h => h) (Or.inl ⟨by rfl, ?_⟩) ?_ ?_
    rotate_left
    · intro w'
      go_simp
      with_reducible rfl
    rotate_left
    · simp only [Act.put, List.setIfInBounds_toArray, List.set_cons_zero, List.set_cons_succ, i64_w, i32_w]
      rfl
    refine pure_ (i := 14) (N := some 79) (v := ?_) (a' := ?_) (bs 20 98303) rfl rfl (any_of HT_.out (by kernel_rfl)) (fun _ _ _ h => h) (Or.inl ⟨by rfl, ?_⟩) ?_ ?_
    rotate_left
    · intro w'
      go_simp
      with_reducible rfl
    rotate_left
    · simp only [Act.put, List.setIfInBounds_toArray, List.set_cons_zero, List.set_cons_succ, i64_w, i32_w]
      rfl
    refine take_ (i := 15) (N := some 80) (v := ?_) (a' := ?_) (bs 20 131071) rfl rfl (zaT_ HT_.out HW_.out (by kernel_rfl)) (fun _ _ _ h => h) (Or.inl ⟨by rfl, ?_⟩) hHeld ?_ ?_
    rotate_left
    · rintro w' ⟨s0, s1, s2, s3, s4, s5, s6, s7, s8, s9, s10, s11, s12, s13, s14, s15, s16, s17, s18, s19, s20, s21⟩
      go_simp
      with_reducible rfl
    rotate_left
    · simp only [Act.put, List.setIfInBounds_toArray, List.set_cons_zero, List.set_cons_succ, i64_w, i32_w]
      rfl
    refine take_ (i := 17) (N := some 82) (v := ?_) (a' := ?_) (bs 20 262143) rfl rfl (zaT_ HT_.out HW_.out (by kernel_rfl)) (fun _ _ _ h => h) (Or.inl ⟨by rfl, ?_⟩) hHeld ?_ ?_
    rotate_left
    · rintro w' ⟨s0, s1, s2, s3, s4, s5, s6, s7, s8, s9, s10, s11, s12, s13, s14, s15, s16, s17, s18, s19, s20, s21⟩
      go_simp
      with_reducible rfl
    rotate_left
    · simp only [Act.put, List.setIfInBounds_toArray, List.set_cons_zero, List.set_cons_succ, i64_w, i32_w]
      rfl
    refine pure_ (i := 18) (N := some 83) (v := ?_) (a' := ?_) (bs 20 524287) rfl rfl (any_of HT_.out (by kernel_rfl)) (fun _ _ _ h => h) (Or.inl ⟨by rfl, ?_⟩) ?_ ?_
    rotate_left
    · intro w'
      go_simp
      with_reducible rfl
    rotate_left
    · simp only [Act.put, List.setIfInBounds_toArray, List.set_cons_zero, List.set_cons_succ, i64_w, i32_w]
      rfl
    refine pure_ (i := 19) (N := some 84) (v := ?_) (a' := ?_) (bs 20 1048575) rfl rfl (any_of HT_.out (by kernel_rfl)) (fun _ _ _ h => h) (Or.inl ⟨by rfl, ?_⟩) ?_ ?_
    rotate_left
    · intro w'
      go_simp
      with_reducible rfl
    rotate_left
    · simp only [Act.put, List.setIfInBounds_toArray, List.set_cons_zero, List.set_cons_succ, i64_w, i32_w]
      rfl
    refine done_ (done_of HT_.out (by kernel_rfl)) ?_
    try go_wp2
    go_roundg k3
    case measure => have := h3.out; have := g4.out; have := k0.out; omega
    case rel => exact ⟨(wrap64 (b0 + 1)), (by first | rfl | (simp; done) | (simp [*]; done)), H', ⟨by have := h3.out; have := g4.out; have := k0.out; omega⟩, ⟨a9.out⟩, ⟨a6.out⟩, ⟨HB.out⟩⟩
  rw [if_pos h8] at H
  have m2 : (((rd_T53 a5 b0).f3) == ((rd_T53 a5 a1).f3)) = true := beq_iff_eq.mpr h8
  have m3 : (((rd_T53 a5 b0).f3) != ((rd_T53 a5 a1).f3)) = false := bne_eq_false_iff_eq.mpr h8
  clear h8
  obtain rfl := Option.some.inj H
  try go_wp2
  have d7 := Aside0.mk (zaf_ a9.out)
  have d8 := Aside0.mk (zaf_ a6.out)
  have d6 := Aside0.mk (zag_ HB.out)
  clear a9
  clear a6
  clear HB
  have a9 := d7
  have a6 := d8
  have HB := d6
  clear d7 d8 d6
  have e1 : 0 ≤ (b0 : Int) := of_decide_eq_true (by first | (with_reducible assumption) | assumption)
  have e2 : b0 < (a5.length : Int) := of_decide_eq_true (by first | (with_reducible assumption) | assumption)
  obtain ⟨ad319, d5, c319_5, e319, hx319_0, hx319_1, hx319_2, hx319_3, hx319_4, hx319_5, hl319_5, hi319_5⟩ := at_T53 HR0_3.out b0 e1 e2
  have hw319_5 := hx319_5
  have hw319_4 := hx319_4
  have hw319_3 := hx319_3
  have hw319_2 := hx319_2
  have hw319_1 := hx319_1
  have hw319_0 := hx319_0
  obtain rfl : ad316 = ad319 := (by injection e319)
  replace hx319_0 := (HB.out.cell (World.block_lt_of_cell? w _ hx319_0)).trans hx319_0
  replace hx319_1 := (HB.out.cell (World.block_lt_of_cell? w _ hx319_1)).trans hx319_1
  replace hx319_2 := (HB.out.cell (World.block_lt_of_cell? w _ hx319_2)).trans hx319_2
  replace hx319_3 := (HB.out.cell (World.block_lt_of_cell? w _ hx319_3)).trans hx319_3
  replace hx319_4 := (HB.out.cell (World.block_lt_of_cell? w _ hx319_4)).trans hx319_4
  replace hx319_5 := (HB.out.cell (World.block_lt_of_cell? w _ hx319_5)).trans hx319_5
  have HR319_5 := Aside0.mk hi319_5
  have HC319_5 := Aside0.mk hl319_5
  clear hi319_5 hl319_5
  replace e1 := eq_true e1
  replace e2 := eq_true e2
  have g0 : 0 ≤ (b0 : Int) := of_decide_eq_true (by first | (with_reducible assumption) | assumption)
  have g1 : b0 < (a5.length : Int) := of_decide_eq_true (by first | (with_reducible assumption) | assumption)
  obtain ⟨ad320, h9, c320_5, e320, hx320_0, hx320_1, hx320_2, hx320_3, hx320_4, hx320_5, hl320_5, hi320_5⟩ := at_T53 HR0_3.out b0 g0 g1
  have hw320_5 := hx320_5
  have hw320_4 := hx320_4
  have hw320_3 := hx320_3
  have hw320_2 := hx320_2
  have hw320_1 := hx320_1
  have hw320_0 := hx320_0
  obtain rfl : ad316 = ad320 := (by injection e320)
  replace hx320_0 := (HB.out.cell (World.block_lt_of_cell? w _ hx320_0)).trans hx320_0
  replace hx320_1 := (HB.out.cell (World.block_lt_of_cell? w _ hx320_1)).trans hx320_1
  replace hx320_2 := (HB.out.cell (World.block_lt_of_cell? w _ hx320_2)).trans hx320_2
  replace hx320_3 := (HB.out.cell (World.block_lt_of_cell? w _ hx320_3)).trans hx320_3
  replace hx320_4 := (HB.out.cell (World.block_lt_of_cell? w _ hx320_4)).trans hx320_4
  replace hx320_5 := (HB.out.cell (World.block_lt_of_cell? w _ hx320_5)).trans hx320_5
  have HR320_5 := Aside0.mk hi320_5
  have HC320_5 := Aside0.mk hl320_5
  clear hi320_5 hl320_5
  replace g0 := eq_true g0
  replace g1 := eq_true g1
  have ea_ := Option.some.inj (hx319_5.symm.trans hx320_5)
  injection ea_ with ea_ en_ ec_
  subst ea_
  subst ec_
  clear en_
  refine start_ (n := 20) (S := fun w' => w'.cell? ⟨b2, 0, none⟩ = some (.int .i64 b5) ∧ w'.cell? ⟨b2, 1, none⟩ = some (.slice d0 b3.length d1) ∧ w'.cell? ⟨b2, 2, none⟩ = some (.slice d2 b4.length d3) ∧ w'.cell? ⟨b2, 3, none⟩ = some (.slice (some ad316) a5.length d4) ∧ w'.cell? ⟨a8, 0, none⟩ = some (.string ((rd_T53 a5 a1).f0)) ∧ w'.cell? ⟨a8, 1, none⟩ = some (.int .i64 ((rd_T53 a5 a1).f1)) ∧ w'.cell? ⟨a8, 2, none⟩ = some (.int .i64 ((rd_T53 a5 a1).f2)) ∧ w'.cell? ⟨a8, 3, none⟩ = some (.int .i64 ((rd_T53 a5 a1).f3)) ∧ w'.cell? ⟨a8, 4, none⟩ = some (.int .i64 ((rd_T53 a5 a1).f4)) ∧ w'.cell? ⟨a8, 5, none⟩ = some (.slice c9 ((rd_T53 a5 a1).f5).length c316_5) ∧ w'.cell? (ad316.add ((b0).toNat * 6)) = some (.string ((rd_T53 a5 b0).f0)) ∧ w'.cell? ⟨(ad316.add ((b0).toNat * 6)).block, (ad316.add ((b0).toNat * 6)).off + 1, none⟩ = some (.int .i64 ((rd_T53 a5 b0).f1)) ∧ w'.cell? ⟨(ad316.add ((b0).toNat * 6)).block, (ad316.add ((b0).toNat * 6)).off + 2, none⟩ = some (.int .i64 ((rd_T53 a5 b0).f2)) ∧ w'.cell? ⟨(ad316.add ((b0).toNat * 6)).block, (ad316.add ((b0).toNat * 6)).off + 3, none⟩ = some (.int .i64 ((rd_T53 a5 b0).f3)) ∧ w'.cell? ⟨(ad316.add ((b0).toNat * 6)).block, (ad316.add ((b0).toNat * 6)).off + 4, none⟩ = some (.int .i64 ((rd_T53 a5 b0).f4)) ∧ w'.cell? ⟨(ad316.add ((b0).toNat * 6)).block, (ad316.add ((b0).toNat * 6)).off + 5, none⟩ = some (.slice d5 ((rd_T53 a5 b0).f5).length c319_5) ∧ w'.cell? (ad316.add ((b0).toNat * 6)) = some (.string ((rd_T53 a5 b0).f0)) ∧ w'.cell? ⟨(ad316.add ((b0).toNat * 6)).block, (ad316.add ((b0).toNat * 6)).off + 1, none⟩ = some (.int .i64 ((rd_T53 a5 b0).f1)) ∧ w'.cell? ⟨(ad316.add ((b0).toNat * 6)).block, (ad316.add ((b0).toNat * 6)).off + 2, none⟩ = some (.int .i64 ((rd_T53 a5 b0).f2)) ∧ w'.cell? ⟨(ad316.add ((b0).toNat * 6)).block, (ad316.add ((b0).toNat * 6)).off + 3, none⟩ = some (.int .i64 ((rd_T53 a5 b0).f3)) ∧ w'.cell? ⟨(ad316.add ((b0).toNat * 6)).block, (ad316.add ((b0).toNat * 6)).off + 4, none⟩ = some (.int .i64 ((rd_T53 a5 b0).f4)) ∧ w'.cell? ⟨(ad316.add ((b0).toNat * 6)).block, (ad316.add ((b0).toNat * 6)).off + 5, none⟩ = some (.slice d5 ((rd_T53 a5 b0).f5).length c319_5)) (ds := []) (bs 20 0) (by kernel_rfl) rfl rfl ⟨(zab_ a9.out 0).trans rfl, (zab_ a9.out 1).trans rfl, (zab_ a9.out 2).trans rfl, (zab_ a9.out 3).trans rfl, (zab_ a6.out 0).trans rfl, (zab_ a6.out 1).trans rfl, (zab_ a6.out 2).trans rfl, (zab_ a6.out 3).trans rfl, (zab_ a6.out 4).trans rfl, (zab_ a6.out 5).trans rfl, ((HB.out.cell (World.block_lt_of_cell? w _ hw319_0)).trans hw319_0), ((HB.out.cell (World.block_lt_of_cell? w _ hw319_1)).trans hw319_1), ((HB.out.cell (World.block_lt_of_cell? w _ hw319_2)).trans hw319_2), ((HB.out.cell (World.block_lt_of_cell? w _ hw319_3)).trans hw319_3), ((HB.out.cell (World.block_lt_of_cell? w _ hw319_4)).trans hw319_4), ((HB.out.cell (World.block_lt_of_cell? w _ hw319_5)).trans hw319_5), ((HB.out.cell (World.block_lt_of_cell? w _ hw320_0)).trans hw320_0), ((HB.out.cell (World.block_lt_of_cell? w _ hw320_1)).trans hw320_1), ((HB.out.cell (World.block_lt_of_cell? w _ hw320_2)).trans hw320_2), ((HB.out.cell (World.block_lt_of_cell? w _ hw320_3)).trans hw320_3), ((HB.out.cell (World.block_lt_of_cell? w _ hw320_4)).trans hw320_4), ((HB.out.cell (World.block_lt_of_cell? w _ hw320_5)).trans hw320_5)⟩ (fun hHeld => ?_); refine zbv_ zaA_.tab9 zaA_.bits9 (fun HT_ HW_ => ?_)
  generalize wr.drew = M8 at a9 a6 HB HR319_5 HR320_5 hx319_0 hx319_1 hx319_2 hx319_3 hx319_4 hx319_5 hx320_0 hx320_1 hx320_2 hx320_3 hx320_4 hx320_5 hHeld ⊢
  refine pure_ (i := 0) (N := some 65) (v := ?_) (a' := ?_) (bs 20 1) rfl rfl (any_of HT_.out (by kernel_rfl)) (fun _ _ _ h => h) (Or.inl ⟨by rfl, ?_⟩) ?_ ?_
  rotate_left
  · intro w'
    go_simp
    with_reducible rfl
  rotate_left
  · simp only [Act.put, List.setIfInBounds_toArray, List.set_cons_zero, List.set_cons_succ, i64_w, i32_w]
    rfl
  refine pure_ (i := 2) (N := some 67) (v := ?_) (a' := ?_) (bs 20 5) rfl rfl (any_of HT_.out (by kernel_rfl)) (fun _ _ _ h => h) (Or.inl ⟨by rfl, ?_⟩) ?_ ?_
  rotate_left
  · intro w'
    go_simp
    with_reducible rfl
  rotate_left
  · simp only [Act.put, List.setIfInBounds_toArray, List.set_cons_zero, List.set_cons_succ, i64_w, i32_w]
    rfl
  refine pure_ (i := 6) (N := some 71) (v := ?_) (a' := ?_) (bs 20 69) rfl rfl (any_of HT_.out (by kernel_rfl)) (fun _ _ _ h => h) (Or.inl ⟨by rfl, ?_⟩) ?_ ?_
  rotate_left
  · intro w'
    go_simp
    with_reducible rfl
  rotate_left
  · simp only [Act.put, List.setIfInBounds_toArray, List.set_cons_zero, List.set_cons_succ, i64_w, i32_w]
    rfl
  refine take_ (i := 1) (N := some 66) (v := ?_) (a' := ?_) (bs 20 71) rfl rfl (zaT_ HT_.out HW_.out (by kernel_rfl)) (fun _ _ _ h => h) (Or.inl ⟨by rfl, ?_⟩) hHeld ?_ ?_
  rotate_left
  · rintro w' ⟨s0, s1, s2, s3, s4, s5, s6, s7, s8, s9, s10, s11, s12, s13, s14, s15, s16, s17, s18, s19, s20, s21⟩
    go_simp
    with_reducible rfl
  rotate_left
  · simp only [Act.put, List.setIfInBounds_toArray, List.set_cons_zero, List.set_cons_succ, i64_w, i32_w]
    rfl
  refine pure_ (i := 3) (N := some 68) (v := ?_) (a' := ?_) (bs 20 79) rfl rfl (any_of HT_.out (by kernel_rfl)) (fun _ _ _ h => h) (Or.inl ⟨by rfl, ?_⟩) ?_ ?_
  rotate_left
  · intro w'
    go_simp
    with_reducible rfl
  rotate_left
  · simp only [Act.put, List.setIfInBounds_toArray, List.set_cons_zero, List.set_cons_succ, i64_w, i32_w]
    rfl
  refine pure_ (i := 4) (N := some 69) (v := ?_) (a' := ?_) (bs 20 95) rfl rfl (any_of HT_.out (by kernel_rfl)) (fun _ _ _ h => h) (Or.inl ⟨by rfl, ?_⟩) ?_ ?_
  rotate_left
  · intro w'
    go_simp
    with_reducible rfl
  rotate_left
  · simp only [Act.put, List.setIfInBounds_toArray, List.set_cons_zero, List.set_cons_succ, i64_w, i32_w]
    rfl
  refine take_ (i := 5) (N := some 70) (v := ?_) (a' := ?_) (bs 20 127) rfl rfl (zaT_ HT_.out HW_.out (by kernel_rfl)) (fun _ _ _ h => h) (Or.inl ⟨by rfl, ?_⟩) hHeld ?_ ?_
  rotate_left
  · rintro w' ⟨s0, s1, s2, s3, s4, s5, s6, s7, s8, s9, s10, s11, s12, s13, s14, s15, s16, s17, s18, s19, s20, s21⟩
    go_simp
    with_reducible rfl
  rotate_left
  · simp only [Act.put, List.setIfInBounds_toArray, List.set_cons_zero, List.set_cons_succ, i64_w, i32_w]
    rfl
  refine take_ (i := 7) (N := some 72) (v := ?_) (a' := ?_) (bs 20 255) rfl rfl (zaT_ HT_.out HW_.out (by kernel_rfl)) (fun _ _ _ h => h) (Or.inl ⟨by rfl, ?_⟩) hHeld ?_ ?_
  rotate_left
  · rintro w' ⟨s0, s1, s2, s3, s4, s5, s6, s7, s8, s9, s10, s11, s12, s13, s14, s15, s16, s17, s18, s19, s20, s21⟩
    go_simp
    with_reducible rfl
  rotate_left
  · simp only [Act.put, List.setIfInBounds_toArray, List.set_cons_zero, List.set_cons_succ, i64_w, i32_w]
    rfl
  refine pure_ (i := 8) (N := some 73) (v := ?_) (a' := ?_) (bs 20 511) rfl rfl (any_of HT_.out (by kernel_rfl)) (fun _ _ _ h => h) (Or.inl ⟨by rfl, ?_⟩) ?_ ?_
  rotate_left
  · intro w'
    go_simp
    with_reducible rfl
  rotate_left
  · simp only [Act.put, List.setIfInBounds_toArray, List.set_cons_zero, List.set_cons_succ, i64_w, i32_w]
    rfl
  refine pure_ (i := 9) (N := some 74) (v := ?_) (a' := ?_) (bs 20 1023) rfl rfl (any_of HT_.out (by kernel_rfl)) (fun _ _ _ h => h) (Or.inl ⟨by rfl, ?_⟩) ?_ ?_
  rotate_left
  · intro w'
    go_simp
    with_reducible rfl
  rotate_left
  · simp only [Act.put, List.setIfInBounds_toArray, List.set_cons_zero, List.set_cons_succ, i64_w, i32_w]
    rfl
  refine pure_ (i := 10) (N := some 75) (v := ?_) (a' := ?_) (bs 20 2047) rfl rfl (any_of HT_.out (by kernel_rfl)) (fun _ _ _ h => h) (Or.inl ⟨by rfl, ?_⟩) ?_ ?_
  rotate_left
  · intro w'
    go_simp
    with_reducible rfl
  rotate_left
  · simp only [Act.put, List.setIfInBounds_toArray, List.set_cons_zero, List.set_cons_succ, i64_w, i32_w]
    rfl
  refine pure_ (i := 12) (N := some 77) (v := ?_) (a' := ?_) (bs 20 6143) rfl rfl (any_of HT_.out (by kernel_rfl)) (fun _ _ _ h => h) (Or.inl ⟨by rfl, ?_⟩) ?_ ?_
  rotate_left
  · intro w'
    go_simp
    with_reducible rfl
  rotate_left
  · simp only [Act.put, List.setIfInBounds_toArray, List.set_cons_zero, List.set_cons_succ, i64_w, i32_w]
    rfl
  refine pure_ (i := 16) (N := some 81) (v := ?_) (a' := ?_) (bs 20 71679) rfl rfl (any_of HT_.out (by kernel_rfl)) (fun _ _ _ h => h) (Or.inl ⟨by rfl, ?_⟩) ?_ ?_
  rotate_left
  · intro w'
    go_simp
    with_reducible rfl
  rotate_left
  · simp only [Act.put, List.setIfInBounds_toArray, List.set_cons_zero, List.set_cons_succ, i64_w, i32_w]
    rfl
  refine take_ (i := 11) (N := some 76) (v := ?_) (a' := ?_) (bs 20 73727) rfl rfl (zaT_ HT_.out HW_.out (by kernel_rfl)) (fun _ _ _ h => h) (Or.inl ⟨by rfl, ?_⟩) hHeld ?_ ?_
  rotate_left
  · rintro w' ⟨s0, s1, s2, s3, s4, s5, s6, s7, s8, s9, s10, s11, s12, s13, s14, s15, s16, s17, s18, s19, s20, s21⟩
    go_simp
    with_reducible rfl
  rotate_left
  · simp only [Act.put, List.setIfInBounds_toArray, List.set_cons_zero, List.set_cons_succ, i64_w, i32_w]
    rfl
  refine pure_ (i := 13) (N := some 78) (v := ?_) (a' := ?_) (bs 20 81919) rfl rfl (any_of HT_.out (by kernel_rfl)) (fun _ _ _ h => h) (Or.inl ⟨by rfl, ?_⟩) ?_ ?_
  rotate_left
  · intro w'
    go_simp
    with_reducible rfl
  rotate_left
  · simp only [Act.put, List.setIfInBounds_toArray, List.set_cons_zero, List.set_cons_succ, i64_w, i32_w]
    rfl
  refine pure_ (i := 14) (N := some 79) (v := ?_) (a' := ?_) (bs 20 98303) rfl rfl (any_of HT_.out (by kernel_rfl)) (fun _ _ _ h => h) (Or.inl ⟨by rfl, ?_⟩) ?_ ?_
  rotate_left
  · intro w'
    go_simp
    with_reducible rfl
  rotate_left
  · simp only [Act.put, List.setIfInBounds_toArray, List.set_cons_zero, List.set_cons_succ, i64_w, i32_w]
    rfl
  refine take_ (i := 15) (N := some 80) (v := ?_) (a' := ?_) (bs 20 131071) rfl rfl (zaT_ HT_.out HW_.out (by kernel_rfl)) (fun _ _ _ h => h) (Or.inl ⟨by rfl, ?_⟩) hHeld ?_ ?_
  rotate_left
  · rintro w' ⟨s0, s1, s2, s3, s4, s5, s6, s7, s8, s9, s10, s11, s12, s13, s14, s15, s16, s17, s18, s19, s20, s21⟩
    go_simp
    with_reducible rfl
  rotate_left
  · simp only [Act.put, List.setIfInBounds_toArray, List.set_cons_zero, List.set_cons_succ, i64_w, i32_w]
    rfl
  refine take_ (i := 17) (N := some 82) (v := ?_) (a' := ?_) (bs 20 262143) rfl rfl (zaT_ HT_.out HW_.out (by kernel_rfl)) (fun _ _ _ h => h) (Or.inl ⟨by rfl, ?_⟩) hHeld ?_ ?_
  rotate_left
  · rintro w' ⟨s0, s1, s2, s3, s4, s5, s6, s7, s8, s9, s10, s11, s12, s13, s14, s15, s16, s17, s18, s19, s20, s21⟩
    go_simp
    with_reducible rfl
  rotate_left
  · simp only [Act.put, List.setIfInBounds_toArray, List.set_cons_zero, List.set_cons_succ, i64_w, i32_w]
    rfl
  refine pure_ (i := 18) (N := some 83) (v := ?_) (a' := ?_) (bs 20 524287) rfl rfl (any_of HT_.out (by kernel_rfl)) (fun _ _ _ h => h) (Or.inl ⟨by rfl, ?_⟩) ?_ ?_
  rotate_left
  · intro w'
    go_simp
    with_reducible rfl
  rotate_left
  · simp only [Act.put, List.setIfInBounds_toArray, List.set_cons_zero, List.set_cons_succ, i64_w, i32_w]
    rfl
  refine pure_ (i := 19) (N := some 84) (v := ?_) (a' := ?_) (bs 20 1048575) rfl rfl (any_of HT_.out (by kernel_rfl)) (fun _ _ _ h => h) (Or.inl ⟨by rfl, ?_⟩) ?_ ?_
  rotate_left
  · intro w'
    go_simp
    with_reducible rfl
  rotate_left
  · simp only [Act.put, List.setIfInBounds_toArray, List.set_cons_zero, List.set_cons_succ, i64_w, i32_w]
    rfl
  refine done_ (done_of HT_.out (by kernel_rfl)) ?_
  try go_wp2
  go_ret
  exact ⟨by first | rfl | (simp [zal_, zak_] <;> rfl) | (simp [*, zal_, zak_] <;> rfl), HB.out⟩
end Go.Proofs.YtgkjoodlcojkkaaDoor.QD
end
section
namespace Go.Proofs.YtgkjoodlcojkkaaDoor.QD
open Go.RowKit Go.Proofs.YtgkjoodlcojkkaaDoorW.PrintWords Go.Proofs.YtgkjoodlcojkkaaDoorW.PrintLast Go.Proofs.YtgkjoodlcojkkaaDoorW.PrintMore
attribute [local go_sem] zbd_ zbe_ zbm_ zbl_ zaW_ zaX_ zbc_ zbb_
set_option linter.unusedVariables false
set_option linter.unusedSimpArgs false
mutual
def zaY_.j0 : Nat → Bool → Int → List Int → List Int → List (S53) → Option (Int × Int)
  | 0, _, _, _, _, _ => none
  | k + 1, x6, b7, b8, b9, b6 => if x6 = true then (some ((-1), 10)) else ((zaE_.f k b7 b8 b9 b6).bind fun c6 => (if c6 = true then (if (b6.length : Int) > 6 then (some ((-1), 11)) else (if (b6.length : Int) = 0 then (some ((-1), 14)) else (zaY_.l0 k 0 b7 b8 b9 b6))) else (some ((-1), 16))))
def zaY_.l0 : Nat → Int → Int → List Int → List Int → List (S53) → Option (Int × Int)
  | 0, _, _, _, _, _ => none
  | k + 1, x4, b7, b8, b9, b6 => if x4 < (b6.length : Int) then ((zaA_.f k b7 b8 b9 b6 x4).bind fun c1 => (if c1 = 0 then (zaY_.l0 k (wrap64 (x4 + 1)) b7 b8 b9 b6) else (some (x4, c1)))) else (some ((-1), 0))
end
def zaY_.f (k : Nat) (a7 : Int) (a8 : List Int) (a9 : List Int) (a6 : List (S53)) : Option (Int × Int) := if a7 < 1 then (zaY_.j0 k true a7 a8 a9 a6) else (zaY_.j0 k (decide (a7 > 3)) a7 a8 a9 a6)
theorem zaY_.mono_l : ∀ k, (∀ y0 y1 y2 y3 y4, LeO (zaY_.j0 k y0 y1 y2 y3 y4) (zaY_.j0 (k + 1) y0 y1 y2 y3 y4)) ∧ (∀ y0 y1 y2 y3 y4, LeO (zaY_.l0 k y0 y1 y2 y3 y4) (zaY_.l0 (k + 1) y0 y1 y2 y3 y4))
  | 0 => ⟨fun _ _ _ _ _ r h => by simp [zaY_.j0] at h, fun _ _ _ _ _ r h => by simp [zaY_.l0] at h⟩
  | k + 1 => by
    obtain ⟨ih0, ih1⟩ := zaY_.mono_l k
    refine ⟨?_, ?_⟩
    · intro y0 y1 y2 y3 y4
      unfold zaY_.j0
      repeat' first
      | (with_reducible exact ih0 _ _ _ _ _)
      | (with_reducible exact ih1 _ _ _ _ _)
      | (with_reducible exact zaE_.mono _ _ _ _ _)
      | (with_reducible exact zaA_.mono _ _ _ _ _ _)
      | (with_reducible exact LeO.refl _)
      | (with_reducible exact LeO.none _)
      | (with_reducible refine LeO.ite ?_ ?_)
      | (with_reducible refine LeO.bind ?_ (fun _ => ?_))
      | exact ih0 _ _ _ _ _
      | exact ih1 _ _ _ _ _
      | exact zaE_.mono _ _ _ _ _
      | exact zaA_.mono _ _ _ _ _ _
      | exact LeO.none _
      | refine LeO.ite ?_ ?_
      | refine LeO.bind ?_ (fun _ => ?_)
    · intro y0 y1 y2 y3 y4
      unfold zaY_.l0
      repeat' first
      | (with_reducible exact ih0 _ _ _ _ _)
      | (with_reducible exact ih1 _ _ _ _ _)
      | (with_reducible exact zaE_.mono _ _ _ _ _)
      | (with_reducible exact zaA_.mono _ _ _ _ _ _)
      | (with_reducible exact LeO.refl _)
      | (with_reducible exact LeO.none _)
      | (with_reducible refine LeO.ite ?_ ?_)
      | (with_reducible refine LeO.bind ?_ (fun _ => ?_))
      | exact ih0 _ _ _ _ _
      | exact ih1 _ _ _ _ _
      | exact zaE_.mono _ _ _ _ _
      | exact zaA_.mono _ _ _ _ _ _
      | exact LeO.none _
      | refine LeO.ite ?_ ?_
      | refine LeO.bind ?_ (fun _ => ?_)
theorem zaY_.mono : ∀ a0 a1 a2 a3 k, LeO (zaY_.f k a0 a1 a2 a3) (zaY_.f (k + 1) a0 a1 a2 a3) := by
  intro a0 a1 a2 a3 k
  obtain ⟨ih0, ih1⟩ := zaY_.mono_l k
  unfold zaY_.f
  repeat' first
      | (with_reducible exact ih0 _ _ _ _ _)
      | (with_reducible exact ih1 _ _ _ _ _)
      | (with_reducible exact zaE_.mono _ _ _ _ _)
      | (with_reducible exact zaA_.mono _ _ _ _ _ _)
      | (with_reducible exact LeO.refl _)
      | (with_reducible exact LeO.none _)
      | (with_reducible refine LeO.ite ?_ ?_)
      | (with_reducible refine LeO.bind ?_ (fun _ => ?_))
      | exact ih0 _ _ _ _ _
      | exact ih1 _ _ _ _ _
      | exact zaE_.mono _ _ _ _ _
      | exact zaA_.mono _ _ _ _ _ _
      | exact LeO.none _
      | refine LeO.ite ?_ ?_
      | refine LeO.bind ?_ (fun _ => ?_)
set_option maxHeartbeats 8000000 in
set_option maxRecDepth 100000 in
theorem zaY_.calls (k : Nat) (a7 : Int) (b0 : Option Addr) (b1 : Nat) (a8 : List Int) (b2 : Option Addr) (b3 : Nat) (a9 : List Int) (b4 : Option Addr) (b5 : Nat) (a6 : List (S53)) (r1 : Int) (r2 : Int) (w : World) (d0 : Kd.C (Kd.int .i64) w b0 a8.length a8) (d1 : a8.length ≤ b1) (d2 : Kd.C (Kd.int .i64) w b2 a9.length a9) (d3 : a9.length ≤ b3) (d4 : Kd.C k53 w b4 a6.length a6) (d5 : a6.length ≤ b5) (h : zaY_.f k a7 a8 a9 a6 = some (r1, r2)) :
    Calls Tryd.prog 32 #[.agg #[.int .i64 a7, .slice b0 a8.length b1, .slice b2 a9.length b3, .slice b4 a6.length b5]] w fun e w' => e = .returned (.tuple #[.int .i64 r1, .int .i64 r2]) ∧ Below w.heap.size w w' := by
  have hu37 := Tryd.underlying37
  have HR0_1 := Aside0.mk d0
  have HC0_1 := Aside0.mk d1
  clear d0 d1
  have HR0_2 := Aside0.mk d2
  have HC0_2 := Aside0.mk d3
  clear d2 d3
  have HR0_3 := Aside0.mk d4
  have HC0_3 := Aside0.mk d5
  clear d4 d5
  have HB := Aside0.mk (Below.refl w.heap.size w)
  have H : (if a7 < 1 then (zaY_.j0 k true a7 a8 a9 a6) else (zaY_.j0 k (decide (a7 > 3)) a7 a8 a9 a6)) = some (r1, r2) := h
  clear h
  have HC2 := Aside0.mk H
  clear H
  go_enter Tryd.func32, Tryd.ntmps32
  go_upto_region 1 with (first | ((with_reducible refine zaL_ (N := 1) rfl ?_); refine zaD_ ?hg (N := 1) ?hd (cs := #[.int .i64 a7, .slice b0 a8.length b1, .slice b2 a9.length b3, .slice b4 a6.length b5]) (t := 37) ?hr ?_; (case hd => rfl); (case hg => rfl); (case hr => first | (go_simp; done) | (go_simp; rfl)); intro a5 hg w3 hbox hb; have c2 := Aside0.mk (zaj_ (HB.out) hb); have c3 := Aside0.mk (hbox); have r3 := Aside0.mk ((by rw [hg]; exact (zam_ (HB.out)) : w.heap.size ≤ a5)); have r4 := Aside0.mk ((by rw [hg]; exact (zam_ (HB.out)) : w.heap.size ≤ a5)); clear HB; have HB := c2; have a4 := c3; have r5 := r3; have r6 := r4; clear c2 c3 r3 r4; clear hb hbox hg))
  (try simp only [Act.put, List.setIfInBounds_toArray, List.set_cons_zero, List.set_cons_succ])
  go_cut [6] (fun v6 wc => ∃ (kq : Nat) (c8 : Bool), v6 = .bool c8 ∧ Aside0 (zaY_.j0 kq c8 a7 a8 a9 a6 = some (r1, r2)) ∧ Aside0 (kq ≤ k) ∧ Aside0 (wc.heap[a5]? = some (.cells #[.int .i64 a7, (.slice b0 a8.length b1), (.slice b2 a9.length b3), (.slice b4 a6.length b5)] 37 (0, 0))) ∧ Aside0 (Below w.heap.size w wc))
  case first =>
    have H := HC2.out
    clear HC2
    by_cases c4 : a7 < 1
    · rw [if_pos c4] at H
      have c5 : decide (a7 < 1) = true := decide_eq_true c4
      clear c4
      (first | rw [c5] | (simp only [i64_w, i32_w]; rw [c5]) | skip)
      have H' := Aside0.mk H
      clear H
      have p5 : w3.cell? ⟨a5, 0, none⟩ = some (.int .i64 a7) := (zab_ a4.out 0).trans rfl
      have p6 : w3.cell? ⟨a5, 1, none⟩ = some (.slice b0 a8.length b1) := (zab_ a4.out 1).trans rfl
      have p7 : w3.cell? ⟨a5, 2, none⟩ = some (.slice b2 a9.length b3) := (zab_ a4.out 2).trans rfl
      have p8 : w3.cell? ⟨a5, 3, none⟩ = some (.slice b4 a6.length b5) := (zab_ a4.out 3).trans rfl
      have p9 := zaa_ a4.out 0
      have q0 := zaa_ a4.out 1
      have q1 := zaa_ a4.out 2
      have q2 := zaa_ a4.out 3
      go_wp2
      go_meet
      case rel => exact ⟨_, (true), (by first | rfl | (simp; done) | (simp [*]; done)), H', ⟨by first | omega | exact Nat.le_refl _⟩, ⟨a4.out⟩, ⟨HB.out⟩⟩
    rw [if_neg c4] at H
    have c5 : decide (a7 < 1) = false := decide_eq_false c4
    clear c4
    (first | rw [c5] | (simp only [i64_w, i32_w]; rw [c5]) | skip)
    have H' := Aside0.mk H
    clear H
    have q3 : w3.cell? ⟨a5, 0, none⟩ = some (.int .i64 a7) := (zab_ a4.out 0).trans rfl
    have q4 : w3.cell? ⟨a5, 1, none⟩ = some (.slice b0 a8.length b1) := (zab_ a4.out 1).trans rfl
    have q5 : w3.cell? ⟨a5, 2, none⟩ = some (.slice b2 a9.length b3) := (zab_ a4.out 2).trans rfl
    have q6 : w3.cell? ⟨a5, 3, none⟩ = some (.slice b4 a6.length b5) := (zab_ a4.out 3).trans rfl
    have q7 := zaa_ a4.out 0
    have q8 := zaa_ a4.out 1
    have q9 := zaa_ a4.out 2
    have r0 := zaa_ a4.out 3
    go_wp2
    go_meet
    case rel => exact ⟨_, (decide (a7 > 3)), (by first | rfl | (simp; done) | (simp [*]; done)), H', ⟨by first | omega | exact Nat.le_refl _⟩, ⟨a4.out⟩, ⟨HB.out⟩⟩
  clear HC2
  obtain ⟨kq, c8, rfl, HA, r7, a4, HB⟩ := hcut
  cases kq with
  | zero => exact absurd HA.out (by simp [zaY_.j0])
  | succ d7 => ?_
  have H := HA.out
  clear HA
  simp only [zaY_.j0] at H
  by_cases c7 : c8 = true
  · subst c7
    rw [if_pos rfl] at H
    simp only [Option.some.injEq, Prod.mk.injEq] at H
    obtain ⟨rfl, rfl⟩ := H
    go_wp2
    go_ret2
    exact ⟨by first | rfl | (simp [zal_, zak_] <;> rfl) | (simp [*, zal_, zak_] <;> rfl), HB.out⟩
  replace c7 := Bool.eq_false_iff.mpr c7
  subst c7
  rw [if_neg (show ¬ (false = true) by decide)] at H
  replace H := Option.bind_eq_some_iff.mp H
  obtain ⟨c6, r8, H⟩ := H
  replace H : (if c6 = true then (if (a6.length : Int) > 6 then (some ((-1), 11)) else (if (a6.length : Int) = 0 then (some ((-1), 14)) else (zaY_.l0 d7 0 a7 a8 a9 a6))) else (some ((-1), 16))) = some (r1, r2) := H
  have A8 := Aside0.mk r8
  clear r8
  by_cases c9 : c6 = true
  rotate_left
  · replace c9 := Bool.eq_false_iff.mpr c9
    subst c9
    rw [if_neg (show ¬ (false = true) by decide)] at H
    simp only [Option.some.injEq, Prod.mk.injEq] at H
    obtain ⟨rfl, rfl⟩ := H
    have e9 : wc.cell? ⟨a5, 0, none⟩ = some (.int .i64 a7) := (zab_ a4.out 0).trans rfl
    have g0 : wc.cell? ⟨a5, 1, none⟩ = some (.slice b0 a8.length b1) := (zab_ a4.out 1).trans rfl
    have g1 : wc.cell? ⟨a5, 2, none⟩ = some (.slice b2 a9.length b3) := (zab_ a4.out 2).trans rfl
    have g2 : wc.cell? ⟨a5, 3, none⟩ = some (.slice b4 a6.length b5) := (zab_ a4.out 3).trans rfl
    have g3 := zaa_ a4.out 0
    have g4 := zaa_ a4.out 1
    have g5 := zaa_ a4.out 2
    have g6 := zaa_ a4.out 3
    go_wp2_with (first | ((with_reducible refine zar_ (f := 50) rfl ?_); refine goesL_ (some 17) rfl rfl Tryd.func50 (by kernel_rfl) rfl #[.agg #[.int .i64 a7, .slice b0 a8.length b1, .slice b2 a9.length b3, .slice b4 a6.length b5]] rfl (by (try simp only [List.map_toArray, List.map_cons, List.map_nil]); first | done | rfl | (simp only [List.length_drop, List.length_take]; rfl)) ?_; (with_reducible refine (zaE_.calls d7 a7 _ _ a8 _ _ a9 _ _ a6 false _ ?side1 ?side2 ?side3 ?side4 ?side5 ?side6 A8.out).mono ?_); (case side1 => repeat (first | exact (Kd.zaB_ HR0_1.out HB.out) | (with_reducible refine Kd.zaI_ ?_ _) | (with_reducible refine Kd.zaJ_ ?_ _) | (with_reducible refine Kd.C_drew ?_))); (case side2 => exact HC0_1.out); (case side3 => repeat (first | exact (Kd.zaB_ HR0_2.out HB.out) | (with_reducible refine Kd.zaI_ ?_ _) | (with_reducible refine Kd.zaJ_ ?_ _) | (with_reducible refine Kd.C_drew ?_))); (case side4 => exact HC0_2.out); (case side5 => repeat (first | exact (Kd.zaB_ HR0_3.out HB.out) | (with_reducible refine Kd.zaI_ ?_ _) | (with_reducible refine Kd.zaJ_ ?_ _) | (with_reducible refine Kd.C_drew ?_))); (case side6 => exact HC0_3.out); rintro e t2 ⟨rfl, hb⟩; refine ⟨_, rfl, ?_⟩; have c2 := Aside0.mk (zan_ a4.out hb); have c3 := Aside0.mk (zaj_ (HB.out) hb); clear a4; clear HB; have a4 := c2; have HB := c3; clear c2 c3; (try clear hb); (try clear hb2); (try clear hk); (try clear hi)))
    go_ret2
    exact ⟨by first | rfl | (simp [zal_, zak_] <;> rfl) | (simp [*, zal_, zak_] <;> rfl), HB.out⟩
  subst c9
  rw [if_pos rfl] at H
  by_cases d9 : (a6.length : Int) > 6
  · rw [if_pos d9] at H
    have e1 : decide (6 < (a6.length : Int)) = true := decide_eq_true d9
    have e2 : decide (6 < a6.length) = true := decide_eq_true (by omega)
    clear d9
    simp only [Option.some.injEq, Prod.mk.injEq] at H
    obtain ⟨rfl, rfl⟩ := H
    have g7 : wc.cell? ⟨a5, 0, none⟩ = some (.int .i64 a7) := (zab_ a4.out 0).trans rfl
    have g8 : wc.cell? ⟨a5, 1, none⟩ = some (.slice b0 a8.length b1) := (zab_ a4.out 1).trans rfl
    have g9 : wc.cell? ⟨a5, 2, none⟩ = some (.slice b2 a9.length b3) := (zab_ a4.out 2).trans rfl
    have h0 : wc.cell? ⟨a5, 3, none⟩ = some (.slice b4 a6.length b5) := (zab_ a4.out 3).trans rfl
    have h1 := zaa_ a4.out 0
    have h2 := zaa_ a4.out 1
    have h3 := zaa_ a4.out 2
    have h4 := zaa_ a4.out 3
    go_wp2_with (first | ((with_reducible refine zar_ (f := 50) rfl ?_); refine goesL_ (some 17) rfl rfl Tryd.func50 (by kernel_rfl) rfl #[.agg #[.int .i64 a7, .slice b0 a8.length b1, .slice b2 a9.length b3, .slice b4 a6.length b5]] rfl (by (try simp only [List.map_toArray, List.map_cons, List.map_nil]); first | done | rfl | (simp only [List.length_drop, List.length_take]; rfl)) ?_; (with_reducible refine (zaE_.calls d7 a7 _ _ a8 _ _ a9 _ _ a6 true _ ?side1 ?side2 ?side3 ?side4 ?side5 ?side6 A8.out).mono ?_); (case side1 => repeat (first | exact (Kd.zaB_ HR0_1.out HB.out) | (with_reducible refine Kd.zaI_ ?_ _) | (with_reducible refine Kd.zaJ_ ?_ _) | (with_reducible refine Kd.C_drew ?_))); (case side2 => exact HC0_1.out); (case side3 => repeat (first | exact (Kd.zaB_ HR0_2.out HB.out) | (with_reducible refine Kd.zaI_ ?_ _) | (with_reducible refine Kd.zaJ_ ?_ _) | (with_reducible refine Kd.C_drew ?_))); (case side4 => exact HC0_2.out); (case side5 => repeat (first | exact (Kd.zaB_ HR0_3.out HB.out) | (with_reducible refine Kd.zaI_ ?_ _) | (with_reducible refine Kd.zaJ_ ?_ _) | (with_reducible refine Kd.C_drew ?_))); (case side6 => exact HC0_3.out); rintro e h5 ⟨rfl, hb⟩; refine ⟨_, rfl, ?_⟩; have c2 := Aside0.mk (zan_ a4.out hb); have c3 := Aside0.mk (zaj_ (HB.out) hb); clear a4; clear HB; have a4 := c2; have HB := c3; clear c2 c3; (try clear hb); (try clear hb2); (try clear hk); (try clear hi); have h6 : h5.cell? ⟨a5, 0, none⟩ = some (.int .i64 a7) := (zab_ a4.out 0).trans rfl; have h7 : h5.cell? ⟨a5, 1, none⟩ = some (.slice b0 a8.length b1) := (zab_ a4.out 1).trans rfl; have h8 : h5.cell? ⟨a5, 2, none⟩ = some (.slice b2 a9.length b3) := (zab_ a4.out 2).trans rfl; have h9 : h5.cell? ⟨a5, 3, none⟩ = some (.slice b4 a6.length b5) := (zab_ a4.out 3).trans rfl; have j1 := zaa_ a4.out 0; have j2 := zaa_ a4.out 1; have j3 := zaa_ a4.out 2; have j4 := zaa_ a4.out 3))
    go_ret2
    exact ⟨by first | rfl | (simp [zal_, zak_] <;> rfl) | (simp [*, zal_, zak_] <;> rfl), HB.out⟩
  rw [if_neg d9] at H
  have e1 : decide (6 < (a6.length : Int)) = false := decide_eq_false d9
  have e2 : decide (6 < a6.length) = false := decide_eq_false (by omega)
  clear d9
  by_cases d6 : (a6.length : Int) = 0
  · rw [if_pos d6] at H
    have e3 : ((a6.length : Int) == 0) = true := beq_iff_eq.mpr d6
    have e4 : ((a6.length : Int) != 0) = false := bne_eq_false_iff_eq.mpr d6
    clear d6
    simp only [Option.some.injEq, Prod.mk.injEq] at H
    obtain ⟨rfl, rfl⟩ := H
    have j5 : wc.cell? ⟨a5, 0, none⟩ = some (.int .i64 a7) := (zab_ a4.out 0).trans rfl
    have j6 : wc.cell? ⟨a5, 1, none⟩ = some (.slice b0 a8.length b1) := (zab_ a4.out 1).trans rfl
    have j7 : wc.cell? ⟨a5, 2, none⟩ = some (.slice b2 a9.length b3) := (zab_ a4.out 2).trans rfl
    have j8 : wc.cell? ⟨a5, 3, none⟩ = some (.slice b4 a6.length b5) := (zab_ a4.out 3).trans rfl
    have j9 := zaa_ a4.out 0
    have k0 := zaa_ a4.out 1
    have k1 := zaa_ a4.out 2
    have k3 := zaa_ a4.out 3
    go_wp2_with (first | ((with_reducible refine zar_ (f := 50) rfl ?_); refine goesL_ (some 17) rfl rfl Tryd.func50 (by kernel_rfl) rfl #[.agg #[.int .i64 a7, .slice b0 a8.length b1, .slice b2 a9.length b3, .slice b4 a6.length b5]] rfl (by (try simp only [List.map_toArray, List.map_cons, List.map_nil]); first | done | rfl | (simp only [List.length_drop, List.length_take]; rfl)) ?_; (with_reducible refine (zaE_.calls d7 a7 _ _ a8 _ _ a9 _ _ a6 true _ ?side1 ?side2 ?side3 ?side4 ?side5 ?side6 A8.out).mono ?_); (case side1 => repeat (first | exact (Kd.zaB_ HR0_1.out HB.out) | (with_reducible refine Kd.zaI_ ?_ _) | (with_reducible refine Kd.zaJ_ ?_ _) | (with_reducible refine Kd.C_drew ?_))); (case side2 => exact HC0_1.out); (case side3 => repeat (first | exact (Kd.zaB_ HR0_2.out HB.out) | (with_reducible refine Kd.zaI_ ?_ _) | (with_reducible refine Kd.zaJ_ ?_ _) | (with_reducible refine Kd.C_drew ?_))); (case side4 => exact HC0_2.out); (case side5 => repeat (first | exact (Kd.zaB_ HR0_3.out HB.out) | (with_reducible refine Kd.zaI_ ?_ _) | (with_reducible refine Kd.zaJ_ ?_ _) | (with_reducible refine Kd.C_drew ?_))); (case side6 => exact HC0_3.out); rintro e k4 ⟨rfl, hb⟩; refine ⟨_, rfl, ?_⟩; have c2 := Aside0.mk (zan_ a4.out hb); have c3 := Aside0.mk (zaj_ (HB.out) hb); clear a4; clear HB; have a4 := c2; have HB := c3; clear c2 c3; (try clear hb); (try clear hb2); (try clear hk); (try clear hi); have k5 : k4.cell? ⟨a5, 0, none⟩ = some (.int .i64 a7) := (zab_ a4.out 0).trans rfl; have k6 : k4.cell? ⟨a5, 1, none⟩ = some (.slice b0 a8.length b1) := (zab_ a4.out 1).trans rfl; have k7 : k4.cell? ⟨a5, 2, none⟩ = some (.slice b2 a9.length b3) := (zab_ a4.out 2).trans rfl; have k8 : k4.cell? ⟨a5, 3, none⟩ = some (.slice b4 a6.length b5) := (zab_ a4.out 3).trans rfl; have k9 := zaa_ a4.out 0; have l1 := zaa_ a4.out 1; have l2 := zaa_ a4.out 2; have l3 := zaa_ a4.out 3))
    go_ret2
    exact ⟨by first | rfl | (simp [zal_, zak_] <;> rfl) | (simp [*, zal_, zak_] <;> rfl), HB.out⟩
  rw [if_neg d6] at H
  have e3 : ((a6.length : Int) == 0) = false := beq_eq_false_iff_ne.mpr d6
  have e4 : ((a6.length : Int) != 0) = true := bne_iff_ne.mpr d6
  have r9 : ¬ (a6 = []) := fun h_ => d6 (by rw [h_]; rfl)
  have H' := Aside0.mk H
  clear H
  have l4 : wc.cell? ⟨a5, 0, none⟩ = some (.int .i64 a7) := (zab_ a4.out 0).trans rfl
  have l5 : wc.cell? ⟨a5, 1, none⟩ = some (.slice b0 a8.length b1) := (zab_ a4.out 1).trans rfl
  have l6 : wc.cell? ⟨a5, 2, none⟩ = some (.slice b2 a9.length b3) := (zab_ a4.out 2).trans rfl
  have l7 : wc.cell? ⟨a5, 3, none⟩ = some (.slice b4 a6.length b5) := (zab_ a4.out 3).trans rfl
  have l8 := zaa_ a4.out 0
  have l9 := zaa_ a4.out 1
  have m0 := zaa_ a4.out 2
  have m1 := zaa_ a4.out 3
  go_wp2_with (first | ((with_reducible refine zar_ (f := 50) rfl ?_); refine goesL_ (some 17) rfl rfl Tryd.func50 (by kernel_rfl) rfl #[.agg #[.int .i64 a7, .slice b0 a8.length b1, .slice b2 a9.length b3, .slice b4 a6.length b5]] rfl (by (try simp only [List.map_toArray, List.map_cons, List.map_nil]); first | done | rfl | (simp only [List.length_drop, List.length_take]; rfl)) ?_; (with_reducible refine (zaE_.calls d7 a7 _ _ a8 _ _ a9 _ _ a6 true _ ?side1 ?side2 ?side3 ?side4 ?side5 ?side6 A8.out).mono ?_); (case side1 => repeat (first | exact (Kd.zaB_ HR0_1.out HB.out) | (with_reducible refine Kd.zaI_ ?_ _) | (with_reducible refine Kd.zaJ_ ?_ _) | (with_reducible refine Kd.C_drew ?_))); (case side2 => exact HC0_1.out); (case side3 => repeat (first | exact (Kd.zaB_ HR0_2.out HB.out) | (with_reducible refine Kd.zaI_ ?_ _) | (with_reducible refine Kd.zaJ_ ?_ _) | (with_reducible refine Kd.C_drew ?_))); (case side4 => exact HC0_2.out); (case side5 => repeat (first | exact (Kd.zaB_ HR0_3.out HB.out) | (with_reducible refine Kd.zaI_ ?_ _) | (with_reducible refine Kd.zaJ_ ?_ _) | (with_reducible refine Kd.C_drew ?_))); (case side6 => exact HC0_3.out); rintro e m2 ⟨rfl, hb⟩; refine ⟨_, rfl, ?_⟩; have c2 := Aside0.mk (zan_ a4.out hb); have c3 := Aside0.mk (zaj_ (HB.out) hb); clear a4; clear HB; have a4 := c2; have HB := c3; clear c2 c3; (try clear hb); (try clear hb2); (try clear hk); (try clear hi); have m3 : m2.cell? ⟨a5, 0, none⟩ = some (.int .i64 a7) := (zab_ a4.out 0).trans rfl; have m4 : m2.cell? ⟨a5, 1, none⟩ = some (.slice b0 a8.length b1) := (zab_ a4.out 1).trans rfl; have m5 : m2.cell? ⟨a5, 2, none⟩ = some (.slice b2 a9.length b3) := (zab_ a4.out 2).trans rfl; have m6 : m2.cell? ⟨a5, 3, none⟩ = some (.slice b4 a6.length b5) := (zab_ a4.out 3).trans rfl; have m7 := zaa_ a4.out 0; have m8 := zaa_ a4.out 1; have m9 := zaa_ a4.out 2; have n0 := zaa_ a4.out 3))
  go_loopg [4] d7 (fun kq v4 w' => ∃ (c0 : Int), v4 = .int .i64 c0 ∧ Aside0 (zaY_.l0 kq c0 a7 a8 a9 a6 = some (r1, r2)) ∧ Aside0 (kq ≤ d7) ∧ Aside0 (w'.heap[a5]? = some (.cells #[.int .i64 a7, (.slice b0 a8.length b1), (.slice b2 a9.length b3), (.slice b4 a6.length b5)] 37 (0, 0))) ∧ Aside0 (Below w.heap.size w w'))
  case atStart => exact ⟨(0), (by first | rfl | (simp; done) | (simp [*]; done)), H', ⟨Nat.le_refl _⟩, ⟨a4.out⟩, ⟨HB.out⟩⟩
  clear H'
  obtain ⟨c0, rfl, HA, t0, a4, HB⟩ := hrel
  cases gk with
  | zero => exact absurd HA.out (by simp [zaY_.l0])
  | succ k2 => ?_
  have H := HA.out
  clear HA
  simp only [zaY_.l0] at H
  by_cases e0 : c0 < (a6.length : Int)
  rotate_left
  · rw [if_neg e0] at H
    have e5 : decide (c0 < (a6.length : Int)) = false := decide_eq_false e0
    clear e0
    simp only [Option.some.injEq, Prod.mk.injEq] at H
    obtain ⟨rfl, rfl⟩ := H
    have n1 : wr.cell? ⟨a5, 0, none⟩ = some (.int .i64 a7) := (zab_ a4.out 0).trans rfl
    have n2 : wr.cell? ⟨a5, 1, none⟩ = some (.slice b0 a8.length b1) := (zab_ a4.out 1).trans rfl
    have n3 : wr.cell? ⟨a5, 2, none⟩ = some (.slice b2 a9.length b3) := (zab_ a4.out 2).trans rfl
    have n4 : wr.cell? ⟨a5, 3, none⟩ = some (.slice b4 a6.length b5) := (zab_ a4.out 3).trans rfl
    have n5 := zaa_ a4.out 0
    have n6 := zaa_ a4.out 1
    have n7 := zaa_ a4.out 2
    have n8 := zaa_ a4.out 3
    go_wp2
    go_ret2
    exact ⟨by first | rfl | (simp [zal_, zak_] <;> rfl) | (simp [*, zal_, zak_] <;> rfl), HB.out⟩
  rw [if_pos e0] at H
  have e5 : decide (c0 < (a6.length : Int)) = true := decide_eq_true e0
  clear e0
  replace H := Option.bind_eq_some_iff.mp H
  obtain ⟨c1, e6, H⟩ := H
  replace H : (if c1 = 0 then (zaY_.l0 k2 (wrap64 (c0 + 1)) a7 a8 a9 a6) else (some (c0, c1))) = some (r1, r2) := H
  have t1 := Aside0.mk e6
  clear e6
  by_cases d8 : c1 = 0
  rotate_left
  · rw [if_neg d8] at H
    have e7 : (c1 == 0) = false := beq_eq_false_iff_ne.mpr d8
    have e8 : (c1 != 0) = true := bne_iff_ne.mpr d8
    simp only [Option.some.injEq, Prod.mk.injEq] at H
    obtain ⟨rfl, rfl⟩ := H
    have n9 : wr.cell? ⟨a5, 0, none⟩ = some (.int .i64 a7) := (zab_ a4.out 0).trans rfl
    have o0 : wr.cell? ⟨a5, 1, none⟩ = some (.slice b0 a8.length b1) := (zab_ a4.out 1).trans rfl
    have o1 : wr.cell? ⟨a5, 2, none⟩ = some (.slice b2 a9.length b3) := (zab_ a4.out 2).trans rfl
    have o2 : wr.cell? ⟨a5, 3, none⟩ = some (.slice b4 a6.length b5) := (zab_ a4.out 3).trans rfl
    have o3 := zaa_ a4.out 0
    have o4 := zaa_ a4.out 1
    have o5 := zaa_ a4.out 2
    have o6 := zaa_ a4.out 3
    go_wp2_with (first | ((with_reducible refine zar_ (f := 51) rfl ?_); refine goesL_ (some 38) rfl rfl Tryd.func51 (by kernel_rfl) rfl #[.agg #[.int .i64 a7, .slice b0 a8.length b1, .slice b2 a9.length b3, .slice b4 a6.length b5], .int .i64 c0] rfl (by (try simp only [List.map_toArray, List.map_cons, List.map_nil]); first | done | rfl | (simp only [List.length_drop, List.length_take]; rfl)) ?_; (with_reducible refine (zaA_.calls k2 a7 _ _ a8 _ _ a9 _ _ a6 c0 c1 _ ?side1 ?side2 ?side3 ?side4 ?side5 ?side6 t1.out).mono ?_); (case side1 => repeat (first | exact (Kd.zaB_ HR0_1.out HB.out) | (with_reducible refine Kd.zaI_ ?_ _) | (with_reducible refine Kd.zaJ_ ?_ _) | (with_reducible refine Kd.C_drew ?_))); (case side2 => exact HC0_1.out); (case side3 => repeat (first | exact (Kd.zaB_ HR0_2.out HB.out) | (with_reducible refine Kd.zaI_ ?_ _) | (with_reducible refine Kd.zaJ_ ?_ _) | (with_reducible refine Kd.C_drew ?_))); (case side4 => exact HC0_2.out); (case side5 => repeat (first | exact (Kd.zaB_ HR0_3.out HB.out) | (with_reducible refine Kd.zaI_ ?_ _) | (with_reducible refine Kd.zaJ_ ?_ _) | (with_reducible refine Kd.C_drew ?_))); (case side6 => exact HC0_3.out); rintro e t3 ⟨rfl, hb⟩; refine ⟨_, rfl, ?_⟩; have c2 := Aside0.mk (zan_ a4.out hb); have c3 := Aside0.mk (zaj_ (HB.out) hb); clear a4; clear HB; have a4 := c2; have HB := c3; clear c2 c3; (try clear hb); (try clear hb2); (try clear hk); (try clear hi)))
    go_ret2
    exact ⟨by first | rfl | (simp [zal_, zak_] <;> rfl) | (simp [*, zal_, zak_] <;> rfl), HB.out⟩
  rw [if_pos d8] at H
  have e7 : (c1 == 0) = true := beq_iff_eq.mpr d8
  have e8 : (c1 != 0) = false := bne_eq_false_iff_eq.mpr d8
  clear d8
  have H' := Aside0.mk H
  clear H
  have o7 : wr.cell? ⟨a5, 0, none⟩ = some (.int .i64 a7) := (zab_ a4.out 0).trans rfl
  have o8 : wr.cell? ⟨a5, 1, none⟩ = some (.slice b0 a8.length b1) := (zab_ a4.out 1).trans rfl
  have o9 : wr.cell? ⟨a5, 2, none⟩ = some (.slice b2 a9.length b3) := (zab_ a4.out 2).trans rfl
  have p0 : wr.cell? ⟨a5, 3, none⟩ = some (.slice b4 a6.length b5) := (zab_ a4.out 3).trans rfl
  have p1 := zaa_ a4.out 0
  have p2 := zaa_ a4.out 1
  have p3 := zaa_ a4.out 2
  have p4 := zaa_ a4.out 3
  go_wp2_with (first | ((with_reducible refine zar_ (f := 51) rfl ?_); refine goesL_ (some 38) rfl rfl Tryd.func51 (by kernel_rfl) rfl #[.agg #[.int .i64 a7, .slice b0 a8.length b1, .slice b2 a9.length b3, .slice b4 a6.length b5], .int .i64 c0] rfl (by (try simp only [List.map_toArray, List.map_cons, List.map_nil]); first | done | rfl | (simp only [List.length_drop, List.length_take]; rfl)) ?_; (with_reducible refine (zaA_.calls k2 a7 _ _ a8 _ _ a9 _ _ a6 c0 c1 _ ?side1 ?side2 ?side3 ?side4 ?side5 ?side6 t1.out).mono ?_); (case side1 => repeat (first | exact (Kd.zaB_ HR0_1.out HB.out) | (with_reducible refine Kd.zaI_ ?_ _) | (with_reducible refine Kd.zaJ_ ?_ _) | (with_reducible refine Kd.C_drew ?_))); (case side2 => exact HC0_1.out); (case side3 => repeat (first | exact (Kd.zaB_ HR0_2.out HB.out) | (with_reducible refine Kd.zaI_ ?_ _) | (with_reducible refine Kd.zaJ_ ?_ _) | (with_reducible refine Kd.C_drew ?_))); (case side4 => exact HC0_2.out); (case side5 => repeat (first | exact (Kd.zaB_ HR0_3.out HB.out) | (with_reducible refine Kd.zaI_ ?_ _) | (with_reducible refine Kd.zaJ_ ?_ _) | (with_reducible refine Kd.C_drew ?_))); (case side6 => exact HC0_3.out); rintro e t4 ⟨rfl, hb⟩; refine ⟨_, rfl, ?_⟩; have c2 := Aside0.mk (zan_ a4.out hb); have c3 := Aside0.mk (zaj_ (HB.out) hb); clear a4; clear HB; have a4 := c2; have HB := c3; clear c2 c3; (try clear hb); (try clear hb2); (try clear hk); (try clear hi)))
  go_roundg k2
  case measure => have := r7.out; have := t0.out; omega
  case rel => exact ⟨(wrap64 (c0 + 1)), (by first | rfl | (simp; done) | (simp [*]; done)), H', ⟨by have := r7.out; have := t0.out; omega⟩, ⟨a4.out⟩, ⟨HB.out⟩⟩
end Go.Proofs.YtgkjoodlcojkkaaDoor.QD
end
section
namespace Go.Proofs.YtgkjoodlcojkkaaDoor.QD
open Go.RowKit Go.Proofs.YtgkjoodlcojkkaaDoorW.PrintWords Go.Proofs.YtgkjoodlcojkkaaDoorW.PrintLast Go.Proofs.YtgkjoodlcojkkaaDoorW.PrintMore
attribute [local go_sem] zbd_ zbe_ zbm_ zbl_ zaW_ zaX_ zbc_ zbb_
set_option linter.unusedVariables false
set_option linter.unusedSimpArgs false
def sr_OK.f (k : Nat) (a8 : Int) (a5 : List Int) (a6 : List Int) (a7 : List (S53)) : Option (Bool) := (zaY_.f k a8 a5 a6 a7).bind fun b0 => (some (b0.2 == 0))
theorem sr_OK.mono : ∀ a0 a1 a2 a3 k, LeO (sr_OK.f k a0 a1 a2 a3) (sr_OK.f (k + 1) a0 a1 a2 a3) := by
  intro a0 a1 a2 a3 k
  unfold sr_OK.f
  repeat' first
      | (with_reducible exact zaY_.mono _ _ _ _ _)
      | (with_reducible exact LeO.refl _)
      | (with_reducible exact LeO.none _)
      | (with_reducible refine LeO.ite ?_ ?_)
      | (with_reducible refine LeO.bind ?_ (fun _ => ?_))
      | exact zaY_.mono _ _ _ _ _
      | exact LeO.none _
      | refine LeO.ite ?_ ?_
      | refine LeO.bind ?_ (fun _ => ?_)
set_option maxHeartbeats 8000000 in
set_option maxRecDepth 100000 in
theorem sr_OK.calls (k : Nat) (a8 : Int) (b1 : Option Addr) (b2 : Nat) (a5 : List Int) (b3 : Option Addr) (b4 : Nat) (a6 : List Int) (b5 : Option Addr) (b6 : Nat) (a7 : List (S53)) (r : Bool) (w : World) (b7 : Kd.C (Kd.int .i64) w b1 a5.length a5) (b8 : a5.length ≤ b2) (b9 : Kd.C (Kd.int .i64) w b3 a6.length a6) (c0 : a6.length ≤ b4) (c1 : Kd.C k53 w b5 a7.length a7) (c2 : a7.length ≤ b6) (h : sr_OK.f k a8 a5 a6 a7 = some r) :
    Calls Tryd.prog 23 #[.agg #[.int .i64 a8, .slice b1 a5.length b2, .slice b3 a6.length b4, .slice b5 a7.length b6]] w fun e w' => e = .returned (.bool r) ∧ Below w.heap.size w w' := by
  have hu37 := Tryd.underlying37
  have HR0_1 := Aside0.mk b7
  have HC0_1 := Aside0.mk b8
  clear b7 b8
  have HR0_2 := Aside0.mk b9
  have HC0_2 := Aside0.mk c0
  clear b9 c0
  have HR0_3 := Aside0.mk c1
  have HC0_3 := Aside0.mk c2
  clear c1 c2
  have HB := Aside0.mk (Below.refl w.heap.size w)
  have H : ((zaY_.f k a8 a5 a6 a7).bind fun b0 => (some (b0.2 == 0))) = some r := h
  clear h
  replace H := Option.bind_eq_some_iff.mp H
  obtain ⟨⟨c6, c3⟩, d6, H⟩ := H
  replace H : (some (c3 == 0)) = some r := H
  have A2 := Aside0.mk d6
  clear d6
  obtain rfl := Option.some.inj H
  go_enter Tryd.func23, Tryd.ntmps23
  go_wp2_with (first | ((with_reducible refine zaL_ (N := 1) rfl ?_); refine zaD_ ?hg (N := 1) ?hd (cs := #[.int .i64 a8, .slice b1 a5.length b2, .slice b3 a6.length b4, .slice b5 a7.length b6]) (t := 37) ?hr ?_; (case hd => rfl); (case hg => rfl); (case hr => first | (go_simp; done) | (go_simp; rfl)); intro a9 hg w3 hbox hb; have c4 := Aside0.mk (zaj_ (HB.out) hb); have c5 := Aside0.mk (hbox); have c7 := Aside0.mk ((by rw [hg]; exact (zam_ (HB.out)) : w.heap.size ≤ a9)); have d7 := c7; clear HB; have HB := c4; have a4 := c5; have d8 := c7; have d9 := d7; clear c4 c5 c7 d7; clear hb hbox hg; have c8 : w3.cell? ⟨a9, 0, none⟩ = some (.int .i64 a8) := (zab_ a4.out 0).trans rfl; have c9 : w3.cell? ⟨a9, 1, none⟩ = some (.slice b1 a5.length b2) := (zab_ a4.out 1).trans rfl; have d0 : w3.cell? ⟨a9, 2, none⟩ = some (.slice b3 a6.length b4) := (zab_ a4.out 2).trans rfl; have d1 : w3.cell? ⟨a9, 3, none⟩ = some (.slice b5 a7.length b6) := (zab_ a4.out 3).trans rfl; have d2 := zaa_ a4.out 0; have d3 := zaa_ a4.out 1; have d4 := zaa_ a4.out 2; have d5 := zaa_ a4.out 3) | ((with_reducible refine zar_ (f := 32) rfl ?_); refine goesL_ (some 7) rfl rfl Tryd.func32 (by kernel_rfl) rfl #[.agg #[.int .i64 a8, .slice b1 a5.length b2, .slice b3 a6.length b4, .slice b5 a7.length b6]] rfl (by (try simp only [List.map_toArray, List.map_cons, List.map_nil]); first | done | rfl | (simp only [List.length_drop, List.length_take]; rfl)) ?_; (with_reducible refine (zaY_.calls k a8 _ _ a5 _ _ a6 _ _ a7 c6 c3 _ ?side1 ?side2 ?side3 ?side4 ?side5 ?side6 A2.out).mono ?_); (case side1 => repeat (first | exact (Kd.zaB_ HR0_1.out HB.out) | (with_reducible refine Kd.zaI_ ?_ _) | (with_reducible refine Kd.zaJ_ ?_ _) | (with_reducible refine Kd.C_drew ?_))); (case side2 => exact HC0_1.out); (case side3 => repeat (first | exact (Kd.zaB_ HR0_2.out HB.out) | (with_reducible refine Kd.zaI_ ?_ _) | (with_reducible refine Kd.zaJ_ ?_ _) | (with_reducible refine Kd.C_drew ?_))); (case side4 => exact HC0_2.out); (case side5 => repeat (first | exact (Kd.zaB_ HR0_3.out HB.out) | (with_reducible refine Kd.zaI_ ?_ _) | (with_reducible refine Kd.zaJ_ ?_ _) | (with_reducible refine Kd.C_drew ?_))); (case side6 => exact HC0_3.out); rintro e w5 ⟨rfl, hb⟩; refine ⟨_, rfl, ?_⟩; have c4 := Aside0.mk (zan_ a4.out hb); have c5 := Aside0.mk (zaj_ (HB.out) hb); clear a4; clear HB; have a4 := c4; have HB := c5; clear c4 c5; (try clear hb); (try clear hb2); (try clear hk); (try clear hi)))
  go_ret
  exact ⟨by first | rfl | (simp [zal_, zak_] <;> rfl) | (simp [*, zal_, zak_] <;> rfl), HB.out⟩
end Go.Proofs.YtgkjoodlcojkkaaDoor.QD
end
section
namespace Go.Proofs.YtgkjoodlcojkkaaDoor.Y
open Go.RowKit Go.Proofs.YtgkjoodlcojkkaaDoorW.PrintWords Go.Proofs.YtgkjoodlcojkkaaDoorW.PrintLast Go.Proofs.YtgkjoodlcojkkaaDoorW.PrintMore Go.Proofs.YtgkjoodlcojkkaaDoor.QD
set_option linter.unusedVariables false
set_option linter.unusedSimpArgs false
theorem refPart_eq (p : Int) (cs hs : List Int) (ts : List S53) (q : S50) : sr_part.f p cs hs ts q.f0 q.f1 q.f2 = some (partOkS hs.length q) := by
  unfold sr_part.f partOkS btw
  by_cases h1 : q.f0 < 1
  · rw [if_pos h1]; simp; omega
  rw [if_neg h1]
  by_cases h2 : q.f0 > 3
  · rw [if_pos h2]; simp; omega
  rw [if_neg h2]
  by_cases h3 : q.f1 < 1
  · rw [if_pos h3]; simp; omega
  rw [if_neg h3]
  by_cases h4 : q.f1 > 60
  · rw [if_pos h4]; simp; omega
  rw [if_neg h4, decide_eq_true (show (1 : Int) ≤ q.f0 by omega), decide_eq_true (show q.f0 ≤ (3 : Int) by omega), decide_eq_true (show (1 : Int) ≤ q.f1 by omega), decide_eq_true (show q.f1 ≤ (60 : Int) by omega)]
  by_cases h5 : q.f0 = 3
  · rw [if_pos h5, if_pos h5]
    by_cases h6 : q.f2 ≥ 0
    · rw [if_pos h6]
      by_cases h7 : q.f2 < (hs.length : Int)
      · rw [if_pos h7]; simp; omega
      · rw [if_neg h7]; simp; omega
    · rw [if_neg h6]; simp; omega
  · rw [if_neg h5, if_neg h5]
    by_cases h6 : q.f2 = 0 <;> simp [h6]
theorem refParts_loop (p : Int) (cs hs : List Int) (ts : List S53) (t : S53) (hl : t.f5.length < 1000000) : ∀ (d i k : Nat), i + d = t.f5.length → d < k →
    zaA_.l1 k (i : Int) p cs hs ts t.f0 t.f1 t.f2 t.f3 t.f4 t.f5 = some (if (t.f5.drop i).all (partOkS hs.length) = true then 0 else 15)
  | _, _, 0, _, hk => by omega
  | 0, i, k + 1, h, _ => by
    unfold zaA_.l1
    rw [if_neg (by omega), List.drop_eq_nil_of_le (by omega), List.all_nil, if_pos rfl]
  | d + 1, i, k + 1, h, hk => by
    have hi : i < t.f5.length := by omega
    unfold zaA_.l1
    rw [if_pos (by omega), if_pos (by omega), rd50 t.f5 i hi, refPart_eq, Option.bind_some, w64s i (by omega), refParts_loop p cs hs ts t hl d (i + 1) k (by omega) (by omega), List.drop_eq_getElem_cons hi, List.all_cons]
    cases partOkS hs.length t.f5[i] <;> simp
theorem refTask_loop (p : Int) (cs hs : List Int) (ts : List S53) (t : S53) (x : Nat) (hx : x ≤ ts.length) (ht : ts.length < 1000000) (hl : t.f5.length < 1000000) : ∀ (d i k : Nat), i + d = x → d + t.f5.length + 5 < k →
    zaA_.l0 k (x : Int) (i : Int) p cs hs ts t.f0 t.f1 t.f2 t.f3 t.f4 t.f5 = some (if (((ts.take x).drop i).any fun o => twb o.f0 o.f3 t.f0 t.f3) = true then 17 else if partedS hs.length t.f5 = true then 0 else 15)
  | _, _, 0, _, hk => by omega
  | 0, i, k + 1, h, hk => by
    unfold zaA_.l0
    rw [if_neg (by omega), List.drop_eq_nil_of_le (by rw [List.length_take]; omega), List.any_nil, if_neg (show ¬ (false = true) by decide)]
    obtain ⟨k, rfl⟩ : ∃ k', k = k' + 1 := ⟨k - 1, by omega⟩
    have hlp := refParts_loop p cs hs ts t hl t.f5.length 0 k (by omega) (by omega)
    rw [List.drop_zero] at hlp
    unfold partedS
    by_cases h1 : (t.f5.length : Int) < 1
    · rw [if_pos h1, zaA_.j3, if_pos rfl, if_neg]
      unfold btw; simp; omega
    · rw [if_neg h1, zaA_.j3]
      by_cases h2 : (t.f5.length : Int) > 6
      · rw [if_pos (decide_eq_true h2), if_neg]
        unfold btw; simp; omega
      · rw [if_neg (by rw [decide_eq_true_eq]; exact h2)]
        have hb : btw (t.f5.length : Int) 1 6 = true := by unfold btw; simp; omega
        rw [hb, Bool.and_true]
        exact hlp
  | d + 1, i, k + 1, h, hk => by
    have hi : i < ts.length := by omega
    have hd : (ts.take x).drop i = ts[i] :: (ts.take x).drop (i + 1) := by
      rw [List.drop_eq_getElem_cons (by rw [List.length_take]; omega), List.getElem_take]
    unfold zaA_.l0
    rw [if_pos (by omega), if_pos (by omega), if_pos (by omega), rd53 ts i hi, w64s i (by omega), refTask_loop p cs hs ts t x hx ht hl d (i + 1) k (by omega) (by omega), hd, List.any_cons]
    unfold twb
    by_cases h1 : ts[i].f0.toList = t.f0.toList
    · rw [if_pos h1, h1]; simp
    · rw [if_neg h1]
      have h1' : (ts[i].f0.toList == t.f0.toList) = false := beq_eq_false_iff_ne.mpr h1
      by_cases h2 : ts[i].f3 = t.f3
      · rw [if_pos h2, h2]; simp
      · rw [if_neg h2]
        have h2' : (ts[i].f3 == t.f3) = false := beq_eq_false_iff_ne.mpr h2
        rw [h1', h2', Bool.or_false, Bool.false_or]
theorem refTask_eq (p : Int) (cs hs : List Int) (ts : List S53) (i : Nat) (hi : i < ts.length) (ht : ts.length < 1000000) (hl : ts[i].f5.length < 1000000) (hz : ts[i].f0.size < 1000000) (hc : cs.length < 1000000) (k : Nat) (hk : ts.length + ts[i].f5.length + ts[i].f0.size + 10 < k) :
    zaA_.f k p cs hs ts (i : Int) = some (oneS cs hs ts ts[i] i) := by
  have hnm : zbh_.f k ts[i].f0 = some (nameS ts[i].f0.data.toList) := by
    have := refName_eq ts[i].f0.data.toList (by rw [len_data]; omega) k (by rw [len_data]; omega)
    rwa [B_data] at this
  unfold zaA_.f
  rw [if_pos (by omega), if_pos (by omega), rd53 ts i hi, hnm, Option.bind_some]
  generalize hT : ts[i] = t at *
  obtain ⟨k, rfl⟩ : ∃ k', k = k' + 1 := ⟨k - 1, by omega⟩
  obtain ⟨k, rfl⟩ : ∃ k', k = k' + 1 := ⟨k - 1, by omega⟩
  have htl := refTask_loop p cs hs ts t i (by omega) ht hl i 0 k (by omega) (by omega)
  rw [List.drop_zero] at htl
  have hj1 : ∀ b, zaA_.j1 (k + 1) (i : Int) b p cs hs ts t.f0 t.f1 t.f2 t.f3 t.f4 t.f5 = if b = true then some 16 else zaA_.l0 k (i : Int) 0 p cs hs ts t.f0 t.f1 t.f2 t.f3 t.f4 t.f5 := fun b => by rw [zaA_.j1]
  have hj0 : ∀ b, zaA_.j0 (k + 1 + 1) (i : Int) b p cs hs ts t.f0 t.f1 t.f2 t.f3 t.f4 t.f5 = if b = true then some 10 else some (if btw t.f4 0 ((cs.length : Int) - 1) = false then 16 else if ((ts.take i).any fun o => twb o.f0 o.f3 t.f0 t.f3) = true then 17 else if partedS hs.length t.f5 = true then 0 else 15) := fun b => by
    rw [zaA_.j0]
    by_cases hb : b = true
    · rw [if_pos hb, if_pos hb]
    rw [if_neg hb, if_neg hb, hj1, hj1]
    by_cases h1 : t.f4 < 0
    · rw [if_pos h1, if_pos rfl, if_pos]
      unfold btw; simp; omega
    rw [if_neg h1]
    by_cases h2 : t.f4 ≥ (cs.length : Int)
    · rw [if_pos (decide_eq_true h2), if_pos]
      unfold btw; simp; omega
    rw [if_neg (by rw [decide_eq_true_eq]; exact h2), if_neg]
    · exact htl
    · unfold btw; simp; omega
  rw [hj0, hj0]
  unfold oneS badForm
  by_cases c1 : nameS t.f0.data.toList = true
  · rw [if_pos c1, c1]
    by_cases c2 : t.f1 < 1
    · rw [if_pos c2, if_pos rfl, if_pos (by unfold btw; simp; omega)]
    rw [if_neg c2]
    by_cases c3 : t.f1 > 3000
    · rw [if_pos c3, if_pos rfl, if_pos (by unfold btw; simp; omega)]
    rw [if_neg c3]
    by_cases c4 : t.f2 < 1
    · rw [if_pos c4, if_pos rfl, if_pos (by unfold btw; simp; omega)]
    rw [if_neg c4]
    by_cases c5 : t.f2 > t.f1
    · rw [if_pos c5, if_pos rfl, if_pos (by unfold btw; simp; omega)]
    rw [if_neg c5]
    by_cases c6 : t.f3 < 1
    · rw [if_pos c6, if_pos rfl, if_pos (by unfold btw; simp; omega)]
    rw [if_neg c6]
    by_cases c7 : t.f3 > 1000
    · rw [if_pos (decide_eq_true c7), if_pos (by unfold btw; simp; omega)]
    have hbf : (!true || !btw t.f1 1 3000 || !btw t.f2 1 t.f1 || !btw t.f3 1 1000) = false := by unfold btw; simp; omega
    rw [if_neg (by rw [decide_eq_true_eq]; exact c7), hbf, if_neg (show ¬ (false = true) by decide)]
  · rw [if_neg c1, if_pos rfl, if_pos (by simp [c1])]
theorem refHomes_loop (p : Int) (cs hs : List Int) (ts : List S53) (hl : hs.length < 1000000) : ∀ (d i k : Nat), i + d = hs.length → d < k →
    zaE_.l1 k (i : Int) p cs hs ts = some (!((hs.drop i).any fun n => !btw n 0 ((cs.length : Int) - 1)))
  | _, _, 0, _, hk => by omega
  | 0, i, k + 1, h, _ => by
    unfold zaE_.l1
    rw [if_neg (by omega), List.drop_eq_nil_of_le (by omega)]
    rfl
  | d + 1, i, k + 1, h, hk => by
    have hi : i < hs.length := by omega
    have hr : rd hs (i : Int) = hs[i] := by unfold rd; simp [hi]
    unfold zaE_.l1
    rw [if_pos (by omega), if_pos (by omega), hr, w64s i (by omega), refHomes_loop p cs hs ts hl d (i + 1) k (by omega) (by omega), List.drop_eq_getElem_cons hi, List.any_cons]
    by_cases h1 : hs[i] < 0
    · rw [if_pos h1]; unfold btw; simp; omega
    rw [if_neg h1]
    by_cases h2 : hs[i] ≥ (cs.length : Int)
    · rw [if_pos h2]; unfold btw; simp; omega
    rw [if_neg h2]
    have : btw hs[i] 0 ((cs.length : Int) - 1) = true := by unfold btw; simp; omega
    rw [this]; simp
theorem refCores_loop (p : Int) (cs hs : List Int) (ts : List S53) (hl : hs.length < 1000000) (hc : cs.length < 1000000) : ∀ (d i k : Nat), i + d = cs.length → d + hs.length + 1 < k →
    zaE_.l0 k (i : Int) p cs hs ts = some (!((cs.drop i).any fun n => !btw n 1 3) && !(hs.any fun n => !btw n 0 ((cs.length : Int) - 1)))
  | _, _, 0, _, hk => by omega
  | 0, i, k + 1, h, _ => by
    have := refHomes_loop p cs hs ts hl hs.length 0 k (by omega) (by omega)
    unfold zaE_.l0
    rw [if_neg (by omega), List.drop_eq_nil_of_le (by omega)]
    exact this
  | d + 1, i, k + 1, h, hk => by
    have hi : i < cs.length := by omega
    have hr : rd cs (i : Int) = cs[i] := by unfold rd; simp [hi]
    unfold zaE_.l0
    rw [if_pos (by omega), if_pos (by omega), hr, w64s i (by omega), refCores_loop p cs hs ts hl hc d (i + 1) k (by omega) (by omega), List.drop_eq_getElem_cons hi, List.any_cons]
    by_cases h1 : cs[i] < 1
    · rw [if_pos h1]
      have : btw cs[i] 1 3 = false := by unfold btw; simp; omega
      rw [this]; simp
    rw [if_neg h1]
    by_cases h2 : cs[i] > 3
    · rw [if_pos h2]
      have : btw cs[i] 1 3 = false := by unfold btw; simp; omega
      rw [this]; simp
    rw [if_neg h2]
    have : btw cs[i] 1 3 = true := by unfold btw; simp; omega
    rw [this]; simp
theorem refPlaces_eq (p : Int) (cs hs : List Int) (ts : List S53) (hl : hs.length < 1000000) (hc : cs.length < 1000000) (k : Nat) (hk : cs.length + hs.length + 5 < k) : zaE_.f k p cs hs ts = some (plB cs hs) := by
  unfold zaE_.f plB
  obtain ⟨k, rfl⟩ : ∃ k', k = k' + 1 := ⟨k - 1, by omega⟩
  have hlp := refCores_loop p cs hs ts hl hc cs.length 0 k (by omega) (by omega)
  rw [List.drop_zero] at hlp
  have hj0 : ∀ b, zaE_.j0 (k + 1) b p cs hs ts = if b = true then some false else zaE_.l0 k 0 p cs hs ts := fun b => by rw [zaE_.j0]
  rw [hj0, hj0]
  by_cases h1 : (cs.length : Int) < 1
  · have : btw (cs.length : Int) 1 3 = false := by unfold btw; simp; omega
    rw [if_pos h1, if_pos rfl, this]; rfl
  rw [if_neg h1]
  by_cases h2 : (cs.length : Int) > 3
  · have : btw (cs.length : Int) 1 3 = false := by unfold btw; simp; omega
    rw [if_pos h2, if_pos rfl, this]; rfl
  have hb : btw (cs.length : Int) 1 3 = true := by unfold btw; simp; omega
  rw [if_neg h2, hb]
  by_cases h3 : (hs.length : Int) > 4
  · rw [if_pos (decide_eq_true h3), decide_eq_false (show ¬ hs.length ≤ 4 by omega)]; rfl
  · rw [if_neg (by rw [decide_eq_true_eq]; exact h3), decide_eq_true (show hs.length ≤ 4 by omega), Bool.true_and, Bool.true_and]
    exact hlp
theorem refCheck_loop (p : Int) (cs hs : List Int) (ts : List S53) (hl : hs.length < 1000000) (hc : cs.length < 1000000) (ht : ts.length < 1000000) (m : Nat) (hb : ∀ t ∈ ts, t.f0.size < 1000000 ∧ t.f5.length < 1000000 ∧ ts.length + t.f5.length + t.f0.size + 10 < m) : ∀ (d i k : Nat), i + d = ts.length → d + m < k →
    zaY_.l0 k (i : Int) p cs hs ts = some (checkGo cs hs ts i (ts.drop i))
  | _, _, 0, _, hk => by omega
  | 0, i, k + 1, h, _ => by
    unfold zaY_.l0
    rw [if_neg (by omega), List.drop_eq_nil_of_le (by omega)]
    rfl
  | d + 1, i, k + 1, h, hk => by
    have hi : i < ts.length := by omega
    obtain ⟨hb1, hb2, hb3⟩ := hb _ (List.getElem_mem hi)
    unfold zaY_.l0
    rw [if_pos (by omega), refTask_eq p cs hs ts i hi ht hb2 hb1 hc k (by omega), Option.bind_some, w64s i (by omega), refCheck_loop p cs hs ts hl hc ht m hb d (i + 1) k (by omega) (by omega), List.drop_eq_getElem_cons hi]
    conv => rhs; unfold checkGo
    by_cases h1 : oneS cs hs ts ts[i] i = 0
    · rw [if_pos h1, if_pos h1]
    · rw [if_neg h1, if_neg h1]
theorem refCheck_eq (p : Int) (cs hs : List Int) (ts : List S53) (hl : hs.length < 1000) (hc : cs.length < 1000) (ht : ts.length < 1000) (hb : ∀ t ∈ ts, t.f0.size < 1000 ∧ t.f5.length < 1000) (k : Nat) (hk : 10000 < k) :
    zaY_.f k p cs hs ts = some (checkS p cs hs ts) := by
  unfold zaY_.f checkS
  obtain ⟨k, rfl⟩ : ∃ k', k = k' + 1 := ⟨k - 1, by omega⟩
  have hlp := refCheck_loop p cs hs ts (by omega) (by omega) (by omega) 5000 (fun t ht => by have := hb t ht; omega) ts.length 0 k (by omega) (by omega)
  rw [List.drop_zero] at hlp
  have hj0 : ∀ b, zaY_.j0 (k + 1) b p cs hs ts = if b = true then some (-1, 10) else ((zaE_.f k p cs hs ts).bind fun t324 => (if t324 = true then (if (ts.length : Int) > 6 then (some ((-1), 11)) else (if (ts.length : Int) = 0 then (some ((-1), 14)) else (zaY_.l0 k 0 p cs hs ts))) else (some ((-1), 16)))) := fun b => by rw [zaY_.j0]
  rw [hj0, hj0, refPlaces_eq p cs hs ts (by omega) (by omega) k (by omega), Option.bind_some]
  by_cases h1 : p < 1
  · have : btw p 1 3 = false := by unfold btw; simp; omega
    rw [if_pos h1, if_pos rfl, if_neg (by rw [this]; decide)]
  rw [if_neg h1]
  by_cases h2 : p > 3
  · have : btw p 1 3 = false := by unfold btw; simp; omega
    rw [if_pos (decide_eq_true h2), if_neg (by rw [this]; decide)]
  have hbt : btw p 1 3 = true := by unfold btw; simp; omega
  rw [if_neg (by rw [decide_eq_true_eq]; exact h2), if_pos hbt]
  by_cases h3 : plB cs hs = true
  · rw [if_pos h3, if_pos h3]
    by_cases h4 : ts.length > 6
    · rw [if_pos (show (ts.length : Int) > 6 by omega), if_pos h4]
    · rw [if_neg (show ¬ (ts.length : Int) > 6 by omega), if_neg h4]
      by_cases h5 : ts.length = 0
      · rw [if_pos (show (ts.length : Int) = 0 by omega), if_pos h5]
      · rw [if_neg (show ¬ (ts.length : Int) = 0 by omega), if_neg h5]
        exact hlp
  · rw [if_neg h3, if_neg h3]
theorem refOK_eq (p : Int) (cs hs : List Int) (ts : List S53) (hl : hs.length < 1000) (hc : cs.length < 1000) (ht : ts.length < 1000) (hb : ∀ t ∈ ts, t.f0.size < 1000 ∧ t.f5.length < 1000) (k : Nat) (hk : 10000 < k) :
    sr_OK.f k p cs hs ts = some ((checkS p cs hs ts).2 == 0) := by
  unfold sr_OK.f
  rw [refCheck_eq p cs hs ts hl hc ht hb k hk, Option.bind_some]
end Go.Proofs.YtgkjoodlcojkkaaDoor.Y
end
section
namespace Go.Proofs.YtgkjoodlcojkkaaDoor.QD
open Go.RowKit Go.Proofs.YtgkjoodlcojkkaaDoorW.PrintWords Go.Proofs.YtgkjoodlcojkkaaDoorW.PrintLast Go.Proofs.YtgkjoodlcojkkaaDoorW.PrintMore
attribute [local go_sem] zbd_ zbe_ zbm_ zbl_ zaW_ zaX_ zbc_ zbb_
set_option linter.unusedVariables false
set_option linter.unusedSimpArgs false
mutual
def sl_few.j0 : Nat → Bool → Int → List Int → List Int → List (S53) → Option (Bool)
  | 0, _, _, _, _, _ => none
  | k + 1, x19, c0, c1, c2, b1 => if x19 = true then (some false) else (sl_few.l0 k 0 c0 c1 c2 b1)
def sl_few.l0 : Nat → Int → Int → List Int → List Int → List (S53) → Option (Bool)
  | 0, _, _, _, _, _ => none
  | k + 1, x3, c0, c1, c2, b1 => if x3 < (b1.length : Int) then (if 0 ≤ x3 then (if (((rd_T53 b1 x3).f0).size : Int) > 20 then (some false) else (if (((rd_T53 b1 x3).f5).length : Int) > 10 then (some false) else (sl_few.l0 k (wrap64 (x3 + 1)) c0 c1 c2 b1))) else (none)) else (some true)
end
def sl_few.f (k : Nat) (b0 : Int) (a8 : List Int) (a9 : List Int) (a6 : List (S53)) : Option (Bool) := if (a8.length : Int) > 8 then (sl_few.j0 k true b0 a8 a9 a6) else (if (a9.length : Int) > 10 then (sl_few.j0 k true b0 a8 a9 a6) else (sl_few.j0 k (decide ((a6.length : Int) > 9)) b0 a8 a9 a6))
theorem sl_few.mono_l : ∀ k, (∀ y0 y1 y2 y3 y4, LeO (sl_few.j0 k y0 y1 y2 y3 y4) (sl_few.j0 (k + 1) y0 y1 y2 y3 y4)) ∧ (∀ y0 y1 y2 y3 y4, LeO (sl_few.l0 k y0 y1 y2 y3 y4) (sl_few.l0 (k + 1) y0 y1 y2 y3 y4))
  | 0 => ⟨fun _ _ _ _ _ r h => by simp [sl_few.j0] at h, fun _ _ _ _ _ r h => by simp [sl_few.l0] at h⟩
  | k + 1 => by
    obtain ⟨ih0, ih1⟩ := sl_few.mono_l k
    refine ⟨?_, ?_⟩
    · intro y0 y1 y2 y3 y4
      unfold sl_few.j0
      repeat' first
      | (with_reducible exact ih0 _ _ _ _ _)
      | (with_reducible exact ih1 _ _ _ _ _)
      | (with_reducible exact LeO.refl _)
      | (with_reducible exact LeO.none _)
      | (with_reducible refine LeO.ite ?_ ?_)
      | (with_reducible refine LeO.bind ?_ (fun _ => ?_))
      | exact ih0 _ _ _ _ _
      | exact ih1 _ _ _ _ _
      | exact LeO.none _
      | refine LeO.ite ?_ ?_
      | refine LeO.bind ?_ (fun _ => ?_)
    · intro y0 y1 y2 y3 y4
      unfold sl_few.l0
      repeat' first
      | (with_reducible exact ih0 _ _ _ _ _)
      | (with_reducible exact ih1 _ _ _ _ _)
      | (with_reducible exact LeO.refl _)
      | (with_reducible exact LeO.none _)
      | (with_reducible refine LeO.ite ?_ ?_)
      | (with_reducible refine LeO.bind ?_ (fun _ => ?_))
      | exact ih0 _ _ _ _ _
      | exact ih1 _ _ _ _ _
      | exact LeO.none _
      | refine LeO.ite ?_ ?_
      | refine LeO.bind ?_ (fun _ => ?_)
theorem sl_few.mono : ∀ a0 a1 a2 a3 k, LeO (sl_few.f k a0 a1 a2 a3) (sl_few.f (k + 1) a0 a1 a2 a3) := by
  intro a0 a1 a2 a3 k
  obtain ⟨ih0, ih1⟩ := sl_few.mono_l k
  unfold sl_few.f
  repeat' first
      | (with_reducible exact ih0 _ _ _ _ _)
      | (with_reducible exact ih1 _ _ _ _ _)
      | (with_reducible exact LeO.refl _)
      | (with_reducible exact LeO.none _)
      | (with_reducible refine LeO.ite ?_ ?_)
      | (with_reducible refine LeO.bind ?_ (fun _ => ?_))
      | exact ih0 _ _ _ _ _
      | exact ih1 _ _ _ _ _
      | exact LeO.none _
      | refine LeO.ite ?_ ?_
      | refine LeO.bind ?_ (fun _ => ?_)
set_option maxHeartbeats 8000000 in
set_option maxRecDepth 100000 in
theorem sl_few.calls (k : Nat) (b0 : Int) (b2 : Option Addr) (b3 : Nat) (a8 : List Int) (b4 : Option Addr) (b5 : Nat) (a9 : List Int) (b6 : Option Addr) (b7 : Nat) (a6 : List (S53)) (r : Bool) (w : World) (d1 : Kd.C (Kd.int .i64) w b2 a8.length a8) (d2 : a8.length ≤ b3) (d3 : Kd.C (Kd.int .i64) w b4 a9.length a9) (d4 : a9.length ≤ b5) (d5 : Kd.C k53 w b6 a6.length a6) (d6 : a6.length ≤ b7) (h : sl_few.f k b0 a8 a9 a6 = some r) :
    Calls Tryd.prog 22 #[.agg #[.int .i64 b0, .slice b2 a8.length b3, .slice b4 a9.length b5, .slice b6 a6.length b7]] w fun e w' => e = .returned (.bool r) ∧ Below w.heap.size w w' := by
  have hu37 := Tryd.underlying37
  have HR0_1 := Aside0.mk d1
  have HC0_1 := Aside0.mk d2
  clear d1 d2
  have HR0_2 := Aside0.mk d3
  have HC0_2 := Aside0.mk d4
  clear d3 d4
  have HR0_3 := Aside0.mk d5
  have HC0_3 := Aside0.mk d6
  clear d5 d6
  have HB := Aside0.mk (Below.refl w.heap.size w)
  have H : (if (a8.length : Int) > 8 then (sl_few.j0 k true b0 a8 a9 a6) else (if (a9.length : Int) > 10 then (sl_few.j0 k true b0 a8 a9 a6) else (sl_few.j0 k (decide ((a6.length : Int) > 9)) b0 a8 a9 a6))) = some r := h
  clear h
  have HC2 := Aside0.mk H
  clear H
  go_enter Tryd.func22, Tryd.ntmps22
  go_upto_region 1 with (first | ((with_reducible refine zaL_ (N := 1) rfl ?_); (try (refine zaF_ (by rfl) ?_; dsimp only)); refine zaD_ ?hg (N := 1) ?hd (cs := #[.int .i64 b0, .slice b2 a8.length b3, .slice b4 a9.length b5, .slice b6 a6.length b7]) (t := 37) ?hr ?_; (case hd => rfl); (case hg => rfl); (case hr => first | (go_simp; done) | (go_simp; rfl)); intro a5 hg w3 hbox hb; have m9 := Aside0.mk (zaj_ (HB.out) hb); have n0 := Aside0.mk (hbox); have n1 := Aside0.mk ((by rw [hg]; exact (zam_ (HB.out)) : w.heap.size ≤ a5)); have n2 := Aside0.mk ((by rw [hg]; exact (zam_ (HB.out)) : w.heap.size ≤ a5)); clear HB; have HB := m9; have a4 := n0; have n3 := n1; have n4 := n2; clear m9 n0 n1 n2; clear hb hbox hg))
  (try simp only [Act.put, List.setIfInBounds_toArray, List.set_cons_zero, List.set_cons_succ])
  go_cut [19] (fun n9 wc => ∃ (kq : Nat) (c7 : Bool), n9 = .bool c7 ∧ Aside0 (sl_few.j0 kq c7 b0 a8 a9 a6 = some r) ∧ Aside0 (kq ≤ k) ∧ Aside0 (wc.heap[a5]? = some (.cells #[.int .i64 b0, (.slice b2 a8.length b3), (.slice b4 a9.length b5), (.slice b6 a6.length b7)] 37 (0, 0))) ∧ Aside0 (Below w.heap.size w wc))
  case first =>
    have H := HC2.out
    clear HC2
    by_cases c4 : (a8.length : Int) > 8
    · rw [if_pos c4] at H
      have c8 : decide (8 < (a8.length : Int)) = true := decide_eq_true c4
      have k0 : decide (8 < a8.length) = true := decide_eq_true (by omega)
      clear c4
      (first | rw [c8] | (simp only [i64_w, i32_w]; rw [c8]) | skip)
      have H' := Aside0.mk H
      clear H
      have k1 : w3.cell? ⟨a5, 0, none⟩ = some (.int .i64 b0) := (zab_ a4.out 0).trans rfl
      have k3 : w3.cell? ⟨a5, 1, none⟩ = some (.slice b2 a8.length b3) := (zab_ a4.out 1).trans rfl
      have k4 : w3.cell? ⟨a5, 2, none⟩ = some (.slice b4 a9.length b5) := (zab_ a4.out 2).trans rfl
      have k5 : w3.cell? ⟨a5, 3, none⟩ = some (.slice b6 a6.length b7) := (zab_ a4.out 3).trans rfl
      have k6 := zaa_ a4.out 0
      have k7 := zaa_ a4.out 1
      have k8 := zaa_ a4.out 2
      have k9 := zaa_ a4.out 3
      go_wp2
      go_meet
      case rel => exact ⟨_, (true), (by first | rfl | (simp; done) | (simp [*]; done)), H', ⟨by first | omega | exact Nat.le_refl _⟩, ⟨a4.out⟩, ⟨HB.out⟩⟩
    rw [if_neg c4] at H
    have c8 : decide (8 < (a8.length : Int)) = false := decide_eq_false c4
    have k0 : decide (8 < a8.length) = false := decide_eq_false (by omega)
    clear c4
    (first | rw [c8] | (simp only [i64_w, i32_w]; rw [c8]) | skip)
    by_cases c6 : (a9.length : Int) > 10
    · rw [if_pos c6] at H
      have l1 : decide (10 < (a9.length : Int)) = true := decide_eq_true c6
      have l2 : decide (10 < a9.length) = true := decide_eq_true (by omega)
      clear c6
      have H' := Aside0.mk H
      clear H
      have l3 : w3.cell? ⟨a5, 0, none⟩ = some (.int .i64 b0) := (zab_ a4.out 0).trans rfl
      have l4 : w3.cell? ⟨a5, 1, none⟩ = some (.slice b2 a8.length b3) := (zab_ a4.out 1).trans rfl
      have l5 : w3.cell? ⟨a5, 2, none⟩ = some (.slice b4 a9.length b5) := (zab_ a4.out 2).trans rfl
      have l6 : w3.cell? ⟨a5, 3, none⟩ = some (.slice b6 a6.length b7) := (zab_ a4.out 3).trans rfl
      have l7 := zaa_ a4.out 0
      have l8 := zaa_ a4.out 1
      have l9 := zaa_ a4.out 2
      have m0 := zaa_ a4.out 3
      go_wp2
      go_meet
      case rel => exact ⟨_, (true), (by first | rfl | (simp; done) | (simp [*]; done)), H', ⟨by first | omega | exact Nat.le_refl _⟩, ⟨a4.out⟩, ⟨HB.out⟩⟩
    rw [if_neg c6] at H
    have l1 : decide (10 < (a9.length : Int)) = false := decide_eq_false c6
    have l2 : decide (10 < a9.length) = false := decide_eq_false (by omega)
    clear c6
    have H' := Aside0.mk H
    clear H
    have m1 : w3.cell? ⟨a5, 0, none⟩ = some (.int .i64 b0) := (zab_ a4.out 0).trans rfl
    have m2 : w3.cell? ⟨a5, 1, none⟩ = some (.slice b2 a8.length b3) := (zab_ a4.out 1).trans rfl
    have m3 : w3.cell? ⟨a5, 2, none⟩ = some (.slice b4 a9.length b5) := (zab_ a4.out 2).trans rfl
    have m4 : w3.cell? ⟨a5, 3, none⟩ = some (.slice b6 a6.length b7) := (zab_ a4.out 3).trans rfl
    have m5 := zaa_ a4.out 0
    have m6 := zaa_ a4.out 1
    have m7 := zaa_ a4.out 2
    have m8 := zaa_ a4.out 3
    go_wp2
    go_meet
    case rel => exact ⟨_, (decide ((a6.length : Int) > 9)), (by first | rfl | (simp; done) | (simp [*]; done)), H', ⟨by first | omega | exact Nat.le_refl _⟩, ⟨a4.out⟩, ⟨HB.out⟩⟩
  clear HC2
  obtain ⟨kq, c7, rfl, HA, n5, a4, HB⟩ := hcut
  cases kq with
  | zero => exact absurd HA.out (by simp [sl_few.j0])
  | succ n6 => ?_
  have H := HA.out
  clear HA
  simp only [sl_few.j0] at H
  by_cases c9 : c7 = true
  · subst c9
    rw [if_pos rfl] at H
    obtain rfl := Option.some.inj H
    go_wp2
    go_ret
    exact ⟨by first | rfl | (simp [zal_, zak_] <;> rfl) | (simp [*, zal_, zak_] <;> rfl), HB.out⟩
  replace c9 := Bool.eq_false_iff.mpr c9
  subst c9
  rw [if_neg (show ¬ (false = true) by decide)] at H
  have H' := Aside0.mk H
  clear H
  go_wp2
  go_loopg [3] n6 (fun kq v3 w' => ∃ (a7 : Int), v3 = .int .i64 a7 ∧ Aside0 (sl_few.l0 kq a7 b0 a8 a9 a6 = some r) ∧ Aside0 (kq ≤ n6) ∧ Aside0 (w'.heap[a5]? = some (.cells #[.int .i64 b0, (.slice b2 a8.length b3), (.slice b4 a9.length b5), (.slice b6 a6.length b7)] 37 (0, 0))) ∧ Aside0 (Below w.heap.size w w'))
  case atStart => exact ⟨(0), (by first | rfl | (simp; done) | (simp [*]; done)), H', ⟨Nat.le_refl _⟩, ⟨a4.out⟩, ⟨HB.out⟩⟩
  clear H'
  obtain ⟨a7, rfl, HA, n7, a4, HB⟩ := hrel
  cases gk with
  | zero => exact absurd HA.out (by simp [sl_few.l0])
  | succ k2 => ?_
  have H := HA.out
  clear HA
  simp only [sl_few.l0] at H
  by_cases d8 : a7 < (a6.length : Int)
  rotate_left
  · rw [if_neg d8] at H
    have e1 : decide (a7 < (a6.length : Int)) = false := decide_eq_false d8
    clear d8
    obtain rfl := Option.some.inj H
    have e6 : wr.cell? ⟨a5, 0, none⟩ = some (.int .i64 b0) := (zab_ a4.out 0).trans rfl
    have e7 : wr.cell? ⟨a5, 1, none⟩ = some (.slice b2 a8.length b3) := (zab_ a4.out 1).trans rfl
    have e8 : wr.cell? ⟨a5, 2, none⟩ = some (.slice b4 a9.length b5) := (zab_ a4.out 2).trans rfl
    have e9 : wr.cell? ⟨a5, 3, none⟩ = some (.slice b6 a6.length b7) := (zab_ a4.out 3).trans rfl
    have g0 := zaa_ a4.out 0
    have g1 := zaa_ a4.out 1
    have g2 := zaa_ a4.out 2
    have g3 := zaa_ a4.out 3
    go_wp2
    go_ret
    exact ⟨by first | rfl | (simp [zal_, zak_] <;> rfl) | (simp [*, zal_, zak_] <;> rfl), HB.out⟩
  rw [if_pos d8] at H
  have e1 : decide (a7 < (a6.length : Int)) = true := decide_eq_true d8
  clear d8
  by_cases g4 : 0 ≤ a7
  rotate_left
  · rw [if_neg g4] at H
    exact absurd H (by simp)
  rw [if_pos g4] at H
  have n8 : decide (0 ≤ a7) = true := decide_eq_true g4
  clear g4
  by_cases d9 : (((rd_T53 a6 a7).f0).size : Int) > 20
  · rw [if_pos d9] at H
    have e2 : decide (20 < (((rd_T53 a6 a7).f0).size : Int)) = true := decide_eq_true d9
    have e3 : decide (20 < ((rd_T53 a6 a7).f0).size) = true := decide_eq_true (by omega)
    clear d9
    obtain rfl := Option.some.inj H
    have g5 : wr.cell? ⟨a5, 0, none⟩ = some (.int .i64 b0) := (zab_ a4.out 0).trans rfl
    have g6 : wr.cell? ⟨a5, 1, none⟩ = some (.slice b2 a8.length b3) := (zab_ a4.out 1).trans rfl
    have g7 : wr.cell? ⟨a5, 2, none⟩ = some (.slice b4 a9.length b5) := (zab_ a4.out 2).trans rfl
    have g8 : wr.cell? ⟨a5, 3, none⟩ = some (.slice b6 a6.length b7) := (zab_ a4.out 3).trans rfl
    have g9 := zaa_ a4.out 0
    have h0 := zaa_ a4.out 1
    have h1 := zaa_ a4.out 2
    have h2 := zaa_ a4.out 3
    have b8 : 0 ≤ (a7 : Int) := of_decide_eq_true (by first | (with_reducible assumption) | assumption)
    have b9 : a7 < (a6.length : Int) := of_decide_eq_true (by first | (with_reducible assumption) | assumption)
    obtain ⟨ad306, d0, c306_5, e306, hx306_0, hx306_1, hx306_2, hx306_3, hx306_4, hx306_5, hl306_5, hi306_5⟩ := at_T53 HR0_3.out a7 b8 b9
    cases e306
    replace hx306_0 := (HB.out.cell (World.block_lt_of_cell? w _ hx306_0)).trans hx306_0
    replace hx306_1 := (HB.out.cell (World.block_lt_of_cell? w _ hx306_1)).trans hx306_1
    replace hx306_2 := (HB.out.cell (World.block_lt_of_cell? w _ hx306_2)).trans hx306_2
    replace hx306_3 := (HB.out.cell (World.block_lt_of_cell? w _ hx306_3)).trans hx306_3
    replace hx306_4 := (HB.out.cell (World.block_lt_of_cell? w _ hx306_4)).trans hx306_4
    replace hx306_5 := (HB.out.cell (World.block_lt_of_cell? w _ hx306_5)).trans hx306_5
    have HR306_5 := Aside0.mk hi306_5
    have HC306_5 := Aside0.mk hl306_5
    clear hi306_5 hl306_5
    replace b8 := eq_true b8
    replace b9 := eq_true b9
    go_wp2
    go_ret
    exact ⟨by first | rfl | (simp [zal_, zak_] <;> rfl) | (simp [*, zal_, zak_] <;> rfl), HB.out⟩
  rw [if_neg d9] at H
  have e2 : decide (20 < (((rd_T53 a6 a7).f0).size : Int)) = false := decide_eq_false d9
  have e3 : decide (20 < ((rd_T53 a6 a7).f0).size) = false := decide_eq_false (by omega)
  clear d9
  by_cases e0 : (((rd_T53 a6 a7).f5).length : Int) > 10
  rotate_left
  · rw [if_neg e0] at H
    have e4 : decide (10 < (((rd_T53 a6 a7).f5).length : Int)) = false := decide_eq_false e0
    have e5 : decide (10 < ((rd_T53 a6 a7).f5).length) = false := decide_eq_false (by omega)
    clear e0
    have H' := Aside0.mk H
    clear H
    have h3 : wr.cell? ⟨a5, 0, none⟩ = some (.int .i64 b0) := (zab_ a4.out 0).trans rfl
    have h4 : wr.cell? ⟨a5, 1, none⟩ = some (.slice b2 a8.length b3) := (zab_ a4.out 1).trans rfl
    have h5 : wr.cell? ⟨a5, 2, none⟩ = some (.slice b4 a9.length b5) := (zab_ a4.out 2).trans rfl
    have h6 : wr.cell? ⟨a5, 3, none⟩ = some (.slice b6 a6.length b7) := (zab_ a4.out 3).trans rfl
    have h7 := zaa_ a4.out 0
    have h8 := zaa_ a4.out 1
    have h9 := zaa_ a4.out 2
    have j1 := zaa_ a4.out 3
    have b8 : 0 ≤ (a7 : Int) := of_decide_eq_true (by first | (with_reducible assumption) | assumption)
    have b9 : a7 < (a6.length : Int) := of_decide_eq_true (by first | (with_reducible assumption) | assumption)
    obtain ⟨ad306, d0, c306_5, e306, hx306_0, hx306_1, hx306_2, hx306_3, hx306_4, hx306_5, hl306_5, hi306_5⟩ := at_T53 HR0_3.out a7 b8 b9
    cases e306
    replace hx306_0 := (HB.out.cell (World.block_lt_of_cell? w _ hx306_0)).trans hx306_0
    replace hx306_1 := (HB.out.cell (World.block_lt_of_cell? w _ hx306_1)).trans hx306_1
    replace hx306_2 := (HB.out.cell (World.block_lt_of_cell? w _ hx306_2)).trans hx306_2
    replace hx306_3 := (HB.out.cell (World.block_lt_of_cell? w _ hx306_3)).trans hx306_3
    replace hx306_4 := (HB.out.cell (World.block_lt_of_cell? w _ hx306_4)).trans hx306_4
    replace hx306_5 := (HB.out.cell (World.block_lt_of_cell? w _ hx306_5)).trans hx306_5
    have HR306_5 := Aside0.mk hi306_5
    have HC306_5 := Aside0.mk hl306_5
    clear hi306_5 hl306_5
    replace b8 := eq_true b8
    replace b9 := eq_true b9
    have c3 : 0 ≤ (a7 : Int) := of_decide_eq_true (by first | (with_reducible assumption) | assumption)
    have c5 : a7 < (a6.length : Int) := of_decide_eq_true (by first | (with_reducible assumption) | assumption)
    obtain ⟨ad307, d7, c307_5, e307, hx307_0, hx307_1, hx307_2, hx307_3, hx307_4, hx307_5, hl307_5, hi307_5⟩ := at_T53 HR0_3.out a7 c3 c5
    obtain rfl : ad306 = ad307 := (by injection e307)
    replace hx307_0 := (HB.out.cell (World.block_lt_of_cell? w _ hx307_0)).trans hx307_0
    replace hx307_1 := (HB.out.cell (World.block_lt_of_cell? w _ hx307_1)).trans hx307_1
    replace hx307_2 := (HB.out.cell (World.block_lt_of_cell? w _ hx307_2)).trans hx307_2
    replace hx307_3 := (HB.out.cell (World.block_lt_of_cell? w _ hx307_3)).trans hx307_3
    replace hx307_4 := (HB.out.cell (World.block_lt_of_cell? w _ hx307_4)).trans hx307_4
    replace hx307_5 := (HB.out.cell (World.block_lt_of_cell? w _ hx307_5)).trans hx307_5
    have HR307_5 := Aside0.mk hi307_5
    have HC307_5 := Aside0.mk hl307_5
    clear hi307_5 hl307_5
    replace c3 := eq_true c3
    replace c5 := eq_true c5
    have ea_ := Option.some.inj (hx306_5.symm.trans hx307_5)
    injection ea_ with ea_ en_ ec_
    subst ea_
    subst ec_
    clear en_
    go_wp2
    go_roundg k2
    case measure => have := n5.out; have := n7.out; omega
    case rel => exact ⟨(wrap64 (a7 + 1)), (by first | rfl | (simp; done) | (simp [*]; done)), H', ⟨by have := n5.out; have := n7.out; omega⟩, ⟨a4.out⟩, ⟨HB.out⟩⟩
  rw [if_pos e0] at H
  have e4 : decide (10 < (((rd_T53 a6 a7).f5).length : Int)) = true := decide_eq_true e0
  have e5 : decide (10 < ((rd_T53 a6 a7).f5).length) = true := decide_eq_true (by omega)
  clear e0
  obtain rfl := Option.some.inj H
  have j2 : wr.cell? ⟨a5, 0, none⟩ = some (.int .i64 b0) := (zab_ a4.out 0).trans rfl
  have j3 : wr.cell? ⟨a5, 1, none⟩ = some (.slice b2 a8.length b3) := (zab_ a4.out 1).trans rfl
  have j4 : wr.cell? ⟨a5, 2, none⟩ = some (.slice b4 a9.length b5) := (zab_ a4.out 2).trans rfl
  have j5 : wr.cell? ⟨a5, 3, none⟩ = some (.slice b6 a6.length b7) := (zab_ a4.out 3).trans rfl
  have j6 := zaa_ a4.out 0
  have j7 := zaa_ a4.out 1
  have j8 := zaa_ a4.out 2
  have j9 := zaa_ a4.out 3
  have b8 : 0 ≤ (a7 : Int) := of_decide_eq_true (by first | (with_reducible assumption) | assumption)
  have b9 : a7 < (a6.length : Int) := of_decide_eq_true (by first | (with_reducible assumption) | assumption)
  obtain ⟨ad306, d0, c306_5, e306, hx306_0, hx306_1, hx306_2, hx306_3, hx306_4, hx306_5, hl306_5, hi306_5⟩ := at_T53 HR0_3.out a7 b8 b9
  cases e306
  replace hx306_0 := (HB.out.cell (World.block_lt_of_cell? w _ hx306_0)).trans hx306_0
  replace hx306_1 := (HB.out.cell (World.block_lt_of_cell? w _ hx306_1)).trans hx306_1
  replace hx306_2 := (HB.out.cell (World.block_lt_of_cell? w _ hx306_2)).trans hx306_2
  replace hx306_3 := (HB.out.cell (World.block_lt_of_cell? w _ hx306_3)).trans hx306_3
  replace hx306_4 := (HB.out.cell (World.block_lt_of_cell? w _ hx306_4)).trans hx306_4
  replace hx306_5 := (HB.out.cell (World.block_lt_of_cell? w _ hx306_5)).trans hx306_5
  have HR306_5 := Aside0.mk hi306_5
  have HC306_5 := Aside0.mk hl306_5
  clear hi306_5 hl306_5
  replace b8 := eq_true b8
  replace b9 := eq_true b9
  have c3 : 0 ≤ (a7 : Int) := of_decide_eq_true (by first | (with_reducible assumption) | assumption)
  have c5 : a7 < (a6.length : Int) := of_decide_eq_true (by first | (with_reducible assumption) | assumption)
  obtain ⟨ad307, d7, c307_5, e307, hx307_0, hx307_1, hx307_2, hx307_3, hx307_4, hx307_5, hl307_5, hi307_5⟩ := at_T53 HR0_3.out a7 c3 c5
  obtain rfl : ad306 = ad307 := (by injection e307)
  replace hx307_0 := (HB.out.cell (World.block_lt_of_cell? w _ hx307_0)).trans hx307_0
  replace hx307_1 := (HB.out.cell (World.block_lt_of_cell? w _ hx307_1)).trans hx307_1
  replace hx307_2 := (HB.out.cell (World.block_lt_of_cell? w _ hx307_2)).trans hx307_2
  replace hx307_3 := (HB.out.cell (World.block_lt_of_cell? w _ hx307_3)).trans hx307_3
  replace hx307_4 := (HB.out.cell (World.block_lt_of_cell? w _ hx307_4)).trans hx307_4
  replace hx307_5 := (HB.out.cell (World.block_lt_of_cell? w _ hx307_5)).trans hx307_5
  have HR307_5 := Aside0.mk hi307_5
  have HC307_5 := Aside0.mk hl307_5
  clear hi307_5 hl307_5
  replace c3 := eq_true c3
  replace c5 := eq_true c5
  have ea_ := Option.some.inj (hx306_5.symm.trans hx307_5)
  injection ea_ with ea_ en_ ec_
  subst ea_
  subst ec_
  clear en_
  go_wp2
  go_ret
  exact ⟨by first | rfl | (simp [zal_, zak_] <;> rfl) | (simp [*, zal_, zak_] <;> rfl), HB.out⟩
end Go.Proofs.YtgkjoodlcojkkaaDoor.QD
end
