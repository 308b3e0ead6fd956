import Derived.Test.YtgkjoodlcojkkaaDoorMB2
import Derived.Test.YtgkjoodlcojkkaaDoorMB5
import Derived.Test.YtgkjoodlcojkkaaDoorMB6
import Derived.Test.YtgkjoodlcojkkaaDoorMB4
import Derived.SliceStrings
import Derived.ChangeArms
import Derived.ChangeOld
import Derived.DataReads
import Derived.Lib.SmallJoins
section
namespace Go.Proofs.YtgkjoodlcojkkaaDoor.QD
open Go.RowKit Go.Proofs.YtgkjoodlcojkkaaDoorW.PrintWords Go.Proofs.YtgkjoodlcojkkaaDoorW.PrintLast Go.Proofs.YtgkjoodlcojkkaaDoorW.PrintMore
attribute [local go_sem] zbd_ zbe_ zbm_ zbl_ zaW_ zaX_ zbc_ zbb_
set_option linter.unusedVariables false
set_option linter.unusedSimpArgs false
mutual
def zaH_.j0 : Nat → Int → Bool → Int → List Int → List Int → List (S53) → Option (Bool)
  | 0, _, _, _, _, _, _ => none
  | k + 1, x1, x24, c1, c2, c3, c5 => if x24 = true then (some true) else ((zau_.f k c1 c2 c3 c5).bind fun a9 => (zaH_.l0 k x1 a9 (⟨#[]⟩ : ByteArray) 0 0 c1 c2 c3 c5))
def zaH_.l0 : Nat → Int → ByteArray → ByteArray → Int → Int → Int → List Int → List Int → List (S53) → Option (Bool)
  | 0, _, _, _, _, _, _, _, _, _ => none
  | k + 1, x1, x5, x6, x7, x8, c1, c2, c3, c5 => if x8 < (x5.size : Int) then (if 0 ≤ x8 then (if (bt x5 x8) = 10 then (if 0 ≤ (IntKind.u64.wrap (Int.tmod (wrap64 (x7 + 1)) 16)) then (if (Go.bits .and .u16 (shr .u16 x1 (IntKind.u64.wrap (Int.tmod (wrap64 (x7 + 1)) 16))) 1) = 1 then (if x6.size + 8 ≤ 9223372036854775807 then (zaH_.j2 k x1 x5 (x6 ++ (⟨#[32, 32, 35, 32, 109, 111, 114, 101]⟩ : ByteArray)) (wrap64 (x7 + 1)) x8 c1 c2 c3 c5) else (none)) else (zaH_.j2 k x1 x5 x6 (wrap64 (x7 + 1)) x8 c1 c2 c3 c5)) else (none)) else (zaH_.j2 k x1 x5 x6 x7 x8 c1 c2 c3 c5)) else (none)) else ((zao_.f k x5).bind fun n3 => ((zao_.f k x6).bind fun d2 => (if n3.2.2.2.2.2 = 0 then (if n3.2.2.2.2.1 = x7 then ((zaP_.f k n3.1 n3.2.1 n3.2.2.1 n3.2.2.2.1 c1 c2 c3 c5).bind fun n7 => (if n7 = true then (if d2.2.2.2.2.2 = 0 then ((zaP_.f k d2.1 d2.2.1 d2.2.2.1 d2.2.2.2.1 c1 c2 c3 c5).bind fun n2 => (if n2 = true then ((zau_.f k d2.1 d2.2.1 d2.2.2.1 d2.2.2.2.1).bind fun h0 => (if h0.toList = x5.toList then (some true) else (if d2.2.2.2.2.2 = 11 then (some (decide ((x6.size : Int) > 2000))) else (some false)))) else (if d2.2.2.2.2.2 = 11 then (some (decide ((x6.size : Int) > 2000))) else (some false)))) else (if d2.2.2.2.2.2 = 11 then (some (decide ((x6.size : Int) > 2000))) else (some false))) else (some false))) else (some false)) else (some false))))
def zaH_.j2 : Nat → Int → ByteArray → ByteArray → Int → Int → Int → List Int → List Int → List (S53) → Option (Bool)
  | 0, _, _, _, _, _, _, _, _, _ => none
  | k + 1, x1, x5, x6, x7, x8, c1, c2, c3, c5 => if 0 ≤ x8 then (if x8 < (x5.size : Int) then (if (bt x5 x8) = 32 then (if 0 ≤ (IntKind.u64.wrap (Int.tmod x8 16)) then (zaH_.j3 k x1 x5 x6 x7 x8 ((Go.bits .and .u16 (shr .u16 x1 (IntKind.u64.wrap (Int.tmod x8 16))) 1) == 1) c1 c2 c3 c5) else (none)) else (zaH_.j3 k x1 x5 x6 x7 x8 false c1 c2 c3 c5)) else (none)) else (none)
def zaH_.j3 : Nat → Int → ByteArray → ByteArray → Int → Int → Bool → Int → List Int → List Int → List (S53) → Option (Bool)
  | 0, _, _, _, _, _, _, _, _, _, _ => none
  | k + 1, x1, x5, x6, x7, x8, x60, c1, c2, c3, c5 => if x60 = true then (if x6.size + 1 ≤ 9223372036854775807 then (if 0 ≤ x8 then (if x8 ≤ (wrap64 (x8 + 1)) then (if (wrap64 (x8 + 1)) ≤ (x5.size : Int) then (if (x6 ++ (⟨#[32]⟩ : ByteArray)).size + (x5.extract (x8 : Int).toNat ((wrap64 (x8 + 1)) : Int).toNat).size ≤ 9223372036854775807 then (if x8 < (x5.size : Int) then (if (bt x5 x8) = 10 then (if 0 ≤ (IntKind.u64.wrap (Int.tmod (wrap64 (x7 + 5)) 16)) then (if (Go.bits .and .u16 (shr .u16 x1 (IntKind.u64.wrap (Int.tmod (wrap64 (x7 + 5)) 16))) 1) = 1 then (if ((x6 ++ (⟨#[32]⟩ : ByteArray)) ++ (x5.extract (x8 : Int).toNat ((wrap64 (x8 + 1)) : Int).toNat)).size + 4 ≤ 9223372036854775807 then (zaH_.l0 k x1 x5 (((x6 ++ (⟨#[32]⟩ : ByteArray)) ++ (x5.extract (x8 : Int).toNat ((wrap64 (x8 + 1)) : Int).toNat)) ++ (⟨#[32, 32, 32, 10]⟩ : ByteArray)) x7 (wrap64 (x8 + 1)) c1 c2 c3 c5) else (none)) else (zaH_.l0 k x1 x5 ((x6 ++ (⟨#[32]⟩ : ByteArray)) ++ (x5.extract (x8 : Int).toNat ((wrap64 (x8 + 1)) : Int).toNat)) x7 (wrap64 (x8 + 1)) c1 c2 c3 c5)) else (none)) else (zaH_.l0 k x1 x5 ((x6 ++ (⟨#[32]⟩ : ByteArray)) ++ (x5.extract (x8 : Int).toNat ((wrap64 (x8 + 1)) : Int).toNat)) x7 (wrap64 (x8 + 1)) c1 c2 c3 c5)) else (none)) else (none)) else (none)) else (none)) else (none)) else (none)) else (if 0 ≤ x8 then (if x8 ≤ (wrap64 (x8 + 1)) then (if (wrap64 (x8 + 1)) ≤ (x5.size : Int) then (if x6.size + (x5.extract (x8 : Int).toNat ((wrap64 (x8 + 1)) : Int).toNat).size ≤ 9223372036854775807 then (if x8 < (x5.size : Int) then (if (bt x5 x8) = 10 then (if 0 ≤ (IntKind.u64.wrap (Int.tmod (wrap64 (x7 + 5)) 16)) then (if (Go.bits .and .u16 (shr .u16 x1 (IntKind.u64.wrap (Int.tmod (wrap64 (x7 + 5)) 16))) 1) = 1 then (if (x6 ++ (x5.extract (x8 : Int).toNat ((wrap64 (x8 + 1)) : Int).toNat)).size + 4 ≤ 9223372036854775807 then (zaH_.l0 k x1 x5 ((x6 ++ (x5.extract (x8 : Int).toNat ((wrap64 (x8 + 1)) : Int).toNat)) ++ (⟨#[32, 32, 32, 10]⟩ : ByteArray)) x7 (wrap64 (x8 + 1)) c1 c2 c3 c5) else (none)) else (zaH_.l0 k x1 x5 (x6 ++ (x5.extract (x8 : Int).toNat ((wrap64 (x8 + 1)) : Int).toNat)) x7 (wrap64 (x8 + 1)) c1 c2 c3 c5)) else (none)) else (zaH_.l0 k x1 x5 (x6 ++ (x5.extract (x8 : Int).toNat ((wrap64 (x8 + 1)) : Int).toNat)) x7 (wrap64 (x8 + 1)) c1 c2 c3 c5)) else (none)) else (none)) else (none)) else (none)) else (none))
end
def zaH_.f (k : Nat) (b7 : Int) (b3 : List Int) (b4 : List Int) (b5 : List (S53)) (a1 : Int) : Option (Bool) := (zbw_.f k).bind fun q0 => (if q0 = true then ((sl_few.f k b7 b3 b4 b5).bind fun n8 => (if n8 = true then ((sr_OK.f k b7 b3 b4 b5).bind fun m4 => (zaH_.j0 k a1 (!m4) b7 b3 b4 b5)) else (zaH_.j0 k a1 true b7 b3 b4 b5))) else (some false))
theorem zaH_.mono_l : ∀ k, (∀ y0 y1 y2 y3 y4 y5, LeO (zaH_.j0 k y0 y1 y2 y3 y4 y5) (zaH_.j0 (k + 1) y0 y1 y2 y3 y4 y5)) ∧ (∀ y0 y1 y2 y3 y4 y5 y6 y7 y8, LeO (zaH_.l0 k y0 y1 y2 y3 y4 y5 y6 y7 y8) (zaH_.l0 (k + 1) y0 y1 y2 y3 y4 y5 y6 y7 y8)) ∧ (∀ y0 y1 y2 y3 y4 y5 y6 y7 y8, LeO (zaH_.j2 k y0 y1 y2 y3 y4 y5 y6 y7 y8) (zaH_.j2 (k + 1) y0 y1 y2 y3 y4 y5 y6 y7 y8)) ∧ (∀ y0 y1 y2 y3 y4 y5 y6 y7 y8 y9, LeO (zaH_.j3 k y0 y1 y2 y3 y4 y5 y6 y7 y8 y9) (zaH_.j3 (k + 1) y0 y1 y2 y3 y4 y5 y6 y7 y8 y9))
  | 0 => ⟨fun _ _ _ _ _ _ r h => by simp [zaH_.j0] at h, fun _ _ _ _ _ _ _ _ _ r h => by simp [zaH_.l0] at h, fun _ _ _ _ _ _ _ _ _ r h => by simp [zaH_.j2] at h, fun _ _ _ _ _ _ _ _ _ _ r h => by simp [zaH_.j3] at h⟩
  | k + 1 => by
    obtain ⟨ih0, ih1, ih2, ih3⟩ := zaH_.mono_l k
    refine ⟨?_, ?_, ?_, ?_⟩
    · intro y0 y1 y2 y3 y4 y5
      unfold zaH_.j0
      repeat' first
      | (with_reducible exact ih0 _ _ _ _ _ _)
      | (with_reducible exact ih1 _ _ _ _ _ _ _ _ _)
      | (with_reducible exact ih2 _ _ _ _ _ _ _ _ _)
      | (with_reducible exact ih3 _ _ _ _ _ _ _ _ _ _)
      | (with_reducible exact sl_few.mono _ _ _ _ _)
      | (with_reducible exact zbw_.mono _)
      | (with_reducible exact sr_OK.mono _ _ _ _ _)
      | (with_reducible exact zaP_.mono _ _ _ _ _ _ _ _ _)
      | (with_reducible exact zao_.mono _ _)
      | (with_reducible exact zau_.mono _ _ _ _ _)
      | (with_reducible exact LeO.refl _)
      | (with_reducible exact LeO.none _)
      | (with_reducible refine LeO.ite ?_ ?_)
      | (with_reducible refine LeO.bind ?_ (fun _ => ?_))
      | exact ih0 _ _ _ _ _ _
      | exact ih1 _ _ _ _ _ _ _ _ _
      | exact ih2 _ _ _ _ _ _ _ _ _
      | exact ih3 _ _ _ _ _ _ _ _ _ _
      | exact sl_few.mono _ _ _ _ _
      | exact zbw_.mono _
      | exact sr_OK.mono _ _ _ _ _
      | exact zaP_.mono _ _ _ _ _ _ _ _ _
      | exact zao_.mono _ _
      | exact zau_.mono _ _ _ _ _
      | exact LeO.none _
      | refine LeO.ite ?_ ?_
      | refine LeO.bind ?_ (fun _ => ?_)
    · intro y0 y1 y2 y3 y4 y5 y6 y7 y8
      unfold zaH_.l0
      repeat' first
      | (with_reducible exact ih0 _ _ _ _ _ _)
      | (with_reducible exact ih1 _ _ _ _ _ _ _ _ _)
      | (with_reducible exact ih2 _ _ _ _ _ _ _ _ _)
      | (with_reducible exact ih3 _ _ _ _ _ _ _ _ _ _)
      | (with_reducible exact sl_few.mono _ _ _ _ _)
      | (with_reducible exact zbw_.mono _)
      | (with_reducible exact sr_OK.mono _ _ _ _ _)
      | (with_reducible exact zaP_.mono _ _ _ _ _ _ _ _ _)
      | (with_reducible exact zao_.mono _ _)
      | (with_reducible exact zau_.mono _ _ _ _ _)
      | (with_reducible exact LeO.refl _)
      | (with_reducible exact LeO.none _)
      | (with_reducible refine LeO.ite ?_ ?_)
      | (with_reducible refine LeO.bind ?_ (fun _ => ?_))
      | exact ih0 _ _ _ _ _ _
      | exact ih1 _ _ _ _ _ _ _ _ _
      | exact ih2 _ _ _ _ _ _ _ _ _
      | exact ih3 _ _ _ _ _ _ _ _ _ _
      | exact sl_few.mono _ _ _ _ _
      | exact zbw_.mono _
      | exact sr_OK.mono _ _ _ _ _
      | exact zaP_.mono _ _ _ _ _ _ _ _ _
      | exact zao_.mono _ _
      | exact zau_.mono _ _ _ _ _
      | exact LeO.none _
      | refine LeO.ite ?_ ?_
      | refine LeO.bind ?_ (fun _ => ?_)
    · intro y0 y1 y2 y3 y4 y5 y6 y7 y8
      unfold zaH_.j2
      repeat' first
      | (with_reducible exact ih0 _ _ _ _ _ _)
      | (with_reducible exact ih1 _ _ _ _ _ _ _ _ _)
      | (with_reducible exact ih2 _ _ _ _ _ _ _ _ _)
      | (with_reducible exact ih3 _ _ _ _ _ _ _ _ _ _)
      | (with_reducible exact sl_few.mono _ _ _ _ _)
      | (with_reducible exact zbw_.mono _)
      | (with_reducible exact sr_OK.mono _ _ _ _ _)
      | (with_reducible exact zaP_.mono _ _ _ _ _ _ _ _ _)
      | (with_reducible exact zao_.mono _ _)
      | (with_reducible exact zau_.mono _ _ _ _ _)
      | (with_reducible exact LeO.refl _)
      | (with_reducible exact LeO.none _)
      | (with_reducible refine LeO.ite ?_ ?_)
      | (with_reducible refine LeO.bind ?_ (fun _ => ?_))
      | exact ih0 _ _ _ _ _ _
      | exact ih1 _ _ _ _ _ _ _ _ _
      | exact ih2 _ _ _ _ _ _ _ _ _
      | exact ih3 _ _ _ _ _ _ _ _ _ _
      | exact sl_few.mono _ _ _ _ _
      | exact zbw_.mono _
      | exact sr_OK.mono _ _ _ _ _
      | exact zaP_.mono _ _ _ _ _ _ _ _ _
      | exact zao_.mono _ _
      | exact zau_.mono _ _ _ _ _
      | exact LeO.none _
      | refine LeO.ite ?_ ?_
      | refine LeO.bind ?_ (fun _ => ?_)
    · intro y0 y1 y2 y3 y4 y5 y6 y7 y8 y9
      unfold zaH_.j3
      repeat' first
      | (with_reducible exact ih0 _ _ _ _ _ _)
      | (with_reducible exact ih1 _ _ _ _ _ _ _ _ _)
      | (with_reducible exact ih2 _ _ _ _ _ _ _ _ _)
      | (with_reducible exact ih3 _ _ _ _ _ _ _ _ _ _)
      | (with_reducible exact sl_few.mono _ _ _ _ _)
      | (with_reducible exact zbw_.mono _)
      | (with_reducible exact sr_OK.mono _ _ _ _ _)
      | (with_reducible exact zaP_.mono _ _ _ _ _ _ _ _ _)
      | (with_reducible exact zao_.mono _ _)
      | (with_reducible exact zau_.mono _ _ _ _ _)
      | (with_reducible exact LeO.refl _)
      | (with_reducible exact LeO.none _)
      | (with_reducible refine LeO.ite ?_ ?_)
      | (with_reducible refine LeO.bind ?_ (fun _ => ?_))
      | exact ih0 _ _ _ _ _ _
      | exact ih1 _ _ _ _ _ _ _ _ _
      | exact ih2 _ _ _ _ _ _ _ _ _
      | exact ih3 _ _ _ _ _ _ _ _ _ _
      | exact sl_few.mono _ _ _ _ _
      | exact zbw_.mono _
      | exact sr_OK.mono _ _ _ _ _
      | exact zaP_.mono _ _ _ _ _ _ _ _ _
      | exact zao_.mono _ _
      | exact zau_.mono _ _ _ _ _
      | exact LeO.none _
      | refine LeO.ite ?_ ?_
      | refine LeO.bind ?_ (fun _ => ?_)
theorem zaH_.mono : ∀ a0 a1 a2 a3 a4 k, LeO (zaH_.f k a0 a1 a2 a3 a4) (zaH_.f (k + 1) a0 a1 a2 a3 a4) := by
  intro a0 a1 a2 a3 a4 k
  obtain ⟨ih0, ih1, ih2, ih3⟩ := zaH_.mono_l k
  unfold zaH_.f
  repeat' first
      | (with_reducible exact ih0 _ _ _ _ _ _)
      | (with_reducible exact ih1 _ _ _ _ _ _ _ _ _)
      | (with_reducible exact ih2 _ _ _ _ _ _ _ _ _)
      | (with_reducible exact ih3 _ _ _ _ _ _ _ _ _ _)
      | (with_reducible exact sl_few.mono _ _ _ _ _)
      | (with_reducible exact zbw_.mono _)
      | (with_reducible exact sr_OK.mono _ _ _ _ _)
      | (with_reducible exact zaP_.mono _ _ _ _ _ _ _ _ _)
      | (with_reducible exact zao_.mono _ _)
      | (with_reducible exact zau_.mono _ _ _ _ _)
      | (with_reducible exact LeO.refl _)
      | (with_reducible exact LeO.none _)
      | (with_reducible refine LeO.ite ?_ ?_)
      | (with_reducible refine LeO.bind ?_ (fun _ => ?_))
      | exact ih0 _ _ _ _ _ _
      | exact ih1 _ _ _ _ _ _ _ _ _
      | exact ih2 _ _ _ _ _ _ _ _ _
      | exact ih3 _ _ _ _ _ _ _ _ _ _
      | exact sl_few.mono _ _ _ _ _
      | exact zbw_.mono _
      | exact sr_OK.mono _ _ _ _ _
      | exact zaP_.mono _ _ _ _ _ _ _ _ _
      | exact zao_.mono _ _
      | exact zau_.mono _ _ _ _ _
      | exact LeO.none _
      | refine LeO.ite ?_ ?_
      | refine LeO.bind ?_ (fun _ => ?_)
set_option maxHeartbeats 8000000 in
set_option maxRecDepth 100000 in
theorem zaH_.calls (k : Nat) (b7 : Int) (g1 : Option Addr) (g2 : Nat) (b3 : List Int) (g3 : Option Addr) (g4 : Nat) (b4 : List Int) (g5 : Option Addr) (g6 : Nat) (b5 : List (S53)) (a1 : Int) (r : Bool) [hT_ : IsTrue r] (w : World) (w5 : Kd.C (Kd.int .i64) w g1 b3.length b3) (w8 : b3.length ≤ g2) (w9 : Kd.C (Kd.int .i64) w g3 b4.length b4) (x0 : b4.length ≤ g4) (x2 : Kd.C k53 w g5 b5.length b5) (x3 : b5.length ≤ g6) (hG : Glob w) (h : zaH_.f k b7 b3 b4 b5 a1 = some r) :
    Calls Tryd.prog 5 #[.agg #[.int .i64 b7, .slice g1 b3.length g2, .slice g3 b4.length g4, .slice g5 b5.length g6], .int .u16 a1] w fun e w' => e = .returned (.bool r) ∧ Below w.heap.size w w' := by
  have hu37 := Tryd.underlying37
  have HR0_1 := Aside0.mk w5
  have HC0_1 := Aside0.mk w8
  clear w5 w8
  have HR0_2 := Aside0.mk w9
  have HC0_2 := Aside0.mk x0
  clear w9 x0
  have HR0_3 := Aside0.mk x2
  have HC0_3 := Aside0.mk x3
  clear x2 x3
  have HG := Aside0.mk hG
  clear hG
  have HB := Aside0.mk (Below.refl w.heap.size w)
  have H : ((zbw_.f k).bind fun q0 => (if q0 = true then ((sl_few.f k b7 b3 b4 b5).bind fun n8 => (if n8 = true then ((sr_OK.f k b7 b3 b4 b5).bind fun m4 => (zaH_.j0 k a1 (!m4) b7 b3 b4 b5)) else (zaH_.j0 k a1 true b7 b3 b4 b5))) else (some false))) = some r := h
  clear h
  replace H := Option.bind_eq_some_iff.mp H
  obtain ⟨q0, X9, H⟩ := H
  replace H : (if q0 = true then ((sl_few.f k b7 b3 b4 b5).bind fun n8 => (if n8 = true then ((sr_OK.f k b7 b3 b4 b5).bind fun m4 => (zaH_.j0 k a1 (!m4) b7 b3 b4 b5)) else (zaH_.j0 k a1 true b7 b3 b4 b5))) else (some false)) = some r := H
  have A3 := Aside0.mk X9
  clear X9
  by_cases c4 : q0 = true
  rotate_left
  · replace c4 := Bool.eq_false_iff.mpr c4
    subst c4
    rw [if_neg (show ¬ (false = true) by decide)] at H
    exact absurd ((Option.some.inj H).trans hT_.out) (by simp)
  subst c4
  rw [if_pos rfl] at H
  have HC5 := Aside0.mk H
  clear H
  go_enter Tryd.func5, Tryd.ntmps5
  go_upto_region 3 with (first | ((with_reducible refine zaL_ (N := 2) rfl ?_); (try (refine zaF_ (by rfl) ?_; dsimp only)); refine zaD_ ?hg (N := 2) ?hd (cs := #[.int .i64 b7, .slice g1 b3.length g2, .slice g3 b4.length g4, .slice g5 b5.length g6]) (t := 37) ?hr ?_; (case hd => rfl); (case hg => rfl); (case hr => first | (go_simp; done) | (go_simp; rfl)); intro b6 hg w6 hbox hb; have e6 := Aside0.mk (zaj_ (HB.out) hb); have e7 := Aside0.mk (hbox); have g7 := Aside0.mk ((by rw [hg]; exact (zam_ (HB.out)) : w.heap.size ≤ b6)); have g8 := Aside0.mk ((by rw [hg]; exact (zam_ (HB.out)) : w.heap.size ≤ b6)); clear HB; have HB := e6; have a5 := e7; have Y0 := g7; have e5 := g8; clear e6 e7 g7 g8; clear hb hbox hg) | ((with_reducible refine zar_ (f := 21) rfl ?_); refine goesL_ (some 15) rfl rfl Tryd.func21 (by kernel_rfl) rfl #[] rfl (by (try simp only [List.map_toArray, List.map_cons, List.map_nil]); first | done | rfl | (simp only [List.length_drop, List.length_take]; rfl)) ?_; (with_reducible refine (zbw_.calls k  true _ ?side1 A3.out).mono ?_); (case side1 => first | exact Glob.below HG.out (HB.out) | (repeat (first | exact Glob.below HG.out HB.out | (with_reducible refine Glob.alloc ?_ _) | (with_reducible refine Glob.drewN ?_ _) | (with_reducible refine Glob.drew ?_)))); rintro e w7 ⟨rfl, hb⟩; refine ⟨_, rfl, ?_⟩; have e6 := Aside0.mk (zan_ a5.out hb); have e7 := Aside0.mk (zaj_ (HB.out) hb); clear a5; clear HB; have a5 := e6; have HB := e7; clear e6 e7; (try clear hb); (try clear hb2); (try clear hk); (try clear hi)))
  (try simp only [Act.put, List.setIfInBounds_toArray, List.set_cons_zero, List.set_cons_succ])
  go_cut [24] (fun Z4 wc => ∃ (kq : Nat) (p8 : Bool), Z4 = .bool p8 ∧ Aside0 (zaH_.j0 kq a1 p8 b7 b3 b4 b5 = some r) ∧ Aside0 (kq ≤ k) ∧ Aside0 (wc.heap[b6]? = some (.cells #[.int .i64 b7, (.slice g1 b3.length g2), (.slice g3 b4.length g4), (.slice g5 b5.length g6)] 37 (0, 0))) ∧ Aside0 (Below w.heap.size w wc))
  case first =>
    have H := HC5.out
    clear HC5
    replace H := Option.bind_eq_some_iff.mp H
    obtain ⟨n8, Y1, H⟩ := H
    replace H : (if n8 = true then ((sr_OK.f k b7 b3 b4 b5).bind fun m4 => (zaH_.j0 k a1 (!m4) b7 b3 b4 b5)) else (zaH_.j0 k a1 true b7 b3 b4 b5)) = some r := H
    have A8 := Aside0.mk Y1
    clear Y1
    by_cases c9 : n8 = true
    rotate_left
    · replace c9 := Bool.eq_false_iff.mpr c9
      subst c9
      rw [if_neg (show ¬ (false = true) by decide)] at H
      have H' := Aside0.mk H
      clear H
      have D4 : w7.cell? ⟨b6, 0, none⟩ = some (.int .i64 b7) := (zab_ a5.out 0).trans rfl
      have D5 : w7.cell? ⟨b6, 1, none⟩ = some (.slice g1 b3.length g2) := (zab_ a5.out 1).trans rfl
      have D6 : w7.cell? ⟨b6, 2, none⟩ = some (.slice g3 b4.length g4) := (zab_ a5.out 2).trans rfl
      have D7 : w7.cell? ⟨b6, 3, none⟩ = some (.slice g5 b5.length g6) := (zab_ a5.out 3).trans rfl
      have D8 := zaa_ a5.out 0
      have D9 := zaa_ a5.out 1
      have E0 := zaa_ a5.out 2
      have E1 := zaa_ a5.out 3
      go_wp2_with (first | ((with_reducible refine zar_ (f := 22) rfl ?_); refine goesL_ (some 18) rfl rfl Tryd.func22 (by kernel_rfl) rfl #[.agg #[.int .i64 b7, .slice g1 b3.length g2, .slice g3 b4.length g4, .slice g5 b5.length g6]] rfl (by (try simp only [List.map_toArray, List.map_cons, List.map_nil]); first | done | rfl | (simp only [List.length_drop, List.length_take]; rfl)) ?_; (with_reducible refine (sl_few.calls k b7 _ _ b3 _ _ b4 _ _ b5 false _ ?side1 ?side2 ?side3 ?side4 ?side5 ?side6 A8.out).mono ?_); (case side1 => repeat (first | exact (Kd.zaB_ HR0_1.out HB.out) | (with_reducible refine Kd.zaI_ ?_ _) | (with_reducible refine Kd.zaJ_ ?_ _) | (with_reducible refine Kd.C_drew ?_))); (case side2 => exact HC0_1.out); (case side3 => repeat (first | exact (Kd.zaB_ HR0_2.out HB.out) | (with_reducible refine Kd.zaI_ ?_ _) | (with_reducible refine Kd.zaJ_ ?_ _) | (with_reducible refine Kd.C_drew ?_))); (case side4 => exact HC0_2.out); (case side5 => repeat (first | exact (Kd.zaB_ HR0_3.out HB.out) | (with_reducible refine Kd.zaI_ ?_ _) | (with_reducible refine Kd.zaJ_ ?_ _) | (with_reducible refine Kd.C_drew ?_))); (case side6 => exact HC0_3.out); rintro e w11 ⟨rfl, hb⟩; refine ⟨_, rfl, ?_⟩; have e6 := Aside0.mk (zan_ a5.out hb); have e7 := Aside0.mk (zaj_ (HB.out) hb); clear a5; clear HB; have a5 := e6; have HB := e7; clear e6 e7; (try clear hb); (try clear hb2); (try clear hk); (try clear hi)))
      go_meet
      case rel => exact ⟨_, (true), (by first | rfl | (simp; done) | (simp [*]; done)), H', ⟨by first | omega | exact Nat.le_refl _⟩, ⟨a5.out⟩, ⟨HB.out⟩⟩
    subst c9
    rw [if_pos rfl] at H
    replace H := Option.bind_eq_some_iff.mp H
    obtain ⟨m4, B4, H⟩ := H
    replace H : (zaH_.j0 k a1 (!m4) b7 b3 b4 b5) = some r := H
    have Z5 := Aside0.mk B4
    clear B4
    have H' := Aside0.mk H
    clear H
    have E2 : w7.cell? ⟨b6, 0, none⟩ = some (.int .i64 b7) := (zab_ a5.out 0).trans rfl
    have E3 : w7.cell? ⟨b6, 1, none⟩ = some (.slice g1 b3.length g2) := (zab_ a5.out 1).trans rfl
    have E4 : w7.cell? ⟨b6, 2, none⟩ = some (.slice g3 b4.length g4) := (zab_ a5.out 2).trans rfl
    have E5 : w7.cell? ⟨b6, 3, none⟩ = some (.slice g5 b5.length g6) := (zab_ a5.out 3).trans rfl
    have E6 := zaa_ a5.out 0
    have E7 := zaa_ a5.out 1
    have E8 := zaa_ a5.out 2
    have E9 := zaa_ a5.out 3
    go_wp2_with (first | ((with_reducible refine zar_ (f := 22) rfl ?_); refine goesL_ (some 18) rfl rfl Tryd.func22 (by kernel_rfl) rfl #[.agg #[.int .i64 b7, .slice g1 b3.length g2, .slice g3 b4.length g4, .slice g5 b5.length g6]] rfl (by (try simp only [List.map_toArray, List.map_cons, List.map_nil]); first | done | rfl | (simp only [List.length_drop, List.length_take]; rfl)) ?_; (with_reducible refine (sl_few.calls k b7 _ _ b3 _ _ b4 _ _ b5 true _ ?side1 ?side2 ?side3 ?side4 ?side5 ?side6 A8.out).mono ?_); (case side1 => repeat (first | exact (Kd.zaB_ HR0_1.out HB.out) | (with_reducible refine Kd.zaI_ ?_ _) | (with_reducible refine Kd.zaJ_ ?_ _) | (with_reducible refine Kd.C_drew ?_))); (case side2 => exact HC0_1.out); (case side3 => repeat (first | exact (Kd.zaB_ HR0_2.out HB.out) | (with_reducible refine Kd.zaI_ ?_ _) | (with_reducible refine Kd.zaJ_ ?_ _) | (with_reducible refine Kd.C_drew ?_))); (case side4 => exact HC0_2.out); (case side5 => repeat (first | exact (Kd.zaB_ HR0_3.out HB.out) | (with_reducible refine Kd.zaI_ ?_ _) | (with_reducible refine Kd.zaJ_ ?_ _) | (with_reducible refine Kd.C_drew ?_))); (case side6 => exact HC0_3.out); rintro e F0 ⟨rfl, hb⟩; refine ⟨_, rfl, ?_⟩; have e6 := Aside0.mk (zan_ a5.out hb); have e7 := Aside0.mk (zaj_ (HB.out) hb); clear a5; clear HB; have a5 := e6; have HB := e7; clear e6 e7; (try clear hb); (try clear hb2); (try clear hk); (try clear hi); have F1 : F0.cell? ⟨b6, 0, none⟩ = some (.int .i64 b7) := (zab_ a5.out 0).trans rfl; have F2 : F0.cell? ⟨b6, 1, none⟩ = some (.slice g1 b3.length g2) := (zab_ a5.out 1).trans rfl; have F3 : F0.cell? ⟨b6, 2, none⟩ = some (.slice g3 b4.length g4) := (zab_ a5.out 2).trans rfl; have F4 : F0.cell? ⟨b6, 3, none⟩ = some (.slice g5 b5.length g6) := (zab_ a5.out 3).trans rfl; have F5 := zaa_ a5.out 0; have F6 := zaa_ a5.out 1; have F7 := zaa_ a5.out 2; have F8 := zaa_ a5.out 3) | (go_at_call 23; (with_reducible refine (sr_OK.calls k b7 _ _ b3 _ _ b4 _ _ b5 m4 _ ?side1 ?side2 ?side3 ?side4 ?side5 ?side6 Z5.out).mono ?_); (case side1 => repeat (first | exact (Kd.zaB_ HR0_1.out HB.out) | (with_reducible refine Kd.zaI_ ?_ _) | (with_reducible refine Kd.zaJ_ ?_ _) | (with_reducible refine Kd.C_drew ?_))); (case side2 => exact HC0_1.out); (case side3 => repeat (first | exact (Kd.zaB_ HR0_2.out HB.out) | (with_reducible refine Kd.zaI_ ?_ _) | (with_reducible refine Kd.zaJ_ ?_ _) | (with_reducible refine Kd.C_drew ?_))); (case side4 => exact HC0_2.out); (case side5 => repeat (first | exact (Kd.zaB_ HR0_3.out HB.out) | (with_reducible refine Kd.zaI_ ?_ _) | (with_reducible refine Kd.zaJ_ ?_ _) | (with_reducible refine Kd.C_drew ?_))); (case side6 => exact HC0_3.out); rintro e w16 ⟨rfl, hb⟩; have e6 := Aside0.mk (zan_ a5.out hb); have e7 := Aside0.mk (zaj_ (HB.out) hb); clear a5; clear HB; have a5 := e6; have HB := e7; clear e6 e7; (try clear hb); (try clear hb2); (try clear hk); (try clear hi)))
    go_meet
    case rel => exact ⟨_, (!m4), (by first | rfl | (simp; done) | (simp [*]; done)), H', ⟨by first | omega | exact Nat.le_refl _⟩, ⟨a5.out⟩, ⟨HB.out⟩⟩
  clear HC5
  obtain ⟨kq, p8, rfl, HA, n9, a5, HB⟩ := hcut
  cases kq with
  | zero => exact absurd HA.out (by simp [zaH_.j0])
  | succ F9 => ?_
  have H := HA.out
  clear HA
  simp only [zaH_.j0] at H
  by_cases G0 : p8 = true
  · subst G0
    rw [if_pos rfl] at H
    obtain rfl := Option.some.inj H
    go_wp2
    go_ret
    exact ⟨by first | rfl | (simp [zal_, zak_] <;> rfl) | (simp [*, zal_, zak_] <;> rfl), HB.out⟩
  replace G0 := Bool.eq_false_iff.mpr G0
  subst G0
  rw [if_neg (show ¬ (false = true) by decide)] at H
  replace H := Option.bind_eq_some_iff.mp H
  obtain ⟨a9, B5, H⟩ := H
  replace H : (zaH_.l0 F9 a1 a9 (⟨#[]⟩ : ByteArray) 0 0 b7 b3 b4 b5) = some r := H
  have Z6 := Aside0.mk B5
  clear B5
  have H' := Aside0.mk H
  clear H
  have G1 : wc.cell? ⟨b6, 0, none⟩ = some (.int .i64 b7) := (zab_ a5.out 0).trans rfl
  have G2 : wc.cell? ⟨b6, 1, none⟩ = some (.slice g1 b3.length g2) := (zab_ a5.out 1).trans rfl
  have G3 : wc.cell? ⟨b6, 2, none⟩ = some (.slice g3 b4.length g4) := (zab_ a5.out 2).trans rfl
  have G4 : wc.cell? ⟨b6, 3, none⟩ = some (.slice g5 b5.length g6) := (zab_ a5.out 3).trans rfl
  have G5 := zaa_ a5.out 0
  have G6 := zaa_ a5.out 1
  have G7 := zaa_ a5.out 2
  have G8 := zaa_ a5.out 3
  go_wp2_with (first | ((with_reducible refine zar_ (f := 24) rfl ?_); refine goesL_ (some 26) rfl rfl Tryd.func24 (by kernel_rfl) rfl #[.agg #[.int .i64 b7, .slice g1 b3.length g2, .slice g3 b4.length g4, .slice g5 b5.length g6]] rfl (by (try simp only [List.map_toArray, List.map_cons, List.map_nil]); first | done | rfl | (simp only [List.length_drop, List.length_take]; rfl)) ?_; (with_reducible refine (zau_.calls F9 b7 _ _ b3 _ _ b4 _ _ b5 a9 _ ?side1 ?side2 ?side3 ?side4 ?side5 ?side6 ?side7 Z6.out).mono ?_); (case side1 => repeat (first | exact (Kd.zaB_ HR0_1.out HB.out) | (with_reducible refine Kd.zaI_ ?_ _) | (with_reducible refine Kd.zaJ_ ?_ _) | (with_reducible refine Kd.C_drew ?_))); (case side2 => exact HC0_1.out); (case side3 => repeat (first | exact (Kd.zaB_ HR0_2.out HB.out) | (with_reducible refine Kd.zaI_ ?_ _) | (with_reducible refine Kd.zaJ_ ?_ _) | (with_reducible refine Kd.C_drew ?_))); (case side4 => exact HC0_2.out); (case side5 => repeat (first | exact (Kd.zaB_ HR0_3.out HB.out) | (with_reducible refine Kd.zaI_ ?_ _) | (with_reducible refine Kd.zaJ_ ?_ _) | (with_reducible refine Kd.C_drew ?_))); (case side6 => exact HC0_3.out); (case side7 => first | exact Glob.below HG.out (HB.out) | (repeat (first | exact Glob.below HG.out HB.out | (with_reducible refine Glob.alloc ?_ _) | (with_reducible refine Glob.drewN ?_ _) | (with_reducible refine Glob.drew ?_)))); rintro e w20 ⟨rfl, hb⟩; refine ⟨_, rfl, ?_⟩; have e6 := Aside0.mk (zan_ a5.out hb); have e7 := Aside0.mk (zaj_ (HB.out) hb); clear a5; clear HB; have a5 := e6; have HB := e7; clear e6 e7; (try clear hb); (try clear hb2); (try clear hk); (try clear hi)))
  go_loopg [6, 7, 8] F9 (fun kq v6 v7 v8 w' => ∃ (e2 : ByteArray) (h2 : Int) (a6 : Int), v6 = .string e2 ∧ v7 = .int .i64 h2 ∧ v8 = .int .i64 a6 ∧ Aside0 (zaH_.l0 kq a1 a9 e2 h2 a6 b7 b3 b4 b5 = some r) ∧ Aside0 (kq ≤ F9) ∧ Aside0 (w'.heap[b6]? = some (.cells #[.int .i64 b7, (.slice g1 b3.length g2), (.slice g3 b4.length g4), (.slice g5 b5.length g6)] 37 (0, 0))) ∧ Aside0 (Below w.heap.size w w'))
  case atStart => exact ⟨((⟨#[]⟩ : ByteArray)), (0), (0), (by first | rfl | (simp; done) | (simp [*]; done)), (by first | rfl | (simp; done) | (simp [*]; done)), (by first | rfl | (simp; done) | (simp [*]; done)), H', ⟨Nat.le_refl _⟩, ⟨a5.out⟩, ⟨HB.out⟩⟩
  clear H'
  obtain ⟨e2, h2, a6, rfl, rfl, rfl, HA, o0, a5, HB⟩ := hrel
  cases gk with
  | zero => exact absurd HA.out (by simp [zaH_.l0])
  | succ k2 => ?_
  have H := HA.out
  clear HA
  simp only [zaH_.l0] at H
  by_cases B3 : a6 < (a9.size : Int)
  rotate_left
  · rw [if_neg B3] at H
    have B6 : decide (a6 < (a9.size : Int)) = false := decide_eq_false B3
    clear B3
    replace H := Option.bind_eq_some_iff.mp H
    obtain ⟨⟨d9, d8, e0, e3, o5, o6⟩, B7, H⟩ := H
    replace H : ((zao_.f k2 e2).bind fun d2 => (if o6 = 0 then (if o5 = h2 then ((zaP_.f k2 d9 d8 e0 e3 b7 b3 b4 b5).bind fun n7 => (if n7 = true then (if d2.2.2.2.2.2 = 0 then ((zaP_.f k2 d2.1 d2.2.1 d2.2.2.1 d2.2.2.2.1 b7 b3 b4 b5).bind fun n2 => (if n2 = true then ((zau_.f k2 d2.1 d2.2.1 d2.2.2.1 d2.2.2.2.1).bind fun h0 => (if h0.toList = a9.toList then (some true) else (if d2.2.2.2.2.2 = 11 then (some (decide ((e2.size : Int) > 2000))) else (some false)))) else (if d2.2.2.2.2.2 = 11 then (some (decide ((e2.size : Int) > 2000))) else (some false)))) else (if d2.2.2.2.2.2 = 11 then (some (decide ((e2.size : Int) > 2000))) else (some false))) else (some false))) else (some false)) else (some false))) = some r := H
    have Y2 := Aside0.mk B7
    clear B7
    replace H := Option.bind_eq_some_iff.mp H
    obtain ⟨⟨d6, d1, d7, e1, B8, e8⟩, B9, H⟩ := H
    replace H : (if o6 = 0 then (if o5 = h2 then ((zaP_.f k2 d9 d8 e0 e3 b7 b3 b4 b5).bind fun n7 => (if n7 = true then (if e8 = 0 then ((zaP_.f k2 d6 d1 d7 e1 b7 b3 b4 b5).bind fun n2 => (if n2 = true then ((zau_.f k2 d6 d1 d7 e1).bind fun h0 => (if h0.toList = a9.toList then (some true) else (if e8 = 11 then (some (decide ((e2.size : Int) > 2000))) else (some false)))) else (if e8 = 11 then (some (decide ((e2.size : Int) > 2000))) else (some false)))) else (if e8 = 11 then (some (decide ((e2.size : Int) > 2000))) else (some false))) else (some false))) else (some false)) else (some false)) = some r := H
    have Y3 := Aside0.mk B9
    clear B9
    by_cases C0 : o6 = 0
    rotate_left
    · rw [if_neg C0] at H
      exact absurd ((Option.some.inj H).trans hT_.out) (by simp)
    rw [if_pos C0] at H
    have Y4 : (o6 == 0) = true := beq_iff_eq.mpr C0
    have Y5 : (o6 != 0) = false := bne_eq_false_iff_eq.mpr C0
    clear C0
    by_cases C1 : o5 = h2
    rotate_left
    · rw [if_neg C1] at H
      exact absurd ((Option.some.inj H).trans hT_.out) (by simp)
    rw [if_pos C1] at H
    have Y6 : (o5 == h2) = true := beq_iff_eq.mpr C1
    have Y7 : (o5 != h2) = false := bne_eq_false_iff_eq.mpr C1
    clear C1
    replace H := Option.bind_eq_some_iff.mp H
    obtain ⟨n7, C2, H⟩ := H
    replace H : (if n7 = true then (if e8 = 0 then ((zaP_.f k2 d6 d1 d7 e1 b7 b3 b4 b5).bind fun n2 => (if n2 = true then ((zau_.f k2 d6 d1 d7 e1).bind fun h0 => (if h0.toList = a9.toList then (some true) else (if e8 = 11 then (some (decide ((e2.size : Int) > 2000))) else (some false)))) else (if e8 = 11 then (some (decide ((e2.size : Int) > 2000))) else (some false)))) else (if e8 = 11 then (some (decide ((e2.size : Int) > 2000))) else (some false))) else (some false)) = some r := H
    have Y8 := Aside0.mk C2
    clear C2
    by_cases G9 : n7 = true
    rotate_left
    · replace G9 := Bool.eq_false_iff.mpr G9
      subst G9
      rw [if_neg (show ¬ (false = true) by decide)] at H
      exact absurd ((Option.some.inj H).trans hT_.out) (by simp)
    subst G9
    rw [if_pos rfl] at H
    by_cases z1 : e8 = 0
    rotate_left
    · rw [if_neg z1] at H
      have q4 : (e8 == 0) = false := beq_eq_false_iff_ne.mpr z1
      have C3 : (e8 != 0) = true := bne_iff_ne.mpr z1
      by_cases C4 : e8 = 11
      rotate_left
      · rw [if_neg C4] at H
        exact absurd ((Option.some.inj H).trans hT_.out) (by simp)
      rw [if_pos C4] at H
      have Y9 : (e8 == 11) = true := beq_iff_eq.mpr C4
      have Z0 : (e8 != 11) = false := bne_eq_false_iff_eq.mpr C4
      clear C4
      obtain rfl := Option.some.inj H
      go_wp2_with (first | ((with_reducible refine zar_ (f := 25) rfl ?_); refine goesL_ (some 88) rfl rfl Tryd.func25 (by kernel_rfl) rfl #[.string a9] rfl (by (try simp only [List.map_toArray, List.map_cons, List.map_nil]); first | done | rfl | (simp only [List.length_drop, List.length_take]; rfl)) ?_; (with_reducible refine (zao_.calls k2 a9 d9 d8 e0 e3 o5 o6 _ ?side1 Y2.out).mono ?_); (case side1 => first | exact Glob.below HG.out (HB.out) | (repeat (first | exact Glob.below HG.out HB.out | (with_reducible refine Glob.alloc ?_ _) | (with_reducible refine Glob.drewN ?_ _) | (with_reducible refine Glob.drew ?_)))); rintro e w30 ⟨R0, R1, R2, rfl, o7, o8, q1, hb⟩; refine ⟨_, rfl, ?_⟩; have e6 := Aside0.mk (Kd.zbp_ o7 (zam_ (HB.out))); have e7 := Aside0.mk (Kd.zbp_ o8 (zam_ (HB.out))); have g7 := Aside0.mk (Kd.S_lower q1 (zam_ (HB.out))); have g8 := Aside0.mk (zan_ a5.out hb); have h1 := Aside0.mk (zaj_ (HB.out) hb); clear a5; clear HB; have b8 := e6; have b9 := e7; have c0 := g7; have a5 := g8; have HB := h1; clear e6 e7 g7 g8 h1; (try clear hb); (try clear hb2); (try clear hk); (try clear hi); (try clear o7); (try clear o8); (try clear q1)) | ((with_reducible refine zaL_ (N := 9) rfl ?_); (try (refine zaF_ (by rfl) ?_; dsimp only)); refine zaD_ ?hg (N := 9) ?hd (cs := #[.int .i64 0, .slice none 0 0, .slice none 0 0, .slice none 0 0]) (t := 37) ?hr ?_; (case hd => rfl); (case hg => rfl); (case hr => first | (go_simp; done) | (go_simp; rfl)); intro a8 hg H0 hbox hb; have e6 := Aside0.mk (Kd.zaU_ (by (with_reducible repeat (first | apply Kd.zav_ | apply Kd.zaw_ | apply Kd.R_drew)); exact b8.out) hb); have e7 := Aside0.mk (Kd.zaU_ (by (with_reducible repeat (first | apply Kd.zav_ | apply Kd.zaw_ | apply Kd.R_drew)); exact b9.out) hb); have g7 := Aside0.mk (Kd.zbu_ (by (with_reducible repeat (first | apply Kd.zbg_ | apply Kd.zbi_ | apply Kd.S_drew)); exact c0.out) hb); have g8 := Aside0.mk (zan_ a5.out hb); have h1 := Aside0.mk (zaj_ (HB.out) hb); have j1 := Aside0.mk (hbox); have h5 := Aside0.mk ((by rw [hg]; exact (zam_ (HB.out)) : w.heap.size ≤ a8)); have j4 := h5; have j5 := Aside0.mk ((by rw [hg]; exact Nat.ne_of_lt (blk_lt a5.out) : b6 ≠ a8)); have m5 := Aside0.mk ((by rw [hg]; exact Nat.ne_of_gt (blk_lt a5.out) : a8 ≠ b6)); clear b8; clear b9; clear c0; clear a5; clear HB; have b8 := e6; have b9 := e7; have c0 := g7; have a5 := g8; have HB := h1; have b0 := j1; have C5 := h5; have e4 := j4; have c7 := j5; have k4 := m5; clear e6 e7 g7 g8 h1 j1 h5 j4 j5 m5; clear hb hbox hg; have hnb32 := k4.out; have hnc32 := c7.out; have H1 : H0.cell? ⟨a8, 0, none⟩ = some (.int .i64 0) := (zab_ b0.out 0).trans rfl; have H2 : H0.cell? ⟨a8, 1, none⟩ = some (.slice none 0 0) := (zab_ b0.out 1).trans rfl; have H3 : H0.cell? ⟨a8, 2, none⟩ = some (.slice none 0 0) := (zab_ b0.out 2).trans rfl; have H4 : H0.cell? ⟨a8, 3, none⟩ = some (.slice none 0 0) := (zab_ b0.out 3).trans rfl; have H5 := zaa_ b0.out 0; have H6 := zaa_ b0.out 1; have H7 := zaa_ b0.out 2; have H8 := zaa_ b0.out 3; obtain ⟨j6, h6, R3⟩ := Kd.zbf_ b8.out; subst R3; obtain ⟨k5, j7, R4⟩ := Kd.zbf_ b9.out; subst R4; obtain ⟨m6, m1, R5⟩ := Kd.S_slice c0.out; subst R5) | ((with_reducible refine zar_ (f := 25) rfl ?_); refine goesL_ (some 94) rfl rfl Tryd.func25 (by kernel_rfl) rfl #[.string e2] rfl (by (try simp only [List.map_toArray, List.map_cons, List.map_nil]); first | done | rfl | (simp only [List.length_drop, List.length_take]; rfl)) ?_; (with_reducible refine (zao_.calls k2 e2 d6 d1 d7 e1 B8 e8 _ ?side1 Y3.out).mono ?_); (case side1 => first | exact Glob.below HG.out (by repeat (first | (with_reducible first | exact HB.out | apply zah_ | apply zae_ | apply zag_ | refine zai_ ?_ e5.out | refine zai_ ?_ e4.out) | exact HB.out)) | (repeat (first | exact Glob.below HG.out HB.out | (with_reducible refine Glob.alloc ?_ _) | (with_reducible refine Glob.drewN ?_ _) | (with_reducible refine Glob.drew ?_)))); rintro e w37 ⟨R6, R7, R8, rfl, o7, o8, q1, hb⟩; refine ⟨_, rfl, ?_⟩; have e6 := Aside0.mk (Kd.R_mono (Kd.R_told (Kd.R_told (Kd.R_old (by (with_reducible repeat (first | apply Kd.zav_ | apply Kd.zaw_ | apply Kd.R_drew)); exact (Kd.R_mono (Kd.R_far (p := ⟨a8, 3, none⟩) (Kd.R_far (p := ⟨a8, 2, none⟩) (Kd.R_far (p := ⟨a8, 1, none⟩) (Kd.R_far (p := ⟨a8, 0, none⟩) (Kd.zaV_ b8.out b0.out (by decide)) (fun _ hk => hk.2) (.int .i64 d9)) (fun _ hk => hk.2) (.slice j6 d8.length h6)) (fun _ hk => hk.2) (.slice k5 e0.length j7)) (fun _ hk => hk.2) (.slice m6 e3.length m1)) (fun _ h_ => h_.1))) hb) (Kd.R_base o7)) (Kd.R_base o8)) (fun _ h_ => h_.1)); have e7 := Aside0.mk (Kd.R_mono (Kd.R_told (Kd.R_told (Kd.R_old (by (with_reducible repeat (first | apply Kd.zav_ | apply Kd.zaw_ | apply Kd.R_drew)); exact (Kd.R_mono (Kd.R_far (p := ⟨a8, 3, none⟩) (Kd.R_far (p := ⟨a8, 2, none⟩) (Kd.R_far (p := ⟨a8, 1, none⟩) (Kd.R_far (p := ⟨a8, 0, none⟩) (Kd.zaV_ b9.out b0.out (by decide)) (fun _ hk => hk.2) (.int .i64 d9)) (fun _ hk => hk.2) (.slice j6 d8.length h6)) (fun _ hk => hk.2) (.slice k5 e0.length j7)) (fun _ hk => hk.2) (.slice m6 e3.length m1)) (fun _ h_ => h_.1))) hb) (Kd.R_base o7)) (Kd.R_base o8)) (fun _ h_ => h_.1)); have g7 := Aside0.mk (Kd.S_elder' (by (with_reducible repeat (first | apply Kd.zbg_ | apply Kd.zbi_ | apply Kd.S_drew)); exact (Kd.S_mono (Kd.S_far (p := ⟨a8, 3, none⟩) (Kd.S_far (p := ⟨a8, 2, none⟩) (Kd.S_far (p := ⟨a8, 1, none⟩) (Kd.S_far (p := ⟨a8, 0, none⟩) (Kd.zbB_ c0.out b0.out (by decide)) (fun _ hk => hk.2) (.int .i64 d9)) (fun _ hk => hk.2) (.slice j6 d8.length h6)) (fun _ hk => hk.2) (.slice k5 e0.length j7)) (fun _ hk => hk.2) (.slice m6 e3.length m1)) (fun _ h_ => h_.1))) (Kd.S_base q1) hb); have g8 := Aside0.mk (Kd.zbp_ (Kd.R_new' (Kd.R_new' o7 (Kd.R_lt (by (with_reducible repeat (first | apply Kd.zav_ | apply Kd.zaw_ | apply Kd.R_drew)); exact (Kd.R_mono (Kd.R_far (p := ⟨a8, 3, none⟩) (Kd.R_far (p := ⟨a8, 2, none⟩) (Kd.R_far (p := ⟨a8, 1, none⟩) (Kd.R_far (p := ⟨a8, 0, none⟩) (Kd.zaV_ b8.out b0.out (by decide)) (fun _ hk => hk.2) (.int .i64 d9)) (fun _ hk => hk.2) (.slice j6 d8.length h6)) (fun _ hk => hk.2) (.slice k5 e0.length j7)) (fun _ hk => hk.2) (.slice m6 e3.length m1)) (fun _ h_ => h_.1))))) (Kd.R_lt (by (with_reducible repeat (first | apply Kd.zav_ | apply Kd.zaw_ | apply Kd.R_drew)); exact (Kd.R_mono (Kd.R_far (p := ⟨a8, 3, none⟩) (Kd.R_far (p := ⟨a8, 2, none⟩) (Kd.R_far (p := ⟨a8, 1, none⟩) (Kd.R_far (p := ⟨a8, 0, none⟩) (Kd.zaV_ b9.out b0.out (by decide)) (fun _ hk => hk.2) (.int .i64 d9)) (fun _ hk => hk.2) (.slice j6 d8.length h6)) (fun _ hk => hk.2) (.slice k5 e0.length j7)) (fun _ hk => hk.2) (.slice m6 e3.length m1)) (fun _ h_ => h_.1))))) (zam_ (by repeat (first | (with_reducible first | exact HB.out | apply zah_ | apply zae_ | apply zag_ | refine zai_ ?_ e5.out | refine zai_ ?_ e4.out) | exact HB.out)))); have h1 := Aside0.mk (Kd.zbp_ (Kd.R_new' (Kd.R_new' o8 (Kd.R_lt (by (with_reducible repeat (first | apply Kd.zav_ | apply Kd.zaw_ | apply Kd.R_drew)); exact (Kd.R_mono (Kd.R_far (p := ⟨a8, 3, none⟩) (Kd.R_far (p := ⟨a8, 2, none⟩) (Kd.R_far (p := ⟨a8, 1, none⟩) (Kd.R_far (p := ⟨a8, 0, none⟩) (Kd.zaV_ b8.out b0.out (by decide)) (fun _ hk => hk.2) (.int .i64 d9)) (fun _ hk => hk.2) (.slice j6 d8.length h6)) (fun _ hk => hk.2) (.slice k5 e0.length j7)) (fun _ hk => hk.2) (.slice m6 e3.length m1)) (fun _ h_ => h_.1))))) (Kd.R_lt (by (with_reducible repeat (first | apply Kd.zav_ | apply Kd.zaw_ | apply Kd.R_drew)); exact (Kd.R_mono (Kd.R_far (p := ⟨a8, 3, none⟩) (Kd.R_far (p := ⟨a8, 2, none⟩) (Kd.R_far (p := ⟨a8, 1, none⟩) (Kd.R_far (p := ⟨a8, 0, none⟩) (Kd.zaV_ b9.out b0.out (by decide)) (fun _ hk => hk.2) (.int .i64 d9)) (fun _ hk => hk.2) (.slice j6 d8.length h6)) (fun _ hk => hk.2) (.slice k5 e0.length j7)) (fun _ hk => hk.2) (.slice m6 e3.length m1)) (fun _ h_ => h_.1))))) (zam_ (by repeat (first | (with_reducible first | exact HB.out | apply zah_ | apply zae_ | apply zag_ | refine zai_ ?_ e5.out | refine zai_ ?_ e4.out) | exact HB.out)))); have j1 := Aside0.mk (Kd.S_lower (Kd.S_new' q1 (Kd.S_lt (by (with_reducible repeat (first | apply Kd.zbg_ | apply Kd.zbi_ | apply Kd.S_drew)); exact (Kd.S_mono (Kd.S_far (p := ⟨a8, 3, none⟩) (Kd.S_far (p := ⟨a8, 2, none⟩) (Kd.S_far (p := ⟨a8, 1, none⟩) (Kd.S_far (p := ⟨a8, 0, none⟩) (Kd.zbB_ c0.out b0.out (by decide)) (fun _ hk => hk.2) (.int .i64 d9)) (fun _ hk => hk.2) (.slice j6 d8.length h6)) (fun _ hk => hk.2) (.slice k5 e0.length j7)) (fun _ hk => hk.2) (.slice m6 e3.length m1)) (fun _ h_ => h_.1))))) (zam_ (by repeat (first | (with_reducible first | exact HB.out | apply zah_ | apply zae_ | apply zag_ | refine zai_ ?_ e5.out | refine zai_ ?_ e4.out) | exact HB.out)))); have h5 := Aside0.mk (zan_ (g := b6) (o := .cells #[.int .i64 b7, .slice g1 b3.length g2, .slice g3 b4.length g4, .slice g5 b5.length g6] 37 (0, 0)) (by (with_reducible repeat (first | refine zac_ ?_ _ | refine zaf_ ?_ | refine zad_ ?_ _)); refine zaG_ ?_ c7.out _; (with_reducible repeat (first | refine zac_ ?_ _ | refine zaf_ ?_ | refine zad_ ?_ _)); refine zaG_ ?_ c7.out _; (with_reducible repeat (first | refine zac_ ?_ _ | refine zaf_ ?_ | refine zad_ ?_ _)); refine zaG_ ?_ c7.out _; (with_reducible repeat (first | refine zac_ ?_ _ | refine zaf_ ?_ | refine zad_ ?_ _)); refine zaG_ ?_ c7.out _; (with_reducible repeat (first | refine zac_ ?_ _ | refine zaf_ ?_ | refine zad_ ?_ _)); exact a5.out) hb); have j4 := Aside0.mk (zan_ (g := a8) (o := .cells #[.int .i64 d9, .slice j6 d8.length h6, .slice k5 e0.length j7, .slice m6 e3.length m1] 37 (0, 0)) (by (with_reducible repeat (first | refine zac_ ?_ _ | refine zaf_ ?_ | refine zad_ ?_ _)); refine zat_ (cs := #[.int .i64 d9, .slice j6 d8.length h6, .slice k5 e0.length j7, .slice none 0 0]) ?_ 3 _ rfl; (with_reducible repeat (first | refine zac_ ?_ _ | refine zaf_ ?_ | refine zad_ ?_ _)); refine zat_ (cs := #[.int .i64 d9, .slice j6 d8.length h6, .slice none 0 0, .slice none 0 0]) ?_ 2 _ rfl; (with_reducible repeat (first | refine zac_ ?_ _ | refine zaf_ ?_ | refine zad_ ?_ _)); refine zat_ (cs := #[.int .i64 d9, .slice none 0 0, .slice none 0 0, .slice none 0 0]) ?_ 1 _ rfl; (with_reducible repeat (first | refine zac_ ?_ _ | refine zaf_ ?_ | refine zad_ ?_ _)); refine zat_ (cs := #[.int .i64 0, .slice none 0 0, .slice none 0 0, .slice none 0 0]) ?_ 0 _ rfl; (with_reducible repeat (first | refine zac_ ?_ _ | refine zaf_ ?_ | refine zad_ ?_ _)); exact b0.out) hb); have j5 := Aside0.mk (zaj_ (by repeat (first | (with_reducible first | exact HB.out | apply zah_ | apply zae_ | apply zag_ | refine zai_ ?_ e5.out | refine zai_ ?_ e4.out) | exact HB.out)) hb); clear b8; clear b9; clear c0; clear a5; clear b0; clear HB; have b8 := e6; have b9 := e7; have c0 := g7; have d3 := g8; have d4 := h1; have d5 := j1; have a5 := h5; have b0 := j4; have HB := j5; clear e6 e7 g7 g8 h1 j1 h5 j4 j5; (try clear hb); (try clear hb2); (try clear hk); (try clear hi); (try clear o7); (try clear o8); (try clear q1)) | ((with_reducible refine zaL_ (N := 12) rfl ?_); (try (refine zaF_ (by rfl) ?_; dsimp only)); refine zaD_ ?hg (N := 12) ?hd (cs := #[.int .i64 0, .slice none 0 0, .slice none 0 0, .slice none 0 0]) (t := 37) ?hr ?_; (case hd => rfl); (case hg => rfl); (case hr => first | (go_simp; done) | (go_simp; rfl)); intro a7 hg q2 hbox hb; have e6 := Aside0.mk (Kd.zaU_ (by (with_reducible repeat (first | apply Kd.zav_ | apply Kd.zaw_ | apply Kd.R_drew)); exact b8.out) hb); have e7 := Aside0.mk (Kd.zaU_ (by (with_reducible repeat (first | apply Kd.zav_ | apply Kd.zaw_ | apply Kd.R_drew)); exact b9.out) hb); have g7 := Aside0.mk (Kd.zbu_ (by (with_reducible repeat (first | apply Kd.zbg_ | apply Kd.zbi_ | apply Kd.S_drew)); exact c0.out) hb); have g8 := Aside0.mk (Kd.zaU_ (by (with_reducible repeat (first | apply Kd.zav_ | apply Kd.zaw_ | apply Kd.R_drew)); exact d3.out) hb); have h1 := Aside0.mk (Kd.zaU_ (by (with_reducible repeat (first | apply Kd.zav_ | apply Kd.zaw_ | apply Kd.R_drew)); exact d4.out) hb); have j1 := Aside0.mk (Kd.zbu_ (by (with_reducible repeat (first | apply Kd.zbg_ | apply Kd.zbi_ | apply Kd.S_drew)); exact d5.out) hb); have h5 := Aside0.mk (zan_ a5.out hb); have j4 := Aside0.mk (zan_ b0.out hb); have j5 := Aside0.mk (zaj_ (HB.out) hb); have m5 := Aside0.mk (hbox); have o9 := Aside0.mk ((by rw [hg]; exact (zam_ (HB.out)) : w.heap.size ≤ a7)); have q5 := o9; have q6 := Aside0.mk ((by rw [hg]; exact Nat.ne_of_lt (blk_lt a5.out) : b6 ≠ a7)); have q7 := Aside0.mk ((by rw [hg]; exact Nat.ne_of_gt (blk_lt a5.out) : a7 ≠ b6)); have q8 := Aside0.mk ((by rw [hg]; exact Nat.ne_of_lt (blk_lt b0.out) : a8 ≠ a7)); have q9 := Aside0.mk ((by rw [hg]; exact Nat.ne_of_gt (blk_lt b0.out) : a7 ≠ a8)); clear b8; clear b9; clear c0; clear d3; clear d4; clear d5; clear a5; clear b0; clear HB; have b8 := e6; have b9 := e7; have c0 := g7; have d3 := g8; have d4 := h1; have d5 := j1; have a5 := h5; have b0 := j4; have HB := j5; have b1 := m5; have C6 := o9; have j8 := q5; have c8 := q6; have k6 := q7; have d0 := q8; have k7 := q9; clear e6 e7 g7 g8 h1 j1 h5 j4 j5 m5 o9 q5 q6 q7 q8 q9; clear hb hbox hg; have hnb39 := k6.out; have hnc39 := c8.out; have hnb40 := k7.out; have hnc40 := d0.out; have H9 : q2.cell? ⟨a7, 0, none⟩ = some (.int .i64 0) := (zab_ b1.out 0).trans rfl; have I0 : q2.cell? ⟨a7, 1, none⟩ = some (.slice none 0 0) := (zab_ b1.out 1).trans rfl; have I1 : q2.cell? ⟨a7, 2, none⟩ = some (.slice none 0 0) := (zab_ b1.out 2).trans rfl; have I2 : q2.cell? ⟨a7, 3, none⟩ = some (.slice none 0 0) := (zab_ b1.out 3).trans rfl; have I3 := zaa_ b1.out 0; have I4 := zaa_ b1.out 1; have I5 := zaa_ b1.out 2; have I6 := zaa_ b1.out 3; obtain ⟨j9, k0, R9⟩ := Kd.zbf_ d3.out; subst R9; obtain ⟨k8, k9, T0⟩ := Kd.zbf_ d4.out; subst T0; obtain ⟨m7, m8, T1⟩ := Kd.S_slice d5.out; subst T1; have I7 : q2.cell? ⟨a8, 0, none⟩ = some (.int .i64 d9) := (zab_ b0.out 0).trans rfl; have I8 : q2.cell? ⟨a8, 1, none⟩ = some (.slice j6 d8.length h6) := (zab_ b0.out 1).trans rfl; have I9 : q2.cell? ⟨a8, 2, none⟩ = some (.slice k5 e0.length j7) := (zab_ b0.out 2).trans rfl; have J0 : q2.cell? ⟨a8, 3, none⟩ = some (.slice m6 e3.length m1) := (zab_ b0.out 3).trans rfl; have J1 := zaa_ b0.out 0; have J2 := zaa_ b0.out 1; have J3 := zaa_ b0.out 2; have J4 := zaa_ b0.out 3; have J5 : q2.cell? ⟨b6, 0, none⟩ = some (.int .i64 b7) := (zab_ a5.out 0).trans rfl; have J6 : q2.cell? ⟨b6, 1, none⟩ = some (.slice g1 b3.length g2) := (zab_ a5.out 1).trans rfl; have J7 : q2.cell? ⟨b6, 2, none⟩ = some (.slice g3 b4.length g4) := (zab_ a5.out 2).trans rfl; have J8 : q2.cell? ⟨b6, 3, none⟩ = some (.slice g5 b5.length g6) := (zab_ a5.out 3).trans rfl; have J9 := zaa_ a5.out 0; have K0 := zaa_ a5.out 1; have K1 := zaa_ a5.out 2; have K2 := zaa_ a5.out 3) | (go_at_call 26; (with_reducible refine (zaP_.calls k2 d9 _ _ d8 _ _ e0 _ _ e3 b7 _ _ b3 _ _ b4 _ _ b5 true _ ?side1 ?side2 ?side3 ?side4 ?side5 ?side6 ?side7 ?side8 ?side9 ?side10 ?side11 ?side12 Y8.out).mono ?_); (case side1 => refine (Kd.zaS_ (e := 3) (base := w.heap.size) (ok := fun k_ => ((some k_ ≠ (.slice k5 e0.length j7 : Value).ownBlock ∧ some k_ ≠ (.slice j9 d1.length k0 : Value).ownBlock) ∧ some k_ ≠ (.slice k8 d7.length k9 : Value).ownBlock)) (n := d8.length) (c := h6) ?_).2.2; exact (by (with_reducible repeat (first | apply Kd.zav_ | apply Kd.zaw_ | apply Kd.R_drew)); exact (Kd.R_mono (Kd.R_far (p := ⟨a7, 3, none⟩) (Kd.R_far (p := ⟨a7, 2, none⟩) (Kd.R_far (p := ⟨a7, 1, none⟩) (Kd.R_far (p := ⟨a7, 0, none⟩) (Kd.zaV_ b8.out b1.out (by decide)) (fun _ hk => hk.2) (.int .i64 d6)) (fun _ hk => hk.2) (.slice j9 d1.length k0)) (fun _ hk => hk.2) (.slice k8 d7.length k9)) (fun _ hk => hk.2) (.slice m7 e1.length m8)) (fun _ h_ => h_.1)))); (case side2 => exact (Kd.zaS_ b8.out).2.1); (case side3 => refine (Kd.zaS_ (e := 3) (base := w.heap.size) (ok := fun k_ => ((some k_ ≠ (.slice j6 d8.length h6 : Value).ownBlock ∧ some k_ ≠ (.slice j9 d1.length k0 : Value).ownBlock) ∧ some k_ ≠ (.slice k8 d7.length k9 : Value).ownBlock)) (n := e0.length) (c := j7) ?_).2.2; exact (by (with_reducible repeat (first | apply Kd.zav_ | apply Kd.zaw_ | apply Kd.R_drew)); exact (Kd.R_mono (Kd.R_far (p := ⟨a7, 3, none⟩) (Kd.R_far (p := ⟨a7, 2, none⟩) (Kd.R_far (p := ⟨a7, 1, none⟩) (Kd.R_far (p := ⟨a7, 0, none⟩) (Kd.zaV_ b9.out b1.out (by decide)) (fun _ hk => hk.2) (.int .i64 d6)) (fun _ hk => hk.2) (.slice j9 d1.length k0)) (fun _ hk => hk.2) (.slice k8 d7.length k9)) (fun _ hk => hk.2) (.slice m7 e1.length m8)) (fun _ h_ => h_.1)))); (case side4 => exact (Kd.zaS_ b9.out).2.1); (case side5 => refine (Kd.zbq_ (e := 53) (base := w.heap.size) (ok := fun k_ => (True ∧ some k_ ≠ (.slice m7 e1.length m8 : Value).ownBlock)) (n := e3.length) (c := m1) ?_).2.2; exact (by (with_reducible repeat (first | apply Kd.zbg_ | apply Kd.zbi_ | apply Kd.S_drew)); exact (Kd.S_mono (Kd.S_far (p := ⟨a7, 3, none⟩) (Kd.S_far (p := ⟨a7, 2, none⟩) (Kd.S_far (p := ⟨a7, 1, none⟩) (Kd.S_far (p := ⟨a7, 0, none⟩) (Kd.zbB_ c0.out b1.out (by decide)) (fun _ hk => hk.2) (.int .i64 d6)) (fun _ hk => hk.2) (.slice j9 d1.length k0)) (fun _ hk => hk.2) (.slice k8 d7.length k9)) (fun _ hk => hk.2) (.slice m7 e1.length m8)) (fun _ h_ => h_.1)))); (case side6 => exact (Kd.zbq_ c0.out).2.1); (case side7 => exact Kd.zaB_ HR0_1.out (by repeat (first | (with_reducible first | exact HB.out | apply zah_ | apply zae_ | apply zag_ | refine zai_ ?_ e5.out | refine zai_ ?_ e4.out | refine zai_ ?_ j8.out) | exact HB.out))); (case side8 => exact HC0_1.out); (case side9 => exact Kd.zaB_ HR0_2.out (by repeat (first | (with_reducible first | exact HB.out | apply zah_ | apply zae_ | apply zag_ | refine zai_ ?_ e5.out | refine zai_ ?_ e4.out | refine zai_ ?_ j8.out) | exact HB.out))); (case side10 => exact HC0_2.out); (case side11 => exact Kd.zaB_ HR0_3.out (by repeat (first | (with_reducible first | exact HB.out | apply zah_ | apply zae_ | apply zag_ | refine zai_ ?_ e5.out | refine zai_ ?_ e4.out | refine zai_ ?_ j8.out) | exact HB.out))); (case side12 => exact HC0_3.out); rintro e w47 ⟨rfl, hb⟩; have e6 := Aside0.mk (Kd.zaU_ (by (with_reducible repeat (first | apply Kd.zav_ | apply Kd.zaw_ | apply Kd.R_drew)); exact (Kd.R_mono (Kd.R_far (p := ⟨a7, 3, none⟩) (Kd.R_far (p := ⟨a7, 2, none⟩) (Kd.R_far (p := ⟨a7, 1, none⟩) (Kd.R_far (p := ⟨a7, 0, none⟩) (Kd.zaV_ b8.out b1.out (by decide)) (fun _ hk => hk.2) (.int .i64 d6)) (fun _ hk => hk.2) (.slice j9 d1.length k0)) (fun _ hk => hk.2) (.slice k8 d7.length k9)) (fun _ hk => hk.2) (.slice m7 e1.length m8)) (fun _ h_ => h_.1))) hb); have e7 := Aside0.mk (Kd.zaU_ (by (with_reducible repeat (first | apply Kd.zav_ | apply Kd.zaw_ | apply Kd.R_drew)); exact (Kd.R_mono (Kd.R_far (p := ⟨a7, 3, none⟩) (Kd.R_far (p := ⟨a7, 2, none⟩) (Kd.R_far (p := ⟨a7, 1, none⟩) (Kd.R_far (p := ⟨a7, 0, none⟩) (Kd.zaV_ b9.out b1.out (by decide)) (fun _ hk => hk.2) (.int .i64 d6)) (fun _ hk => hk.2) (.slice j9 d1.length k0)) (fun _ hk => hk.2) (.slice k8 d7.length k9)) (fun _ hk => hk.2) (.slice m7 e1.length m8)) (fun _ h_ => h_.1))) hb); have g7 := Aside0.mk (Kd.zbu_ (by (with_reducible repeat (first | apply Kd.zbg_ | apply Kd.zbi_ | apply Kd.S_drew)); exact (Kd.S_mono (Kd.S_far (p := ⟨a7, 3, none⟩) (Kd.S_far (p := ⟨a7, 2, none⟩) (Kd.S_far (p := ⟨a7, 1, none⟩) (Kd.S_far (p := ⟨a7, 0, none⟩) (Kd.zbB_ c0.out b1.out (by decide)) (fun _ hk => hk.2) (.int .i64 d6)) (fun _ hk => hk.2) (.slice j9 d1.length k0)) (fun _ hk => hk.2) (.slice k8 d7.length k9)) (fun _ hk => hk.2) (.slice m7 e1.length m8)) (fun _ h_ => h_.1))) hb); have g8 := Aside0.mk (Kd.zaU_ (by (with_reducible repeat (first | apply Kd.zav_ | apply Kd.zaw_ | apply Kd.R_drew)); exact (Kd.R_mono (Kd.R_far (p := ⟨a7, 3, none⟩) (Kd.R_far (p := ⟨a7, 2, none⟩) (Kd.R_far (p := ⟨a7, 1, none⟩) (Kd.R_far (p := ⟨a7, 0, none⟩) (Kd.zaV_ d3.out b1.out (by decide)) (fun _ hk => hk.2) (.int .i64 d6)) (fun _ hk => hk.2) (.slice j9 d1.length k0)) (fun _ hk => hk.2) (.slice k8 d7.length k9)) (fun _ hk => hk.2) (.slice m7 e1.length m8)) (fun _ h_ => h_.1))) hb); have h1 := Aside0.mk (Kd.zaU_ (by (with_reducible repeat (first | apply Kd.zav_ | apply Kd.zaw_ | apply Kd.R_drew)); exact (Kd.R_mono (Kd.R_far (p := ⟨a7, 3, none⟩) (Kd.R_far (p := ⟨a7, 2, none⟩) (Kd.R_far (p := ⟨a7, 1, none⟩) (Kd.R_far (p := ⟨a7, 0, none⟩) (Kd.zaV_ d4.out b1.out (by decide)) (fun _ hk => hk.2) (.int .i64 d6)) (fun _ hk => hk.2) (.slice j9 d1.length k0)) (fun _ hk => hk.2) (.slice k8 d7.length k9)) (fun _ hk => hk.2) (.slice m7 e1.length m8)) (fun _ h_ => h_.1))) hb); have j1 := Aside0.mk (Kd.zbu_ (by (with_reducible repeat (first | apply Kd.zbg_ | apply Kd.zbi_ | apply Kd.S_drew)); exact (Kd.S_mono (Kd.S_far (p := ⟨a7, 3, none⟩) (Kd.S_far (p := ⟨a7, 2, none⟩) (Kd.S_far (p := ⟨a7, 1, none⟩) (Kd.S_far (p := ⟨a7, 0, none⟩) (Kd.zbB_ d5.out b1.out (by decide)) (fun _ hk => hk.2) (.int .i64 d6)) (fun _ hk => hk.2) (.slice j9 d1.length k0)) (fun _ hk => hk.2) (.slice k8 d7.length k9)) (fun _ hk => hk.2) (.slice m7 e1.length m8)) (fun _ h_ => h_.1))) hb); have h5 := Aside0.mk (zan_ (g := b6) (o := .cells #[.int .i64 b7, .slice g1 b3.length g2, .slice g3 b4.length g4, .slice g5 b5.length g6] 37 (0, 0)) (by (with_reducible repeat (first | refine zac_ ?_ _ | refine zaf_ ?_ | refine zad_ ?_ _)); refine zaG_ ?_ c8.out _; (with_reducible repeat (first | refine zac_ ?_ _ | refine zaf_ ?_ | refine zad_ ?_ _)); refine zaG_ ?_ c8.out _; (with_reducible repeat (first | refine zac_ ?_ _ | refine zaf_ ?_ | refine zad_ ?_ _)); refine zaG_ ?_ c8.out _; (with_reducible repeat (first | refine zac_ ?_ _ | refine zaf_ ?_ | refine zad_ ?_ _)); refine zaG_ ?_ c8.out _; (with_reducible repeat (first | refine zac_ ?_ _ | refine zaf_ ?_ | refine zad_ ?_ _)); exact a5.out) hb); have j4 := Aside0.mk (zan_ (g := a8) (o := .cells #[.int .i64 d9, .slice j6 d8.length h6, .slice k5 e0.length j7, .slice m6 e3.length m1] 37 (0, 0)) (by (with_reducible repeat (first | refine zac_ ?_ _ | refine zaf_ ?_ | refine zad_ ?_ _)); refine zaG_ ?_ d0.out _; (with_reducible repeat (first | refine zac_ ?_ _ | refine zaf_ ?_ | refine zad_ ?_ _)); refine zaG_ ?_ d0.out _; (with_reducible repeat (first | refine zac_ ?_ _ | refine zaf_ ?_ | refine zad_ ?_ _)); refine zaG_ ?_ d0.out _; (with_reducible repeat (first | refine zac_ ?_ _ | refine zaf_ ?_ | refine zad_ ?_ _)); refine zaG_ ?_ d0.out _; (with_reducible repeat (first | refine zac_ ?_ _ | refine zaf_ ?_ | refine zad_ ?_ _)); exact b0.out) hb); have j5 := Aside0.mk (zan_ (g := a7) (o := .cells #[.int .i64 d6, .slice j9 d1.length k0, .slice k8 d7.length k9, .slice m7 e1.length m8] 37 (0, 0)) (by (with_reducible repeat (first | refine zac_ ?_ _ | refine zaf_ ?_ | refine zad_ ?_ _)); refine zat_ (cs := #[.int .i64 d6, .slice j9 d1.length k0, .slice k8 d7.length k9, .slice none 0 0]) ?_ 3 _ rfl; (with_reducible repeat (first | refine zac_ ?_ _ | refine zaf_ ?_ | refine zad_ ?_ _)); refine zat_ (cs := #[.int .i64 d6, .slice j9 d1.length k0, .slice none 0 0, .slice none 0 0]) ?_ 2 _ rfl; (with_reducible repeat (first | refine zac_ ?_ _ | refine zaf_ ?_ | refine zad_ ?_ _)); refine zat_ (cs := #[.int .i64 d6, .slice none 0 0, .slice none 0 0, .slice none 0 0]) ?_ 1 _ rfl; (with_reducible repeat (first | refine zac_ ?_ _ | refine zaf_ ?_ | refine zad_ ?_ _)); refine zat_ (cs := #[.int .i64 0, .slice none 0 0, .slice none 0 0, .slice none 0 0]) ?_ 0 _ rfl; (with_reducible repeat (first | refine zac_ ?_ _ | refine zaf_ ?_ | refine zad_ ?_ _)); exact b1.out) hb); have m5 := Aside0.mk (zaj_ (by repeat (first | (with_reducible first | exact HB.out | apply zah_ | apply zae_ | apply zag_ | refine zai_ ?_ e5.out | refine zai_ ?_ e4.out | refine zai_ ?_ j8.out) | exact HB.out)) hb); clear b8; clear b9; clear c0; clear d3; clear d4; clear d5; clear a5; clear b0; clear b1; clear HB; have b8 := e6; have b9 := e7; have c0 := g7; have d3 := g8; have d4 := h1; have d5 := j1; have a5 := h5; have b0 := j4; have b1 := j5; have HB := m5; clear e6 e7 g7 g8 h1 j1 h5 j4 j5 m5; (try clear hb); (try clear hb2); (try clear hk); (try clear hi)))
      go_ret
      exact ⟨by first | rfl | (simp [zal_, zak_] <;> rfl) | (simp [*, zal_, zak_] <;> rfl), HB.out⟩
    rw [if_pos z1] at H
    have q4 : (e8 == 0) = true := beq_iff_eq.mpr z1
    have C3 : (e8 != 0) = false := bne_eq_false_iff_eq.mpr z1
    clear z1
    replace H := Option.bind_eq_some_iff.mp H
    obtain ⟨n2, C7, H⟩ := H
    replace H : (if n2 = true then ((zau_.f k2 d6 d1 d7 e1).bind fun h0 => (if h0.toList = a9.toList then (some true) else (if e8 = 11 then (some (decide ((e2.size : Int) > 2000))) else (some false)))) else (if e8 = 11 then (some (decide ((e2.size : Int) > 2000))) else (some false))) = some r := H
    have Z7 := Aside0.mk C7
    clear C7
    by_cases K3 : n2 = true
    rotate_left
    · replace K3 := Bool.eq_false_iff.mpr K3
      subst K3
      rw [if_neg (show ¬ (false = true) by decide)] at H
      by_cases Z1 : e8 = 11
      rotate_left
      · rw [if_neg Z1] at H
        exact absurd ((Option.some.inj H).trans hT_.out) (by simp)
      exact absurd ((beq_iff_eq.mp q4).symm.trans Z1) (by decide)
    subst K3
    rw [if_pos rfl] at H
    replace H := Option.bind_eq_some_iff.mp H
    obtain ⟨h0, C8, H⟩ := H
    replace H : (if h0.toList = a9.toList then (some true) else (if e8 = 11 then (some (decide ((e2.size : Int) > 2000))) else (some false))) = some r := H
    have Z8 := Aside0.mk C8
    clear C8
    by_cases z2 : h0.toList = a9.toList
    · rw [if_pos z2] at H
      have C9 : (h0.toList == a9.toList) = true := beq_iff_eq.mpr z2
      have D0 : (h0.toList != a9.toList) = false := bne_eq_false_iff_eq.mpr z2
      clear z2
      obtain rfl := Option.some.inj H
      go_wp2_with (first | ((with_reducible refine zar_ (f := 25) rfl ?_); refine goesL_ (some 88) rfl rfl Tryd.func25 (by kernel_rfl) rfl #[.string a9] rfl (by (try simp only [List.map_toArray, List.map_cons, List.map_nil]); first | done | rfl | (simp only [List.length_drop, List.length_take]; rfl)) ?_; (with_reducible refine (zao_.calls k2 a9 d9 d8 e0 e3 o5 o6 _ ?side1 Y2.out).mono ?_); (case side1 => first | exact Glob.below HG.out (HB.out) | (repeat (first | exact Glob.below HG.out HB.out | (with_reducible refine Glob.alloc ?_ _) | (with_reducible refine Glob.drewN ?_ _) | (with_reducible refine Glob.drew ?_)))); rintro e w74 ⟨R0, R1, R2, rfl, o7, o8, q1, hb⟩; refine ⟨_, rfl, ?_⟩; have e6 := Aside0.mk (Kd.zbp_ o7 (zam_ (HB.out))); have e7 := Aside0.mk (Kd.zbp_ o8 (zam_ (HB.out))); have g7 := Aside0.mk (Kd.S_lower q1 (zam_ (HB.out))); have g8 := Aside0.mk (zan_ a5.out hb); have h1 := Aside0.mk (zaj_ (HB.out) hb); clear a5; clear HB; have b8 := e6; have b9 := e7; have c0 := g7; have a5 := g8; have HB := h1; clear e6 e7 g7 g8 h1; (try clear hb); (try clear hb2); (try clear hk); (try clear hi); (try clear o7); (try clear o8); (try clear q1)) | ((with_reducible refine zaL_ (N := 9) rfl ?_); (try (refine zaF_ (by rfl) ?_; dsimp only)); refine zaD_ ?hg (N := 9) ?hd (cs := #[.int .i64 0, .slice none 0 0, .slice none 0 0, .slice none 0 0]) (t := 37) ?hr ?_; (case hd => rfl); (case hg => rfl); (case hr => first | (go_simp; done) | (go_simp; rfl)); intro a8 hg K4 hbox hb; have e6 := Aside0.mk (Kd.zaU_ (by (with_reducible repeat (first | apply Kd.zav_ | apply Kd.zaw_ | apply Kd.R_drew)); exact b8.out) hb); have e7 := Aside0.mk (Kd.zaU_ (by (with_reducible repeat (first | apply Kd.zav_ | apply Kd.zaw_ | apply Kd.R_drew)); exact b9.out) hb); have g7 := Aside0.mk (Kd.zbu_ (by (with_reducible repeat (first | apply Kd.zbg_ | apply Kd.zbi_ | apply Kd.S_drew)); exact c0.out) hb); have g8 := Aside0.mk (zan_ a5.out hb); have h1 := Aside0.mk (zaj_ (HB.out) hb); have j1 := Aside0.mk (hbox); have h5 := Aside0.mk ((by rw [hg]; exact (zam_ (HB.out)) : w.heap.size ≤ a8)); have j4 := h5; have j5 := Aside0.mk ((by rw [hg]; exact Nat.ne_of_lt (blk_lt a5.out) : b6 ≠ a8)); have m5 := Aside0.mk ((by rw [hg]; exact Nat.ne_of_gt (blk_lt a5.out) : a8 ≠ b6)); clear b8; clear b9; clear c0; clear a5; clear HB; have b8 := e6; have b9 := e7; have c0 := g7; have a5 := g8; have HB := h1; have b0 := j1; have C5 := h5; have e4 := j4; have c7 := j5; have k4 := m5; clear e6 e7 g7 g8 h1 j1 h5 j4 j5 m5; clear hb hbox hg; have hnb76 := k4.out; have hnc76 := c7.out; have K5 : K4.cell? ⟨a8, 0, none⟩ = some (.int .i64 0) := (zab_ b0.out 0).trans rfl; have K6 : K4.cell? ⟨a8, 1, none⟩ = some (.slice none 0 0) := (zab_ b0.out 1).trans rfl; have K7 : K4.cell? ⟨a8, 2, none⟩ = some (.slice none 0 0) := (zab_ b0.out 2).trans rfl; have K8 : K4.cell? ⟨a8, 3, none⟩ = some (.slice none 0 0) := (zab_ b0.out 3).trans rfl; have K9 := zaa_ b0.out 0; have L0 := zaa_ b0.out 1; have L1 := zaa_ b0.out 2; have L2 := zaa_ b0.out 3; obtain ⟨k1, h7, T2⟩ := Kd.zbf_ b8.out; subst T2; obtain ⟨l1, k3, T3⟩ := Kd.zbf_ b9.out; subst T3; obtain ⟨m9, m2, T4⟩ := Kd.S_slice c0.out; subst T4) | ((with_reducible refine zar_ (f := 25) rfl ?_); refine goesL_ (some 94) rfl rfl Tryd.func25 (by kernel_rfl) rfl #[.string e2] rfl (by (try simp only [List.map_toArray, List.map_cons, List.map_nil]); first | done | rfl | (simp only [List.length_drop, List.length_take]; rfl)) ?_; (with_reducible refine (zao_.calls k2 e2 d6 d1 d7 e1 B8 e8 _ ?side1 Y3.out).mono ?_); (case side1 => first | exact Glob.below HG.out (by repeat (first | (with_reducible first | exact HB.out | apply zah_ | apply zae_ | apply zag_ | refine zai_ ?_ e5.out | refine zai_ ?_ e4.out) | exact HB.out)) | (repeat (first | exact Glob.below HG.out HB.out | (with_reducible refine Glob.alloc ?_ _) | (with_reducible refine Glob.drewN ?_ _) | (with_reducible refine Glob.drew ?_)))); rintro e w81 ⟨R6, R7, R8, rfl, o7, o8, q1, hb⟩; refine ⟨_, rfl, ?_⟩; have e6 := Aside0.mk (Kd.R_mono (Kd.R_told (Kd.R_told (Kd.R_old (by (with_reducible repeat (first | apply Kd.zav_ | apply Kd.zaw_ | apply Kd.R_drew)); exact (Kd.R_mono (Kd.R_far (p := ⟨a8, 3, none⟩) (Kd.R_far (p := ⟨a8, 2, none⟩) (Kd.R_far (p := ⟨a8, 1, none⟩) (Kd.R_far (p := ⟨a8, 0, none⟩) (Kd.zaV_ b8.out b0.out (by decide)) (fun _ hk => hk.2) (.int .i64 d9)) (fun _ hk => hk.2) (.slice k1 d8.length h7)) (fun _ hk => hk.2) (.slice l1 e0.length k3)) (fun _ hk => hk.2) (.slice m9 e3.length m2)) (fun _ h_ => h_.1))) hb) (Kd.R_base o7)) (Kd.R_base o8)) (fun _ h_ => h_.1)); have e7 := Aside0.mk (Kd.R_mono (Kd.R_told (Kd.R_told (Kd.R_old (by (with_reducible repeat (first | apply Kd.zav_ | apply Kd.zaw_ | apply Kd.R_drew)); exact (Kd.R_mono (Kd.R_far (p := ⟨a8, 3, none⟩) (Kd.R_far (p := ⟨a8, 2, none⟩) (Kd.R_far (p := ⟨a8, 1, none⟩) (Kd.R_far (p := ⟨a8, 0, none⟩) (Kd.zaV_ b9.out b0.out (by decide)) (fun _ hk => hk.2) (.int .i64 d9)) (fun _ hk => hk.2) (.slice k1 d8.length h7)) (fun _ hk => hk.2) (.slice l1 e0.length k3)) (fun _ hk => hk.2) (.slice m9 e3.length m2)) (fun _ h_ => h_.1))) hb) (Kd.R_base o7)) (Kd.R_base o8)) (fun _ h_ => h_.1)); have g7 := Aside0.mk (Kd.S_elder' (by (with_reducible repeat (first | apply Kd.zbg_ | apply Kd.zbi_ | apply Kd.S_drew)); exact (Kd.S_mono (Kd.S_far (p := ⟨a8, 3, none⟩) (Kd.S_far (p := ⟨a8, 2, none⟩) (Kd.S_far (p := ⟨a8, 1, none⟩) (Kd.S_far (p := ⟨a8, 0, none⟩) (Kd.zbB_ c0.out b0.out (by decide)) (fun _ hk => hk.2) (.int .i64 d9)) (fun _ hk => hk.2) (.slice k1 d8.length h7)) (fun _ hk => hk.2) (.slice l1 e0.length k3)) (fun _ hk => hk.2) (.slice m9 e3.length m2)) (fun _ h_ => h_.1))) (Kd.S_base q1) hb); have g8 := Aside0.mk (Kd.zbp_ (Kd.R_new' (Kd.R_new' o7 (Kd.R_lt (by (with_reducible repeat (first | apply Kd.zav_ | apply Kd.zaw_ | apply Kd.R_drew)); exact (Kd.R_mono (Kd.R_far (p := ⟨a8, 3, none⟩) (Kd.R_far (p := ⟨a8, 2, none⟩) (Kd.R_far (p := ⟨a8, 1, none⟩) (Kd.R_far (p := ⟨a8, 0, none⟩) (Kd.zaV_ b8.out b0.out (by decide)) (fun _ hk => hk.2) (.int .i64 d9)) (fun _ hk => hk.2) (.slice k1 d8.length h7)) (fun _ hk => hk.2) (.slice l1 e0.length k3)) (fun _ hk => hk.2) (.slice m9 e3.length m2)) (fun _ h_ => h_.1))))) (Kd.R_lt (by (with_reducible repeat (first | apply Kd.zav_ | apply Kd.zaw_ | apply Kd.R_drew)); exact (Kd.R_mono (Kd.R_far (p := ⟨a8, 3, none⟩) (Kd.R_far (p := ⟨a8, 2, none⟩) (Kd.R_far (p := ⟨a8, 1, none⟩) (Kd.R_far (p := ⟨a8, 0, none⟩) (Kd.zaV_ b9.out b0.out (by decide)) (fun _ hk => hk.2) (.int .i64 d9)) (fun _ hk => hk.2) (.slice k1 d8.length h7)) (fun _ hk => hk.2) (.slice l1 e0.length k3)) (fun _ hk => hk.2) (.slice m9 e3.length m2)) (fun _ h_ => h_.1))))) (zam_ (by repeat (first | (with_reducible first | exact HB.out | apply zah_ | apply zae_ | apply zag_ | refine zai_ ?_ e5.out | refine zai_ ?_ e4.out) | exact HB.out)))); have h1 := Aside0.mk (Kd.zbp_ (Kd.R_new' (Kd.R_new' o8 (Kd.R_lt (by (with_reducible repeat (first | apply Kd.zav_ | apply Kd.zaw_ | apply Kd.R_drew)); exact (Kd.R_mono (Kd.R_far (p := ⟨a8, 3, none⟩) (Kd.R_far (p := ⟨a8, 2, none⟩) (Kd.R_far (p := ⟨a8, 1, none⟩) (Kd.R_far (p := ⟨a8, 0, none⟩) (Kd.zaV_ b8.out b0.out (by decide)) (fun _ hk => hk.2) (.int .i64 d9)) (fun _ hk => hk.2) (.slice k1 d8.length h7)) (fun _ hk => hk.2) (.slice l1 e0.length k3)) (fun _ hk => hk.2) (.slice m9 e3.length m2)) (fun _ h_ => h_.1))))) (Kd.R_lt (by (with_reducible repeat (first | apply Kd.zav_ | apply Kd.zaw_ | apply Kd.R_drew)); exact (Kd.R_mono (Kd.R_far (p := ⟨a8, 3, none⟩) (Kd.R_far (p := ⟨a8, 2, none⟩) (Kd.R_far (p := ⟨a8, 1, none⟩) (Kd.R_far (p := ⟨a8, 0, none⟩) (Kd.zaV_ b9.out b0.out (by decide)) (fun _ hk => hk.2) (.int .i64 d9)) (fun _ hk => hk.2) (.slice k1 d8.length h7)) (fun _ hk => hk.2) (.slice l1 e0.length k3)) (fun _ hk => hk.2) (.slice m9 e3.length m2)) (fun _ h_ => h_.1))))) (zam_ (by repeat (first | (with_reducible first | exact HB.out | apply zah_ | apply zae_ | apply zag_ | refine zai_ ?_ e5.out | refine zai_ ?_ e4.out) | exact HB.out)))); have j1 := Aside0.mk (Kd.S_lower (Kd.S_new' q1 (Kd.S_lt (by (with_reducible repeat (first | apply Kd.zbg_ | apply Kd.zbi_ | apply Kd.S_drew)); exact (Kd.S_mono (Kd.S_far (p := ⟨a8, 3, none⟩) (Kd.S_far (p := ⟨a8, 2, none⟩) (Kd.S_far (p := ⟨a8, 1, none⟩) (Kd.S_far (p := ⟨a8, 0, none⟩) (Kd.zbB_ c0.out b0.out (by decide)) (fun _ hk => hk.2) (.int .i64 d9)) (fun _ hk => hk.2) (.slice k1 d8.length h7)) (fun _ hk => hk.2) (.slice l1 e0.length k3)) (fun _ hk => hk.2) (.slice m9 e3.length m2)) (fun _ h_ => h_.1))))) (zam_ (by repeat (first | (with_reducible first | exact HB.out | apply zah_ | apply zae_ | apply zag_ | refine zai_ ?_ e5.out | refine zai_ ?_ e4.out) | exact HB.out)))); have h5 := Aside0.mk (zan_ (g := b6) (o := .cells #[.int .i64 b7, .slice g1 b3.length g2, .slice g3 b4.length g4, .slice g5 b5.length g6] 37 (0, 0)) (by (with_reducible repeat (first | refine zac_ ?_ _ | refine zaf_ ?_ | refine zad_ ?_ _)); refine zaG_ ?_ c7.out _; (with_reducible repeat (first | refine zac_ ?_ _ | refine zaf_ ?_ | refine zad_ ?_ _)); refine zaG_ ?_ c7.out _; (with_reducible repeat (first | refine zac_ ?_ _ | refine zaf_ ?_ | refine zad_ ?_ _)); refine zaG_ ?_ c7.out _; (with_reducible repeat (first | refine zac_ ?_ _ | refine zaf_ ?_ | refine zad_ ?_ _)); refine zaG_ ?_ c7.out _; (with_reducible repeat (first | refine zac_ ?_ _ | refine zaf_ ?_ | refine zad_ ?_ _)); exact a5.out) hb); have j4 := Aside0.mk (zan_ (g := a8) (o := .cells #[.int .i64 d9, .slice k1 d8.length h7, .slice l1 e0.length k3, .slice m9 e3.length m2] 37 (0, 0)) (by (with_reducible repeat (first | refine zac_ ?_ _ | refine zaf_ ?_ | refine zad_ ?_ _)); refine zat_ (cs := #[.int .i64 d9, .slice k1 d8.length h7, .slice l1 e0.length k3, .slice none 0 0]) ?_ 3 _ rfl; (with_reducible repeat (first | refine zac_ ?_ _ | refine zaf_ ?_ | refine zad_ ?_ _)); refine zat_ (cs := #[.int .i64 d9, .slice k1 d8.length h7, .slice none 0 0, .slice none 0 0]) ?_ 2 _ rfl; (with_reducible repeat (first | refine zac_ ?_ _ | refine zaf_ ?_ | refine zad_ ?_ _)); refine zat_ (cs := #[.int .i64 d9, .slice none 0 0, .slice none 0 0, .slice none 0 0]) ?_ 1 _ rfl; (with_reducible repeat (first | refine zac_ ?_ _ | refine zaf_ ?_ | refine zad_ ?_ _)); refine zat_ (cs := #[.int .i64 0, .slice none 0 0, .slice none 0 0, .slice none 0 0]) ?_ 0 _ rfl; (with_reducible repeat (first | refine zac_ ?_ _ | refine zaf_ ?_ | refine zad_ ?_ _)); exact b0.out) hb); have j5 := Aside0.mk (zaj_ (by repeat (first | (with_reducible first | exact HB.out | apply zah_ | apply zae_ | apply zag_ | refine zai_ ?_ e5.out | refine zai_ ?_ e4.out) | exact HB.out)) hb); clear b8; clear b9; clear c0; clear a5; clear b0; clear HB; have b8 := e6; have b9 := e7; have c0 := g7; have d3 := g8; have d4 := h1; have d5 := j1; have a5 := h5; have b0 := j4; have HB := j5; clear e6 e7 g7 g8 h1 j1 h5 j4 j5; (try clear hb); (try clear hb2); (try clear hk); (try clear hi); (try clear o7); (try clear o8); (try clear q1)) | ((with_reducible refine zaL_ (N := 12) rfl ?_); (try (refine zaF_ (by rfl) ?_; dsimp only)); refine zaD_ ?hg (N := 12) ?hd (cs := #[.int .i64 0, .slice none 0 0, .slice none 0 0, .slice none 0 0]) (t := 37) ?hr ?_; (case hd => rfl); (case hg => rfl); (case hr => first | (go_simp; done) | (go_simp; rfl)); intro a7 hg q3 hbox hb; have e6 := Aside0.mk (Kd.zaU_ (by (with_reducible repeat (first | apply Kd.zav_ | apply Kd.zaw_ | apply Kd.R_drew)); exact b8.out) hb); have e7 := Aside0.mk (Kd.zaU_ (by (with_reducible repeat (first | apply Kd.zav_ | apply Kd.zaw_ | apply Kd.R_drew)); exact b9.out) hb); have g7 := Aside0.mk (Kd.zbu_ (by (with_reducible repeat (first | apply Kd.zbg_ | apply Kd.zbi_ | apply Kd.S_drew)); exact c0.out) hb); have g8 := Aside0.mk (Kd.zaU_ (by (with_reducible repeat (first | apply Kd.zav_ | apply Kd.zaw_ | apply Kd.R_drew)); exact d3.out) hb); have h1 := Aside0.mk (Kd.zaU_ (by (with_reducible repeat (first | apply Kd.zav_ | apply Kd.zaw_ | apply Kd.R_drew)); exact d4.out) hb); have j1 := Aside0.mk (Kd.zbu_ (by (with_reducible repeat (first | apply Kd.zbg_ | apply Kd.zbi_ | apply Kd.S_drew)); exact d5.out) hb); have h5 := Aside0.mk (zan_ a5.out hb); have j4 := Aside0.mk (zan_ b0.out hb); have j5 := Aside0.mk (zaj_ (HB.out) hb); have m5 := Aside0.mk (hbox); have o9 := Aside0.mk ((by rw [hg]; exact (zam_ (HB.out)) : w.heap.size ≤ a7)); have q5 := o9; have q6 := Aside0.mk ((by rw [hg]; exact Nat.ne_of_lt (blk_lt a5.out) : b6 ≠ a7)); have q7 := Aside0.mk ((by rw [hg]; exact Nat.ne_of_gt (blk_lt a5.out) : a7 ≠ b6)); have q8 := Aside0.mk ((by rw [hg]; exact Nat.ne_of_lt (blk_lt b0.out) : a8 ≠ a7)); have q9 := Aside0.mk ((by rw [hg]; exact Nat.ne_of_gt (blk_lt b0.out) : a7 ≠ a8)); clear b8; clear b9; clear c0; clear d3; clear d4; clear d5; clear a5; clear b0; clear HB; have b8 := e6; have b9 := e7; have c0 := g7; have d3 := g8; have d4 := h1; have d5 := j1; have a5 := h5; have b0 := j4; have HB := j5; have b1 := m5; have C6 := o9; have j8 := q5; have c8 := q6; have k6 := q7; have d0 := q8; have k7 := q9; clear e6 e7 g7 g8 h1 j1 h5 j4 j5 m5 o9 q5 q6 q7 q8 q9; clear hb hbox hg; have hnb83 := k6.out; have hnc83 := c8.out; have hnb84 := k7.out; have hnc84 := d0.out; have L3 : q3.cell? ⟨a7, 0, none⟩ = some (.int .i64 0) := (zab_ b1.out 0).trans rfl; have L4 : q3.cell? ⟨a7, 1, none⟩ = some (.slice none 0 0) := (zab_ b1.out 1).trans rfl; have L5 : q3.cell? ⟨a7, 2, none⟩ = some (.slice none 0 0) := (zab_ b1.out 2).trans rfl; have L6 : q3.cell? ⟨a7, 3, none⟩ = some (.slice none 0 0) := (zab_ b1.out 3).trans rfl; have L7 := zaa_ b1.out 0; have L8 := zaa_ b1.out 1; have L9 := zaa_ b1.out 2; have M0 := zaa_ b1.out 3; obtain ⟨h3, h4, T5⟩ := Kd.zbf_ d3.out; subst T5; obtain ⟨h8, h9, T6⟩ := Kd.zbf_ d4.out; subst T6; obtain ⟨l2, l3, T7⟩ := Kd.S_slice d5.out; subst T7; have M1 : q3.cell? ⟨a8, 0, none⟩ = some (.int .i64 d9) := (zab_ b0.out 0).trans rfl; have M2 : q3.cell? ⟨a8, 1, none⟩ = some (.slice k1 d8.length h7) := (zab_ b0.out 1).trans rfl; have M3 : q3.cell? ⟨a8, 2, none⟩ = some (.slice l1 e0.length k3) := (zab_ b0.out 2).trans rfl; have M4 : q3.cell? ⟨a8, 3, none⟩ = some (.slice m9 e3.length m2) := (zab_ b0.out 3).trans rfl; have M5 := zaa_ b0.out 0; have M6 := zaa_ b0.out 1; have M7 := zaa_ b0.out 2; have M8 := zaa_ b0.out 3; have M9 : q3.cell? ⟨b6, 0, none⟩ = some (.int .i64 b7) := (zab_ a5.out 0).trans rfl; have N0 : q3.cell? ⟨b6, 1, none⟩ = some (.slice g1 b3.length g2) := (zab_ a5.out 1).trans rfl; have N1 : q3.cell? ⟨b6, 2, none⟩ = some (.slice g3 b4.length g4) := (zab_ a5.out 2).trans rfl; have N2 : q3.cell? ⟨b6, 3, none⟩ = some (.slice g5 b5.length g6) := (zab_ a5.out 3).trans rfl; have N3 := zaa_ a5.out 0; have N4 := zaa_ a5.out 1; have N5 := zaa_ a5.out 2; have N6 := zaa_ a5.out 3) | (go_at_call 26; (with_reducible refine (zaP_.calls k2 d9 _ _ d8 _ _ e0 _ _ e3 b7 _ _ b3 _ _ b4 _ _ b5 true _ ?side1 ?side2 ?side3 ?side4 ?side5 ?side6 ?side7 ?side8 ?side9 ?side10 ?side11 ?side12 Y8.out).mono ?_); (case side1 => refine (Kd.zaS_ (e := 3) (base := w.heap.size) (ok := fun k_ => ((some k_ ≠ (.slice l1 e0.length k3 : Value).ownBlock ∧ some k_ ≠ (.slice h3 d1.length h4 : Value).ownBlock) ∧ some k_ ≠ (.slice h8 d7.length h9 : Value).ownBlock)) (n := d8.length) (c := h7) ?_).2.2; exact (by (with_reducible repeat (first | apply Kd.zav_ | apply Kd.zaw_ | apply Kd.R_drew)); exact (Kd.R_mono (Kd.R_far (p := ⟨a7, 3, none⟩) (Kd.R_far (p := ⟨a7, 2, none⟩) (Kd.R_far (p := ⟨a7, 1, none⟩) (Kd.R_far (p := ⟨a7, 0, none⟩) (Kd.zaV_ b8.out b1.out (by decide)) (fun _ hk => hk.2) (.int .i64 d6)) (fun _ hk => hk.2) (.slice h3 d1.length h4)) (fun _ hk => hk.2) (.slice h8 d7.length h9)) (fun _ hk => hk.2) (.slice l2 e1.length l3)) (fun _ h_ => h_.1)))); (case side2 => exact (Kd.zaS_ b8.out).2.1); (case side3 => refine (Kd.zaS_ (e := 3) (base := w.heap.size) (ok := fun k_ => ((some k_ ≠ (.slice k1 d8.length h7 : Value).ownBlock ∧ some k_ ≠ (.slice h3 d1.length h4 : Value).ownBlock) ∧ some k_ ≠ (.slice h8 d7.length h9 : Value).ownBlock)) (n := e0.length) (c := k3) ?_).2.2; exact (by (with_reducible repeat (first | apply Kd.zav_ | apply Kd.zaw_ | apply Kd.R_drew)); exact (Kd.R_mono (Kd.R_far (p := ⟨a7, 3, none⟩) (Kd.R_far (p := ⟨a7, 2, none⟩) (Kd.R_far (p := ⟨a7, 1, none⟩) (Kd.R_far (p := ⟨a7, 0, none⟩) (Kd.zaV_ b9.out b1.out (by decide)) (fun _ hk => hk.2) (.int .i64 d6)) (fun _ hk => hk.2) (.slice h3 d1.length h4)) (fun _ hk => hk.2) (.slice h8 d7.length h9)) (fun _ hk => hk.2) (.slice l2 e1.length l3)) (fun _ h_ => h_.1)))); (case side4 => exact (Kd.zaS_ b9.out).2.1); (case side5 => refine (Kd.zbq_ (e := 53) (base := w.heap.size) (ok := fun k_ => (True ∧ some k_ ≠ (.slice l2 e1.length l3 : Value).ownBlock)) (n := e3.length) (c := m2) ?_).2.2; exact (by (with_reducible repeat (first | apply Kd.zbg_ | apply Kd.zbi_ | apply Kd.S_drew)); exact (Kd.S_mono (Kd.S_far (p := ⟨a7, 3, none⟩) (Kd.S_far (p := ⟨a7, 2, none⟩) (Kd.S_far (p := ⟨a7, 1, none⟩) (Kd.S_far (p := ⟨a7, 0, none⟩) (Kd.zbB_ c0.out b1.out (by decide)) (fun _ hk => hk.2) (.int .i64 d6)) (fun _ hk => hk.2) (.slice h3 d1.length h4)) (fun _ hk => hk.2) (.slice h8 d7.length h9)) (fun _ hk => hk.2) (.slice l2 e1.length l3)) (fun _ h_ => h_.1)))); (case side6 => exact (Kd.zbq_ c0.out).2.1); (case side7 => exact Kd.zaB_ HR0_1.out (by repeat (first | (with_reducible first | exact HB.out | apply zah_ | apply zae_ | apply zag_ | refine zai_ ?_ e5.out | refine zai_ ?_ e4.out | refine zai_ ?_ j8.out) | exact HB.out))); (case side8 => exact HC0_1.out); (case side9 => exact Kd.zaB_ HR0_2.out (by repeat (first | (with_reducible first | exact HB.out | apply zah_ | apply zae_ | apply zag_ | refine zai_ ?_ e5.out | refine zai_ ?_ e4.out | refine zai_ ?_ j8.out) | exact HB.out))); (case side10 => exact HC0_2.out); (case side11 => exact Kd.zaB_ HR0_3.out (by repeat (first | (with_reducible first | exact HB.out | apply zah_ | apply zae_ | apply zag_ | refine zai_ ?_ e5.out | refine zai_ ?_ e4.out | refine zai_ ?_ j8.out) | exact HB.out))); (case side12 => exact HC0_3.out); rintro e x4 ⟨rfl, hb⟩; have e6 := Aside0.mk (Kd.zaU_ (by (with_reducible repeat (first | apply Kd.zav_ | apply Kd.zaw_ | apply Kd.R_drew)); exact (Kd.R_mono (Kd.R_far (p := ⟨a7, 3, none⟩) (Kd.R_far (p := ⟨a7, 2, none⟩) (Kd.R_far (p := ⟨a7, 1, none⟩) (Kd.R_far (p := ⟨a7, 0, none⟩) (Kd.zaV_ b8.out b1.out (by decide)) (fun _ hk => hk.2) (.int .i64 d6)) (fun _ hk => hk.2) (.slice h3 d1.length h4)) (fun _ hk => hk.2) (.slice h8 d7.length h9)) (fun _ hk => hk.2) (.slice l2 e1.length l3)) (fun _ h_ => h_.1))) hb); have e7 := Aside0.mk (Kd.zaU_ (by (with_reducible repeat (first | apply Kd.zav_ | apply Kd.zaw_ | apply Kd.R_drew)); exact (Kd.R_mono (Kd.R_far (p := ⟨a7, 3, none⟩) (Kd.R_far (p := ⟨a7, 2, none⟩) (Kd.R_far (p := ⟨a7, 1, none⟩) (Kd.R_far (p := ⟨a7, 0, none⟩) (Kd.zaV_ b9.out b1.out (by decide)) (fun _ hk => hk.2) (.int .i64 d6)) (fun _ hk => hk.2) (.slice h3 d1.length h4)) (fun _ hk => hk.2) (.slice h8 d7.length h9)) (fun _ hk => hk.2) (.slice l2 e1.length l3)) (fun _ h_ => h_.1))) hb); have g7 := Aside0.mk (Kd.zbu_ (by (with_reducible repeat (first | apply Kd.zbg_ | apply Kd.zbi_ | apply Kd.S_drew)); exact (Kd.S_mono (Kd.S_far (p := ⟨a7, 3, none⟩) (Kd.S_far (p := ⟨a7, 2, none⟩) (Kd.S_far (p := ⟨a7, 1, none⟩) (Kd.S_far (p := ⟨a7, 0, none⟩) (Kd.zbB_ c0.out b1.out (by decide)) (fun _ hk => hk.2) (.int .i64 d6)) (fun _ hk => hk.2) (.slice h3 d1.length h4)) (fun _ hk => hk.2) (.slice h8 d7.length h9)) (fun _ hk => hk.2) (.slice l2 e1.length l3)) (fun _ h_ => h_.1))) hb); have g8 := Aside0.mk (Kd.zaU_ (by (with_reducible repeat (first | apply Kd.zav_ | apply Kd.zaw_ | apply Kd.R_drew)); exact (Kd.R_mono (Kd.R_far (p := ⟨a7, 3, none⟩) (Kd.R_far (p := ⟨a7, 2, none⟩) (Kd.R_far (p := ⟨a7, 1, none⟩) (Kd.R_far (p := ⟨a7, 0, none⟩) (Kd.zaV_ d3.out b1.out (by decide)) (fun _ hk => hk.2) (.int .i64 d6)) (fun _ hk => hk.2) (.slice h3 d1.length h4)) (fun _ hk => hk.2) (.slice h8 d7.length h9)) (fun _ hk => hk.2) (.slice l2 e1.length l3)) (fun _ h_ => h_.1))) hb); have h1 := Aside0.mk (Kd.zaU_ (by (with_reducible repeat (first | apply Kd.zav_ | apply Kd.zaw_ | apply Kd.R_drew)); exact (Kd.R_mono (Kd.R_far (p := ⟨a7, 3, none⟩) (Kd.R_far (p := ⟨a7, 2, none⟩) (Kd.R_far (p := ⟨a7, 1, none⟩) (Kd.R_far (p := ⟨a7, 0, none⟩) (Kd.zaV_ d4.out b1.out (by decide)) (fun _ hk => hk.2) (.int .i64 d6)) (fun _ hk => hk.2) (.slice h3 d1.length h4)) (fun _ hk => hk.2) (.slice h8 d7.length h9)) (fun _ hk => hk.2) (.slice l2 e1.length l3)) (fun _ h_ => h_.1))) hb); have j1 := Aside0.mk (Kd.zbu_ (by (with_reducible repeat (first | apply Kd.zbg_ | apply Kd.zbi_ | apply Kd.S_drew)); exact (Kd.S_mono (Kd.S_far (p := ⟨a7, 3, none⟩) (Kd.S_far (p := ⟨a7, 2, none⟩) (Kd.S_far (p := ⟨a7, 1, none⟩) (Kd.S_far (p := ⟨a7, 0, none⟩) (Kd.zbB_ d5.out b1.out (by decide)) (fun _ hk => hk.2) (.int .i64 d6)) (fun _ hk => hk.2) (.slice h3 d1.length h4)) (fun _ hk => hk.2) (.slice h8 d7.length h9)) (fun _ hk => hk.2) (.slice l2 e1.length l3)) (fun _ h_ => h_.1))) hb); have h5 := Aside0.mk (zan_ (g := b6) (o := .cells #[.int .i64 b7, .slice g1 b3.length g2, .slice g3 b4.length g4, .slice g5 b5.length g6] 37 (0, 0)) (by (with_reducible repeat (first | refine zac_ ?_ _ | refine zaf_ ?_ | refine zad_ ?_ _)); refine zaG_ ?_ c8.out _; (with_reducible repeat (first | refine zac_ ?_ _ | refine zaf_ ?_ | refine zad_ ?_ _)); refine zaG_ ?_ c8.out _; (with_reducible repeat (first | refine zac_ ?_ _ | refine zaf_ ?_ | refine zad_ ?_ _)); refine zaG_ ?_ c8.out _; (with_reducible repeat (first | refine zac_ ?_ _ | refine zaf_ ?_ | refine zad_ ?_ _)); refine zaG_ ?_ c8.out _; (with_reducible repeat (first | refine zac_ ?_ _ | refine zaf_ ?_ | refine zad_ ?_ _)); exact a5.out) hb); have j4 := Aside0.mk (zan_ (g := a8) (o := .cells #[.int .i64 d9, .slice k1 d8.length h7, .slice l1 e0.length k3, .slice m9 e3.length m2] 37 (0, 0)) (by (with_reducible repeat (first | refine zac_ ?_ _ | refine zaf_ ?_ | refine zad_ ?_ _)); refine zaG_ ?_ d0.out _; (with_reducible repeat (first | refine zac_ ?_ _ | refine zaf_ ?_ | refine zad_ ?_ _)); refine zaG_ ?_ d0.out _; (with_reducible repeat (first | refine zac_ ?_ _ | refine zaf_ ?_ | refine zad_ ?_ _)); refine zaG_ ?_ d0.out _; (with_reducible repeat (first | refine zac_ ?_ _ | refine zaf_ ?_ | refine zad_ ?_ _)); refine zaG_ ?_ d0.out _; (with_reducible repeat (first | refine zac_ ?_ _ | refine zaf_ ?_ | refine zad_ ?_ _)); exact b0.out) hb); have j5 := Aside0.mk (zan_ (g := a7) (o := .cells #[.int .i64 d6, .slice h3 d1.length h4, .slice h8 d7.length h9, .slice l2 e1.length l3] 37 (0, 0)) (by (with_reducible repeat (first | refine zac_ ?_ _ | refine zaf_ ?_ | refine zad_ ?_ _)); refine zat_ (cs := #[.int .i64 d6, .slice h3 d1.length h4, .slice h8 d7.length h9, .slice none 0 0]) ?_ 3 _ rfl; (with_reducible repeat (first | refine zac_ ?_ _ | refine zaf_ ?_ | refine zad_ ?_ _)); refine zat_ (cs := #[.int .i64 d6, .slice h3 d1.length h4, .slice none 0 0, .slice none 0 0]) ?_ 2 _ rfl; (with_reducible repeat (first | refine zac_ ?_ _ | refine zaf_ ?_ | refine zad_ ?_ _)); refine zat_ (cs := #[.int .i64 d6, .slice none 0 0, .slice none 0 0, .slice none 0 0]) ?_ 1 _ rfl; (with_reducible repeat (first | refine zac_ ?_ _ | refine zaf_ ?_ | refine zad_ ?_ _)); refine zat_ (cs := #[.int .i64 0, .slice none 0 0, .slice none 0 0, .slice none 0 0]) ?_ 0 _ rfl; (with_reducible repeat (first | refine zac_ ?_ _ | refine zaf_ ?_ | refine zad_ ?_ _)); exact b1.out) hb); have m5 := Aside0.mk (zaj_ (by repeat (first | (with_reducible first | exact HB.out | apply zah_ | apply zae_ | apply zag_ | refine zai_ ?_ e5.out | refine zai_ ?_ e4.out | refine zai_ ?_ j8.out) | exact HB.out)) hb); clear b8; clear b9; clear c0; clear d3; clear d4; clear d5; clear a5; clear b0; clear b1; clear HB; have b8 := e6; have b9 := e7; have c0 := g7; have d3 := g8; have d4 := h1; have d5 := j1; have a5 := h5; have b0 := j4; have b1 := j5; have HB := m5; clear e6 e7 g7 g8 h1 j1 h5 j4 j5 m5; (try clear hb); (try clear hb2); (try clear hk); (try clear hi); have N7 : x4.cell? ⟨a7, 0, none⟩ = some (.int .i64 d6) := (zab_ b1.out 0).trans rfl; have N8 : x4.cell? ⟨a7, 1, none⟩ = some (.slice h3 d1.length h4) := (zab_ b1.out 1).trans rfl; have N9 : x4.cell? ⟨a7, 2, none⟩ = some (.slice h8 d7.length h9) := (zab_ b1.out 2).trans rfl; have O0 : x4.cell? ⟨a7, 3, none⟩ = some (.slice l2 e1.length l3) := (zab_ b1.out 3).trans rfl; have O1 := zaa_ b1.out 0; have O2 := zaa_ b1.out 1; have O3 := zaa_ b1.out 2; have O4 := zaa_ b1.out 3; have O5 : x4.cell? ⟨b6, 0, none⟩ = some (.int .i64 b7) := (zab_ a5.out 0).trans rfl; have O6 : x4.cell? ⟨b6, 1, none⟩ = some (.slice g1 b3.length g2) := (zab_ a5.out 1).trans rfl; have O7 : x4.cell? ⟨b6, 2, none⟩ = some (.slice g3 b4.length g4) := (zab_ a5.out 2).trans rfl; have O8 : x4.cell? ⟨b6, 3, none⟩ = some (.slice g5 b5.length g6) := (zab_ a5.out 3).trans rfl; have O9 := zaa_ a5.out 0; have P0 := zaa_ a5.out 1; have P1 := zaa_ a5.out 2; have P2 := zaa_ a5.out 3) | (go_at_call 26; (with_reducible refine (zaP_.calls k2 d6 _ _ d1 _ _ d7 _ _ e1 b7 _ _ b3 _ _ b4 _ _ b5 true _ ?side1 ?side2 ?side3 ?side4 ?side5 ?side6 ?side7 ?side8 ?side9 ?side10 ?side11 ?side12 Z7.out).mono ?_); (case side1 => repeat (first | exact (Kd.zaS_ d3.out).2.2 | (with_reducible refine Kd.zaI_ ?_ _) | (with_reducible refine Kd.zaJ_ ?_ _) | (with_reducible refine Kd.C_drew ?_))); (case side2 => exact (Kd.zaS_ d3.out).2.1); (case side3 => repeat (first | exact (Kd.zaS_ d4.out).2.2 | (with_reducible refine Kd.zaI_ ?_ _) | (with_reducible refine Kd.zaJ_ ?_ _) | (with_reducible refine Kd.C_drew ?_))); (case side4 => exact (Kd.zaS_ d4.out).2.1); (case side5 => repeat (first | exact (Kd.zbq_ d5.out).2.2 | (with_reducible refine Kd.zaI_ ?_ _) | (with_reducible refine Kd.zaJ_ ?_ _) | (with_reducible refine Kd.C_drew ?_))); (case side6 => exact (Kd.zbq_ d5.out).2.1); (case side7 => repeat (first | exact (Kd.zaB_ HR0_1.out HB.out) | (with_reducible refine Kd.zaI_ ?_ _) | (with_reducible refine Kd.zaJ_ ?_ _) | (with_reducible refine Kd.C_drew ?_))); (case side8 => exact HC0_1.out); (case side9 => repeat (first | exact (Kd.zaB_ HR0_2.out HB.out) | (with_reducible refine Kd.zaI_ ?_ _) | (with_reducible refine Kd.zaJ_ ?_ _) | (with_reducible refine Kd.C_drew ?_))); (case side10 => exact HC0_2.out); (case side11 => repeat (first | exact (Kd.zaB_ HR0_3.out HB.out) | (with_reducible refine Kd.zaI_ ?_ _) | (with_reducible refine Kd.zaJ_ ?_ _) | (with_reducible refine Kd.C_drew ?_))); (case side12 => exact HC0_3.out); rintro e P3 ⟨rfl, hb⟩; have e6 := Aside0.mk (Kd.zaU_ (by (with_reducible repeat (first | apply Kd.zav_ | apply Kd.zaw_ | apply Kd.R_drew)); exact b8.out) hb); have e7 := Aside0.mk (Kd.zaU_ (by (with_reducible repeat (first | apply Kd.zav_ | apply Kd.zaw_ | apply Kd.R_drew)); exact b9.out) hb); have g7 := Aside0.mk (Kd.zbu_ (by (with_reducible repeat (first | apply Kd.zbg_ | apply Kd.zbi_ | apply Kd.S_drew)); exact c0.out) hb); have g8 := Aside0.mk (Kd.zaU_ (by (with_reducible repeat (first | apply Kd.zav_ | apply Kd.zaw_ | apply Kd.R_drew)); exact d3.out) hb); have h1 := Aside0.mk (Kd.zaU_ (by (with_reducible repeat (first | apply Kd.zav_ | apply Kd.zaw_ | apply Kd.R_drew)); exact d4.out) hb); have j1 := Aside0.mk (Kd.zbu_ (by (with_reducible repeat (first | apply Kd.zbg_ | apply Kd.zbi_ | apply Kd.S_drew)); exact d5.out) hb); have h5 := Aside0.mk (zan_ a5.out hb); have j4 := Aside0.mk (zan_ b0.out hb); have j5 := Aside0.mk (zan_ b1.out hb); have m5 := Aside0.mk (zaj_ (HB.out) hb); clear b8; clear b9; clear c0; clear d3; clear d4; clear d5; clear a5; clear b0; clear b1; clear HB; have b8 := e6; have b9 := e7; have c0 := g7; have d3 := g8; have d4 := h1; have d5 := j1; have a5 := h5; have b0 := j4; have b1 := j5; have HB := m5; clear e6 e7 g7 g8 h1 j1 h5 j4 j5 m5; (try clear hb); (try clear hb2); (try clear hk); (try clear hi); have P4 : P3.cell? ⟨a7, 0, none⟩ = some (.int .i64 d6) := (zab_ b1.out 0).trans rfl; have P5 : P3.cell? ⟨a7, 1, none⟩ = some (.slice h3 d1.length h4) := (zab_ b1.out 1).trans rfl; have P6 : P3.cell? ⟨a7, 2, none⟩ = some (.slice h8 d7.length h9) := (zab_ b1.out 2).trans rfl; have P7 : P3.cell? ⟨a7, 3, none⟩ = some (.slice l2 e1.length l3) := (zab_ b1.out 3).trans rfl; have P8 := zaa_ b1.out 0; have P9 := zaa_ b1.out 1; have Q0 := zaa_ b1.out 2; have Q1 := zaa_ b1.out 3) | (go_at_call 24; (with_reducible refine (zau_.calls k2 d6 _ _ d1 _ _ d7 _ _ e1 h0 _ ?side1 ?side2 ?side3 ?side4 ?side5 ?side6 ?side7 Z8.out).mono ?_); (case side1 => repeat (first | exact (Kd.zaS_ d3.out).2.2 | (with_reducible refine Kd.zaI_ ?_ _) | (with_reducible refine Kd.zaJ_ ?_ _) | (with_reducible refine Kd.C_drew ?_))); (case side2 => exact (Kd.zaS_ d3.out).2.1); (case side3 => repeat (first | exact (Kd.zaS_ d4.out).2.2 | (with_reducible refine Kd.zaI_ ?_ _) | (with_reducible refine Kd.zaJ_ ?_ _) | (with_reducible refine Kd.C_drew ?_))); (case side4 => exact (Kd.zaS_ d4.out).2.1); (case side5 => repeat (first | exact (Kd.zbq_ d5.out).2.2 | (with_reducible refine Kd.zaI_ ?_ _) | (with_reducible refine Kd.zaJ_ ?_ _) | (with_reducible refine Kd.C_drew ?_))); (case side6 => exact (Kd.zbq_ d5.out).2.1); (case side7 => first | exact Glob.below HG.out (HB.out) | (repeat (first | exact Glob.below HG.out HB.out | (with_reducible refine Glob.alloc ?_ _) | (with_reducible refine Glob.drewN ?_ _) | (with_reducible refine Glob.drew ?_)))); rintro e w96 ⟨rfl, hb⟩; have e6 := Aside0.mk (Kd.zaU_ (by (with_reducible repeat (first | apply Kd.zav_ | apply Kd.zaw_ | apply Kd.R_drew)); exact b8.out) hb); have e7 := Aside0.mk (Kd.zaU_ (by (with_reducible repeat (first | apply Kd.zav_ | apply Kd.zaw_ | apply Kd.R_drew)); exact b9.out) hb); have g7 := Aside0.mk (Kd.zbu_ (by (with_reducible repeat (first | apply Kd.zbg_ | apply Kd.zbi_ | apply Kd.S_drew)); exact c0.out) hb); have g8 := Aside0.mk (Kd.zaU_ (by (with_reducible repeat (first | apply Kd.zav_ | apply Kd.zaw_ | apply Kd.R_drew)); exact d3.out) hb); have h1 := Aside0.mk (Kd.zaU_ (by (with_reducible repeat (first | apply Kd.zav_ | apply Kd.zaw_ | apply Kd.R_drew)); exact d4.out) hb); have j1 := Aside0.mk (Kd.zbu_ (by (with_reducible repeat (first | apply Kd.zbg_ | apply Kd.zbi_ | apply Kd.S_drew)); exact d5.out) hb); have h5 := Aside0.mk (zan_ a5.out hb); have j4 := Aside0.mk (zan_ b0.out hb); have j5 := Aside0.mk (zan_ b1.out hb); have m5 := Aside0.mk (zaj_ (HB.out) hb); clear b8; clear b9; clear c0; clear d3; clear d4; clear d5; clear a5; clear b0; clear b1; clear HB; have b8 := e6; have b9 := e7; have c0 := g7; have d3 := g8; have d4 := h1; have d5 := j1; have a5 := h5; have b0 := j4; have b1 := j5; have HB := m5; clear e6 e7 g7 g8 h1 j1 h5 j4 j5 m5; (try clear hb); (try clear hb2); (try clear hk); (try clear hi)))
      go_ret
      exact ⟨by first | rfl | (simp [zal_, zak_] <;> rfl) | (simp [*, zal_, zak_] <;> rfl), HB.out⟩
    rw [if_neg z2] at H
    have C9 : (h0.toList == a9.toList) = false := beq_eq_false_iff_ne.mpr z2
    have D0 : (h0.toList != a9.toList) = true := bne_iff_ne.mpr z2
    by_cases Z2 : e8 = 11
    rotate_left
    · rw [if_neg Z2] at H
      exact absurd ((Option.some.inj H).trans hT_.out) (by simp)
    exact absurd ((beq_iff_eq.mp q4).symm.trans Z2) (by decide)
  rw [if_pos B3] at H
  have B6 : decide (a6 < (a9.size : Int)) = true := decide_eq_true B3
  clear B3
  by_cases v2 : 0 ≤ a6
  rotate_left
  · rw [if_neg v2] at H
    exact absurd H (by simp)
  rw [if_pos v2] at H
  have T8 : decide (0 ≤ a6) = true := decide_eq_true v2
  clear v2
  have HC123 := Aside0.mk H
  clear H
  have D1 : 0 ≤ (a6 : Int) := of_decide_eq_true (by first | (with_reducible assumption) | assumption)
  have D2 : a6 < (a9.size : Int) := of_decide_eq_true (by first | (with_reducible assumption) | assumption)
  have Z3 := bt_at a9 a6
  replace D1 := eq_true D1
  replace D2 := eq_true D2
  go_upto_if 36 with (fail)
  go_cut [6, 7] (fun v6 v7 wc => ∃ (kq : Nat) (b2 : ByteArray) (c6 : Int), v6 = .string b2 ∧ v7 = .int .i64 c6 ∧ Aside0 (zaH_.j2 kq a1 a9 b2 c6 a6 b7 b3 b4 b5 = some r) ∧ Aside0 (kq ≤ k2) ∧ Aside0 (wc.heap[b6]? = some (.cells #[.int .i64 b7, (.slice g1 b3.length g2), (.slice g3 b4.length g4), (.slice g5 b5.length g6)] 37 (0, 0))) ∧ Aside0 (Below w.heap.size w wc))
  case first =>
    have H := HC123.out
    clear HC123
    by_cases p0 : (bt a9 a6) = 10
    rotate_left
    · rw [if_neg p0] at H
      have n0 : ((bt a9 a6) == 10) = false := beq_eq_false_iff_ne.mpr p0
      have z3 : ((bt a9 a6) != 10) = true := bne_iff_ne.mpr p0
      (first | rw [n0] | (simp only [i64_w, i32_w]; rw [n0]) | skip)
      have H' := Aside0.mk H
      clear H
      go_wp2
      go_meet
      case rel => exact ⟨_, (e2), (h2), (by first | rfl | (simp; done) | (simp [*]; done)), (by first | rfl | (simp; done) | (simp [*]; done)), H', ⟨by have := n9.out; have := o0.out; first | omega | exact Nat.le_refl _⟩, ⟨a5.out⟩, ⟨HB.out⟩⟩
    rw [if_pos p0] at H
    have n0 : ((bt a9 a6) == 10) = true := beq_iff_eq.mpr p0
    have z3 : ((bt a9 a6) != 10) = false := bne_eq_false_iff_eq.mpr p0
    clear p0
    (first | rw [n0] | (simp only [i64_w, i32_w]; rw [n0]) | skip)
    obtain ⟨l4, r0⟩ : ∃ j_ : Int, (IntKind.u64.wrap (Int.tmod (wrap64 (h2 + 1)) 16)) = j_ := ⟨_, rfl⟩
    replace H : (if 0 ≤ (l4) then (if (Go.bits .and .u16 (shr .u16 a1 (l4)) 1) = 1 then (if e2.size + 8 ≤ 9223372036854775807 then (zaH_.j2 k2 a1 a9 (e2 ++ (⟨#[32, 32, 35, 32, 109, 111, 114, 101]⟩ : ByteArray)) (wrap64 (h2 + 1)) a6 b7 b3 b4 b5) else (none)) else (zaH_.j2 k2 a1 a9 e2 (wrap64 (h2 + 1)) a6 b7 b3 b4 b5)) else (none)) = some r := by first | (rw [r0] at H; exact H) | (simp only [r0] at H ⊢; exact H)
    by_cases r1 : 0 ≤ (l4)
    rotate_left
    · rw [if_neg r1] at H
      exact absurd H (by simp)
    rw [if_pos r1] at H
    have T9 := eq_true r1
    have U0 : decide (0 ≤ (l4)) = true := decide_eq_true r1
    clear r1
    obtain ⟨l5, n4⟩ : ∃ j_ : Int, (shr .u16 a1 (l4)) = j_ := ⟨_, rfl⟩
    replace H : (if (Go.bits .and .u16 (l5) 1) = 1 then (if e2.size + 8 ≤ 9223372036854775807 then (zaH_.j2 k2 a1 a9 (e2 ++ (⟨#[32, 32, 35, 32, 109, 111, 114, 101]⟩ : ByteArray)) (wrap64 (h2 + 1)) a6 b7 b3 b4 b5) else (none)) else (zaH_.j2 k2 a1 a9 e2 (wrap64 (h2 + 1)) a6 b7 b3 b4 b5)) = some r := by first | (rw [n4] at H; exact H) | (simp only [n4] at H ⊢; exact H)
    have Q2 : (a1 / 2 ^ min (l4).toNat 16) = l5 := n4
    have Q3 : (l4) ≤ 16 → (a1 / 2 ^ (l4).toNat) = l5 := shr_small n4
    by_cases p1 : (Go.bits .and .u16 (l5) 1) = 1
    rotate_left
    · rw [if_neg p1] at H
      have z4 : ((Go.bits .and .u16 (l5) 1) == 1) = false := beq_eq_false_iff_ne.mpr p1
      have z5 : ((Go.bits .and .u16 (l5) 1) != 1) = true := bne_iff_ne.mpr p1
      have H' := Aside0.mk H
      clear H
      go_wp2
      go_meet
      case rel => exact ⟨_, (e2), (wrap64 (h2 + 1)), (by first | rfl | (simp; done) | (simp [*]; done)), (by first | rfl | (simp; done) | (simp [*]; done)), H', ⟨by have := n9.out; have := o0.out; first | omega | exact Nat.le_refl _⟩, ⟨a5.out⟩, ⟨HB.out⟩⟩
    rw [if_pos p1] at H
    have z4 : ((Go.bits .and .u16 (l5) 1) == 1) = true := beq_iff_eq.mpr p1
    have z5 : ((Go.bits .and .u16 (l5) 1) != 1) = false := bne_eq_false_iff_eq.mpr p1
    clear p1
    by_cases r2 : e2.size + 8 ≤ 9223372036854775807
    rotate_left
    · rw [if_neg r2] at H
      exact absurd H (by simp)
    rw [if_pos r2] at H
    have U1 := eq_true r2
    have U2 : decide (e2.size + 8 ≤ 9223372036854775807) = true := decide_eq_true r2
    try have U3 : (9223372036854775807 < e2.size + 8) = False := eq_false (Nat.not_lt.2 r2)
    have H' := Aside0.mk H
    clear H
    go_wp2
    go_meet
    case rel => exact ⟨_, (e2 ++ (⟨#[32, 32, 35, 32, 109, 111, 114, 101]⟩ : ByteArray)), (wrap64 (h2 + 1)), (by first | rfl | (simp; done) | (simp [*]; done)), (by first | rfl | (simp; done) | (simp [*]; done)), H', ⟨by have := n9.out; have := o0.out; first | omega | exact Nat.le_refl _⟩, ⟨a5.out⟩, ⟨HB.out⟩⟩
  clear HC123
  obtain ⟨kq, b2, c6, rfl, rfl, HA, e9, a5, HB⟩ := hcut
  cases kq with
  | zero => exact absurd HA.out (by simp [zaH_.j2])
  | succ r3 => ?_
  have H := HA.out
  clear HA
  simp only [zaH_.j2] at H
  have HC130 := Aside0.mk H
  clear H
  go_upto_region 15 with (fail)
  go_cut [60] (fun Z9 wc => ∃ (kq : Nat) (m3 : Bool), Z9 = .bool m3 ∧ Aside0 (zaH_.j3 kq a1 a9 b2 c6 a6 m3 b7 b3 b4 b5 = some r) ∧ Aside0 (kq ≤ r3) ∧ Aside0 (wc.heap[b6]? = some (.cells #[.int .i64 b7, (.slice g1 b3.length g2), (.slice g3 b4.length g4), (.slice g5 b5.length g6)] 37 (0, 0))) ∧ Aside0 (Below w.heap.size w wc))
  case first =>
    have H := HC130.out
    clear HC130
    by_cases v3 : 0 ≤ a6
    rotate_left
    · rw [if_neg v3] at H
      exact absurd H (by simp)
    rw [if_pos v3] at H
    have r4 : decide (0 ≤ a6) = true := decide_eq_true v3
    clear v3
    (first | rw [r4] | (simp only [i64_w, i32_w]; rw [r4]) | skip)
    by_cases v4 : a6 < (a9.size : Int)
    rotate_left
    · rw [if_neg v4] at H
      exact absurd H (by simp)
    rw [if_pos v4] at H
    have U4 : decide (a6 < (a9.size : Int)) = true := decide_eq_true v4
    clear v4
    by_cases p2 : (bt a9 a6) = 32
    rotate_left
    · rw [if_neg p2] at H
      have z6 : ((bt a9 a6) == 32) = false := beq_eq_false_iff_ne.mpr p2
      have z7 : ((bt a9 a6) != 32) = true := bne_iff_ne.mpr p2
      have H' := Aside0.mk H
      clear H
      have r5 : 0 ≤ (a6 : Int) := of_decide_eq_true (by first | (with_reducible assumption) | assumption)
      have r6 : a6 < (a9.size : Int) := of_decide_eq_true (by first | (with_reducible assumption) | assumption)
      have D3 := bt_at a9 a6
      replace r5 := eq_true r5
      replace r6 := eq_true r6
      go_wp2
      go_meet
      case rel => exact ⟨_, (false), (by first | rfl | (simp; done) | (simp [*]; done)), H', ⟨by have := n9.out; have := o0.out; have := e9.out; first | omega | exact Nat.le_refl _⟩, ⟨a5.out⟩, ⟨HB.out⟩⟩
    rw [if_pos p2] at H
    have z6 : ((bt a9 a6) == 32) = true := beq_iff_eq.mpr p2
    have z7 : ((bt a9 a6) != 32) = false := bne_eq_false_iff_eq.mpr p2
    clear p2
    obtain ⟨l6, r7⟩ : ∃ j_ : Int, (IntKind.u64.wrap (Int.tmod a6 16)) = j_ := ⟨_, rfl⟩
    replace H : (if 0 ≤ (l6) then (zaH_.j3 r3 a1 a9 b2 c6 a6 ((Go.bits .and .u16 (shr .u16 a1 (l6)) 1) == 1) b7 b3 b4 b5) else (none)) = some r := by first | (rw [r7] at H; exact H) | (simp only [r7] at H ⊢; exact H)
    by_cases r8 : 0 ≤ (l6)
    rotate_left
    · rw [if_neg r8] at H
      exact absurd H (by simp)
    rw [if_pos r8] at H
    have U5 := eq_true r8
    have U6 : decide (0 ≤ (l6)) = true := decide_eq_true r8
    clear r8
    obtain ⟨p9, n1⟩ : ∃ j_ : Int, (shr .u16 a1 (l6)) = j_ := ⟨_, rfl⟩
    replace H : (zaH_.j3 r3 a1 a9 b2 c6 a6 ((Go.bits .and .u16 (p9) 1) == 1) b7 b3 b4 b5) = some r := by first | (rw [n1] at H; exact H) | (simp only [n1] at H ⊢; exact H)
    have Q4 : (a1 / 2 ^ min (l6).toNat 16) = p9 := n1
    have Q5 : (l6) ≤ 16 → (a1 / 2 ^ (l6).toNat) = p9 := shr_small n1
    have H' := Aside0.mk H
    clear H
    have r5 : 0 ≤ (a6 : Int) := of_decide_eq_true (by first | (with_reducible assumption) | assumption)
    have r6 : a6 < (a9.size : Int) := of_decide_eq_true (by first | (with_reducible assumption) | assumption)
    have D3 := bt_at a9 a6
    replace r5 := eq_true r5
    replace r6 := eq_true r6
    go_wp2
    go_meet
    case rel => exact ⟨_, (((Go.bits .and .u16 (p9) 1) == 1)), (by first | rfl | (simp; done) | (simp only [← n1] <;> (first | rfl | simp)) | (simp [*]; done)), H', ⟨by have := n9.out; have := o0.out; have := e9.out; first | omega | exact Nat.le_refl _⟩, ⟨a5.out⟩, ⟨HB.out⟩⟩
  clear HC130
  obtain ⟨kq, m3, rfl, HA, g9, a5, HB⟩ := hcut
  cases kq with
  | zero => exact absurd HA.out (by simp [zaH_.j3])
  | succ g0 => ?_
  have H := HA.out
  clear HA
  simp only [zaH_.j3] at H
  by_cases v5 : m3 = true
  rotate_left
  · replace v5 := Bool.eq_false_iff.mpr v5
    subst v5
    rw [if_neg (show ¬ (false = true) by decide)] at H
    by_cases r9 : 0 ≤ a6
    rotate_left
    · rw [if_neg r9] at H
      exact absurd H (by simp)
    rw [if_pos r9] at H
    have U7 := eq_true r9
    have U8 : decide (0 ≤ a6) = true := decide_eq_true r9
    clear r9
    by_cases v9 : a6 ≤ (wrap64 (a6 + 1))
    rotate_left
    · rw [if_neg v9] at H
      exact absurd H (by simp)
    rw [if_pos v9] at H
    have U9 := eq_true v9
    have V0 : decide (a6 ≤ (wrap64 (a6 + 1))) = true := decide_eq_true v9
    by_cases w0 : (wrap64 (a6 + 1)) ≤ (a9.size : Int)
    rotate_left
    · rw [if_neg w0] at H
      exact absurd H (by simp)
    rw [if_pos w0] at H
    have V1 := eq_true w0
    have V2 : decide ((wrap64 (a6 + 1)) ≤ (a9.size : Int)) = true := decide_eq_true w0
    by_cases t0 : b2.size + (a9.extract (a6 : Int).toNat ((wrap64 (a6 + 1)) : Int).toNat).size ≤ 9223372036854775807
    rotate_left
    · rw [if_neg t0] at H
      exact absurd H (by simp)
    rw [if_pos t0] at H
    have V3 := eq_true t0
    have V4 : decide (b2.size + (a9.extract (a6 : Int).toNat ((wrap64 (a6 + 1)) : Int).toNat).size ≤ 9223372036854775807) = true := decide_eq_true t0
    try have V5 : (9223372036854775807 < b2.size + (a9.extract (a6 : Int).toNat ((wrap64 (a6 + 1)) : Int).toNat).size) = False := eq_false (Nat.not_lt.2 t0)
    by_cases w1 : a6 < (a9.size : Int)
    rotate_left
    · rw [if_neg w1] at H
      exact absurd H (by simp)
    rw [if_pos w1] at H
    have V6 : decide (a6 < (a9.size : Int)) = true := decide_eq_true w1
    clear w1
    by_cases p3 : (bt a9 a6) = 10
    rotate_left
    · rw [if_neg p3] at H
      have z8 : ((bt a9 a6) == 10) = false := beq_eq_false_iff_ne.mpr p3
      have z9 : ((bt a9 a6) != 10) = true := bne_iff_ne.mpr p3
      have H' := Aside0.mk H
      clear H
      have o1 : 0 ≤ (a6 : Int) := of_decide_eq_true (by first | (with_reducible assumption) | assumption)
      have o2 : a6 < (a9.size : Int) := of_decide_eq_true (by first | (with_reducible assumption) | assumption)
      have x9 := bt_at a9 a6
      replace o1 := eq_true o1
      replace o2 := eq_true o2
      go_wp2
      go_roundg g0
      case measure => have := n9.out; have := o0.out; have := e9.out; have := g9.out; omega
      case rel => exact ⟨(b2 ++ (a9.extract (a6 : Int).toNat ((wrap64 (a6 + 1)) : Int).toNat)), (c6), (wrap64 (a6 + 1)), (by first | rfl | (simp; done) | (simp [*]; done)), (by first | rfl | (simp; done) | (simp [*]; done)), (by first | rfl | (simp; done) | (simp [*]; done)), H', ⟨by have := n9.out; have := o0.out; have := e9.out; have := g9.out; omega⟩, ⟨a5.out⟩, ⟨HB.out⟩⟩
    rw [if_pos p3] at H
    have z8 : ((bt a9 a6) == 10) = true := beq_iff_eq.mpr p3
    have z9 : ((bt a9 a6) != 10) = false := bne_eq_false_iff_eq.mpr p3
    clear p3
    obtain ⟨l7, t1⟩ : ∃ j_ : Int, (IntKind.u64.wrap (Int.tmod (wrap64 (c6 + 5)) 16)) = j_ := ⟨_, rfl⟩
    replace H : (if 0 ≤ (l7) then (if (Go.bits .and .u16 (shr .u16 a1 (l7)) 1) = 1 then (if (b2 ++ (a9.extract (a6 : Int).toNat ((wrap64 (a6 + 1)) : Int).toNat)).size + 4 ≤ 9223372036854775807 then (zaH_.l0 g0 a1 a9 ((b2 ++ (a9.extract (a6 : Int).toNat ((wrap64 (a6 + 1)) : Int).toNat)) ++ (⟨#[32, 32, 32, 10]⟩ : ByteArray)) c6 (wrap64 (a6 + 1)) b7 b3 b4 b5) else (none)) else (zaH_.l0 g0 a1 a9 (b2 ++ (a9.extract (a6 : Int).toNat ((wrap64 (a6 + 1)) : Int).toNat)) c6 (wrap64 (a6 + 1)) b7 b3 b4 b5)) else (none)) = some r := by first | (rw [t1] at H; exact H) | (simp only [t1] at H ⊢; exact H)
    by_cases t2 : 0 ≤ (l7)
    rotate_left
    · rw [if_neg t2] at H
      exact absurd H (by simp)
    rw [if_pos t2] at H
    have V7 := eq_true t2
    have V8 : decide (0 ≤ (l7)) = true := decide_eq_true t2
    clear t2
    obtain ⟨l8, n5⟩ : ∃ j_ : Int, (shr .u16 a1 (l7)) = j_ := ⟨_, rfl⟩
    replace H : (if (Go.bits .and .u16 (l8) 1) = 1 then (if (b2 ++ (a9.extract (a6 : Int).toNat ((wrap64 (a6 + 1)) : Int).toNat)).size + 4 ≤ 9223372036854775807 then (zaH_.l0 g0 a1 a9 ((b2 ++ (a9.extract (a6 : Int).toNat ((wrap64 (a6 + 1)) : Int).toNat)) ++ (⟨#[32, 32, 32, 10]⟩ : ByteArray)) c6 (wrap64 (a6 + 1)) b7 b3 b4 b5) else (none)) else (zaH_.l0 g0 a1 a9 (b2 ++ (a9.extract (a6 : Int).toNat ((wrap64 (a6 + 1)) : Int).toNat)) c6 (wrap64 (a6 + 1)) b7 b3 b4 b5)) = some r := by first | (rw [n5] at H; exact H) | (simp only [n5] at H ⊢; exact H)
    have Q6 : (a1 / 2 ^ min (l7).toNat 16) = l8 := n5
    have Q7 : (l7) ≤ 16 → (a1 / 2 ^ (l7).toNat) = l8 := shr_small n5
    by_cases p4 : (Go.bits .and .u16 (l8) 1) = 1
    rotate_left
    · rw [if_neg p4] at H
      have A0 : ((Go.bits .and .u16 (l8) 1) == 1) = false := beq_eq_false_iff_ne.mpr p4
      have A1 : ((Go.bits .and .u16 (l8) 1) != 1) = true := bne_iff_ne.mpr p4
      have H' := Aside0.mk H
      clear H
      have o1 : 0 ≤ (a6 : Int) := of_decide_eq_true (by first | (with_reducible assumption) | assumption)
      have o2 : a6 < (a9.size : Int) := of_decide_eq_true (by first | (with_reducible assumption) | assumption)
      have x9 := bt_at a9 a6
      replace o1 := eq_true o1
      replace o2 := eq_true o2
      go_wp2
      go_roundg g0
      case measure => have := n9.out; have := o0.out; have := e9.out; have := g9.out; omega
      case rel => exact ⟨(b2 ++ (a9.extract (a6 : Int).toNat ((wrap64 (a6 + 1)) : Int).toNat)), (c6), (wrap64 (a6 + 1)), (by first | rfl | (simp; done) | (simp [*]; done)), (by first | rfl | (simp; done) | (simp [*]; done)), (by first | rfl | (simp; done) | (simp [*]; done)), H', ⟨by have := n9.out; have := o0.out; have := e9.out; have := g9.out; omega⟩, ⟨a5.out⟩, ⟨HB.out⟩⟩
    rw [if_pos p4] at H
    have A0 : ((Go.bits .and .u16 (l8) 1) == 1) = true := beq_iff_eq.mpr p4
    have A1 : ((Go.bits .and .u16 (l8) 1) != 1) = false := bne_eq_false_iff_eq.mpr p4
    clear p4
    by_cases t3 : (b2 ++ (a9.extract (a6 : Int).toNat ((wrap64 (a6 + 1)) : Int).toNat)).size + 4 ≤ 9223372036854775807
    rotate_left
    · rw [if_neg t3] at H
      exact absurd H (by simp)
    rw [if_pos t3] at H
    have V9 := eq_true t3
    have W0 : decide ((b2 ++ (a9.extract (a6 : Int).toNat ((wrap64 (a6 + 1)) : Int).toNat)).size + 4 ≤ 9223372036854775807) = true := decide_eq_true t3
    try have A2 : (9223372036854775807 < (b2 ++ (a9.extract (a6 : Int).toNat ((wrap64 (a6 + 1)) : Int).toNat)).size + 4) = False := eq_false (Nat.not_lt.2 t3)
    try (have t4 := A2; (repeat rw [ByteArray.size_append] at t4))
    have H' := Aside0.mk H
    clear H
    have o1 : 0 ≤ (a6 : Int) := of_decide_eq_true (by first | (with_reducible assumption) | assumption)
    have o2 : a6 < (a9.size : Int) := of_decide_eq_true (by first | (with_reducible assumption) | assumption)
    have x9 := bt_at a9 a6
    try have W1 : (a6 : Int).toNat = a6.toNat := rfl
    try (have A4 := t4; rw [ByteArray.size_extract, Nat.min_eq_left (by unfold wrap64; omega)] at A4)
    replace o1 := eq_true o1
    replace o2 := eq_true o2
    go_wp2
    go_roundg g0
    case measure => have := n9.out; have := o0.out; have := e9.out; have := g9.out; omega
    case rel => exact ⟨((b2 ++ (a9.extract (a6 : Int).toNat ((wrap64 (a6 + 1)) : Int).toNat)) ++ (⟨#[32, 32, 32, 10]⟩ : ByteArray)), (c6), (wrap64 (a6 + 1)), (by first | rfl | (simp; done) | (simp [*]; done)), (by first | rfl | (simp; done) | (simp [*]; done)), (by first | rfl | (simp; done) | (simp [*]; done)), H', ⟨by have := n9.out; have := o0.out; have := e9.out; have := g9.out; omega⟩, ⟨a5.out⟩, ⟨HB.out⟩⟩
  subst v5
  rw [if_pos rfl] at H
  by_cases t5 : b2.size + 1 ≤ 9223372036854775807
  rotate_left
  · rw [if_neg t5] at H
    exact absurd H (by simp)
  rw [if_pos t5] at H
  have W2 := eq_true t5
  have W3 : decide (b2.size + 1 ≤ 9223372036854775807) = true := decide_eq_true t5
  try have W4 : (9223372036854775807 < b2.size + 1) = False := eq_false (Nat.not_lt.2 t5)
  by_cases t6 : 0 ≤ a6
  rotate_left
  · rw [if_neg t6] at H
    exact absurd H (by simp)
  rw [if_pos t6] at H
  have W5 := eq_true t6
  have W6 : decide (0 ≤ a6) = true := decide_eq_true t6
  clear t6
  by_cases w2 : a6 ≤ (wrap64 (a6 + 1))
  rotate_left
  · rw [if_neg w2] at H
    exact absurd H (by simp)
  rw [if_pos w2] at H
  have W7 := eq_true w2
  have W8 : decide (a6 ≤ (wrap64 (a6 + 1))) = true := decide_eq_true w2
  by_cases w3 : (wrap64 (a6 + 1)) ≤ (a9.size : Int)
  rotate_left
  · rw [if_neg w3] at H
    exact absurd H (by simp)
  rw [if_pos w3] at H
  have W9 := eq_true w3
  have X0 : decide ((wrap64 (a6 + 1)) ≤ (a9.size : Int)) = true := decide_eq_true w3
  by_cases t7 : (b2 ++ (⟨#[32]⟩ : ByteArray)).size + (a9.extract (a6 : Int).toNat ((wrap64 (a6 + 1)) : Int).toNat).size ≤ 9223372036854775807
  rotate_left
  · rw [if_neg t7] at H
    exact absurd H (by simp)
  rw [if_pos t7] at H
  have X1 := eq_true t7
  have X2 : decide ((b2 ++ (⟨#[32]⟩ : ByteArray)).size + (a9.extract (a6 : Int).toNat ((wrap64 (a6 + 1)) : Int).toNat).size ≤ 9223372036854775807) = true := decide_eq_true t7
  try have A5 : (9223372036854775807 < (b2 ++ (⟨#[32]⟩ : ByteArray)).size + (a9.extract (a6 : Int).toNat ((wrap64 (a6 + 1)) : Int).toNat).size) = False := eq_false (Nat.not_lt.2 t7)
  try (have t8 := A5; (repeat rw [ByteArray.size_append] at t8); (try rw [show (⟨#[32]⟩ : ByteArray).size = 1 from rfl] at t8))
  by_cases w4 : a6 < (a9.size : Int)
  rotate_left
  · rw [if_neg w4] at H
    exact absurd H (by simp)
  rw [if_pos w4] at H
  have X3 : decide (a6 < (a9.size : Int)) = true := decide_eq_true w4
  clear w4
  by_cases p5 : (bt a9 a6) = 10
  rotate_left
  · rw [if_neg p5] at H
    have A6 : ((bt a9 a6) == 10) = false := beq_eq_false_iff_ne.mpr p5
    have A7 : ((bt a9 a6) != 10) = true := bne_iff_ne.mpr p5
    have H' := Aside0.mk H
    clear H
    have o3 : 0 ≤ (a6 : Int) := of_decide_eq_true (by first | (with_reducible assumption) | assumption)
    have o4 : a6 < (a9.size : Int) := of_decide_eq_true (by first | (with_reducible assumption) | assumption)
    have z0 := bt_at a9 a6
    replace o3 := eq_true o3
    replace o4 := eq_true o4
    go_wp2
    go_roundg g0
    case measure => have := n9.out; have := o0.out; have := e9.out; have := g9.out; omega
    case rel => exact ⟨((b2 ++ (⟨#[32]⟩ : ByteArray)) ++ (a9.extract (a6 : Int).toNat ((wrap64 (a6 + 1)) : Int).toNat)), (c6), (wrap64 (a6 + 1)), (by first | rfl | (simp; done) | (simp [*]; done)), (by first | rfl | (simp; done) | (simp [*]; done)), (by first | rfl | (simp; done) | (simp [*]; done)), H', ⟨by have := n9.out; have := o0.out; have := e9.out; have := g9.out; omega⟩, ⟨a5.out⟩, ⟨HB.out⟩⟩
  rw [if_pos p5] at H
  have A6 : ((bt a9 a6) == 10) = true := beq_iff_eq.mpr p5
  have A7 : ((bt a9 a6) != 10) = false := bne_eq_false_iff_eq.mpr p5
  clear p5
  obtain ⟨l9, t9⟩ : ∃ j_ : Int, (IntKind.u64.wrap (Int.tmod (wrap64 (c6 + 5)) 16)) = j_ := ⟨_, rfl⟩
  replace H : (if 0 ≤ (l9) then (if (Go.bits .and .u16 (shr .u16 a1 (l9)) 1) = 1 then (if ((b2 ++ (⟨#[32]⟩ : ByteArray)) ++ (a9.extract (a6 : Int).toNat ((wrap64 (a6 + 1)) : Int).toNat)).size + 4 ≤ 9223372036854775807 then (zaH_.l0 g0 a1 a9 (((b2 ++ (⟨#[32]⟩ : ByteArray)) ++ (a9.extract (a6 : Int).toNat ((wrap64 (a6 + 1)) : Int).toNat)) ++ (⟨#[32, 32, 32, 10]⟩ : ByteArray)) c6 (wrap64 (a6 + 1)) b7 b3 b4 b5) else (none)) else (zaH_.l0 g0 a1 a9 ((b2 ++ (⟨#[32]⟩ : ByteArray)) ++ (a9.extract (a6 : Int).toNat ((wrap64 (a6 + 1)) : Int).toNat)) c6 (wrap64 (a6 + 1)) b7 b3 b4 b5)) else (none)) = some r := by first | (rw [t9] at H; exact H) | (simp only [t9] at H ⊢; exact H)
  by_cases v0 : 0 ≤ (l9)
  rotate_left
  · rw [if_neg v0] at H
    exact absurd H (by simp)
  rw [if_pos v0] at H
  have X4 := eq_true v0
  have X5 : decide (0 ≤ (l9)) = true := decide_eq_true v0
  clear v0
  obtain ⟨m0, n6⟩ : ∃ j_ : Int, (shr .u16 a1 (l9)) = j_ := ⟨_, rfl⟩
  replace H : (if (Go.bits .and .u16 (m0) 1) = 1 then (if ((b2 ++ (⟨#[32]⟩ : ByteArray)) ++ (a9.extract (a6 : Int).toNat ((wrap64 (a6 + 1)) : Int).toNat)).size + 4 ≤ 9223372036854775807 then (zaH_.l0 g0 a1 a9 (((b2 ++ (⟨#[32]⟩ : ByteArray)) ++ (a9.extract (a6 : Int).toNat ((wrap64 (a6 + 1)) : Int).toNat)) ++ (⟨#[32, 32, 32, 10]⟩ : ByteArray)) c6 (wrap64 (a6 + 1)) b7 b3 b4 b5) else (none)) else (zaH_.l0 g0 a1 a9 ((b2 ++ (⟨#[32]⟩ : ByteArray)) ++ (a9.extract (a6 : Int).toNat ((wrap64 (a6 + 1)) : Int).toNat)) c6 (wrap64 (a6 + 1)) b7 b3 b4 b5)) = some r := by first | (rw [n6] at H; exact H) | (simp only [n6] at H ⊢; exact H)
  have Q8 : (a1 / 2 ^ min (l9).toNat 16) = m0 := n6
  have Q9 : (l9) ≤ 16 → (a1 / 2 ^ (l9).toNat) = m0 := shr_small n6
  by_cases p6 : (Go.bits .and .u16 (m0) 1) = 1
  rotate_left
  · rw [if_neg p6] at H
    have A9 : ((Go.bits .and .u16 (m0) 1) == 1) = false := beq_eq_false_iff_ne.mpr p6
    have B0 : ((Go.bits .and .u16 (m0) 1) != 1) = true := bne_iff_ne.mpr p6
    have H' := Aside0.mk H
    clear H
    have o3 : 0 ≤ (a6 : Int) := of_decide_eq_true (by first | (with_reducible assumption) | assumption)
    have o4 : a6 < (a9.size : Int) := of_decide_eq_true (by first | (with_reducible assumption) | assumption)
    have z0 := bt_at a9 a6
    replace o3 := eq_true o3
    replace o4 := eq_true o4
    go_wp2
    go_roundg g0
    case measure => have := n9.out; have := o0.out; have := e9.out; have := g9.out; omega
    case rel => exact ⟨((b2 ++ (⟨#[32]⟩ : ByteArray)) ++ (a9.extract (a6 : Int).toNat ((wrap64 (a6 + 1)) : Int).toNat)), (c6), (wrap64 (a6 + 1)), (by first | rfl | (simp; done) | (simp [*]; done)), (by first | rfl | (simp; done) | (simp [*]; done)), (by first | rfl | (simp; done) | (simp [*]; done)), H', ⟨by have := n9.out; have := o0.out; have := e9.out; have := g9.out; omega⟩, ⟨a5.out⟩, ⟨HB.out⟩⟩
  rw [if_pos p6] at H
  have A9 : ((Go.bits .and .u16 (m0) 1) == 1) = true := beq_iff_eq.mpr p6
  have B0 : ((Go.bits .and .u16 (m0) 1) != 1) = false := bne_eq_false_iff_eq.mpr p6
  clear p6
  by_cases v1 : ((b2 ++ (⟨#[32]⟩ : ByteArray)) ++ (a9.extract (a6 : Int).toNat ((wrap64 (a6 + 1)) : Int).toNat)).size + 4 ≤ 9223372036854775807
  rotate_left
  · rw [if_neg v1] at H
    exact absurd H (by simp)
  rw [if_pos v1] at H
  have X6 := eq_true v1
  have X7 : decide (((b2 ++ (⟨#[32]⟩ : ByteArray)) ++ (a9.extract (a6 : Int).toNat ((wrap64 (a6 + 1)) : Int).toNat)).size + 4 ≤ 9223372036854775807) = true := decide_eq_true v1
  try have B1 : (9223372036854775807 < ((b2 ++ (⟨#[32]⟩ : ByteArray)) ++ (a9.extract (a6 : Int).toNat ((wrap64 (a6 + 1)) : Int).toNat)).size + 4) = False := eq_false (Nat.not_lt.2 v1)
  try (have p7 := B1; (repeat rw [ByteArray.size_append] at p7); (try rw [show (⟨#[32]⟩ : ByteArray).size = 1 from rfl] at p7))
  have H' := Aside0.mk H
  clear H
  have o3 : 0 ≤ (a6 : Int) := of_decide_eq_true (by first | (with_reducible assumption) | assumption)
  have o4 : a6 < (a9.size : Int) := of_decide_eq_true (by first | (with_reducible assumption) | assumption)
  have z0 := bt_at a9 a6
  try have X8 : (a6 : Int).toNat = a6.toNat := rfl
  try (have B2 := p7; rw [ByteArray.size_extract, Nat.min_eq_left (by unfold wrap64; omega)] at B2)
  replace o3 := eq_true o3
  replace o4 := eq_true o4
  go_wp2
  go_roundg g0
  case measure => have := n9.out; have := o0.out; have := e9.out; have := g9.out; omega
  case rel => exact ⟨(((b2 ++ (⟨#[32]⟩ : ByteArray)) ++ (a9.extract (a6 : Int).toNat ((wrap64 (a6 + 1)) : Int).toNat)) ++ (⟨#[32, 32, 32, 10]⟩ : ByteArray)), (c6), (wrap64 (a6 + 1)), (by first | rfl | (simp; done) | (simp [*]; done)), (by first | rfl | (simp; done) | (simp [*]; done)), (by first | rfl | (simp; done) | (simp [*]; done)), H', ⟨by have := n9.out; have := o0.out; have := e9.out; have := g9.out; omega⟩, ⟨a5.out⟩, ⟨HB.out⟩⟩
end Go.Proofs.YtgkjoodlcojkkaaDoor.QD
end
section
namespace Go.Proofs.YtgkjoodlcojkkaaDoor.Y
open Go.RowKit Go.Proofs.YtgkjoodlcojkkaaDoorW.PrintWords Go.Proofs.YtgkjoodlcojkkaaDoorW.PrintLast Go.Proofs.YtgkjoodlcojkkaaDoorW.PrintMore Go.Proofs.YtgkjoodlcojkkaaDoor.QD
set_option linter.unusedVariables false
set_option linter.unusedSimpArgs false
theorem few_loop (p : Int) (cs hs : List Int) (ts : List S53) (hl : ts.length < 1000) : ∀ (d i k : Nat), i + d = ts.length → d < k →
    ∃ b, sl_few.l0 k (i : Int) p cs hs ts = some b ∧ (b = true → ∀ t ∈ ts.drop i, t.f0.size ≤ 20 ∧ t.f5.length ≤ 10)
  | _, _, 0, _, hk => by omega
  | 0, i, k + 1, h, _ => by
    unfold sl_few.l0
    rw [if_neg (by omega), List.drop_eq_nil_of_le (by omega)]
    exact ⟨true, rfl, fun _ t ht => by cases ht⟩
  | d + 1, i, k + 1, h, hk => by
    have hi : i < ts.length := by omega
    unfold sl_few.l0
    rw [if_pos (by omega), if_pos (by omega), rd53 ts i hi, w64s i (by omega)]
    by_cases h1 : ((ts[i].f0).size : Int) > 20
    · rw [if_pos h1]; exact ⟨false, rfl, fun e => by cases e⟩
    rw [if_neg h1]
    by_cases h2 : ((ts[i].f5).length : Int) > 10
    · rw [if_pos h2]; exact ⟨false, rfl, fun e => by cases e⟩
    rw [if_neg h2]
    obtain ⟨b, e, hb⟩ := few_loop p cs hs ts hl d (i + 1) k (by omega) (by omega)
    refine ⟨b, e, fun hbt t ht => ?_⟩
    rw [List.drop_eq_getElem_cons hi] at ht
    rcases List.mem_cons.1 ht with rfl | ht
    · omega
    · exact hb hbt t ht
theorem few_eq (p : Int) (cs hs : List Int) (ts : List S53) (k : Nat) (hk : 100 < k) : ∃ b, sl_few.f k p cs hs ts = some b ∧ (b = true → cs.length ≤ 8 ∧ hs.length ≤ 10 ∧ ts.length ≤ 9 ∧ ∀ t ∈ ts, t.f0.size ≤ 20 ∧ t.f5.length ≤ 10) := by
  unfold sl_few.f
  obtain ⟨k, rfl⟩ : ∃ k', k = k' + 1 := ⟨k - 1, by omega⟩
  have hj0 : ∀ b, sl_few.j0 (k + 1) b p cs hs ts = if b = true then some false else sl_few.l0 k 0 p cs hs ts := fun b => by rw [sl_few.j0]
  rw [hj0, hj0, if_pos rfl]
  by_cases h1 : (cs.length : Int) > 8
  · rw [if_pos h1]; exact ⟨false, rfl, fun e => by cases e⟩
  rw [if_neg h1]
  by_cases h2 : (hs.length : Int) > 10
  · rw [if_pos h2]; exact ⟨false, rfl, fun e => by cases e⟩
  rw [if_neg h2]
  by_cases h3 : (ts.length : Int) > 9
  · rw [if_pos (decide_eq_true h3)]; exact ⟨false, rfl, fun e => by cases e⟩
  rw [if_neg (by rw [decide_eq_true_eq]; exact h3)]
  obtain ⟨b, e, hb⟩ := few_loop p cs hs ts (by omega) ts.length 0 k (by omega) (by omega)
  exact ⟨b, e, fun hbt => ⟨by omega, by omega, by omega, hb hbt⟩⟩
def gapB (a : Int) (m : Nat) : Bool := decide ((Go.bits .and .u16 (shr .u16 a (IntKind.u64.wrap (Int.tmod (m : Int) 16))) 1) = 1)
theorem u64_nn (x : Int) : 0 ≤ IntKind.u64.wrap x := by
  unfold IntKind.wrap
  simp [IntKind.signed, IntKind.bits]
  omega
theorem ext1 (t : Bs) (i : Nat) (h : i < t.length) (ht : t.length < 1000000) : (B t).extract ((i : Nat) : Int).toNat ((wrap64 (((i : Nat) : Int) + 1)) : Int).toNat = B [t[i]] := by
  rw [w64s i (by omega), extract_B, Int.toNat_natCast, Int.toNat_natCast]
  congr 1
  rw [List.drop_take, List.drop_eq_getElem_cons h, show i + 1 - i = 1 by omega]
  rfl
theorem back_j3 (a p : Int) (cs hs : List Int) (ts : List S53) (t : Bs) (ht : t.length < 1000000) (u : Bs) (hu : u.length < 100000000) (n i k : Nat) (hi : i < t.length) (hn : n < 1000000) (b : Bool) :
    zaH_.j3 (k + 1) a (B t) (B u) (n : Int) (i : Int) b p cs hs ts = zaH_.l0 k a (B t) (B (u ++ (if b = true then [32] else []) ++ [t[i]] ++ (if t[i] = 10 then (if gapB a (n + 5) = true then [32, 32, 32, 10] else []) else []))) (n : Int) ((i + 1 : Nat) : Int) p cs hs ts := by
  have hbt : bt (B t) (i : Int) = ((t[i]).toNat : Int) := by rw [bt_B, List.getD_eq_getElem?_getD, List.getElem?_eq_getElem hi]; rfl
  have hbt10 : (bt (B t) (i : Int) = 10) ↔ t[i] = 10 := by
    rw [hbt]
    constructor
    · intro h; apply UInt8.toNat_inj.1; show t[i].toNat = 10; omega
    · intro h; rw [h]; rfl
  have hw5 : wrap64 ((n : Int) + 5) = ((n + 5 : Nat) : Int) := by rw [w64 (by omega)]; omega
  have p1 : (⟨#[32]⟩ : ByteArray) = B [32] := rfl
  have p2 : (⟨#[32, 32, 32, 10]⟩ : ByteArray) = B [32, 32, 32, 10] := rfl
  have hgo : ∀ v : Bs, v.length < 200000000 → (if (bt (B t) (i : Int)) = 10 then (if 0 ≤ (IntKind.u64.wrap (Int.tmod (wrap64 ((n : Int) + 5)) 16)) then (if (Go.bits .and .u16 (shr .u16 a (IntKind.u64.wrap (Int.tmod (wrap64 ((n : Int) + 5)) 16))) 1) = 1 then (if (B v).size + 4 ≤ 9223372036854775807 then (zaH_.l0 k a (B t) (B v ++ (⟨#[32, 32, 32, 10]⟩ : ByteArray)) (n : Int) (wrap64 ((i : Int) + 1)) p cs hs ts) else (none)) else (zaH_.l0 k a (B t) (B v) (n : Int) (wrap64 ((i : Int) + 1)) p cs hs ts)) else (none)) else (zaH_.l0 k a (B t) (B v) (n : Int) (wrap64 ((i : Int) + 1)) p cs hs ts)) = zaH_.l0 k a (B t) (B (v ++ (if t[i] = 10 then (if gapB a (n + 5) = true then [32, 32, 32, 10] else []) else []))) (n : Int) ((i + 1 : Nat) : Int) p cs hs ts := by
    intro v hv
    rw [w64s i (by omega), hw5]
    by_cases h10 : t[i] = 10
    · rw [if_pos (hbt10.2 h10), if_pos (u64_nn _), if_pos h10]
      unfold gapB
      by_cases hg : (Go.bits .and .u16 (shr .u16 a (IntKind.u64.wrap (Int.tmod ((n + 5 : Nat) : Int) 16))) 1) = 1
      · rw [if_pos hg, if_pos (decide_eq_true hg), size_B, if_pos (by omega), p2, zbs_]
      · rw [if_neg hg, if_neg (by rw [decide_eq_true_eq]; exact hg), List.append_nil]
    · rw [if_neg (fun h => h10 (hbt10.1 h)), if_neg h10, List.append_nil]
  have hi1 : (i : Int) ≤ wrap64 ((i : Int) + 1) := by rw [w64s i (by omega)]; omega
  have hi2 : wrap64 ((i : Int) + 1) ≤ (t.length : Int) := by rw [w64s i (by omega)]; omega
  rw [zaH_.j3]
  simp only [ext1 t i hi ht, p1, zbs_]
  cases b with
  | true =>
    rw [if_pos rfl, if_pos rfl, size_B, size_B, size_B, size_B, if_pos (by omega), if_pos (by omega), if_pos hi1, if_pos hi2, if_pos (by simp; omega), if_pos (by omega)]
    exact hgo (u ++ [32] ++ [t[i]]) (by simp; omega)
  | false =>
    rw [if_neg (show ¬ (false = true) by decide), if_neg (show ¬ (false = true) by decide), List.append_nil, size_B, size_B, size_B, if_pos (by omega), if_pos hi1, if_pos hi2, if_pos (by simp; omega), if_pos (by omega)]
    exact hgo (u ++ [t[i]]) (by simp; omega)
theorem back_step (a p : Int) (cs hs : List Int) (ts : List S53) (t : Bs) (ht : t.length < 1000000) (u : Bs) (hu : u.length < 90000000) (n i k : Nat) (hi : i < t.length) (hn : n < 900000) :
    zaH_.l0 (k + 3) a (B t) (B u) (n : Int) (i : Int) p cs hs ts = zaH_.l0 k a (B t)
      (B (if t[i] = 10 then u ++ (if gapB a (n + 1) = true then moreB else []) ++ [10] ++ (if gapB a (n + 1 + 5) = true then [32, 32, 32, 10] else []) else if t[i] = 32 then u ++ (if gapB a i = true then [32] else []) ++ [32] else u ++ [t[i]]))
      (if t[i] = 10 then ((n + 1 : Nat) : Int) else (n : Int)) ((i + 1 : Nat) : Int) p cs hs ts := by
  have hbt : bt (B t) (i : Int) = ((t[i]).toNat : Int) := by rw [bt_B, List.getD_eq_getElem?_getD, List.getElem?_eq_getElem hi]; rfl
  have hbt10 : (bt (B t) (i : Int) = 10) ↔ t[i] = 10 := by
    rw [hbt]
    constructor
    · intro h; apply UInt8.toNat_inj.1; show t[i].toNat = 10; omega
    · intro h; rw [h]; rfl
  have hbt32 : (bt (B t) (i : Int) = 32) ↔ t[i] = 32 := by
    rw [hbt]
    constructor
    · intro h; apply UInt8.toNat_inj.1; show t[i].toNat = 32; omega
    · intro h; rw [h]; rfl
  have pm : (⟨#[32, 32, 35, 32, 109, 111, 114, 101]⟩ : ByteArray) = B moreB := rfl
  have hml : moreB.length = 8 := rfl
  have hj2 : ∀ (v : Bs) (m : Nat), v.length < 100000000 → m < 1000000 → zaH_.j2 (k + 1 + 1) a (B t) (B v) (m : Int) (i : Int) p cs hs ts = zaH_.l0 k a (B t) (B (v ++ (if t[i] = 32 then (if gapB a i = true then [32] else []) else []) ++ [t[i]] ++ (if t[i] = 10 then (if gapB a (m + 5) = true then [32, 32, 32, 10] else []) else []))) (m : Int) ((i + 1 : Nat) : Int) p cs hs ts := by
    intro v m hv hm
    rw [zaH_.j2, if_pos (by omega), if_pos (by rw [size_B]; omega)]
    by_cases h32 : t[i] = 32
    · rw [if_pos (hbt32.2 h32), if_pos (u64_nn _), back_j3 a p cs hs ts t ht v (by omega) m i k hi (by omega), if_pos h32]
      rfl
    · rw [if_neg (fun h => h32 (hbt32.1 h)), back_j3 a p cs hs ts t ht v (by omega) m i k hi (by omega), if_neg h32]
      rfl
  rw [show k + 3 = k + 1 + 1 + 1 from rfl, zaH_.l0, if_pos (by rw [size_B]; omega), if_pos (by omega), w64s n (by omega)]
  by_cases h10 : t[i] = 10
  · have h32 : ¬ (10 : UInt8) = 32 := by decide
    rw [if_pos (hbt10.2 h10), if_pos (u64_nn _), if_pos h10, if_pos h10, pm, zbs_, hj2 _ (n + 1) (by simp [hml]; omega) (by omega), hj2 _ (n + 1) (by omega) (by omega), h10, if_pos rfl, if_neg h32]
    by_cases hg : (Go.bits .and .u16 (shr .u16 a (IntKind.u64.wrap (Int.tmod ((n + 1 : Nat) : Int) 16))) 1) = 1
    · rw [if_pos hg, size_B, if_pos (by omega), if_pos (show gapB a (n + 1) = true from decide_eq_true hg), List.append_nil]
    · rw [if_neg hg, if_neg (show ¬ gapB a (n + 1) = true by unfold gapB; rw [decide_eq_true_eq]; exact hg), List.append_nil]
  · rw [if_neg (fun h => h10 (hbt10.1 h)), if_neg h10, if_neg h10, hj2 _ n (by omega) (by omega), if_neg h10, List.append_nil]
    by_cases h32 : t[i] = 32
    · rw [if_pos h32, if_pos h32, h32]
    · rw [if_neg h32, if_neg h32, List.append_nil]
theorem back_loop (a p : Int) (cs hs : List Int) (ts : List S53) (t : Bs) (ht : t.length < 10000) : ∀ (d i k : Nat) (u : Bs) (n : Nat), i + d = t.length → u.length ≤ 20 * i → n ≤ i →
    zaH_.l0 (k + 3 * d) a (B t) (B u) (n : Int) (i : Int) p cs hs ts = zaH_.l0 k a (B t) (B (u ++ pieces (gapB a) i n (t.drop i))) ((n + (t.drop i).count 10 : Nat) : Int) ((t.length : Nat) : Int) p cs hs ts
  | 0, i, k, u, n, h, hu, hn => by
    have : i = t.length := by omega
    rw [List.drop_eq_nil_of_le (by omega), this]
    simp [pieces]
  | d + 1, i, k, u, n, h, hu, hn => by
    have hi : i < t.length := by omega
    have hml : moreB.length = 8 := rfl
    rw [show k + 3 * (d + 1) = (k + 3 * d) + 3 by omega, back_step a p cs hs ts t (by omega) u (by omega) n i _ hi (by omega), List.drop_eq_getElem_cons hi]
    conv => rhs; unfold pieces
    by_cases h10 : t[i] = 10
    · rw [if_pos h10, if_pos h10, if_pos h10, back_loop a p cs hs ts t ht d (i + 1) k _ (n + 1) (by omega) (by
        have e1 : (if gapB a (n + 1) = true then moreB else []).length ≤ 8 := by split <;> simp [hml]
        have e2 : (if gapB a (n + 1 + 5) = true then ([32, 32, 32, 10] : Bs) else []).length ≤ 4 := by split <;> simp
        simp only [List.length_append, List.length_cons, List.length_nil]
        omega) (by omega)]
      rw [List.count_cons, h10]
      simp only [List.append_assoc, List.cons_append, List.nil_append, beq_self_eq_true, if_pos]
      congr 1
      omega
    · rw [if_neg h10, if_neg h10, if_neg h10]
      have hc : (t[i] :: t.drop (i + 1)).count 10 = (t.drop (i + 1)).count 10 := by rw [List.count_cons, if_neg (by simpa using h10)]; rfl
      rw [hc]
      by_cases h32 : t[i] = 32
      · rw [if_pos h32, if_pos h32, back_loop a p cs hs ts t ht d (i + 1) k _ n (by omega) (by
          have e1 : (if gapB a i = true then ([32] : Bs) else []).length ≤ 1 := by split <;> simp
          simp only [List.length_append, List.length_cons, List.length_nil]
          omega) (by omega)]
        simp only [List.append_assoc, List.cons_append, List.nil_append]
      · rw [if_neg h32, if_neg h32, back_loop a p cs hs ts t ht d (i + 1) k _ n (by omega) (by
          simp only [List.length_append, List.length_cons, List.length_nil]
          omega) (by omega)]
        simp only [List.append_assoc, List.cons_append, List.nil_append]
theorem pieces_len (g : Nat → Bool) : ∀ (cs : Bs) (i n : Nat), (pieces g i n cs).length ≤ 14 * cs.length
  | [], _, _ => by simp [pieces]
  | c :: cs, i, n => by
    have hml : moreB.length = 8 := rfl
    have h1 := pieces_len g cs (i + 1) (n + 1)
    have h2 := pieces_len g cs (i + 1) n
    have e1 : (if g (n + 1) = true then moreB else []).length ≤ 8 := by split <;> simp [hml]
    have e2 : (if g (n + 1 + 5) = true then ([32, 32, 32, 10] : Bs) else []).length ≤ 4 := by split <;> simp
    have e3 : (if g i = true then ([32] : Bs) else []).length ≤ 1 := by split <;> simp
    unfold pieces
    split
    · simp only [List.length_append, List.length_cons]; omega
    · split
      · simp only [List.length_append, List.length_cons]; omega
      · simp only [List.length_cons]; omega
theorem TextBack_pure (p : Int) (cs hs : List Int) (ts : List S53) (a : Int) : ∃ k, zaH_.f k p cs hs ts a = some true := by
  refine ⟨100000, ?_⟩
  unfold zaH_.f
  rw [known9_eq 100000 (by omega) (by omega), Option.bind_some, if_pos rfl]
  obtain ⟨b, ef, hb⟩ := few_eq p cs hs ts 100000 (by omega)
  have hj0 : ∀ x, zaH_.j0 100000 a x p cs hs ts = if x = true then (some true) else ((zau_.f 99999 p cs hs ts).bind fun t346 => (zaH_.l0 99999 a t346 (⟨#[]⟩ : ByteArray) 0 0 p cs hs ts)) := fun x => by rw [show (100000 : Nat) = 99999 + 1 from rfl, zaH_.j0]
  rw [ef, Option.bind_some]
  by_cases hbt : b = true
  rotate_left
  · rw [if_neg hbt, hj0, if_pos rfl]
  obtain ⟨hcs, hhs, hts, hpt⟩ := hb hbt
  rw [if_pos hbt, refOK_eq p cs hs ts (by omega) (by omega) (by omega) (fun t ht => by have := hpt t ht; omega) 100000 (by omega), Option.bind_some, hj0]
  by_cases hck : (checkS p cs hs ts).2 = 0
  rotate_left
  · rw [if_pos]
    rw [beq_eq_false_iff_ne.mpr hck]; rfl
  rw [if_neg (by rw [hck]; decide)]
  have hpm : ∀ t ∈ ts, t.f0.size < 100 ∧ 3 * t.f5.length < 100 := fun t ht => by have := hpt t ht; omega
  have hok := okS_of hck
  have hln := set_len hok
  have hpp := parse_print hck
  have hct := lines_count (setWs p cs hs ts) (fun ws hws => (setWs_ok hok ws hws).2)
  have hgp := parse_gaps hck (gapB a)
  have hpr := print_eq p cs hs ts 100 hpm
  unfold printS at hpr
  rw [if_pos hck] at hpr
  rw [hpr 99999 (by omega) (by omega), Option.bind_some]
  generalize hT : linesT (setWs p cs hs ts) = T at *
  obtain ⟨k, hk⟩ : ∃ k, 99999 = k + 3 * T.length := ⟨99999 - 3 * T.length, by omega⟩
  have hlp := back_loop a p cs hs ts T (by omega) T.length 0 k [] 0 (by omega) (by simp) (by omega)
  rw [List.drop_zero, List.nil_append, Nat.zero_add, hct] at hlp
  have hlp' : zaH_.l0 99999 a (B T) (⟨#[]⟩ : ByteArray) 0 0 p cs hs ts = zaH_.l0 k a (B T) (B (pieces (gapB a) 0 0 T)) (((setWs p cs hs ts).length : Nat) : Int) ((T.length : Nat) : Int) p cs hs ts := by rw [hk]; exact hlp
  rw [hlp']
  obtain ⟨k, rfl⟩ : ∃ k', k = k' + 1 := ⟨k - 1, by omega⟩
  have hpl := pieces_len (gapB a) T 0 0
  have hsm := same_refl p cs hs ts (by omega) (by omega) (by omega) (fun t ht => by have := hpt t ht; omega) k (by omega)
  have hp1 := parse_eq T (by omega) k (by omega) (by omega)
  have hp2 := parse_eq (pieces (gapB a) 0 0 T) (by omega) k (by omega) (by omega)
  rw [hpp] at hp1
  rw [zaH_.l0, if_neg (by rw [size_B]; omega), hp1, Option.bind_some, hp2, Option.bind_some, if_pos rfl, if_pos rfl, hsm, Option.bind_some, if_pos rfl]
  by_cases hbig : (pieces (gapB a) 0 0 T).length ≤ 2000
  · obtain ⟨m, hm⟩ := hgp hbig
    rw [hm, if_pos rfl, hsm, Option.bind_some, if_pos rfl, hpr k (by omega) (by omega), Option.bind_some, if_pos rfl]
  · have hbad : parseS (pieces (gapB a) 0 0 T) = bad 0 11 := by unfold parseS; rw [if_pos (by omega)]
    rw [hbad]
    have e11 : (bad 0 11).2.2.2.2.2 = 11 := rfl
    rw [e11, if_neg (by decide), if_pos rfl, size_B, decide_eq_true (show ((pieces (gapB a) 0 0 T).length : Int) > 2000 by omega)]
end Go.Proofs.YtgkjoodlcojkkaaDoor.Y
end
section
namespace Go.Proofs.YtgkjoodlcojkkaaDoor.QD
open Go.ChangeShapes Go.WideShapes Go.ChangeAt Go.RowKit Go.Proofs.YtgkjoodlcojkkaaDoorW.PrintWords Go.Proofs.YtgkjoodlcojkkaaDoorW.PrintLast Go.Proofs.YtgkjoodlcojkkaaDoorW.PrintMore
set_option linter.unusedVariables false
set_option linter.unusedSimpArgs false
section
variable {H : Type} {enc : TypeId × Value → H} {w : World} {base : Nat} {spare : Nat → Bool} {held : Bool}
theorem open_row {α : Type} (d : Kd α) {e : TypeId} (hsz : Tryd.prog.cellsOf e = d.sz)
    (hel : ∀ (n : Nat) (cells : List Value) (y : DataW H × List MemPlace), DataW.trod enc Tryd.prog w base spare held n e cells = some y → ∃ p : α, d.K w p cells)
    {t : TypeId} (ht : Tryd.prog.underlying t = some (.slice e)) {fuel : Nat} {cs : List Value} {x : DataW H × List MemPlace} (h : DataW.trod enc Tryd.prog w base spare held fuel t cs = some x) :
    ∃ (A : Option Addr) (cap : Nat) (l : List α), cs = [.slice A l.length cap] ∧ l.length ≤ cap ∧ d.C w A l.length l := by
  rcases DataW.trod_slice ht h with ⟨rfl, _⟩ | ⟨a, len, cap, elems, rest, n, _, rfl, _, hb, hl, hm, hlen, hell, _, _⟩
  · exact ⟨none, 0, [], rfl, Nat.le_refl _, rfl, by simp, fun h => absurd h (by simp)⟩
  · have each : ∀ i, i < len → ∃ (c : List Value) (p : α), w.cells? base (a.add (i * d.sz)) d.sz = some c ∧ d.K w p c := by
      intro i hi
      have h1 := hell i hi
      rw [List.getElem?_eq_getElem (by omega), Option.bind_eq_some_iff] at h1
      obtain ⟨c, hc, hy⟩ := h1
      obtain ⟨p, hp⟩ := hel n c _ hy
      rw [hsz] at hc
      exact ⟨c, p, hc, hp⟩
    have build : ∀ m, m ≤ len → ∃ l : List α, l.length = m ∧ ∀ j p, l[j]? = some p → ∃ c, w.cells? base (a.add (j * d.sz)) d.sz = some c ∧ d.K w p c := by
      intro m
      induction m with
      | zero => exact fun _ => ⟨[], rfl, fun j p hj => by simp at hj⟩
      | succ m ih =>
        intro hm'
        obtain ⟨l, hl', hh⟩ := ih (by omega)
        obtain ⟨c, p, hc, hp⟩ := each m (by omega)
        refine ⟨l ++ [p], by simp [hl'], fun j q hj => ?_⟩
        by_cases hjm : j < m
        · rw [List.getElem?_append_left (by omega)] at hj
          exact hh j q hj
        · have hlt := (List.getElem?_eq_some_iff.1 hj).1
          simp [hl'] at hlt
          obtain rfl : j = m := by omega
          rw [List.getElem?_append_right (by omega), hl', Nat.sub_self] at hj
          obtain rfl : p = q := by simpa using hj
          exact ⟨c, hc, hp⟩
    obtain ⟨l, hll, hh⟩ := build len (Nat.le_refl _)
    refine ⟨some a, cap, l, by rw [hll], by omega, rfl, by rw [hll]; unfold maxLen at hm; omega, fun _ => ⟨a, rfl, fun j p hj => ?_⟩⟩
    obtain ⟨c, hc, hp⟩ := hh j p hj
    obtain ⟨_, h2, h3⟩ := World.cells?_some hc
    refine ⟨c, d.K_len hp, hp, fun i u hu => ?_⟩
    have hi : i < d.sz := by rw [← d.K_len hp]; exact (List.getElem?_eq_some_iff.1 hu).1
    have := h3 i hi
    rw [hu] at this
    have hadd : ∀ q : Nat, (a.add q).add i = a.add (q + i) := fun q => by
      unfold Addr.add
      by_cases h1 : q = 0 <;> by_cases h2 : i = 0 <;> simp [h1, h2, Nat.add_assoc]
    rw [← this, hadd]
theorem open_int_el (n : Nat) (cells : List Value) (y : DataW H × List MemPlace) (h : DataW.trod enc Tryd.prog w base spare held n 3 cells = some y) : ∃ p : Int, (Kd.int .i64).K w p cells := by
  obtain ⟨m, rfl, _⟩ := DataW.trod_int Tryd.underlying3 h
  exact ⟨m, rfl⟩
theorem list3 {α : Type} : ∀ {l : List α}, l.length = 3 → ∃ a b c, l = [a, b, c]
  | [a, b, c], _ => ⟨a, b, c, rfl⟩
theorem list4 {α : Type} : ∀ {l : List α}, l.length = 4 → ∃ a b c d, l = [a, b, c, d]
  | [a, b, c, d], _ => ⟨a, b, c, d, rfl⟩
theorem list6 {α : Type} : ∀ {l : List α}, l.length = 6 → ∃ a b c d e f, l = [a, b, c, d, e, f]
  | [a, b, c, d, e, f], _ => ⟨a, b, c, d, e, f, rfl⟩
theorem cells50 : Tryd.prog.cellsOf 50 = 3 := by kernel_rfl
theorem cells3 : Tryd.prog.cellsOf 3 = 1 := by kernel_rfl
theorem cells9 : Tryd.prog.cellsOf 9 = 1 := by kernel_rfl
theorem cells34 : Tryd.prog.cellsOf 34 = 1 := by kernel_rfl
theorem cells35 : Tryd.prog.cellsOf 35 = 1 := by kernel_rfl
theorem cells51 : Tryd.prog.cellsOf 51 = 1 := by kernel_rfl
theorem cells53 : Tryd.prog.cellsOf 53 = 6 := by kernel_rfl
theorem cells37 : Tryd.prog.cellsOf 37 = 4 := by kernel_rfl
theorem open_T50_el (n : Nat) (cells : List Value) (y : DataW H × List MemPlace) (h : DataW.trod enc Tryd.prog w base spare held n 50 cells = some y) : ∃ p : S50, k50.K w p cells := by
  obtain ⟨xs, n, _, _, hl, hlen, hf⟩ := DataW.trod_struct Tryd.underlying50 h
  rw [cells50] at hl
  obtain ⟨c0, c1, c2, rfl⟩ := list3 hl
  obtain ⟨y0, y1, y2, rfl⟩ := list3 (show xs.length = 3 from hlen)
  have g0 : DataW.trod enc Tryd.prog w base spare held n 3 ((List.drop 0 [c0, c1, c2]).take (Tryd.prog.cellsOf 3)) = some y0 := hf 0 _ rfl
  rw [cells3] at g0
  have g1 : DataW.trod enc Tryd.prog w base spare held n 3 ((List.drop 1 [c0, c1, c2]).take (Tryd.prog.cellsOf 3)) = some y1 := hf 1 _ rfl
  rw [cells3] at g1
  have g2 : DataW.trod enc Tryd.prog w base spare held n 3 ((List.drop 2 [c0, c1, c2]).take (Tryd.prog.cellsOf 3)) = some y2 := hf 2 _ rfl
  rw [cells3] at g2
  obtain ⟨m0, e0, _⟩ := DataW.trod_int Tryd.underlying3 g0
  obtain ⟨m1, e1, _⟩ := DataW.trod_int Tryd.underlying3 g1
  obtain ⟨m2, e2, _⟩ := DataW.trod_int Tryd.underlying3 g2
  simp at e0 e1 e2
  subst e0 e1 e2
  exact ⟨⟨m0, m1, m2⟩, k50_mk w ⟨m0, m1, m2⟩⟩
theorem open_T53_el (n : Nat) (cells : List Value) (y : DataW H × List MemPlace) (h : DataW.trod enc Tryd.prog w base spare held n 53 cells = some y) : ∃ p : S53, k53.K w p cells := by
  obtain ⟨xs, n, _, _, hl, hlen, hf⟩ := DataW.trod_struct Tryd.underlying53 h
  rw [cells53] at hl
  obtain ⟨c0, c1, c2, c3, c4, c5, rfl⟩ := list6 hl
  obtain ⟨y0, y1, y2, y3, y4, y5, rfl⟩ := list6 (show xs.length = 6 from hlen)
  have g0 : DataW.trod enc Tryd.prog w base spare held n 9 ((List.drop 0 [c0, c1, c2, c3, c4, c5]).take (Tryd.prog.cellsOf 9)) = some y0 := hf 0 _ rfl
  rw [cells9] at g0
  have g1 : DataW.trod enc Tryd.prog w base spare held n 3 ((List.drop 1 [c0, c1, c2, c3, c4, c5]).take (Tryd.prog.cellsOf 3)) = some y1 := hf 1 _ rfl
  rw [cells3] at g1
  have g2 : DataW.trod enc Tryd.prog w base spare held n 3 ((List.drop 2 [c0, c1, c2, c3, c4, c5]).take (Tryd.prog.cellsOf 3)) = some y2 := hf 2 _ rfl
  rw [cells3] at g2
  have g3 : DataW.trod enc Tryd.prog w base spare held n 3 ((List.drop 3 [c0, c1, c2, c3, c4, c5]).take (Tryd.prog.cellsOf 3)) = some y3 := hf 3 _ rfl
  rw [cells3] at g3
  have g4 : DataW.trod enc Tryd.prog w base spare held n 3 ((List.drop 4 [c0, c1, c2, c3, c4, c5]).take (Tryd.prog.cellsOf 3)) = some y4 := hf 4 _ rfl
  rw [cells3] at g4
  have g5 : DataW.trod enc Tryd.prog w base spare held n 51 ((List.drop 5 [c0, c1, c2, c3, c4, c5]).take (Tryd.prog.cellsOf 51)) = some y5 := hf 5 _ rfl
  rw [cells51] at g5
  obtain ⟨m0, e0, _⟩ := DataW.trod_string Tryd.underlying9 g0
  obtain ⟨m1, e1, _⟩ := DataW.trod_int Tryd.underlying3 g1
  obtain ⟨m2, e2, _⟩ := DataW.trod_int Tryd.underlying3 g2
  obtain ⟨m3, e3, _⟩ := DataW.trod_int Tryd.underlying3 g3
  obtain ⟨m4, e4, _⟩ := DataW.trod_int Tryd.underlying3 g4
  obtain ⟨A5, cp5, l5, e5, hle5, hC5⟩ := open_row k50 cells50 open_T50_el Tryd.underlying51 g5
  simp at e0 e1 e2 e3 e4 e5
  subst e0 e1 e2 e3 e4 e5
  exact ⟨⟨m0, m1, m2, m3, m4, l5⟩, k53_mk w ⟨m0, m1, m2, m3, m4, l5⟩ hle5 hC5⟩
theorem open_set {n : Nat} {cells : List Value} {y : DataW H × List MemPlace} (h : DataW.trod enc Tryd.prog w base spare held n 37 cells = some y) :
    ∃ (p : Int) (A1 : Option Addr) (c1 : Nat) (l1 : List Int) (A2 : Option Addr) (c2 : Nat) (l2 : List Int) (A3 : Option Addr) (c3 : Nat) (l3 : List S53), cells = [.int .i64 p, .slice A1 l1.length c1, .slice A2 l2.length c2, .slice A3 l3.length c3] ∧
      l1.length ≤ c1 ∧ (Kd.int .i64).C w A1 l1.length l1 ∧ l2.length ≤ c2 ∧ (Kd.int .i64).C w A2 l2.length l2 ∧ l3.length ≤ c3 ∧ k53.C w A3 l3.length l3 := by
  obtain ⟨xs, n, _, _, hl, hlen, hf⟩ := DataW.trod_struct Tryd.underlying37 h
  rw [cells37] at hl
  obtain ⟨c0, c1, c2, c3, rfl⟩ := list4 hl
  obtain ⟨y0, y1, y2, y3, rfl⟩ := list4 (show xs.length = 4 from hlen)
  have g0 : DataW.trod enc Tryd.prog w base spare held n 3 ((List.drop 0 [c0, c1, c2, c3]).take (Tryd.prog.cellsOf 3)) = some y0 := hf 0 _ rfl
  rw [cells3] at g0
  have g1 : DataW.trod enc Tryd.prog w base spare held n 34 ((List.drop 1 [c0, c1, c2, c3]).take (Tryd.prog.cellsOf 34)) = some y1 := hf 1 _ rfl
  rw [cells34] at g1
  have g2 : DataW.trod enc Tryd.prog w base spare held n 34 ((List.drop 2 [c0, c1, c2, c3]).take (Tryd.prog.cellsOf 34)) = some y2 := hf 2 _ rfl
  rw [cells34] at g2
  have g3 : DataW.trod enc Tryd.prog w base spare held n 35 ((List.drop 3 [c0, c1, c2, c3]).take (Tryd.prog.cellsOf 35)) = some y3 := hf 3 _ rfl
  rw [cells35] at g3
  obtain ⟨m0, e0, _⟩ := DataW.trod_int Tryd.underlying3 g0
  obtain ⟨A1, cp1, l1, e1, hle1, hC1⟩ := open_row (Kd.int .i64) cells3 open_int_el Tryd.underlying34 g1
  obtain ⟨A2, cp2, l2, e2, hle2, hC2⟩ := open_row (Kd.int .i64) cells3 open_int_el Tryd.underlying34 g2
  obtain ⟨A3, cp3, l3, e3, hle3, hC3⟩ := open_row k53 cells53 open_T53_el Tryd.underlying35 g3
  simp at e0 e1 e2 e3
  subst e0 e1 e2 e3
  exact ⟨m0, A1, cp1, l1, A2, cp2, l2, A3, cp3, l3, rfl, hle1, hC1, hle2, hC2, hle3, hC3⟩
end
end Go.Proofs.YtgkjoodlcojkkaaDoor.QD
end
