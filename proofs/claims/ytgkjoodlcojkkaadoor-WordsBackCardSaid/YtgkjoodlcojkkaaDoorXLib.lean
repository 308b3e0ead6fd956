/- Contracts of the library's functions that the program calls (strings.Split, Cut, HasPrefix, Contains, strconv.Itoa) and of words.Num, in the form of the printed ones. Conditions: strings below 4294967281 bytes, a separator that is not empty, else the plain function tells nothing. -/
import Derived.Test.YtgkjoodlcojkkaaDoorXGlob
import Derived.Test.YtgkjoodlcojkkaaDoorShelf
import Derived.Test.YtgkjoodlcojkkaaDoorQD0
import Derived.Lib.SplitLaws
import Derived.Lib.AppendIntMem
import Derived.Lib.AtoiErrMem
namespace Go.Proofs.YtgkjoodlcojkkaaDoor.QD
open Go.RowKit Go.Proofs.YtgkjoodlcojkkaaDoorW.PrintWords Go.Proofs.YtgkjoodlcojkkaaDoorW.PrintLast Go.Proofs.YtgkjoodlcojkkaaDoorW.PrintMore
set_option linter.unusedVariables false
set_option linter.unusedSimpArgs false

theorem reps_strings : ∀ l : List ByteArray, Reps (fun x cs => cs = [Value.string x]) 1 l (l.map Value.string) := by
  intro l
  refine ⟨by simp, fun j p hj => ?_⟩
  obtain ⟨hk, rfl⟩ := List.getElem?_eq_some_iff.1 hj
  rw [Nat.mul_one, ← List.map_drop, ← List.map_take, List.drop_eq_getElem_cons hk]
  rfl

theorem R_strings (w : World) (l : List ByteArray) (h : l ≠ []) (hl : l.length ≤ maxLen) :
    Kd.R Kd.string 9 (w.alloc (.cells (l.map Value.string).toArray 9)) w.heap.size (fun _ => True) (.slice (some ⟨w.heap.size, 0, none⟩) l.length l.length) l := by
  have hz : (Kd.string).sz = 1 := rfl
  refine ⟨fun _ _ => trivial, l.map Value.string, ⟨by simp [hz], .inr ⟨w.heap.size, l.length, (l.map Value.string).toArray, rfl, Nat.le_refl _, heap_alloc_new w _, Nat.le_refl _, hl, by simp [hz], ?_⟩⟩, reps_strings l⟩
  rw [hz, Nat.mul_one, List.take_of_length_le (by simp)]

def strings_Split.f (a0 : ByteArray) (a1 : ByteArray) : Option (List ByteArray) :=
  if a0.size < 4294967281 ∧ 1 ≤ a1.size then some (Lib.splitB a1 0 (Lib.countB a0 a1) a0) else none
theorem strings_Split.calls (a0 : ByteArray) (a1 : ByteArray) (r : List ByteArray) (w : World) (hG : Glob w) (h : strings_Split.f a0 a1 = some r) :
    Calls Tryd.prog 29 #[.string a0, .string a1] w fun e w' => ∃ v0_ : Value, e = .returned (v0_) ∧ Kd.R Kd.string 9 w' w.heap.size (fun _ => True) v0_ r ∧ Below w.heap.size w w' := by
  unfold strings_Split.f at h
  by_cases c : a0.size < 4294967281 ∧ 1 ≤ a1.size
  · rw [if_pos c] at h
    obtain rfl := Option.some.inj h
    obtain ⟨m, hm⟩ := hG.at.maxlen
    refine (Tryd.strings_Split a0 a1 m w c.1 hm c.2).mono fun e w' ⟨he, hw⟩ => ?_
    have hlen := Lib.splitB_all a1 c.2 0 _ a0 rfl
    have hle : (Lib.splitB a1 0 (Lib.countB a0 a1) a0).length ≤ maxLen := by
      rw [hlen]
      have : Lib.countB a0 a1 ≤ a0.size := Lib.countB_le a1 c.2 _ a0 (Nat.le_refl _)
      unfold maxLen; omega
    refine ⟨_, he, ?_, ?_⟩
    · have z := R_strings w (Lib.splitB a1 0 (Lib.countB a0 a1) a0) (by intro e; rw [e] at hlen; simp at hlen) hle
      rw [hlen] at z
      rw [hw]
      exact z
    · rw [hw]; exact below_alloc (Below.refl _ _) _
  · rw [if_neg c] at h; cases h

def strings_Cut.f (a0 : ByteArray) (a1 : ByteArray) : Option (ByteArray × ByteArray × Bool) :=
  if a0.size < 4294967281 then some (⟨(Lib.cut a0.data.toList a1.data.toList).1.toArray⟩, ⟨(Lib.cut a0.data.toList a1.data.toList).2.1.toArray⟩, (Lib.cut a0.data.toList a1.data.toList).2.2) else none
theorem strings_Cut.calls (a0 : ByteArray) (a1 : ByteArray) (r1 : ByteArray) (r2 : ByteArray) (r3 : Bool) (w : World) (hG : Glob w) (h : strings_Cut.f a0 a1 = some (r1, r2, r3)) :
    Calls Tryd.prog 31 #[.string a0, .string a1] w fun e w' => e = .returned (.tuple #[.string r1, .string r2, .bool r3]) ∧ Below w.heap.size w w' := by
  unfold strings_Cut.f at h
  by_cases c : a0.size < 4294967281
  · rw [if_pos c] at h
    simp only [Option.some.injEq, Prod.mk.injEq] at h
    obtain ⟨rfl, rfl, rfl⟩ := h
    obtain ⟨m, hm⟩ := hG.at.maxlen
    refine (Tryd.strings_Cut a0 a1 m w c hm).mono fun e w' ⟨he, n, hw⟩ => ⟨he, ?_⟩
    rw [hw]; exact pw_below_drewN (Below.refl _ _) _
  · rw [if_neg c] at h; cases h

def strings_HasPrefix.f (a0 : ByteArray) (a1 : ByteArray) : Option Bool := some (Lib.hasPrefix a0.data.toList a1.data.toList)
theorem strings_HasPrefix.calls (a0 : ByteArray) (a1 : ByteArray) (r : Bool) (w : World) (h : strings_HasPrefix.f a0 a1 = some r) :
    Calls Tryd.prog 77 #[.string a0, .string a1] w fun e w' => e = .returned (.bool r) ∧ Below w.heap.size w w' := by
  unfold strings_HasPrefix.f at h
  obtain rfl := Option.some.inj h
  refine (Tryd.strings_HasPrefix a0 a1 w).mono fun e w' ⟨he, hw⟩ => ⟨he, ?_⟩
  rw [hw]; exact Below.refl _ _

def strings_Contains.f (a0 : ByteArray) (a1 : ByteArray) : Option Bool := if a0.size < 4294967281 then some (Lib.contains a0.data.toList a1.data.toList) else none
theorem strings_Contains.calls (a0 : ByteArray) (a1 : ByteArray) (r : Bool) (w : World) (hG : Glob w) (h : strings_Contains.f a0 a1 = some r) :
    Calls Tryd.prog 78 #[.string a0, .string a1] w fun e w' => e = .returned (.bool r) ∧ Below w.heap.size w w' := by
  unfold strings_Contains.f at h
  by_cases c : a0.size < 4294967281
  · rw [if_pos c] at h
    obtain rfl := Option.some.inj h
    obtain ⟨m, hm⟩ := hG.at.maxlen
    refine (Tryd.strings_Contains a0 a1 m w c hm).mono fun e w' ⟨he, hw⟩ => ⟨he, ?_⟩
    rw [hw]; exact Below.refl _ _
  · rw [if_neg c] at h; cases h

def strconv_Itoa_28.f (a0 : Int) : Option (ByteArray) := if -9223372036854775808 ≤ a0 ∧ a0 ≤ 9223372036854775807 then some ⟨(Lib.itoa a0).toArray⟩ else none
theorem strconv_Itoa_28.calls (a0 : Int) (r : ByteArray) (w : World) (hG : Glob w) (h : strconv_Itoa_28.f a0 = some r) :
    Calls Tryd.prog 28 #[.int .i64 a0] w fun e w' => e = .returned (.string r) ∧ Below w.heap.size w w' := by
  unfold strconv_Itoa_28.f at h
  by_cases c : -9223372036854775808 ≤ a0 ∧ a0 ≤ 9223372036854775807
  · rw [if_pos c] at h
    obtain rfl := Option.some.inj h
    refine (Tryd.strconv_Itoa a0 c.1 c.2 w hG.at.pow).mono fun e w' ⟨he, k, os, hw⟩ => ⟨he, ?_⟩
    rw [hw]; exact Lib.below_grow _ w (Nat.le_refl _) k os
  · rw [if_neg c] at h; cases h

theorem atoi_any (a0 : ByteArray) (w : World) (hG : Glob w) (hs : a0.size ≤ 281474976710656) :
    Calls Tryd.prog 27 #[.string a0] w fun e w' => (match Lib.atoiAll a0.data.toList with
      | .ok v => e = .returned (.tuple #[.int .i64 v, .nilIface])
      | _ => ∃ n t v, e = .returned (.tuple #[.int .i64 n, .iface t v])) ∧ Below w.heap.size w w' := by
  obtain ⟨t3, p3, h3⟩ := hG.at.esyn
  obtain ⟨t4, p4, h4⟩ := hG.at.eran
  have e3 : w.cell? ⟨0, 0, none⟩ = some (.iface t3 p3) := by simpa using World.var?_cell (by kernel_rfl : Tryd.prog.globalNamed "strconv.ErrSyntax" = some 0) h3 0
  have e4 : w.cell? ⟨1, 0, none⟩ = some (.iface t4 p4) := by simpa using World.var?_cell (by kernel_rfl : Tryd.prog.globalNamed "strconv.ErrRange" = some 1) h4 0
  rcases h : Lib.atoiAll a0.data.toList with v | _ | _
  · refine (Tryd.strconv_Atoi_ok a0 (by omega) v h w).mono fun e w' ⟨he, hw⟩ => ⟨he, ?_⟩
    rcases hw with rfl | ⟨t, rfl⟩
    · exact Below.refl _ _
    · exact Lib.bytesWorld_below _ _ _
  · exact (Any.strconv_Atoi_syntax Tryd.laysC172 a0 hs h _ w e3 (.inr ⟨_, _, rfl⟩)).mono fun e w' ⟨N, he, _, _, hb⟩ => ⟨⟨_, _, _, he⟩, hb⟩
  · exact (Tryd.strconv_Atoi_range a0 hs h _ w e4 (.inr ⟨_, _, rfl⟩)).mono fun e w' ⟨N, he, _, _, hb⟩ => ⟨⟨_, _, _, he⟩, hb⟩

def words_Num.f (a0 : ByteArray) : Option (Int × Bool) :=
  if a0.size ≤ 281474976710656 then
    (match Lib.atoiAll a0.data.toList with
      | .ok v => if 7 < a0.size then some (0, false) else if v < 0 then some (0, false) else if Lib.itoa v = a0.toList then some (v, true) else some (0, false)
      | _ => some (0, false))
  else none
set_option maxHeartbeats 8000000 in
set_option maxRecDepth 100000 in
theorem words_Num.calls (a0 : ByteArray) (r1 : Int) (r2 : Bool) (w : World) (hG : Glob w) (h : words_Num.f a0 = some (r1, r2)) :
    Calls Tryd.prog 10 #[.string a0] w fun e w' => e = .returned (.tuple #[.int .i64 r1, .bool r2]) ∧ Below w.heap.size w w' := by
  unfold words_Num.f at h
  by_cases c : a0.size ≤ 281474976710656
  rotate_left
  · rw [if_neg c] at h; cases h
  rw [if_pos c] at h
  have hu59 := Tryd.underlying59
  have hu58 := Tryd.underlying58
  have HG := Aside0.mk hG
  have HC := Aside0.mk c
  have hA := atoi_any a0 w hG c
  clear hG c
  rcases hr : Lib.atoiAll a0.data.toList with v | _ | _
  · skip
    rw [hr] at h hA
    simp only at h hA
    have HA := Aside0.mk hA
    obtain ⟨vb0, vb1⟩ := Lib.atoiAll_bounds hr
    clear hA hr
    by_cases c1 : 7 < a0.size
    · rw [if_pos c1] at h
      simp only [Option.some.injEq, Prod.mk.injEq] at h
      obtain ⟨rfl, rfl⟩ := h
      go_enter Tryd.func10, Tryd.ntmps10
      go_wp2_with (first | (go_at_call 27; (refine HA.out.mono ?_); rintro e w1 ⟨rfl, hb⟩; have HB := Aside0.mk hb; clear hb))
      go_ret2
      exact ⟨rfl, HB.out⟩
    · rw [if_neg c1] at h
      have c1b : decide (7 < a0.size) = false := decide_eq_false c1
      by_cases c2 : v < 0
      · rw [if_pos c2] at h
        simp only [Option.some.injEq, Prod.mk.injEq] at h
        obtain ⟨rfl, rfl⟩ := h
        go_enter Tryd.func10, Tryd.ntmps10
        go_wp2_with (first | (go_at_call 27; (refine HA.out.mono ?_); rintro e w1 ⟨rfl, hb⟩; have HB := Aside0.mk hb; clear hb))
        go_ret2
        exact ⟨rfl, HB.out⟩
      · rw [if_neg c2] at h
        by_cases c3 : Lib.itoa v = a0.toList
        · rw [if_pos c3] at h
          simp only [Option.some.injEq, Prod.mk.injEq] at h
          obtain ⟨rfl, rfl⟩ := h
          have c3b : (Lib.itoa v == a0.toList) = true := beq_iff_eq.2 c3
          clear c3
          go_enter Tryd.func10, Tryd.ntmps10
          go_wp2_with (first | (go_at_call 27; (refine HA.out.mono ?_); rintro e w1 ⟨rfl, hb⟩; have HB := Aside0.mk hb; clear hb) | (go_at_call 28; (refine (strconv_Itoa_28.calls v _ _ (Glob.below HG.out HB.out) (by unfold strconv_Itoa_28.f; rw [if_pos ⟨vb0, vb1⟩])).mono ?_); rintro e w2 ⟨rfl, hb⟩; have HB2 := Aside0.mk (below_step HB.out hb); clear hb))
          go_ret2
          exact ⟨rfl, HB2.out⟩
        · rw [if_neg c3] at h
          simp only [Option.some.injEq, Prod.mk.injEq] at h
          obtain ⟨rfl, rfl⟩ := h
          have c3b : (Lib.itoa v == a0.toList) = false := beq_eq_false_iff_ne.2 c3
          clear c3
          go_enter Tryd.func10, Tryd.ntmps10
          go_wp2_with (first | (go_at_call 27; (refine HA.out.mono ?_); rintro e w1 ⟨rfl, hb⟩; have HB := Aside0.mk hb; clear hb) | (go_at_call 28; (refine (strconv_Itoa_28.calls v _ _ (Glob.below HG.out HB.out) (by unfold strconv_Itoa_28.f; rw [if_pos ⟨vb0, vb1⟩])).mono ?_); rintro e w2 ⟨rfl, hb⟩; have HB2 := Aside0.mk (below_step HB.out hb); clear hb))
          go_ret2
          exact ⟨rfl, HB2.out⟩
  · skip
    rw [hr] at h hA
    simp only [Option.some.injEq, Prod.mk.injEq] at h
    simp only at hA
    obtain ⟨rfl, rfl⟩ := h
    have HA := Aside0.mk hA
    clear hA hr
    go_enter Tryd.func10, Tryd.ntmps10
    go_wp2_with (first | (go_at_call 27; (refine HA.out.mono ?_); rintro e w1 ⟨⟨n9, t9, v9, rfl⟩, hb⟩; have HB := Aside0.mk hb; clear hb))
    go_ret2
    exact ⟨rfl, HB.out⟩
  · skip
    rw [hr] at h hA
    simp only [Option.some.injEq, Prod.mk.injEq] at h
    simp only at hA
    obtain ⟨rfl, rfl⟩ := h
    have HA := Aside0.mk hA
    clear hA hr
    go_enter Tryd.func10, Tryd.ntmps10
    go_wp2_with (first | (go_at_call 27; (refine HA.out.mono ?_); rintro e w1 ⟨⟨n9, t9, v9, rfl⟩, hb⟩; have HB := Aside0.mk hb; clear hb))
    go_ret2
    exact ⟨rfl, HB.out⟩

end Go.Proofs.YtgkjoodlcojkkaaDoor.QD
