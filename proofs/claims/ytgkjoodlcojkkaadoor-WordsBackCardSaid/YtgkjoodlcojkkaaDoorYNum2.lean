/- words.Num, words.Text and their references: the same numbers, the same texts. Conditions: texts of at most 400 bytes. -/
import Derived.Test.YtgkjoodlcojkkaaDoorYNum
namespace Go.Proofs.YtgkjoodlcojkkaaDoor.Y
open Go.RowKit Go.Proofs.YtgkjoodlcojkkaaDoorW.PrintWords Go.Proofs.YtgkjoodlcojkkaaDoorW.PrintLast Go.Proofs.YtgkjoodlcojkkaaDoorW.PrintMore Go.Proofs.YtgkjoodlcojkkaaDoor.QD
set_option linter.unusedVariables false
set_option linter.unusedSimpArgs false

/-! ### the decimal digits of a number -/
theorem dec_small {n : Nat} (h : n < 10) : Lib.decDigits n = [UInt8.ofNat (48 + n)] := Lib.decDigits_one h
theorem dec_big {n : Nat} (h : ¬ n < 10) : Lib.decDigits n = Lib.decDigits (n / 10) ++ [UInt8.ofNat (48 + n % 10)] := by rw [Lib.decDigits, dif_neg h]
theorem toNat_dig {n : Nat} (h : n < 10) : (UInt8.ofNat (48 + n)).toNat = 48 + n := UInt8.toNat_ofNat_of_lt' (by show 48 + n < 256; omega)
theorem digit_dig {n : Nat} (h : n < 10) : digit (UInt8.ofNat (48 + n)) = true := (digit_iff _).2 (by rw [toNat_dig h]; omega)
theorem dec_facts : ∀ n : Nat, (Lib.decDigits n).all digit = true ∧ val 0 (Lib.decDigits n) = n ∧ Lib.decDigits n ≠ [] ∧ (n ≠ 0 → (Lib.decDigits n).headD 0 ≠ 48) := by
  intro n
  induction n using Nat.strongRecOn with
  | _ n ih =>
    by_cases h : n < 10
    · rw [dec_small h]
      refine ⟨by rw [List.all_cons, digit_dig h]; rfl, by show 10 * 0 + _ = _; rw [toNat_dig h]; omega, by simp, fun h0 => ?_⟩
      show UInt8.ofNat (48 + n) ≠ 48
      intro e
      have := congrArg UInt8.toNat e
      rw [toNat_dig h] at this
      have h48 : (48 : UInt8).toNat = 48 := rfl
      omega
    · obtain ⟨h1, h2, h3, h4⟩ := ih (n / 10) (by omega)
      rw [dec_big h]
      refine ⟨by rw [List.all_append, h1, List.all_cons, digit_dig (Nat.mod_lt n (by omega : 10 > 0))]; rfl, ?_, by simp, fun _ => ?_⟩
      · rw [val_snoc, h2, toNat_dig (Nat.mod_lt n (by omega))]; omega
      · cases hd : Lib.decDigits (n / 10) with
        | nil => exact absurd hd h3
        | cons x xs =>
          have := h4 (by omega)
          rw [hd] at this
          exact this
theorem good_dec (n : Nat) : good (Lib.decDigits n) = true := by
  obtain ⟨h1, h2, h3, h4⟩ := dec_facts n
  unfold good
  have he : (Lib.decDigits n).isEmpty = false := by cases h : Lib.decDigits n with
    | nil => exact absurd h h3
    | cons x xs => rfl
  rw [h1, he, Bool.and_true, Bool.not_false, Bool.true_and]
  by_cases h : n = 0
  · subst h; rw [dec_small (by omega)]; rfl
  · have : ((Lib.decDigits n).headD 0 != 48) = true := bne_iff_ne.2 (h4 h)
    rw [this, Bool.or_true]
theorem val_pos : ∀ {l : Bs} {n : Nat}, 0 < n → 0 < val n l
  | [], n, h => h
  | x :: xs, n, h => val_pos (l := xs) (n := 10 * n + (x.toNat - 48)) (by omega)
theorem dec_val_aux : ∀ (m : Nat) (l : Bs), l.length = m → good l = true → Lib.decDigits (val 0 l) = l
  | 0, l, hm, hg => by
    rw [List.length_eq_zero_iff.1 hm] at hg; cases hg
  | m + 1, l, hm, hg => by
    have hne : l ≠ [] := by intro e; rw [e] at hm; cases hm
    have hsp := List.dropLast_concat_getLast hne
    generalize hx : l.getLast hne = x at hsp
    generalize hi : l.dropLast = ini at hsp
    subst hsp
    unfold good at hg
    simp only [Bool.and_eq_true, List.all_append, List.all_cons, List.all_nil, Bool.and_true] at hg
    obtain ⟨⟨_, hd1, hd2⟩, hz⟩ := hg
    have hxd := (digit_iff x).1 hd2
    have hxe : UInt8.ofNat (48 + (x.toNat - 48)) = x := by
      apply UInt8.toNat_inj.1
      rw [toNat_dig (by omega)]; omega
    rw [val_snoc]
    cases ini with
    | nil =>
      show Lib.decDigits (10 * 0 + (x.toNat - 48)) = [x]
      rw [Nat.mul_zero, Nat.zero_add, dec_small (by omega), hxe]
    | cons y ys =>
      have hy : y ≠ 48 := by
        simp only [List.cons_append, List.length_cons, List.length_append, List.headD_cons] at hz
        rw [Bool.or_eq_true] at hz
        rcases hz with hz | hz
        · rw [decide_eq_true_eq] at hz
          simp at hz
        · simpa using hz
      have hg2 : good (y :: ys) = true := by
        unfold good
        rw [hd1]
        simp [hy]
      have ih := dec_val_aux m (y :: ys) (by simpa using hm) hg2
      have hyd := (digit_iff y).1 (by rw [List.all_cons, Bool.and_eq_true] at hd1; exact hd1.1)
      have hv : 0 < val 0 (y :: ys) := by
        show 0 < val (10 * 0 + (y.toNat - 48)) ys
        apply val_pos
        have : y.toNat ≠ 48 := fun e => hy (UInt8.toNat_inj.1 (by rw [e]; rfl))
        omega
      rw [dec_big (by omega)]
      have e1 : (10 * val 0 (y :: ys) + (x.toNat - 48)) / 10 = val 0 (y :: ys) := by omega
      have e2 : (10 * val 0 (y :: ys) + (x.toNat - 48)) % 10 = x.toNat - 48 := by omega
      rw [e1, e2, ih, hxe]
theorem dec_val {l : Bs} (hg : good l = true) : Lib.decDigits (val 0 l) = l := dec_val_aux _ l rfl hg

/-! ### words.Num -/
theorem parse_ok : ∀ (l : Bs) (acc b : Nat), l.all digit = true → acc < 10 ^ b → b + l.length ≤ 7 → Lib.parseUint10 acc l = .ok (val acc l)
  | [], acc, b, _, _, _ => rfl
  | x :: xs, acc, b, hd, ha, hb => by
    rw [List.all_cons, Bool.and_eq_true, digit_iff] at hd
    rw [List.length_cons] at hb
    have hp : 10 ^ b ≤ 10 ^ 6 := Nat.pow_le_pow_right (by omega) (by omega)
    unfold Lib.parseUint10
    rw [if_pos hd.1, if_neg (by omega), if_neg (by omega), parse_ok xs _ (b + 1) hd.2 (by rw [Nat.pow_succ]; omega) (by omega)]
    show _ = Lib.NumEnd.ok (val (10 * acc + _) xs)
    rw [Nat.mul_comm]
theorem atoi_good {l : Bs} (hg : good l = true) (h7 : l.length ≤ 7) : Lib.atoiAll l = .ok ((val 0 l : Nat) : Int) := by
  have hg' := hg
  unfold good at hg
  rw [Bool.and_eq_true, Bool.and_eq_true] at hg
  cases l with
  | nil => cases hg.1.1
  | cons c r =>
    have hc := (digit_iff c).1 (by have := hg.1.2; rw [List.all_cons, Bool.and_eq_true] at this; exact this.1)
    unfold Lib.atoiAll
    have h1 : ¬ (c.toNat = 43 ∨ c.toNat = 45) := by omega
    have hv := val_lt (c :: r) 0 0 hg.1.2 (by omega)
    have hp : 10 ^ (0 + (c :: r).length) ≤ 10 ^ 7 := Nat.pow_le_pow_right (by omega) (by omega)
    have hpm : Lib.parseMag (c :: r) = .ok (val 0 (c :: r)) := by
      unfold Lib.parseMag
      rw [if_neg (by simp), parse_ok (c :: r) 0 0 hg.1.2 (by omega) (by omega)]
    simp only [if_neg h1, hpm]
    rw [if_neg (by omega), if_neg (by omega), if_neg (by omega)]
theorem words_Num_eq (l : Bs) (hl : l.length ≤ 281474976710656) : words_Num.f (B l) = some (numS l) := by
  unfold words_Num.f
  rw [size_B, if_pos hl, data_B]
  by_cases hg : good l = true
  · by_cases h7 : l.length ≤ 7
    · rw [atoi_good hg h7]
      simp only
      rw [if_neg (by omega), if_neg (by omega), toList_B]
      have : Lib.itoa ((val 0 l : Nat) : Int) = l := by
        unfold Lib.itoa
        rw [if_neg (by omega), Int.toNat_natCast, dec_val hg]
      rw [if_pos this]
      unfold numS
      rw [hg, decide_eq_true h7]
      rfl
    · have hn : numS l = (0, false) := by unfold numS; rw [decide_eq_false h7, Bool.and_false]; rfl
      rw [hn]
      rcases Lib.atoiAll l with v | _ | _
      · simp only; rw [if_pos (by omega)]
      · rfl
      · rfl
  · have hn : numS l = (0, false) := by unfold numS; rw [Bool.not_eq_true] at hg; rw [hg]; rfl
    rw [hn]
    rcases Lib.atoiAll l with v | _ | _
    · simp only
      split
      · rfl
      · split
        · rfl
        · rename_i h2
          rw [toList_B, if_neg]
          intro e
          apply hg
          rw [← e]
          unfold Lib.itoa
          rw [if_neg h2]
          exact good_dec _
    · rfl
    · rfl

/-! ### numbers' texts -/
def textS (n : Int) : Bs := if n < 0 then [] else if n > 9999999 then [] else Lib.decDigits n.toNat
theorem words_Text_eq (n : Int) : words_Text.f n = some (B (textS n)) := by
  unfold words_Text.f textS
  split
  · rfl
  · split
    · rfl
    · unfold strconv_Itoa_28.f
      rw [if_pos (by omega), Option.bind_some]
      unfold Lib.itoa
      rw [if_neg (by omega)]
      rfl
theorem nDig_le : ∀ (j n : Nat), n < 10 ^ j → Lib.nDigits n ≤ j + 1
  | 0, n, h => by rw [Lib.nDigits_small (by omega)]; exact Nat.le_refl _
  | j + 1, n, h => by
    by_cases h10 : n < 10
    · rw [Lib.nDigits_small h10]; omega
    · rw [Lib.nDigits_big h10]
      have := nDig_le j (n / 10) (by rw [Nat.pow_succ] at h; omega)
      omega
theorem refText_nat : ∀ (j n k : Nat), n < 10 ^ (j + 1) → n ≤ 9999999 → 2 * j + 2 < k → swingbridgeref7_Text.f k ((n : Nat) : Int) = some (B (Lib.decDigits n))
  | j, n, 0, h, h2, hk => by omega
  | j, n, 1, h, h2, hk => by omega
  | j, n, k + 2, h, h2, hk => by
    rw [swingbridgeref7_Text.f, if_neg (by omega), swingbridgeref7_Text.j0, if_neg (by rw [decide_eq_true_eq]; omega)]
    by_cases hn : n < 10
    · rw [if_pos (by omega), dec_small hn]
      have : wrap64 (48 + (n : Int)) % 256 = ((48 + n : Nat) : Int) := by rw [w64 (by omega)]; omega
      rw [this]
      rfl
    · rw [if_neg (by omega)]
      have e1 : wrap64 (Int.tdiv (n : Int) 10) = ((n / 10 : Nat) : Int) := by
        rw [Int.tdiv_eq_ediv_of_nonneg (by omega), w64 (by omega)]; omega
      cases j with
      | zero => omega
      | succ j =>
        rw [e1, refText_nat j (n / 10) k (by rw [Nat.pow_succ] at h; omega) (by omega) (by omega), Option.bind_some]
        have e2 : wrap64 (48 + Int.tmod (n : Int) 10) % 256 = ((48 + n % 10 : Nat) : Int) := by
          rw [Int.tmod_eq_emod_of_nonneg (by omega), w64 (by omega)]; omega
        rw [e2, Option.bind_some, dec_big hn]
        have e3 : strOfNums [((48 + n % 10 : Nat) : Int)] = B [UInt8.ofNat (48 + n % 10)] := rfl
        have hlen : (Lib.decDigits (n / 10)).length ≤ 20 := by
          have h7 : n / 10 < 10 ^ 6 := by omega
          rw [Lib.decDigits_length]
          by_cases h0 : Lib.nDigits (n / 10) ≤ 20
          · exact h0
          · exact absurd (nDig_le 6 _ h7) (by omega)
        rw [e3, size_B, size_B, if_pos (by simp only [List.length_cons, List.length_nil]; omega), append_B]
theorem refText_eq (n : Int) (k : Nat) (hk : 20 < k) : swingbridgeref7_Text.f k n = some (B (textS n)) := by
  unfold textS
  by_cases h : n < 0
  · rw [if_pos h]
    obtain ⟨k, rfl⟩ : ∃ j, k = j + 2 := ⟨k - 2, by omega⟩
    rw [swingbridgeref7_Text.f, if_pos h, swingbridgeref7_Text.j0, if_pos rfl]
    rfl
  · rw [if_neg h]
    by_cases h2 : n > 9999999
    · rw [if_pos h2]
      obtain ⟨k, rfl⟩ : ∃ j, k = j + 2 := ⟨k - 2, by omega⟩
      rw [swingbridgeref7_Text.f, if_neg h, swingbridgeref7_Text.j0, if_pos (decide_eq_true h2)]
      rfl
    · rw [if_neg h2]
      have := refText_nat 6 n.toNat k (by omega) (by omega) (by omega)
      rwa [Int.toNat_of_nonneg (by omega)] at this

end Go.Proofs.YtgkjoodlcojkkaaDoor.Y
