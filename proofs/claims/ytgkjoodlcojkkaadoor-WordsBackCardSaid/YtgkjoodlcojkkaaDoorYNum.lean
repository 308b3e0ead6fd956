/- Names, numbers, numbers' texts: what words and its reference compute, as plain functions of lists of bytes. Conditions: lengths within the bounds that each statement names. -/
import Derived.Test.YtgkjoodlcojkkaaDoorYWords
namespace Go.Proofs.YtgkjoodlcojkkaaDoor.Y
open Go.RowKit Go.Proofs.YtgkjoodlcojkkaaDoorW.PrintWords Go.Proofs.YtgkjoodlcojkkaaDoorW.PrintLast Go.Proofs.YtgkjoodlcojkkaaDoorW.PrintMore Go.Proofs.YtgkjoodlcojkkaaDoor.QD
set_option linter.unusedVariables false
set_option linter.unusedSimpArgs false

/-! ### names -/
def letter (x : UInt8) : Bool := decide (97 ≤ x.toNat) && decide (x.toNat ≤ 122)
def digit (x : UInt8) : Bool := decide (48 ≤ x.toNat) && decide (x.toNat ≤ 57)
def nameGo : Bool → Bs → Bool
  | _, [] => true
  | first, x :: xs => (letter x || (!first && digit x)) && nameGo false xs
theorem nameGo_cons (b : Bool) (x : UInt8) (xs : Bs) : nameGo b (x :: xs) = ((letter x || (!b && digit x)) && nameGo false xs) := rfl
def nameS (l : Bs) : Bool := nameGo true l && (!l.isEmpty && decide (l.length ≤ 8))
theorem name_loop (l : Bs) (hl : l.length < 9223372036854775807) : ∀ (n i k : Nat), i + n = l.length → n < k → words_Name.l0 k (B l) (l.length : Int) (i : Int) = some (nameGo (i == 0) (l.drop i) && (!l.isEmpty && decide (l.length ≤ 8)))
  | n, i, 0, hn, hk => by omega
  | 0, i, k + 1, hn, hk => by
    unfold words_Name.l0
    rw [if_neg (by omega), toList_B, size_B, List.drop_eq_nil_of_le (by omega)]
    by_cases h : l = []
    · rw [if_pos h]; simp [h]
    · have he : l.isEmpty = false := by simp [h]
      rw [if_neg h, he]
      simp only [nameGo, Bool.true_and, Bool.not_false]
      rw [decide_eq_decide.2 (show ((l.length : Nat) : Int) ≤ 8 ↔ l.length ≤ 8 by omega)]
  | n + 1, i, k + 1, hn, hk => by
    unfold words_Name.l0
    have hi : i < l.length := by omega
    have e0 : l.getD i 0 = l[i] := by simp [hi]
    have ih := name_loop l hl n (i + 1) k (by omega) (by omega)
    rw [if_pos (by omega), if_pos (by omega), size_B, if_pos (by omega), bt_B, e0, w64s i (by omega), ih, List.drop_eq_getElem_cons hi]
    have hz : ((i + 1 == 0) : Bool) = false := by simp
    rw [hz, nameGo_cons]
    generalize nameGo false (List.drop (i + 1) l) = R
    generalize (!l.isEmpty && decide (l.length ≤ 8)) = R2
    unfold letter digit
    generalize l[i].toNat = v
    have hii : ((i : Int) = 0) = (i = 0) := propext ⟨fun h => by omega, fun h => by omega⟩
    have hbe : (i == 0) = decide (i = 0) := by by_cases h : i = 0 <;> simp [h]
    simp only [hii, hbe]
    have k1 : ((v : Int) ≥ 48) = (48 ≤ v) := propext ⟨fun h => by omega, fun h => by omega⟩
    have k2 : ((v : Int) < 97) = ¬ (97 ≤ v) := propext ⟨fun h => by omega, fun h => by omega⟩
    have k3 : ((v : Int) > 122) = ¬ (v ≤ 122) := propext ⟨fun h => by omega, fun h => by omega⟩
    have k4 : ((v : Int) ≤ 57) = (v ≤ 57) := propext ⟨fun h => by omega, fun h => by omega⟩
    simp only [k1, k2, k3, k4]
    by_cases a1 : 48 ≤ v <;> by_cases a2 : 97 ≤ v <;> by_cases a3 : v ≤ 122 <;> by_cases a4 : v ≤ 57 <;> by_cases a5 : i = 0 <;> simp [a1, a2, a3, a4, a5] <;> (try omega)
theorem words_Name_eq (l : Bs) (hl : l.length < 9223372036854775807) (k : Nat) (hk : l.length < k) : words_Name.f k (B l) = some (nameS l) := by
  unfold words_Name.f
  rw [size_B]
  have := name_loop l hl l.length 0 k (by omega) hk
  simpa [nameS] using this
theorem refName_loop (l : Bs) (hl : l.length < 9223372036854775807) : ∀ (n i k : Nat), i + n = l.length → n < k → swingbridgeref7_Name.l0 k (B l) (i : Int) = some (nameGo (i == 0) (l.drop i) && (!l.isEmpty && decide (l.length ≤ 8)))
  | n, i, 0, hn, hk => by omega
  | 0, i, k + 1, hn, hk => by
    unfold swingbridgeref7_Name.l0
    rw [size_B, if_neg (by omega), List.drop_eq_nil_of_le (by omega)]
    by_cases h : l = []
    · subst h; rfl
    · have : 0 < l.length := List.length_pos_iff.2 h
      have he : l.isEmpty = false := by simp [h]
      rw [if_pos (by omega), he]
      simp only [nameGo, Bool.true_and, Bool.not_false]
      rw [decide_eq_decide.2 (show ((l.length : Nat) : Int) ≤ 8 ↔ l.length ≤ 8 by omega)]
  | n + 1, i, k + 1, hn, hk => by
    unfold swingbridgeref7_Name.l0
    have hi : i < l.length := by omega
    have e0 : l.getD i 0 = l[i] := by simp [hi]
    have ih := refName_loop l hl n (i + 1) k (by omega) (by omega)
    rw [size_B, if_pos (by omega), if_pos (by omega), bt_B, e0, w64s i (by omega), ih, List.drop_eq_getElem_cons hi]
    have hz : ((i + 1 == 0) : Bool) = false := by simp
    rw [hz, nameGo_cons]
    generalize nameGo false (List.drop (i + 1) l) = R
    generalize (!l.isEmpty && decide (l.length ≤ 8)) = R2
    unfold letter digit
    generalize l[i].toNat = v
    have hii : ((i : Int) = 0) = (i = 0) := propext ⟨fun h => by omega, fun h => by omega⟩
    have hbe : (i == 0) = decide (i = 0) := by by_cases h : i = 0 <;> simp [h]
    simp only [hii, hbe]
    have k1 : ((v : Int) < 48) = ¬ (48 ≤ v) := propext ⟨fun h => by omega, fun h => by omega⟩
    have k2 : ((v : Int) < 97) = ¬ (97 ≤ v) := propext ⟨fun h => by omega, fun h => by omega⟩
    have k3 : ((v : Int) > 122) = ¬ (v ≤ 122) := propext ⟨fun h => by omega, fun h => by omega⟩
    have k4 : ((v : Int) > 57) = ¬ (v ≤ 57) := propext ⟨fun h => by omega, fun h => by omega⟩
    simp only [k1, k2, k3, k4]
    by_cases a1 : 48 ≤ v <;> by_cases a2 : 97 ≤ v <;> by_cases a3 : v ≤ 122 <;> by_cases a4 : v ≤ 57 <;> by_cases a5 : i = 0 <;> simp [a1, a2, a3, a4, a5] <;> (try omega)
theorem refName_eq (l : Bs) (hl : l.length < 9223372036854775807) (k : Nat) (hk : l.length < k) : swingbridgeref7_Name.f k (B l) = some (nameS l) := by
  unfold swingbridgeref7_Name.f
  have := refName_loop l hl l.length 0 k (by omega) hk
  simpa [nameS] using this

/-! ### numbers -/
def val (n : Nat) (l : Bs) : Nat := l.foldl (fun n x => 10 * n + (x.toNat - 48)) n
def good (l : Bs) : Bool := (!l.isEmpty && l.all digit) && (decide (l.length ≤ 1) || l.headD 0 != 48)
def numS (l : Bs) : Int × Bool := if good l && decide (l.length ≤ 7) then (((val 0 l : Nat) : Int), true) else (0, false)
theorem digit_iff (x : UInt8) : digit x = true ↔ 48 ≤ x.toNat ∧ x.toNat ≤ 57 := by unfold digit; simp
theorem val_lt : ∀ (l : Bs) (n b : Nat), l.all digit = true → n < 10 ^ b → val n l < 10 ^ (b + l.length)
  | [], n, b, _, h => h
  | x :: xs, n, b, hd, h => by
    rw [List.all_cons, Bool.and_eq_true, digit_iff] at hd
    have := val_lt xs (10 * n + (x.toNat - 48)) (b + 1) hd.2 (by rw [Nat.pow_succ]; omega)
    rw [List.length_cons, show b + (xs.length + 1) = b + 1 + xs.length by omega]
    exact this
theorem val_snoc (l : Bs) (n : Nat) (x : UInt8) : val n (l ++ [x]) = 10 * val n l + (x.toNat - 48) := by unfold val; simp
theorem num_loop (l : Bs) (hl : l.length ≤ 7) : ∀ (n i m k : Nat), i + n = l.length → n < k → m < 10 ^ i → swingbridgeref7_Num.l0 k (B l) (m : Int) (i : Int) = some (if (l.drop i).all digit = true then ((val m (l.drop i) : Nat) : Int) else 0, (l.drop i).all digit)
  | n, i, m, 0, hn, hk, hm => by omega
  | 0, i, m, k + 1, hn, hk, hm => by
    rw [swingbridgeref7_Num.l0, size_B, if_neg (by omega), List.drop_eq_nil_of_le (by omega)]
    rfl
  | n + 1, i, m, k + 1, hn, hk, hm => by
    have hi : i < l.length := by omega
    have e0 : l.getD i 0 = l[i] := by simp [hi]
    have hp : 10 ^ i ≤ 10 ^ 6 := Nat.pow_le_pow_right (by omega) (by omega)
    rw [swingbridgeref7_Num.l0, size_B, if_pos (by omega), if_pos (by omega), bt_B, e0, w64s i (by omega), List.drop_eq_getElem_cons hi, List.all_cons]
    by_cases h1 : l[i].toNat < 48
    · have : digit l[i] = false := by rw [← Bool.not_eq_true, digit_iff]; omega
      rw [if_pos (by omega), this]; rfl
    · rw [if_neg (by omega)]
      by_cases h2 : 57 < l[i].toNat
      · have : digit l[i] = false := by rw [← Bool.not_eq_true, digit_iff]; omega
        rw [if_pos (by omega), this]; rfl
      · rw [if_neg (by omega)]
        have hd : digit l[i] = true := (digit_iff _).2 (by omega)
        rw [hd, Bool.true_and]
        have e1 : wrap64 (wrap64 (10 * (m : Int)) + (((l[i].toNat : Nat) : Int) - 48) % 256) = ((10 * m + (l[i].toNat - 48) : Nat) : Int) := by
          rw [w64 (n := 10 * (m : Int)) (by omega), w64 (by omega)]; omega
        rw [e1, num_loop l hl n (i + 1) _ k (by omega) (by omega) (by rw [Nat.pow_succ]; omega)]
        rfl
theorem refNum_eq (l : Bs) (k : Nat) (hk : l.length + 2 < k) : swingbridgeref7_Num.f k (B l) = some (numS l) := by
  unfold swingbridgeref7_Num.f
  have hj : ∀ b k, 0 < k → swingbridgeref7_Num.j0 k (B l) b = if b = true then some (0, false) else swingbridgeref7_Num.l0 (k - 1) (B l) 0 0 := by
    intro b k hk
    cases k with
    | zero => omega
    | succ k => rw [swingbridgeref7_Num.j0]; rfl
  rw [size_B]
  unfold numS good
  cases l with
  | nil => rw [if_pos (by simp), hj _ _ (by omega)]; rfl
  | cons x xs =>
    rw [if_neg (by rw [List.length_cons]; omega)]
    by_cases h7 : (x :: xs).length ≤ 7
    · rw [if_neg (by omega), if_pos (by rw [List.length_cons]; omega)]
      have hb : bt (B (x :: xs)) 0 = (x.toNat : Int) := by have := bt_B (x :: xs) 0; simpa using this
      have hx : ((x.toNat : Int) = 48) ↔ x = 48 := ⟨fun h => UInt8.toNat_inj.1 (by show x.toNat = 48; omega), fun h => by rw [h]; rfl⟩
      have hloop := num_loop (x :: xs) h7 (x :: xs).length 0 0 (k - 1) (by omega) (by omega) (by omega)
      rw [List.drop_zero] at hloop
      simp only [Int.natCast_zero, Int.ofNat_zero, Int.cast_ofNat_Int] at hloop
      rw [hb, hj _ _ (by omega), hj _ _ (by omega), hloop]
      have hlt : decide ((x :: xs).length ≤ 7) = true := decide_eq_true h7
      have hne : (x :: xs).isEmpty = false := rfl
      rw [hlt, hne, Bool.and_true]
      show (if (x.toNat : Int) = 48 then _ else _) = some (if ((!false && (x :: xs).all digit) && (decide ((x :: xs).length ≤ 1) || x != 48)) = true then _ else _)
      rw [Bool.not_false, Bool.true_and]
      by_cases c : x = 48
      · rw [if_pos (hx.2 c)]
        by_cases c2 : (x :: xs).length ≤ 1
        · rw [if_neg (by rw [decide_eq_true_eq]; omega), decide_eq_true c2, Bool.true_or, Bool.and_true]
          cases (x :: xs).all digit <;> rfl
        · rw [if_pos (by rw [decide_eq_true_eq]; omega), decide_eq_false c2, c]
          have : ((48 : UInt8) != 48) = false := by decide
          rw [this, Bool.or_false, Bool.and_false]
          rfl
      · have hb2 : (x != 48) = true := bne_iff_ne.2 c
        rw [if_neg (fun e => c (hx.1 e)), if_neg Bool.false_ne_true, hb2, Bool.or_true, Bool.and_true]
        cases (x :: xs).all digit <;> rfl
    · rw [if_pos (by omega), hj _ _ (by omega), if_pos rfl, decide_eq_false h7, Bool.and_false]
      rfl

end Go.Proofs.YtgkjoodlcojkkaaDoor.Y
