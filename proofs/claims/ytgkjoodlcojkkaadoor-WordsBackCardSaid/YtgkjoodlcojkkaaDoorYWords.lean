/- What words and its reference compute of a text: words, names, numbers, numbers' texts, as plain functions of lists of bytes. Conditions: lengths within the bounds that each statement names. -/
import Derived.Test.YtgkjoodlcojkkaaDoorYStr
import Derived.Test.YtgkjoodlcojkkaaDoorQDf15
import Derived.Test.YtgkjoodlcojkkaaDoorQDf16
import Derived.Test.YtgkjoodlcojkkaaDoorQDf17
import Derived.Test.YtgkjoodlcojkkaaDoorQDf18
import Derived.Test.YtgkjoodlcojkkaaDoorQDf19
import Derived.Test.YtgkjoodlcojkkaaDoorQDf20
import Derived.Test.YtgkjoodlcojkkaaDoorQDf11
import Derived.Test.YtgkjoodlcojkkaaDoorQDf12
import Derived.Test.YtgkjoodlcojkkaaDoorQDf14
namespace Go.Proofs.YtgkjoodlcojkkaaDoor.Y
open Go.RowKit Go.Proofs.YtgkjoodlcojkkaaDoorW.PrintWords Go.Proofs.YtgkjoodlcojkkaaDoorW.PrintLast Go.Proofs.YtgkjoodlcojkkaaDoorW.PrintMore Go.Proofs.YtgkjoodlcojkkaaDoor.QD
set_option linter.unusedVariables false
set_option linter.unusedSimpArgs false

/-! ### words -/
def ne (p : Bs) : Bool := !p.isEmpty
def upto (l : Bs) : Bs := l.takeWhile (· != 35)
def wordsL (l : Bs) : List Bs := (splitL 32 (upto l)).filter ne
theorem upto_len (l : Bs) : (upto l).length ≤ l.length := List.takeWhile_sublist _ |>.length_le
theorem takeWhile_hit {l : Bs} {o : Nat} {post : Bs} (c : UInt8) (h : l = l.take o ++ c :: post) (hn : c ∉ l.take o) : l.takeWhile (· != c) = l.take o := by
  conv => lhs; rw [h]
  rw [List.takeWhile_append_of_pos (by intro x hx; simp; intro e; exact hn (e ▸ hx))]
  simp
theorem takeWhile_none {l : Bs} (c : UInt8) (hn : c ∉ l) : l.takeWhile (· != c) = l := by
  have := List.takeWhile_append_of_pos (p := (· != c)) (l₁ := l) (l₂ := []) (by intro x hx; simp; intro e; exact hn (e ▸ hx))
  simpa using this
theorem Cut_eq (l : Bs) (h : l.length < 4294967281) : ∃ x y, strings_Cut.f (B l) (B [35]) = some (B (upto l), x, y) := by
  unfold strings_Cut.f
  rw [if_pos (by rw [size_B]; exact h), data_B, data_B]
  refine ⟨⟨(Lib.cut l [35]).2.1.toArray⟩, (Lib.cut l [35]).2.2, ?_⟩
  rw [show (⟨(Lib.cut l [35]).1.toArray⟩ : ByteArray) = B (upto l) from ?_]
  show B _ = B _
  congr 1
  unfold Lib.cut
  rw [Lib.index_one]
  by_cases c : 0 ≤ Lib.indexByte l 35
  · rw [if_pos c]
    obtain ⟨o, ho⟩ := Int.eq_ofNat_of_zero_le c
    obtain ⟨post, h1, h2, _⟩ := indexByte_split ho
    rw [ho]
    exact (takeWhile_hit 35 h1 h2).symm
  · rw [if_neg c]
    refine (takeWhile_none (l := l) 35 ?_).symm
    intro hm
    obtain ⟨k, hk⟩ := List.getElem?_of_mem hm
    exact Lib.indexByte_none (by have := Lib.indexByte_ge l 35; omega) k hk
theorem words_loop (ps : List Bs) (hl : ps.length < 8796093022208) : ∀ (n : Nat) (out : List Bs) (i k : Nat), i + n = ps.length → n < k → out.length ≤ i →
    words_Words.l0 k (out.map B) (ps.map B) (ps.length : Int) (i : Int) = some ((out ++ (ps.drop i).filter ne).map B)
  | n, out, i, 0, hn, hk, ho => by omega
  | 0, out, i, k + 1, hn, hk, ho => by
    unfold words_Words.l0
    rw [if_neg (by omega), List.drop_eq_nil_of_le (by omega)]
    simp
  | n + 1, out, i, k + 1, hn, hk, ho => by
    unfold words_Words.l0
    have hi : i < ps.length := by omega
    rw [if_pos (by omega), if_pos (by omega), List.length_map, if_pos (by omega), rdOf_B, toList_B, w64s i (by omega), List.drop_eq_getElem_cons hi]
    have e0 : ps.getD i [] = ps[i] := by simp [hi]
    rw [e0]
    by_cases h : ps[i] = []
    · rw [if_pos h, words_loop ps hl n out (i + 1) k (by omega) (by omega) (by omega)]
      rw [List.filter_cons_of_neg (by simp [ne, h])]
    · rw [if_neg h, List.length_map, if_pos (by omega)]
      have := words_loop ps hl n (out ++ [ps[i]]) (i + 1) k (by omega) (by omega) (by simp; omega)
      rw [List.map_append] at this
      rw [show List.map B [ps[i]] = [B ps[i]] from rfl] at this
      rw [this, List.filter_cons_of_pos (by simp [ne, h]), List.append_assoc]
      rfl
theorem words_Words_eq (l : Bs) (h : l.length < 4294967281) (k : Nat) (hk : l.length + 1 < k) : words_Words.f k (B l) = some ((wordsL l).map B) := by
  unfold words_Words.f
  obtain ⟨x, y, hc⟩ := Cut_eq l h
  have hu := upto_len l
  rw [show (⟨#[35]⟩ : ByteArray) = B [35] from rfl, hc, Option.bind_some, show (⟨#[32]⟩ : ByteArray) = B [32] from rfl, Split_eq 32 _ (by omega), Option.bind_some, List.length_map]
  have hle := splitL_len 32 (upto l)
  have := words_loop (splitL 32 (upto l)) (by omega) (splitL 32 (upto l)).length [] 0 k (by omega) (by omega) (Nat.zero_le _)
  simpa [wordsL] using this
theorem filter_dropLastE (ps : List Bs) : (dropLastE ps).filter ne = ps.filter ne := by
  unfold dropLastE
  split
  · rename_i h
    have hne : ps ≠ [] := by intro e; rw [e] at h; cases h
    have := List.dropLast_concat_getLast hne
    conv => rhs; rw [← this]
    rw [List.getLast?_eq_some_getLast hne] at h
    rw [Option.some.inj h]
    simp [ne]
  · rfl
theorem refWords_loop1 (ps : List Bs) (hl : ps.length < 8796093022208) : ∀ (n : Nat) (out : List Bs) (i k : Nat), i + n = ps.length → n < k → out.length ≤ i →
    swingbridgeref7_Words.l1 k (ps.map B) (out.map B) (i : Int) = some ((out ++ (ps.drop i).filter ne).map B)
  | n, out, i, 0, hn, hk, ho => by omega
  | 0, out, i, k + 1, hn, hk, ho => by
    unfold swingbridgeref7_Words.l1
    rw [List.length_map, if_neg (by omega), List.drop_eq_nil_of_le (by omega)]
    simp
  | n + 1, out, i, k + 1, hn, hk, ho => by
    unfold swingbridgeref7_Words.l1
    have hi : i < ps.length := by omega
    rw [List.length_map, if_pos (by omega), if_pos (by omega), rdOf_B, toList_B, w64s i (by omega), List.drop_eq_getElem_cons hi]
    have e0 : ps.getD i [] = ps[i] := by simp [hi]
    rw [e0]
    by_cases h : ps[i] = []
    · rw [if_pos h, refWords_loop1 ps hl n out (i + 1) k (by omega) (by omega) (by omega)]
      rw [List.filter_cons_of_neg (by simp [ne, h])]
    · rw [if_neg h, List.length_map, if_pos (by omega)]
      have := refWords_loop1 ps hl n (out ++ [ps[i]]) (i + 1) k (by omega) (by omega) (by simp; omega)
      rw [List.map_append] at this
      rw [show List.map B [ps[i]] = [B ps[i]] from rfl] at this
      rw [this, List.filter_cons_of_pos (by simp [ne, h]), List.append_assoc]
      rfl
theorem refWords_j1 (l : Bs) (hl : l.length < 8796093022207) (i k : Nat) (hi : i ≤ l.length) (hk : l.length + 3 < k) :
    swingbridgeref7_Words.j1 k (B l) (i : Int) = some (((splitL 32 (l.take i)).filter ne).map B) := by
  cases k with
  | zero => omega
  | succ k =>
    rw [swingbridgeref7_Words.j1]
    have hlt : (l.take i).length ≤ l.length := by simp; omega
    rw [size_B, if_pos (by omega), if_pos (by omega), Int.toNat_natCast, extract_B, List.drop_zero]
    have hcut := ref_cut_eq 32 (by omega) (l.take i) (by omega) k (by omega)
    rw [show ((32 : Nat) : Int) = (32 : Int) from rfl] at hcut
    rw [hcut, Option.bind_some]
    have hle := splitL_len 32 (l.take i)
    have hle2 : (cutL 32 (l.take i)).length ≤ (splitL 32 (l.take i)).length := by
      unfold cutL dropLastE; split
      · simp
      · exact Nat.le_refl _
    have := refWords_loop1 (cutL 32 (l.take i)) (by omega) _ [] 0 k (Nat.zero_add _) (by omega) (Nat.zero_le _)
    rw [show UInt8.ofNat 32 = 32 from rfl]
    simp only [List.map_nil, List.nil_append, List.drop_zero] at this
    rw [show ((0 : Nat) : Int) = 0 from rfl] at this
    rw [this]
    unfold cutL
    rw [filter_dropLastE]
theorem refWords_loop0 (l : Bs) (hl : l.length < 8796093022207) : ∀ (n : Nat) (i k : Nat), i + n = l.length → n + l.length + 4 < k → 35 ∉ l.take i →
    swingbridgeref7_Words.l0 k (B l) (i : Int) = some ((wordsL l).map B)
  | n, i, 0, hn, hk, hno => by omega
  | 0, i, k + 1, hn, hk, hno => by
    unfold swingbridgeref7_Words.l0
    rw [size_B, if_neg (by omega), refWords_j1 l hl i k (by omega) (by omega)]
    unfold wordsL upto
    have : i = l.length := by omega
    subst this
    rw [List.take_length] at hno ⊢
    rw [takeWhile_none 35 hno]
  | n + 1, i, k + 1, hn, hk, hno => by
    unfold swingbridgeref7_Words.l0
    have hi : i < l.length := by omega
    have e0 : l.getD i 0 = l[i] := by simp [hi]
    rw [size_B, if_pos (by omega), if_pos (by omega), bt_B, e0, w64s i (by omega)]
    by_cases h : l[i] = 35
    · rw [if_pos (by rw [h]; rfl), refWords_j1 l hl i k (by omega) (by omega)]
      unfold wordsL upto
      rw [takeWhile_hit 35 (post := l.drop (i + 1)) _ hno]
      conv => lhs; rw [← List.take_append_drop i l]
      rw [List.drop_eq_getElem_cons hi, h]
    · have h2 : ¬ ((l[i].toNat : Int) = 35) := by
        intro e
        apply h
        apply UInt8.toNat_inj.1
        show l[i].toNat = 35
        omega
      rw [if_neg h2]
      refine refWords_loop0 l hl n (i + 1) k (by omega) (by omega) ?_
      rw [List.take_succ_eq_append_getElem hi]
      intro hm
      rcases List.mem_append.1 hm with hm | hm
      · exact hno hm
      · exact h (List.mem_singleton.1 hm).symm
theorem refWords_eq (l : Bs) (hl : l.length < 8796093022207) (k : Nat) (hk : 2 * l.length + 4 < k) : swingbridgeref7_Words.f k (B l) = some ((wordsL l).map B) := by
  unfold swingbridgeref7_Words.f
  exact refWords_loop0 l hl l.length 0 k (by omega) (by omega) (by simp)
theorem refLines_eq (l : Bs) (hl : l.length < 8796093022208) (k : Nat) (hk : l.length < k) : swingbridgeref7_Lines.f k (B l) = some ((cutL 10 l).map B) := by
  unfold swingbridgeref7_Lines.f
  have := ref_cut_eq 10 (by omega) l hl k hk
  rw [show ((10 : Nat) : Int) = (10 : Int) from rfl] at this
  rw [this]
  rfl

/-! ### the same -/
theorem same_loop (xs ys : List Bs) (hxy : xs.length = ys.length) (hl : xs.length < 9223372036854775807) : ∀ (n i k : Nat), i + n = xs.length → n < k → swingbridgelaw7_same.l0 k (xs.map B) (ys.map B) (i : Int) = some (decide (xs.drop i = ys.drop i))
  | n, i, 0, hn, hk => by omega
  | 0, i, k + 1, hn, hk => by
    unfold swingbridgelaw7_same.l0
    rw [List.length_map, if_neg (by omega), List.drop_eq_nil_of_le (by omega), List.drop_eq_nil_of_le (by omega)]
    rfl
  | n + 1, i, k + 1, hn, hk => by
    unfold swingbridgelaw7_same.l0
    have hi : i < xs.length := by omega
    have hj : i < ys.length := by omega
    rw [List.length_map, if_pos (by omega), if_pos (by omega), List.length_map, if_pos (by omega), rdOf_B, rdOf_B, toList_B, toList_B, w64s i (by omega), List.drop_eq_getElem_cons hi, List.drop_eq_getElem_cons hj]
    have e0 : xs.getD i [] = xs[i] := by simp [hi]
    have e1 : ys.getD i [] = ys[i] := by simp [hj]
    rw [e0, e1]
    by_cases h : xs[i] = ys[i]
    · rw [if_pos h, same_loop xs ys hxy hl n (i + 1) k (by omega) (by omega)]
      congr 1
      rw [h]
      simp only [List.cons.injEq, true_and]
    · rw [if_neg h]
      have : ¬ (xs[i] :: xs.drop (i + 1) = ys[i] :: ys.drop (i + 1)) := fun e => h (List.cons.inj e).1
      rw [decide_eq_false this]
theorem same_eq (xs ys : List Bs) (hl : xs.length < 9223372036854775807) (k : Nat) (hk : xs.length < k) : swingbridgelaw7_same.f k (xs.map B) (ys.map B) = some (decide (xs = ys)) := by
  unfold swingbridgelaw7_same.f
  rw [List.length_map, List.length_map]
  by_cases h : xs.length = ys.length
  · rw [if_pos (by omega)]
    have := same_loop xs ys h hl xs.length 0 k (by omega) hk
    simpa using this
  · rw [if_neg (by omega)]
    have : xs ≠ ys := fun e => h (by rw [e])
    simp [this]

end Go.Proofs.YtgkjoodlcojkkaaDoor.Y
