/- WordsTell's plain law: of every text of at most 400 bytes, of every number, words and its reference tell the same. No conditions beside the statement's own. -/
import Derived.Test.YtgkjoodlcojkkaaDoorYNum2
import Derived.Test.YtgkjoodlcojkkaaDoorQDf9
import Derived.Test.YtgkjoodlcojkkaaDoorQDf3
namespace Go.Proofs.YtgkjoodlcojkkaaDoor.Y
open Go.RowKit Go.Proofs.YtgkjoodlcojkkaaDoorW.PrintWords Go.Proofs.YtgkjoodlcojkkaaDoorW.PrintLast Go.Proofs.YtgkjoodlcojkkaaDoorW.PrintMore Go.Proofs.YtgkjoodlcojkkaaDoor.QD
set_option linter.unusedVariables false
set_option linter.unusedSimpArgs false

theorem known_eq (k : Nat) (hk : 1000 < k) : swingbridgelaw7_known.f k = some true := by
  unfold swingbridgelaw7_known.f
  have n1 := words_Num_eq [49, 50, 48] (by decide)
  have n2 := words_Num_eq [48, 49] (by decide)
  have w1 := words_Words_eq [97, 32, 32, 98, 32, 35, 32, 99] (by decide) k (by simp only [List.length_cons, List.length_nil]; omega)
  have l1 := words_Lines_eq [120, 10, 10, 121] (by decide)
  have m1 := words_Name_eq [97, 49] (by decide) k (by simp only [List.length_cons, List.length_nil]; omega)
  have m2 := words_Name_eq [49, 97] (by decide) k (by simp only [List.length_cons, List.length_nil]; omega)
  have t1 := words_Text_eq 120
  have t2 := words_Text_eq (-1)
  have e1 : numS [49, 50, 48] = (120, true) := by decide
  have e2 : numS [48, 49] = (0, false) := by decide
  have e3 : wordsL [97, 32, 32, 98, 32, 35, 32, 99] = [[97], [98]] := by decide
  have e4 : cutL 10 [120, 10, 10, 121] = [[120], [], [121]] := by decide
  have e5 : nameS [97, 49] = true := by decide
  have e6 : nameS [49, 97] = false := by decide
  have e7 : textS 120 = [49, 50, 48] := by
    unfold textS
    rw [if_neg (by decide), if_neg (by decide)]
    exact dec_val (l := [49, 50, 48]) (by decide)
  have e8 : textS (-1) = [] := by decide
  rw [e1] at n1; rw [e2] at n2; rw [e3] at w1; rw [e4] at l1; rw [e5] at m1; rw [e6] at m2; rw [e7] at t1; rw [e8] at t2
  have s1 := same_eq [[97], [98]] [[97], [98]] (by decide) k (by simp only [List.length_cons, List.length_nil]; omega)
  have s2 := same_eq [[120], [], [121]] [[120], [], [121]] (by decide) k (by simp only [List.length_cons, List.length_nil]; omega)
  rw [decide_eq_true rfl] at s1 s2
  unfold B at n1 n2 w1 l1 m1 m2 t1 t2 s1 s2
  simp only [List.map_cons, List.map_nil] at w1 l1 s1 s2
  rw [n1, Option.bind_some, n2, Option.bind_some, w1, Option.bind_some, s1, Option.bind_some, if_pos rfl, l1, Option.bind_some, s2, Option.bind_some, if_pos rfl, if_pos rfl, if_pos rfl, if_neg Bool.false_ne_true, m1, Option.bind_some, if_pos rfl, m2, Option.bind_some, if_neg Bool.false_ne_true, t1, Option.bind_some, if_pos (show (⟨#[49, 50, 48]⟩ : ByteArray).toList = [49, 50, 48] from toList_B [49, 50, 48]), t2, Option.bind_some]
  rw [show (⟨#[]⟩ : ByteArray).toList = [] from toList_B []]
  rfl

theorem cutL_len (c : UInt8) (l : Bs) : (cutL c l).length ≤ l.length + 1 := by
  have h := splitL_len c l
  unfold cutL dropLastE
  split
  · simp; omega
  · exact h
theorem wordsL_len (l : Bs) : (wordsL l).length ≤ l.length + 1 := by
  have h := splitL_len 32 (upto l)
  have h2 := upto_len l
  have h3 : (wordsL l).length ≤ (splitL 32 (upto l)).length := List.length_filter_le _ _
  omega

theorem WordsTell_pure : swingbridgelaw7_WordsTell.Pure := by
  intro a0 a1 _ _
  rw [← B_data a0]
  generalize a0.data.toList = l
  refine ⟨2000, ?_⟩
  generalize hk : (2000 : Nat) = k
  unfold swingbridgelaw7_WordsTell.f
  rw [known_eq k (by omega), Option.bind_some, if_pos rfl, size_B]
  by_cases h : (l.length : Int) > 400
  · rw [if_pos h]
  · have hl : l.length ≤ 400 := by omega
    have c1 := cutL_len 10 l
    have c2 := wordsL_len l
    rw [if_neg h, words_Num_eq l (by omega), Option.bind_some, refNum_eq l k (by omega), Option.bind_some, words_Lines_eq l (by omega), Option.bind_some, refLines_eq l (by omega) k (by omega), Option.bind_some, same_eq _ _ (by omega) k (by omega), decide_eq_true rfl, Option.bind_some, if_pos rfl,
      words_Words_eq l (by omega) k (by omega), Option.bind_some, refWords_eq l (by omega) k (by omega), Option.bind_some, same_eq _ _ (by omega) k (by omega), decide_eq_true rfl, Option.bind_some, if_pos rfl, if_pos rfl, if_pos (by simp),
      words_Name_eq l (by omega) k (by omega), Option.bind_some, refName_eq l (by omega) k (by omega), Option.bind_some, if_pos (by simp), words_Text_eq, Option.bind_some, refText_eq _ k (by omega), Option.bind_some]
    simp

end Go.Proofs.YtgkjoodlcojkkaaDoor.Y
