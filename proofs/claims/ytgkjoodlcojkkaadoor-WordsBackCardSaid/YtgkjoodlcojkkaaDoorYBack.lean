/- WordsBack's plain law: words with blanks between come back, lines with line ends between too. No conditions beside the statement's own. -/
import Derived.Test.YtgkjoodlcojkkaaDoorYTell
import Derived.Test.YtgkjoodlcojkkaaDoorQDf4
import Derived.Laws.BitsAllLaws
namespace Go.Proofs.YtgkjoodlcojkkaaDoor.Y
open Go.RowKit Go.Proofs.YtgkjoodlcojkkaaDoorW.PrintWords Go.Proofs.YtgkjoodlcojkkaaDoorW.PrintLast Go.Proofs.YtgkjoodlcojkkaaDoorW.PrintMore Go.Proofs.YtgkjoodlcojkkaaDoor.QD
set_option linter.unusedVariables false
set_option linter.unusedSimpArgs false

theorem splitL_cons (c x : UInt8) (xs : Bs) : splitL c (x :: xs) = if x = c then [] :: splitL c xs else match splitL c xs with
    | [] => [[x]]
    | p :: ps => (x :: p) :: ps := rfl
theorem splitL_app (c : UInt8) : ∀ (a b : Bs), splitL c (a ++ c :: b) = splitL c a ++ splitL c b
  | [], b => by rw [List.nil_append, splitL_cons, if_pos rfl]; rfl
  | x :: xs, b => by
    have ih := splitL_app c xs b
    rw [List.cons_append, splitL_cons, splitL_cons, ih]
    by_cases h : x = c
    · rw [if_pos h, if_pos h]; rfl
    · rw [if_neg h, if_neg h]
      have hne := splitL_ne c xs
      generalize splitL c xs = ps at hne ⊢
      cases ps with
      | nil => exact absurd rfl hne
      | cons p ps => rfl
def wordsW (l : Bs) : List Bs := (splitL 32 l).filter ne
theorem wordsW_app (a b : Bs) : wordsW (a ++ 32 :: b) = wordsW a ++ wordsW b := by unfold wordsW; rw [splitL_app, List.filter_append]
theorem wordsW_one {w : Bs} (h : w ≠ []) (h32 : 32 ∉ w) : wordsW w = [w] := by
  unfold wordsW
  rw [splitL_no 32 h32]
  cases w with
  | nil => exact absurd rfl h
  | cons x xs => rfl
theorem wordsW_nil : wordsW [] = [] := rfl
theorem wordsL_of {l : Bs} (h : 35 ∉ l) : wordsL l = wordsW l := by unfold wordsL wordsW upto; rw [takeWhile_none 35 h]

/-- What is so of the texts behind the first words. -/
structure BackInv (ws : List Bs) (s t : Bs) : Prop where
  words : ∀ x, wordsW (s ++ 32 :: x) = ws ++ wordsW x
  lines : ∀ x, splitL 10 (t ++ x) = ws ++ splitL 10 x
  nohash : 35 ∉ s
theorem BackInv.nil : BackInv [] [] [] := ⟨fun x => by rw [wordsW_app]; rfl, fun x => rfl, by simp⟩
theorem BackInv.step {ws : List Bs} {s t w : Bs} {g : Bs} (h : BackInv ws s t) (hg : g = [32] ∨ g = [32, 32]) (hw : w ≠ []) (h32 : 32 ∉ w) (h35 : 35 ∉ w) (h10 : 10 ∉ w) : BackInv (ws ++ [w]) (s ++ g ++ w) (t ++ w ++ [10]) := by
  refine ⟨fun x => ?_, fun x => ?_, ?_⟩
  · have e : wordsW (w ++ 32 :: x) = [w] ++ wordsW x := by rw [wordsW_app, wordsW_one hw h32]
    rcases hg with rfl | rfl
    · rw [show s ++ [32] ++ w ++ 32 :: x = s ++ 32 :: (w ++ 32 :: x) by simp, h.words, e, List.append_assoc]
    · rw [show s ++ [32, 32] ++ w ++ 32 :: x = s ++ 32 :: ([] ++ 32 :: (w ++ 32 :: x)) by simp, h.words, wordsW_app [] _, e, List.append_assoc]
      rfl
  · rw [show t ++ w ++ [10] ++ x = t ++ (w ++ 10 :: x) by simp, h.lines, splitL_hit 10 x h10]
    simp
  · intro hm
    rcases List.mem_append.1 hm with hm | hm
    · rcases List.mem_append.1 hm with hm | hm
      · exact h.nohash hm
      · rcases hg with rfl | rfl <;> simp at hm
    · exact h35 hm
theorem BackInv.all {ws : List Bs} {s t : Bs} (h : BackInv ws s t) : wordsL s = ws := by
  rw [wordsL_of h.nohash]
  have := h.words []
  rw [wordsW_app] at this
  simpa [wordsW_nil] using this
theorem BackInv.more {ws : List Bs} {s t : Bs} (h : BackInv ws s t) (m : Bs) : wordsL (s ++ [32, 35] ++ m) = ws := by
  have e : upto (s ++ [32, 35] ++ m) = s ++ [32] := by
    unfold upto
    have := takeWhile_hit (l := s ++ [32, 35] ++ m) (o := s.length + 1) (post := m) 35 (by rw [show s ++ [32, 35] ++ m = (s ++ [32]) ++ (35 :: m) by simp, List.take_left' (by simp)]) (by
      rw [show s ++ [32, 35] ++ m = (s ++ [32]) ++ (35 :: m) by simp, List.take_left' (by simp)]
      intro hm
      rcases List.mem_append.1 hm with hm | hm
      · exact h.nohash hm
      · simp at hm)
    rw [this, show s ++ [32, 35] ++ m = (s ++ [32]) ++ (35 :: m) by simp, List.take_left' (by simp)]
  unfold wordsL
  rw [e]
  have := h.words []
  rw [wordsW_nil, List.append_nil] at this
  exact this
theorem BackInv.linesL {ws : List Bs} {s t : Bs} (h : BackInv ws s t) : cutL 10 t = ws := by
  have := h.lines []
  rw [List.append_nil] at this
  unfold cutL dropLastE
  rw [this]
  simp [splitL]

theorem gap_eq (a i : Int) (ha : (Lit.int .u16 a).wf = true) : ∃ g : Nat, (g = 1 ∨ g = 2) ∧ wrap64 (1 + wrap64 (Go.bits .and .u16 (shr .u16 a (IntKind.u64.wrap i)) 1)) = ((g : Nat) : Int) := by
  have hab : 0 ≤ a ∧ a ≤ 65535 := by simpa [Lit.wf, IntKind.min, IntKind.max, IntKind.signed, IntKind.bits] using ha
  obtain ⟨A, rfl⟩ := Int.eq_ofNat_of_zero_le hab.1
  have hv : ∃ V : Nat, shr .u16 ((A : Nat) : Int) (IntKind.u64.wrap i) = ((V : Nat) : Int) ∧ V < 65536 := by
    refine ⟨A / 2 ^ min (IntKind.u64.wrap i).toNat 16, ?_, ?_⟩
    · unfold shr; norm_cast
    · exact Nat.lt_of_le_of_lt (Nat.div_le_self _ _) (by omega)
  obtain ⟨V, hv, hV⟩ := hv
  rw [hv, show (1 : Int) = ((1 : Nat) : Int) from rfl, u16_and_nat V 1 hV (by omega), Nat.and_one_is_mod]
  refine ⟨1 + V % 2, by omega, ?_⟩
  rw [w64 (n := ((V % 2 : Nat) : Int)) (by omega), w64 (by omega)]
  omega

theorem inner_loop (ls : List Bs) (a1 : Int) (m s t : Bs) (i : Nat) (hi : i < ls.length) (hsmall : ls[i].length ≤ 20) (R : Nat → Prop) :
    ∀ (n j k : Nat), j + n = ls[i].length → n < k → (∀ x ∈ ls[i].take j, x ≠ 32 ∧ x ≠ 35 ∧ x ≠ 10) →
      (swingbridgelaw7_WordsBack.l1 k (ls.map B) a1 (B m) (B s) (B t) (i : Int) (j : Int) = some true) ∨
      ((∀ x ∈ ls[i], x ≠ 32 ∧ x ≠ 35 ∧ x ≠ 10) ∧ swingbridgelaw7_WordsBack.l1 k (ls.map B) a1 (B m) (B s) (B t) (i : Int) (j : Int) = swingbridgelaw7_WordsBack.l1 (k - n) (ls.map B) a1 (B m) (B s) (B t) (i : Int) ((ls[i].length : Nat) : Int))
  | n, j, 0, hn, hk, hno => by omega
  | 0, j, k + 1, hn, hk, hno => by
    right
    have : j = ls[i].length := by omega
    subst this
    rw [List.take_length] at hno
    exact ⟨hno, rfl⟩
  | n + 1, j, k + 1, hn, hk, hno => by
    have hj : j < ls[i].length := by omega
    have e0 : ls.getD i [] = ls[i] := by simp [hi]
    have e1 : ls[i].getD j 0 = ls[i][j] := by simp [hj]
    have hstep : swingbridgelaw7_WordsBack.l1 (k + 1) (ls.map B) a1 (B m) (B s) (B t) (i : Int) (j : Int) = if ((ls[i][j].toNat : Nat) : Int) = 32 then some true else if ((ls[i][j].toNat : Nat) : Int) = 35 then some true else if ((ls[i][j].toNat : Nat) : Int) = 10 then some true else swingbridgelaw7_WordsBack.l1 k (ls.map B) a1 (B m) (B s) (B t) (i : Int) ((j + 1 : Nat) : Int) := by
      rw [swingbridgelaw7_WordsBack.l1, if_pos (by omega), List.length_map, if_pos (by omega), rdOf_B, e0, size_B, if_pos (by omega), if_pos (by omega), bt_B, e1, w64s j (by omega)]
    rw [hstep]
    by_cases c1 : ((ls[i][j].toNat : Nat) : Int) = 32
    · rw [if_pos c1]; exact .inl rfl
    · rw [if_neg c1]
      by_cases c2 : ((ls[i][j].toNat : Nat) : Int) = 35
      · rw [if_pos c2]; exact .inl rfl
      · rw [if_neg c2]
        by_cases c3 : ((ls[i][j].toNat : Nat) : Int) = 10
        · rw [if_pos c3]; exact .inl rfl
        · rw [if_neg c3]
          have := inner_loop ls a1 m s t i hi hsmall R n (j + 1) k (by omega) (by omega) (by
            intro x hx
            rw [List.take_succ_eq_append_getElem hj] at hx
            rcases List.mem_append.1 hx with hx | hx
            · exact hno x hx
            · rw [List.mem_singleton.1 hx]
              refine ⟨fun e => c1 (by rw [e]; rfl), fun e => c2 (by rw [e]; rfl), fun e => c3 (by rw [e]; rfl)⟩)
          rwa [show k + 1 - (n + 1) = k - n by omega]

theorem outer_loop (ls : List Bs) (a1 : Int) (ha : (Lit.int .u16 a1).wf = true) (m : Bs) (hls : ls.length ≤ 12) (hm : m.length ≤ 40) :
    ∀ (n i k : Nat) (s t : Bs), i + n = ls.length → 30 * n + 1500 < k → BackInv (ls.take i) s t → s.length ≤ 22 * i → t.length ≤ 21 * i →
      swingbridgelaw7_WordsBack.l0 k (ls.map B) a1 (B m) (B s) (B t) (i : Int) = some true
  | n, i, 0, s, t, hn, hk, hI, h1, h2 => by omega
  | 0, i, k + 1, s, t, hn, hk, hI, h1, h2 => by
    have hi : i = ls.length := by omega
    rw [hi, List.take_length] at hI
    rw [swingbridgelaw7_WordsBack.l0, List.length_map, if_neg (by omega), words_Words_eq s (by omega) k (by omega), Option.bind_some, hI.all, same_eq _ _ (by omega) k (by omega), decide_eq_true rfl, Option.bind_some, if_pos rfl, size_B, if_pos (by omega)]
    rw [show (⟨#[32, 35]⟩ : ByteArray) = B [32, 35] from rfl, append_B, size_B, size_B, if_pos (by simp only [List.length_append, List.length_cons, List.length_nil]; omega), append_B, words_Words_eq _ (by simp only [List.length_append, List.length_cons, List.length_nil]; omega) k (by simp only [List.length_append, List.length_cons, List.length_nil]; omega), Option.bind_some, hI.more m, same_eq _ _ (by omega) k (by omega), decide_eq_true rfl, Option.bind_some, if_pos rfl, words_Lines_eq t (by omega), Option.bind_some, hI.linesL, same_eq _ _ (by omega) k (by omega), decide_eq_true rfl, Option.bind_some]
  | n + 1, i, k + 1, s, t, hn, hk, hI, h1, h2 => by
    have hi : i < ls.length := by omega
    have e0 : ls.getD i [] = ls[i] := by simp [hi]
    have hj2 : ∀ b k, 0 < k → swingbridgelaw7_WordsBack.j2 k (ls.map B) a1 (B m) (B s) (B t) (i : Int) b = if b = true then some true else swingbridgelaw7_WordsBack.l1 (k - 1) (ls.map B) a1 (B m) (B s) (B t) (i : Int) 0 := by
      intro b k hk
      cases k with
      | zero => omega
      | succ k => rw [swingbridgelaw7_WordsBack.j2]; rfl
    rw [swingbridgelaw7_WordsBack.l0, List.length_map, if_pos (by omega), if_pos (by omega), rdOf_B, e0, size_B, hj2 _ _ (by omega), hj2 _ _ (by omega)]
    by_cases c0 : ((ls[i].length : Nat) : Int) = 0
    · rw [if_pos c0, if_pos rfl]
    · rw [if_neg c0]
      by_cases c20 : ((ls[i].length : Nat) : Int) > 20
      · rw [if_pos (decide_eq_true c20)]
      · rw [if_neg (by rw [decide_eq_true_eq]; exact c20)]
        rcases inner_loop ls a1 m s t i hi (by omega) (fun _ => True) ls[i].length 0 (k - 1) (by omega) (by omega) (by simp) with h | ⟨hch, h⟩
        · exact h
        · rw [show ((0 : Nat) : Int) = 0 from rfl] at h
          rw [h]
          obtain ⟨k2, hk2⟩ : ∃ k2, k - 1 - ls[i].length = k2 + 1 := ⟨k - 1 - ls[i].length - 1, by omega⟩
          obtain ⟨g, hg, hge⟩ := gap_eq a1 (i : Int) ha
          have hu : (0 : Int) ≤ IntKind.u64.wrap (i : Int) := wrap_u64_nonneg _
          have hgl : (B [32, 32, 32]).extract 0 ((g : Int)).toNat = B (List.replicate g 32) := by
            rw [extract_B]
            rcases hg with rfl | rfl <;> rfl
          rw [hk2, swingbridgelaw7_WordsBack.l1, if_pos (by omega), List.length_map, if_pos (by omega), rdOf_B, e0, size_B, if_neg (by omega), if_pos hu, hge, if_pos (by omega), if_pos (by omega), show (⟨#[32, 32, 32]⟩ : ByteArray) = B [32, 32, 32] from rfl, hgl, size_B, size_B, List.length_replicate, if_pos (by omega), append_B, size_B, List.length_append, List.length_replicate, if_pos (by omega), size_B, if_pos (by omega), append_B, append_B, size_B, List.length_append, if_pos (by omega), show (⟨#[10]⟩ : ByteArray) = B [10] from rfl, append_B, w64s i (by omega)]
          refine outer_loop ls a1 ha m hls hm n (i + 1) k2 _ _ (by omega) (by omega) ?_ ?_ ?_
          · rw [List.take_succ_eq_append_getElem hi]
            refine hI.step (by rcases hg with rfl | rfl; exact .inl rfl; exact .inr rfl) (fun e => c0 (by rw [e]; rfl)) (fun hmm => (hch _ hmm).1 rfl) (fun hmm => (hch _ hmm).2.1 rfl) (fun hmm => (hch _ hmm).2.2 rfl)
          · simp only [List.length_append, List.length_replicate]; omega
          · simp only [List.length_append, List.length_cons, List.length_nil]; omega

theorem WordsBack_pure (l0 : List ByteArray) (a1 : Int) (a2 : ByteArray) (ha : (Lit.int .u16 a1).wf = true) : ∃ k, swingbridgelaw7_WordsBack.f k l0 a1 a2 = some true := by
  refine ⟨3000, ?_⟩
  generalize hk : (3000 : Nat) = k
  have hls : l0 = (l0.map (·.data.toList)).map B := by
    rw [List.map_map]
    conv => lhs; rw [← List.map_id l0]
    congr 1
  rw [hls, ← B_data a2]
  generalize l0.map (·.data.toList) = ls
  generalize a2.data.toList = m
  unfold swingbridgelaw7_WordsBack.f
  have hj0 : ∀ b, swingbridgelaw7_WordsBack.j0 k (ls.map B) a1 (B m) b = if b = true then some true else swingbridgelaw7_WordsBack.l0 (k - 1) (ls.map B) a1 (B m) (B []) (B []) 0 := by
    intro b
    obtain ⟨k', rfl⟩ : ∃ k', k = k' + 1 := ⟨k - 1, by omega⟩
    rw [swingbridgelaw7_WordsBack.j0]; rfl
  rw [known_eq k (by omega), Option.bind_some, if_pos rfl, List.length_map, size_B, hj0, hj0]
  by_cases c1 : ((ls.length : Nat) : Int) > 12
  · rw [if_pos c1, if_pos rfl]
  · rw [if_neg c1]
    by_cases c2 : ((m.length : Nat) : Int) > 40
    · rw [if_pos (decide_eq_true c2)]
    · rw [if_neg (by rw [decide_eq_true_eq]; exact c2)]
      have := outer_loop ls a1 ha m (by omega) (by omega) ls.length 0 (k - 1) [] [] (by omega) (by omega) (by rw [List.take_zero]; exact BackInv.nil) (by simp) (by simp)
      exact this

end Go.Proofs.YtgkjoodlcojkkaaDoor.Y
