/- Texts as lists of bytes: cutting at a byte (what strings.Split does at one byte, what the reference's cut does), as plain functions, and that the printed functions compute them. Conditions: lengths within the bounds that each statement names. -/
import Derived.Test.YtgkjoodlcojkkaaDoorXLib
import Derived.Test.YtgkjoodlcojkkaaDoorQDf13
import Derived.Test.YtgkjoodlcojkkaaDoorQDf30
import Derived.Lib.CutLaws
import Derived.Lib.IndexLaws
namespace Go.Proofs.YtgkjoodlcojkkaaDoor.Y
open Go.RowKit Go.Proofs.YtgkjoodlcojkkaaDoorW.PrintWords Go.Proofs.YtgkjoodlcojkkaaDoorW.PrintLast Go.Proofs.YtgkjoodlcojkkaaDoorW.PrintMore Go.Proofs.YtgkjoodlcojkkaaDoor.QD
set_option linter.unusedVariables false
set_option linter.unusedSimpArgs false

/-! ### bytes -/
abbrev Bs := List UInt8
def B (l : Bs) : ByteArray := ⟨l.toArray⟩
theorem B_data (s : ByteArray) : B s.data.toList = s := by cases s; simp [B]
theorem data_B (l : Bs) : (B l).data.toList = l := by simp [B]
theorem toList_B (l : Bs) : (B l).toList = l := by rw [ByteArray.toList_eq, data_B]
theorem size_B (l : Bs) : (B l).size = l.length := by simp [B, ByteArray.size]
theorem append_B (a b : Bs) : B a ++ B b = B (a ++ b) := by
  apply Go.WideShapes.bytes_inj
  rw [data_B]
  simp [B]
theorem B_inj {a b : Bs} : B a = B b ↔ a = b := ⟨fun h => by rw [← data_B a, h, data_B], fun h => by rw [h]⟩
theorem extract_B (l : Bs) (a b : Nat) : (B l).extract a b = B ((l.take b).drop a) := by
  apply Go.WideShapes.bytes_inj
  rw [data_B, Lib.extract_data, data_B]
  rw [List.drop_take]
theorem bt_B (l : Bs) (i : Nat) : bt (B l) (i : Int) = ((l.getD i 0).toNat : Int) := by
  unfold bt
  by_cases h : i < l.length
  · rw [dif_pos (by rw [size_B]; simpa using h)]
    have : (B l)[(i : Int).toNat]'(by rw [size_B]; simpa using h) = l[i] := by
      show (B l).data[(i : Int).toNat] = _
      simp [B]
    rw [this]
    simp [h]
  · rw [dif_neg (by rw [size_B]; simpa using h)]
    simp [h]
theorem rdOf_B (xs : List Bs) (i : Nat) : rdOf ByteArray.empty (xs.map B) (i : Int) = B (xs.getD i []) := by
  unfold rdOf
  simp only [Int.toNat_natCast, List.getD_eq_getElem?_getD, List.getElem?_map]
  cases xs[i]? <;> simp [B] <;> rfl
theorem w64 {n : Int} (h : -9223372036854775808 ≤ n ∧ n ≤ 9223372036854775807) : wrap64 n = n := by unfold wrap64; omega
theorem w64s (n : Nat) (h : n < 9223372036854775807) : wrap64 ((n : Int) + 1) = ((n + 1 : Nat) : Int) := by rw [w64 (by omega)]; omega

/-! ### cut at a byte -/
def splitL (c : UInt8) : Bs → List Bs
  | [] => [[]]
  | x :: xs => if x = c then [] :: splitL c xs else match splitL c xs with
    | [] => [[x]]
    | p :: ps => (x :: p) :: ps
theorem splitL_ne (c : UInt8) : ∀ l, splitL c l ≠ []
  | [] => by simp [splitL]
  | x :: xs => by
    unfold splitL
    split
    · simp
    · split <;> simp
theorem splitL_len (c : UInt8) : ∀ l, (splitL c l).length ≤ l.length + 1
  | [] => by simp [splitL]
  | x :: xs => by
    have := splitL_len c xs
    unfold splitL
    split
    · simp; omega
    · split
      · simp
      · rename_i h; rw [h] at this; simp at this ⊢; omega
theorem splitL_no (c : UInt8) : ∀ {l : Bs}, c ∉ l → splitL c l = [l]
  | [], _ => rfl
  | x :: xs, h => by
    have h1 : x ≠ c := fun e => h (by simp [e])
    have h2 : c ∉ xs := fun e => h (by simp [e])
    unfold splitL
    rw [if_neg h1, splitL_no c h2]
theorem splitL_hit (c : UInt8) : ∀ {pre : Bs} (post : Bs), c ∉ pre → splitL c (pre ++ c :: post) = pre :: splitL c post
  | [], post, _ => by simp [splitL]
  | x :: xs, post, h => by
    have h1 : x ≠ c := fun e => h (by simp [e])
    have h2 : c ∉ xs := fun e => h (by simp [e])
    rw [List.cons_append]
    conv => lhs; unfold splitL
    rw [if_neg h1, splitL_hit c post h2]

theorem indexByte_split {l : Bs} {c : UInt8} {o : Nat} (h : Lib.indexByte l c = o) : ∃ post, l = l.take o ++ c :: post ∧ c ∉ l.take o ∧ o < l.length ∧ post = l.drop (o + 1) := by
  obtain ⟨h1, h2⟩ := Lib.indexByte_some h
  obtain ⟨hlt, he⟩ := List.getElem?_eq_some_iff.1 h1
  refine ⟨l.drop (o + 1), ?_, ?_, hlt, rfl⟩
  · conv => lhs; rw [← List.take_append_drop o l]
    rw [List.drop_eq_getElem_cons hlt, he]
  · intro hm
    obtain ⟨k, hk⟩ := List.getElem?_of_mem hm
    rw [List.getElem?_take] at hk
    split at hk
    · exact h2 k (by assumption) hk
    · cases hk
theorem split_eq (c : UInt8) : ∀ (n : Nat) (l : Bs), l.length ≤ n → Lib.splitB (B [c]) 0 (Lib.countB (B l) (B [c])) (B l) = (splitL c l).map B
  | n, l, hn => by
    have hone : ∀ l : Bs, Lib.indexB (B l) (B [c]) = Lib.indexByte l c := fun l => by unfold Lib.indexB; rw [data_B, data_B, Lib.index_one]
    rcases Lib.indexB_cases (B l) (B [c]) with h | ⟨o, h, hle⟩
    · rw [Lib.splitB_miss _ _ _ _ h, splitL_no c]
      · rfl
      · rw [hone] at h
        intro hm
        obtain ⟨k, hk⟩ := List.getElem?_of_mem hm
        exact Lib.indexByte_none h k hk
    · have h' := h
      rw [hone] at h
      obtain ⟨post, hl, hnot, hlt, hpost⟩ := indexByte_split h
      rw [Lib.countB_hit _ _ o (by rw [size_B]; simp) h', Nat.add_comm, Lib.splitB_hit _ _ _ _ o h']
      have e1 : (B l).extract 0 (o + 0) = B (l.take o) := by rw [extract_B]; simp
      have e2 : (B l).extract (o + (B [c]).size) (B l).size = B post := by
        rw [extract_B, size_B, size_B, hpost]; simp
      rw [e1, e2]
      cases n with
      | zero => omega
      | succ n =>
        rw [split_eq c n post (by rw [hpost, List.length_drop]; omega)]
        conv => rhs; rw [hl, splitL_hit c post hnot]
        rfl
theorem Split_eq (c : UInt8) (l : Bs) (h : l.length < 4294967281) : strings_Split.f (B l) (B [c]) = some ((splitL c l).map B) := by
  unfold strings_Split.f
  rw [if_pos ⟨by rw [size_B]; exact h, by rw [size_B]; simp⟩, split_eq c _ l (Nat.le_refl _)]

/-- Without a last piece that is empty. -/
def dropLastE (ps : List Bs) : List Bs := if ps.getLast? = some [] then ps.dropLast else ps
def cutL (c : UInt8) (l : Bs) : List Bs := dropLastE (splitL c l)

theorem words_Lines_eq (l : Bs) (h : l.length < 4294967281) : words_Lines.f (B l) = some ((cutL 10 l).map B) := by
  unfold words_Lines.f
  rw [show (⟨#[10]⟩ : ByteArray) = B [10] from rfl, Split_eq 10 l h, Option.bind_some]
  have hne := splitL_ne 10 l
  have hle : (splitL 10 l).length ≤ l.length + 1 := splitL_len 10 l
  unfold cutL dropLastE
  generalize splitL 10 l = ps at hne hle ⊢
  have hlen : 0 < ps.length := List.length_pos_iff.2 hne
  have e1 : wrap64 (((ps.map B).length : Int) - 1) = ((ps.length - 1 : Nat) : Int) := by rw [List.length_map, w64 (by omega)]; omega
  rw [e1, rdOf_B, toList_B, List.length_map, if_pos (by omega), if_pos (by omega), Int.toNat_natCast]
  have e2 : ps.getD (ps.length - 1) [] = ps.getLast hne := by
    rw [List.getLast_eq_getElem, List.getD_eq_getElem?_getD, List.getElem?_eq_getElem (by omega)]; rfl
  rw [e2, List.getLast?_eq_some_getLast hne]
  by_cases c : ps.getLast hne = []
  · rw [if_pos c, if_pos (by omega), if_pos (by rw [c]), List.dropLast_eq_take, List.map_take]
  · rw [if_neg c, if_neg (fun e => c (Option.some.inj e))]

/-! ### the reference's cut -/
def cutGo (c : UInt8) : Bs → Bs → List Bs
  | cur, [] => if cur = [] then [] else [cur]
  | cur, x :: xs => if x = c then cur :: cutGo c [] xs else cutGo c (cur ++ [x]) xs
theorem cutGo_eq (c : UInt8) : ∀ (l cur : Bs), cutGo c cur l = dropLastE (match splitL c l with | [] => [cur] | p :: ps => (cur ++ p) :: ps)
  | [], cur => by
    unfold cutGo splitL dropLastE
    by_cases h : cur = [] <;> simp [h]
  | x :: xs, cur => by
    unfold cutGo splitL
    by_cases h : x = c
    · rw [if_pos h, if_pos h, cutGo_eq c xs []]
      have hne := splitL_ne c xs
      generalize splitL c xs = ps at hne ⊢
      cases ps with
      | nil => exact absurd rfl hne
      | cons p ps => simp only [List.nil_append, List.append_nil]; unfold dropLastE; simp only [List.getLast?_cons_cons]; split <;> rfl
    · rw [if_neg h, if_neg h, cutGo_eq c xs (cur ++ [x])]
      have hne := splitL_ne c xs
      generalize splitL c xs = ps at hne ⊢
      cases ps with
      | nil => exact absurd rfl hne
      | cons p ps => simp only [List.append_assoc, List.singleton_append]
theorem cutL_eq (c : UInt8) (l : Bs) : cutGo c [] l = cutL c l := by
  rw [cutGo_eq]
  unfold cutL
  have hne := splitL_ne c l
  generalize splitL c l = ps at hne ⊢
  cases ps with
  | nil => exact absurd rfl hne
  | cons p ps => rfl
theorem cut_loop (c : Nat) (hc : c < 256) (l : Bs) (hl : l.length < 8796093022208) : ∀ (n : Nat) (out : List Bs) (a i k : Nat), i + n = l.length → a ≤ i → n < k → out.length ≤ i →
    swingbridgeref7_cut.l0 k (B l) (c : Int) (out.map B) (a : Int) (i : Int) = some ((out ++ cutGo (UInt8.ofNat c) ((l.take i).drop a) (l.drop i)).map B)
  | n, out, a, i, 0, hn, ha, hk, ho => by omega
  | 0, out, a, i, k + 1, hn, ha, hk, ho => by
    unfold swingbridgeref7_cut.l0
    rw [size_B, if_neg (by omega)]
    have hi : i = l.length := by omega
    subst hi
    rw [List.drop_length, List.take_length]
    unfold cutGo
    by_cases h : a < l.length
    · rw [if_pos (by omega), if_pos (by omega), if_pos (by omega), List.length_map, if_pos (by omega), if_neg (by intro e; have := congrArg List.length e; simp at this; omega), Int.toNat_natCast, extract_B, List.take_length]
      simp
    · rw [if_neg (by omega), if_pos (by have : a = l.length := by omega
                                        simp [this])]
      simp
  | n + 1, out, a, i, k + 1, hn, ha, hk, ho => by
    unfold swingbridgeref7_cut.l0
    have hi : i < l.length := by omega
    rw [size_B, if_pos (by omega), if_pos (by omega), bt_B, w64s i (by omega), List.drop_eq_getElem_cons hi]
    have e0 : l.getD i 0 = l[i] := by simp [hi]
    rw [e0]
    conv => rhs; unfold cutGo
    have hiff : ((l[i].toNat : Int) = (c : Int)) ↔ l[i] = UInt8.ofNat c := by
      constructor
      · intro h
        apply UInt8.toNat_inj.1
        rw [UInt8.toNat_ofNat_of_lt' hc]; omega
      · intro h; rw [h, UInt8.toNat_ofNat_of_lt' hc]
    by_cases h : l[i] = UInt8.ofNat c
    · rw [if_pos (hiff.2 h), if_pos h, if_pos (by omega), if_pos (by omega), if_pos (by omega), List.length_map, if_pos (by omega), Int.toNat_natCast, Int.toNat_natCast, extract_B]
      have := cut_loop c hc l hl n (out ++ [(l.take i).drop a]) (i + 1) (i + 1) k (by omega) (Nat.le_refl _) (by omega) (by simp; omega)
      rw [List.map_append] at this
      rw [show List.map B [List.drop a (List.take i l)] = [B ((l.take i).drop a)] from rfl] at this
      rw [this]
      have e3 : List.drop (i + 1) (List.take (i + 1) l) = [] := by simp
      rw [e3, List.append_assoc]
      rfl
    · rw [if_neg (fun e => h (hiff.1 e)), if_neg h]
      have := cut_loop c hc l hl n out a (i + 1) k (by omega) (by omega) (by omega) (by omega)
      rw [this]
      have e3 : List.drop a (List.take (i + 1) l) = List.drop a (List.take i l) ++ [l[i]] := by
        rw [List.take_succ_eq_append_getElem hi, List.drop_append_of_le_length (by simp; omega)]
      rw [e3]
theorem ref_cut_eq (c : Nat) (hc : c < 256) (l : Bs) (hl : l.length < 8796093022208) (k : Nat) (hk : l.length < k) : swingbridgeref7_cut.f k (B l) (c : Int) = some ((cutL (UInt8.ofNat c) l).map B) := by
  unfold swingbridgeref7_cut.f
  have := cut_loop c hc l hl l.length [] 0 0 k (by omega) (Nat.le_refl _) hk (Nat.zero_le _)
  simpa [cutL_eq] using this

end Go.Proofs.YtgkjoodlcojkkaaDoor.Y
