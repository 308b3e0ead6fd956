import Derived.Test.YtgkjoodlcojkkaaDoorMU4
import Derived.Test.YtgkjoodlcojkkaaDoorMU3
import Derived.Test.YtgkjoodlcojkkaaDoorMU2
import Derived.Lib.UnsafeStr
section
namespace Go.Proofs.YtgkjoodlcojkkaaDoor.QD
open Go.RowKit Go.Proofs.YtgkjoodlcojkkaaDoorW.PrintWords Go.Proofs.YtgkjoodlcojkkaaDoorW.PrintLast Go.Proofs.YtgkjoodlcojkkaaDoorW.PrintMore
attribute [local go_sem] max2_int min2_int max_two min_two max_three min_three max_four min_four
set_option linter.unusedVariables false
set_option linter.unusedSimpArgs false
theorem bld_below {T e : TypeId} {B b : Nat} {bs : List Value} {W W' : World} (h : Lib.IsBuilderF T e B b bs W) (hb : Below W.heap.size W W') : Lib.IsBuilderF T e B b bs W' := by
  have key : ∀ p, Lib.BuilderAtF T e B b p bs W → Lib.BuilderAtF T e B b p bs W' := by
    intro p h
    have hlt := h.lt
    obtain ⟨hB, v, hbk, hown, hne⟩ := h
    exact ⟨hB, v, (hb.block b hlt).trans hbk, hown.kept (row := none) ⟨hb.os, hb.tape, hb.output, hb.size, fun k hk _ => hb.block k hk⟩ (by cases hv : v.ownBlock <;> simp), hne⟩
  exact h.elim (fun x => .inl (key _ x)) (fun x => .inr (key _ x))
theorem bld_blk {T e : TypeId} {B b : Nat} {bs : List Value} {W : World} (h : Lib.IsBuilderF T e B b bs W) : ∃ p v, W.heap[b]? = some (.cells #[p, v] T (0, 0)) := by
  rcases h with h | h
  · obtain ⟨_, v, hb, _⟩ := h; exact ⟨_, v, hb⟩
  · obtain ⟨_, v, hb, _⟩ := h; exact ⟨_, v, hb⟩
theorem bld_fresh (B : Nat) (W : World) (h : B ≤ W.heap.size) : Lib.IsBuilderF 71 5 B W.heap.size (Lib.strCells ⟨#[]⟩) (W.alloc (.cells #[.pointer none, .slice none 0 0] 71 (0, 0))) :=
  Or.inl (Lib.BuilderAtF.of ⟨h, .slice none 0 0, heap_alloc_new W _, World.ownsRow_nil _ _ _ _, by simp [Value.ownBlock]⟩)
theorem blk_wrote {W W' : World} {g gb B : Nat} {cs : Array Value} {t : TypeId} {bs : List Value} (h : W.heap[g]? = some (.cells cs t (0, 0))) (h71 : t ≠ 71) (h5 : t ≠ 5) (hI : Lib.IsBuilderF 71 5 B gb bs W) (hk : Lib.OthersKept 5 (some gb) W W') : W'.heap[g]? = some (.cells cs t (0, 0)) := by
  obtain ⟨p, v, hp⟩ := bld_blk hI
  have hne : g ≠ gb := blk_ne h hp h71
  exact hk g _ h (fun e => hne (Option.some.inj e)) (fun c fz e => by cases e; exact h5 rfl)
theorem strCells_app (a b : ByteArray) : Lib.strCells (a ++ b) = Lib.strCells a ++ Lib.strCells b := by
  unfold Lib.strCells
  rw [← List.map_append]
  congr 1
structure PS (w : World) (gs gb : Nat) (cs : Array Value) (acc : ByteArray) (W : World) : Prop where
  sb : W.heap[gs]? = some (.cells cs 37 (0, 0))
  bl : Lib.IsBuilderF 71 5 w.heap.size gb (Lib.strCells acc) W
  be : Below w.heap.size w W
theorem PS.below {w : World} {gs gb : Nat} {cs : Array Value} {acc : ByteArray} {W W' : World} (h : PS w gs gb cs acc W) (hb : Below W.heap.size W W') : PS w gs gb cs acc W' := ⟨blk_below h.sb hb, bld_below h.bl hb, below_step h.be hb⟩
theorem PS.write {w : World} {gs gb : Nat} {cs : Array Value} {acc s : ByteArray} {W W' : World} (h : PS w gs gb cs acc W) (hA : Lib.BuilderAtF 71 5 w.heap.size gb (.pointer (some ⟨gb, 0, none⟩)) (Lib.strCells acc ++ Lib.strCells s) W') (hb : Below w.heap.size W W') (hk : Lib.OthersKept 5 (some gb) W W') : PS w gs gb cs (acc ++ s) W' :=
  ⟨blk_wrote h.sb (by decide) (by decide) h.bl hk, .inr (by rw [strCells_app]; exact hA), h.be.trans hb⟩
theorem strCells_data (acc : ByteArray) : (⟨acc.data.toList.toArray⟩ : ByteArray) = acc := by cases acc; simp
theorem bWrite_ (B b : Nat) (bs : List Value) (s : ByteArray) (w : World) (h : Lib.IsBuilderF 71 5 B b bs w) (hlen : bs.length + s.size ≤ 140737488355328) (hBw : B ≤ w.heap.size) :
    Calls Tryd.prog 34 #[.pointer (some ⟨b, 0, none⟩), .string s] w fun e w' => ∃ v, e = .returned v ∧ (Lib.BuilderAtF 71 5 B b (.pointer (some ⟨b, 0, none⟩)) (bs ++ Lib.strCells s) w' ∧ Below B w w' ∧ Lib.OthersKept 5 (some b) w w') :=
  (Tryd.bWriteString B b bs s w h hlen hBw).mono fun e w' ⟨he, hr⟩ => ⟨_, he, hr⟩
theorem check_len {k : Nat} {p n : Int} {c h : List Int} {ts : List S53} (hh : task_Check.f k p c h ts = some (n, 0)) : ts.length ≤ 6 := by
  unfold task_Check.f at hh
  obtain ⟨b, _, hh⟩ := Option.bind_eq_some_iff.1 hh
  by_cases hb : b = true
  · rw [if_pos hb] at hh
    obtain ⟨b2, _, hh⟩ := Option.bind_eq_some_iff.1 hh
    by_cases hb2 : b2 = true
    · rw [if_pos hb2] at hh
      by_cases h6 : (ts.length : Int) > 6
      · rw [if_pos h6] at hh; simp at hh
      · omega
    · rw [if_neg hb2] at hh; simp at hh
  · rw [if_neg hb] at hh; simp at hh
def text_Print.lp : List S50 → ByteArray → Option ByteArray
  | [], b => some b
  | q :: qs, b => (text_part.f q.f0 q.f1 q.f2).bind fun s => if b.size + s.size ≤ 1000000000 then text_Print.lp qs (b ++ ((⟨#[32]⟩ : ByteArray) ++ s)) else none
def text_Print.lt (k : Nat) : List S53 → ByteArray → Option ByteArray
  | [], b => some b
  | t :: ts, b => (text_nums.f k [t.f1, t.f2, t.f3, t.f4]).bind fun sn => if b.size + t.f0.size + sn.size ≤ 1000000000 then (text_Print.lp t.f5 (b ++ (((⟨#[116, 97, 115, 107, 32]⟩ : ByteArray) ++ t.f0) ++ sn))).bind fun b2 => (if b2.size ≤ 1000000000 then text_Print.lt k ts (b2 ++ (⟨#[10]⟩ : ByteArray)) else none) else none
def text_Print.f (k : Nat) (a0_0 : Int) (l0_1 : List Int) (l0_2 : List Int) (l0_3 : List (S53)) : Option (ByteArray) :=
  (task_Check.f k a0_0 l0_1 l0_2 l0_3).bind fun x => if x.2 = 0 then (text_protocol.f a0_0).bind fun ap => (text_nums.f k l0_1).bind fun sc => if ap.size + sc.size ≤ 1000000000 then
    (if l0_2.length > 0 then (text_nums.f k l0_2).bind fun sh => if sh.size ≤ 1000000000 then text_Print.lt k l0_3 (((((((⟨#[112, 114, 111, 116, 111, 99, 111, 108, 32]⟩ : ByteArray) ++ ap) ++ (⟨#[10]⟩ : ByteArray)) ++ (⟨#[99, 111, 114, 101, 115]⟩ : ByteArray)) ++ sc) ++ (⟨#[10]⟩ : ByteArray)) ++ (((⟨#[104, 111, 109, 101, 115]⟩ : ByteArray) ++ sh) ++ (⟨#[10]⟩ : ByteArray))) else none
     else text_Print.lt k l0_3 ((((((⟨#[112, 114, 111, 116, 111, 99, 111, 108, 32]⟩ : ByteArray) ++ ap) ++ (⟨#[10]⟩ : ByteArray)) ++ (⟨#[99, 111, 114, 101, 115]⟩ : ByteArray)) ++ sc) ++ (⟨#[10]⟩ : ByteArray))) else none else some (⟨#[]⟩ : ByteArray)
theorem text_Print.mono_lt (k : Nat) : ∀ (ts : List S53) (b : ByteArray), LeO (text_Print.lt k ts b) (text_Print.lt (k + 1) ts b)
  | [], b => LeO.refl _
  | t :: ts, b => by
    unfold text_Print.lt
    refine LeO.bind (text_nums.mono _ _) (fun _ => LeO.ite (LeO.bind (LeO.refl _) (fun _ => LeO.ite (text_Print.mono_lt k ts _) (LeO.none _))) (LeO.none _))
theorem text_Print.mono : ∀ a0 a1 a2 a3 k, LeO (text_Print.f k a0 a1 a2 a3) (text_Print.f (k + 1) a0 a1 a2 a3) := by
  intro a0 a1 a2 a3 k
  unfold text_Print.f
  exact LeO.bind (task_Check.mono _ _ _ _ _) (fun _ => LeO.ite (LeO.bind (LeO.refl _) (fun _ => LeO.bind (text_nums.mono _ _) (fun _ => LeO.ite (LeO.ite (LeO.bind (text_nums.mono _ _) (fun _ => LeO.ite (text_Print.mono_lt _ _ _) (LeO.none _))) (text_Print.mono_lt _ _ _)) (LeO.none _)))) (LeO.refl _))
def text_Print.T5 : Bool × List (List Nat × List Nat) := (true, [([], []), ([0], [0]), ([1], [1]), ([2], [2]), ([3], [3]), ([4], [4]), ([], []), ([6], [6]), ([7, 2], [7]), ([5, 8], [5, 8]), ([9], [9]), ([10, 8], [10])])
def text_Print.B5 : List Nat := [0, 1, 3, 7, 15, 31, 0, 64, 199, 511, 1023, 2047]
theorem text_Print.tab5 : rtab .any (opsOf Tryd.f24 5) = text_Print.T5 := by kernel_rfl
theorem text_Print.bits5 : waitsOk text_Print.T5.2 text_Print.B5 = true := by kernel_rfl
def text_Print.T11 : Bool × List (List Nat × List Nat) := (true, [([], []), ([0], [0]), ([1], [1]), ([], []), ([3], [3]), ([], []), ([5], [5]), ([], []), ([7], [7]), ([], []), ([9], [9]), ([4, 6, 8, 10], [4, 6, 8, 10]), ([11], [11]), ([2, 12], [2, 12]), ([13, 12], [13])])
def text_Print.B11 : List Nat := [0, 1, 3, 0, 8, 0, 32, 0, 128, 0, 512, 2040, 4088, 8191, 16383]
theorem text_Print.tab11 : rtab .any (opsOf Tryd.f24 11) = text_Print.T11 := by kernel_rfl
theorem text_Print.bits11 : waitsOk text_Print.T11.2 text_Print.B11 = true := by kernel_rfl
set_option maxHeartbeats 8000000 in
set_option maxRecDepth 100000 in
theorem text_Print.calls (k : Nat) (a0_0 : Int) (A0_1 : Option Addr) (c0_1 : Nat) (l0_1 : List Int) (A0_2 : Option Addr) (c0_2 : Nat) (l0_2 : List Int) (A0_3 : Option Addr) (c0_3 : Nat) (l0_3 : List (S53)) (r : ByteArray) (w : World) (hr0_1 : Kd.C (Kd.int .i64) w A0_1 l0_1.length l0_1) (hc0_1 : l0_1.length ≤ c0_1) (hr0_2 : Kd.C (Kd.int .i64) w A0_2 l0_2.length l0_2) (hc0_2 : l0_2.length ≤ c0_2) (hr0_3 : Kd.C k53 w A0_3 l0_3.length l0_3) (hc0_3 : l0_3.length ≤ c0_3) (hG : Glob w) (h : text_Print.f k a0_0 l0_1 l0_2 l0_3 = some r) :
    Calls Tryd.prog 24 #[.agg #[.int .i64 a0_0, .slice A0_1 l0_1.length c0_1, .slice A0_2 l0_2.length c0_2, .slice A0_3 l0_3.length c0_3]] w fun e w' => e = .returned (.string r) ∧ Below w.heap.size w w' := by
  have hu37 := Tryd.underlying37
  have hu53 := Tryd.underlying53
  have hu50 := Tryd.underlying50
  have HR1 := Aside0.mk hr0_1
  have HC1 := Aside0.mk hc0_1
  have HR2 := Aside0.mk hr0_2
  have HC2 := Aside0.mk hc0_2
  have HR3 := Aside0.mk hr0_3
  have HC3 := Aside0.mk hc0_3
  have HG := Aside0.mk hG
  clear hr0_1 hc0_1 hr0_2 hc0_2 hr0_3 hc0_3 hG
  unfold text_Print.f at h
  obtain ⟨⟨n, e⟩, hck, h⟩ := Option.bind_eq_some_iff.1 h
  have HCK := Aside0.mk hck
  clear hck
  dsimp only at h
  by_cases ce : e = 0
  rotate_left
  · rw [if_neg ce] at h
    obtain rfl := Option.some.inj h
    have ceb : (e != 0) = true := bne_iff_ne.2 ce
    have ceb1 : (e == 0) = false := beq_eq_false_iff_ne.2 ce
    go_enter Tryd.func24, Tryd.ntmps24
    go_wp2_with (first | ((with_reducible refine gate_dst (N := 1) rfl ?_); refine box_event ?hg (N := 1) ?hd (cs := #[.int .i64 a0_0, .slice A0_1 l0_1.length c0_1, .slice A0_2 l0_2.length c0_2, .slice A0_3 l0_3.length c0_3]) (t := 37) ?hr ?_; (case hd => rfl); (case hg => rfl); (case hr => first | (go_simp; done) | (go_simp; rfl)); intro gs hg w1 hbox hb; have BS := Aside0.mk hbox; have HB := Aside0.mk hb; clear hg hbox hb; have hza_0 : w1.cell? ⟨gs, 0, none⟩ = some (.int .i64 a0_0) := (blk_cell BS.out 0).trans rfl; have hza_1 : w1.cell? ⟨gs, 1, none⟩ = some (.slice A0_1 l0_1.length c0_1) := (blk_cell BS.out 1).trans rfl; have hza_2 : w1.cell? ⟨gs, 2, none⟩ = some (.slice A0_2 l0_2.length c0_2) := (blk_cell BS.out 2).trans rfl; have hza_3 : w1.cell? ⟨gs, 3, none⟩ = some (.slice A0_3 l0_3.length c0_3) := (blk_cell BS.out 3).trans rfl) | (go_at_call 33; (with_reducible refine (task_Check.calls k a0_0 A0_1 c0_1 l0_1 A0_2 c0_2 l0_2 A0_3 c0_3 l0_3 n e _ (Kd.C_below HR1.out HB.out) HC1.out (Kd.C_below HR2.out HB.out) HC2.out (Kd.C_below HR3.out HB.out) HC3.out HCK.out).mono ?_); rintro e_ w2 ⟨rfl, hb⟩; have HB2 := Aside0.mk (below_step HB.out hb); have BS2 := Aside0.mk (blk_below BS.out hb); clear hb))
    go_ret
    exact ⟨rfl, HB2.out⟩
  rw [if_pos ce] at h
  subst ce
  have HL6 := Aside0.mk (check_len HCK.out)
  obtain ⟨ap, hap, h⟩ := Option.bind_eq_some_iff.1 h
  obtain ⟨sc, hsc, h⟩ := Option.bind_eq_some_iff.1 h
  have HAP := Aside0.mk hap
  have HSC := Aside0.mk hsc
  clear hap hsc
  by_cases cz : ap.size + sc.size ≤ 1000000000
  rotate_left
  · rw [if_neg cz] at h; cases h
  rw [if_pos cz] at h
  have HSZ := Aside0.mk cz
  have z1 : (9223372036854775807 < 9 + ap.size) = False := eq_false (by omega)
  have z2 : (9223372036854775807 < 9 + ap.size + 1) = False := eq_false (by omega)
  have z3 : (9223372036854775807 < 9 + ap.size + 1 + 5) = False := eq_false (by omega)
  have z4 : (9223372036854775807 < 9 + ap.size + 1 + 5 + sc.size) = False := eq_false (by omega)
  have z5 : (9223372036854775807 < 9 + ap.size + 1 + 5 + sc.size + 1) = False := eq_false (by omega)
  clear cz
  have H := Aside0.mk h
  clear h
  go_enter Tryd.func24, Tryd.ntmps24
  go_wp2_with (first | ((with_reducible refine gate_dst (N := 1) rfl ?_); refine box_event ?hg (N := 1) ?hd (cs := #[.int .i64 a0_0, .slice A0_1 l0_1.length c0_1, .slice A0_2 l0_2.length c0_2, .slice A0_3 l0_3.length c0_3]) (t := 37) ?hr ?_; (case hd => rfl); (case hg => rfl); (case hr => first | (go_simp; done) | (go_simp; rfl)); intro gs hg w1 hbox hb; have BS := Aside0.mk hbox; have HB := Aside0.mk hb; clear hg hbox hb; have hza_0 : w1.cell? ⟨gs, 0, none⟩ = some (.int .i64 a0_0) := (blk_cell BS.out 0).trans rfl; have hza_1 : w1.cell? ⟨gs, 1, none⟩ = some (.slice A0_1 l0_1.length c0_1) := (blk_cell BS.out 1).trans rfl; have hza_2 : w1.cell? ⟨gs, 2, none⟩ = some (.slice A0_2 l0_2.length c0_2) := (blk_cell BS.out 2).trans rfl; have hza_3 : w1.cell? ⟨gs, 3, none⟩ = some (.slice A0_3 l0_3.length c0_3) := (blk_cell BS.out 3).trans rfl) | (go_at_call 33; (with_reducible refine (task_Check.calls k a0_0 A0_1 c0_1 l0_1 A0_2 c0_2 l0_2 A0_3 c0_3 l0_3 n 0 _ (Kd.C_below HR1.out HB.out) HC1.out (Kd.C_below HR2.out HB.out) HC2.out (Kd.C_below HR3.out HB.out) HC3.out HCK.out).mono ?_); rintro e_ w2 ⟨rfl, hb⟩; have HB2 := Aside0.mk (below_step HB.out hb); have BS2 := Aside0.mk (blk_below BS.out hb); clear hb))
  have hp_ : PS w gs w2.heap.size #[.int .i64 a0_0, .slice A0_1 l0_1.length c0_1, .slice A0_2 l0_2.length c0_2, .slice A0_3 l0_3.length c0_3] ⟨#[]⟩ (w2.alloc (.cells #[.pointer none, .slice none 0 0] 71 (0, 0))) := ⟨blk_alloc BS2.out _, bld_fresh _ _ HB2.out.size, below_alloc HB2.out _⟩
  generalize w2.alloc (.cells #[.pointer none, .slice none 0 0] 71 (0, 0)) = w3 at hp_ ⊢
  generalize w2.heap.size = gb at hp_ ⊢
  have HP := Aside0.mk (hp_.below (below_drew1 (Below.refl _ _)))
  clear hp_
  refine start_ (n := 12) (S := fun w' => w'.cell? ⟨gs, 0, none⟩ = some (.int .i64 a0_0) ∧ w'.cell? ⟨gs, 1, none⟩ = some (.slice A0_1 l0_1.length c0_1)) (ds := []) (bs 12 0) (by kernel_rfl) rfl rfl ⟨(blk_cell HP.out.sb 0).trans rfl, (blk_cell HP.out.sb 1).trans rfl⟩ (fun hHeld => ?_)
  refine with_tabW text_Print.tab5 text_Print.bits5 (fun HT_ HW_ => ?_)
  generalize w3.drew = w4 at HP hHeld ⊢
  refine pure_ (i := 0) (N := some 17) (v := ?_) (a' := ?_) (bs 12 1) rfl rfl (any_of HT_.out (by kernel_rfl)) (fun _ _ _ h => h) (Or.inl ⟨by rfl, ?_⟩) ?_ ?_
  rotate_left
  · intro w'
    go_simp
    with_reducible rfl
  rotate_left
  · simp only [Act.put, List.setIfInBounds_toArray, List.set_cons_zero, List.set_cons_succ, i64_w, i32_w]
    rfl
  refine pure_ (i := 6) (N := some 23) (v := ?_) (a' := ?_) (bs 12 65) rfl rfl (any_of HT_.out (by kernel_rfl)) (fun _ _ _ h => h) (Or.inl ⟨by rfl, ?_⟩) ?_ ?_
  rotate_left
  · intro w'
    go_simp
    with_reducible rfl
  rotate_left
  · simp only [Act.put, List.setIfInBounds_toArray, List.set_cons_zero, List.set_cons_succ, i64_w, i32_w]
    rfl
  refine take_ (i := 1) (N := some 18) (v := ?_) (a' := ?_) (bs 12 67) rfl rfl (take_ofW HT_.out HW_.out (by kernel_rfl)) (fun _ _ _ h => h) (Or.inl ⟨by rfl, ?_⟩) hHeld ?_ ?_
  rotate_left
  · rintro w' ⟨s0, s1⟩
    go_simp
    with_reducible rfl
  rotate_left
  · simp only [Act.put, List.setIfInBounds_toArray, List.set_cons_zero, List.set_cons_succ, i64_w, i32_w]
    rfl
  refine take_ (i := 7) (N := some 24) (v := ?_) (a' := ?_) (bs 12 195) rfl rfl (take_ofW HT_.out HW_.out (by kernel_rfl)) (fun _ _ _ h => h) (Or.inl ⟨by rfl, ?_⟩) hHeld ?_ ?_
  rotate_left
  · rintro w' ⟨s0, s1⟩
    go_simp
    with_reducible rfl
  rotate_left
  · simp only [Act.put, List.setIfInBounds_toArray, List.set_cons_zero, List.set_cons_succ, i64_w, i32_w]
    rfl
  refine one_ (i := 2) (N := some 19) (bs 12 199) rfl rfl (one_of HT_.out (by kernel_rfl)) (by decide) (fun K hK => ?_)
  refine goes_ Tryd.func35 (by kernel_rfl) rfl #[.int .i64 a0_0] (by rfl) rfl rfl (by (try simp only [List.map_toArray, List.map_cons, List.map_nil]); first | done | rfl | (simp only [List.length_drop, List.length_take]; rfl)) ?_
  with_reducible refine (text_protocol.calls a0_0 ap _ HAP.out).mono ?_
  rintro e_ w5 ⟨rfl, hb⟩
  refine ⟨_, rfl, ?_⟩
  have hp_ := HP.out.below hb
  clear HP
  have HP := Aside0.mk hp_
  clear hp_
  clear hb
  refine hK.out _ _ ⟨(blk_cell HP.out.sb 0).trans rfl, (blk_cell HP.out.sb 1).trans rfl⟩ (fun hHeld => ?_)
  clear hK K
  refine norm_ (a' := ?_) ?_ ?_
  rotate_left
  · show Act.put _ (some 19) _ = _
    simp only [Act.put, List.setIfInBounds_toArray, List.set_cons_zero, List.set_cons_succ, i64_w, i32_w]
    rfl
  refine pure_ (i := 3) (N := some 20) (v := ?_) (a' := ?_) (bs 12 207) rfl rfl (any_of HT_.out (by kernel_rfl)) (fun _ _ _ h => h) (Or.inl ⟨by rfl, ?_⟩) ?_ ?_
  rotate_left
  · intro w'
    go_simp
    with_reducible rfl
  rotate_left
  · simp only [Act.put, List.setIfInBounds_toArray, List.set_cons_zero, List.set_cons_succ, i64_w, i32_w]
    rfl
  refine pure_ (i := 4) (N := some 21) (v := ?_) (a' := ?_) (bs 12 223) rfl rfl (any_of HT_.out (by kernel_rfl)) (fun _ _ _ h => h) (Or.inl ⟨by rfl, ?_⟩) ?_ ?_
  rotate_left
  · intro w'
    go_simp
    with_reducible rfl
  rotate_left
  · simp only [Act.put, List.setIfInBounds_toArray, List.set_cons_zero, List.set_cons_succ, i64_w, i32_w]
    rfl
  refine pure_ (i := 5) (N := some 22) (v := ?_) (a' := ?_) (bs 12 255) rfl rfl (any_of HT_.out (by kernel_rfl)) (fun _ _ _ h => h) (Or.inl ⟨by rfl, ?_⟩) ?_ ?_
  rotate_left
  · intro w'
    go_simp
    with_reducible rfl
  rotate_left
  · simp only [Act.put, List.setIfInBounds_toArray, List.set_cons_zero, List.set_cons_succ, i64_w, i32_w]
    rfl
  refine one_ (i := 8) (N := some 25) (bs 12 511) rfl rfl (one_of HT_.out (by kernel_rfl)) (by decide) (fun K hK => ?_)
  refine goes_ Tryd.func36 (by kernel_rfl) rfl #[.slice A0_1 l0_1.length c0_1] (by rfl) rfl rfl (by (try simp only [List.map_toArray, List.map_cons, List.map_nil]); first | done | rfl | (simp only [List.length_drop, List.length_take]; rfl)) ?_
  with_reducible refine (text_nums.calls k A0_1 c0_1 l0_1 sc _ (Kd.C_below HR1.out HP.out.be) HC1.out (Glob.below HG.out HP.out.be) HSC.out).mono ?_
  rintro e_ w6 ⟨rfl, hb⟩
  refine ⟨_, rfl, ?_⟩
  have hp_ := HP.out.below hb
  clear HP
  have HP := Aside0.mk hp_
  clear hp_
  clear hb
  refine hK.out _ _ ⟨(blk_cell HP.out.sb 0).trans rfl, (blk_cell HP.out.sb 1).trans rfl⟩ (fun hHeld => ?_)
  clear hK K
  refine norm_ (a' := ?_) ?_ ?_
  rotate_left
  · show Act.put _ (some 25) _ = _
    simp only [Act.put, List.setIfInBounds_toArray, List.set_cons_zero, List.set_cons_succ, i64_w, i32_w]
    rfl
  refine pure_ (i := 9) (N := some 26) (v := ?_) (a' := ?_) (bs 12 1023) rfl rfl (any_of HT_.out (by kernel_rfl)) (fun _ _ _ h => h) (Or.inl ⟨by rfl, ?_⟩) ?_ ?_
  rotate_left
  · intro w'
    go_simp
    with_reducible rfl
  rotate_left
  · simp only [Act.put, List.setIfInBounds_toArray, List.set_cons_zero, List.set_cons_succ, i64_w, i32_w]
    rfl
  refine pure_ (i := 10) (N := some 27) (v := ?_) (a' := ?_) (bs 12 2047) rfl rfl (any_of HT_.out (by kernel_rfl)) (fun _ _ _ h => h) (Or.inl ⟨by rfl, ?_⟩) ?_ ?_
  rotate_left
  · intro w'
    go_simp
    with_reducible rfl
  rotate_left
  · simp only [Act.put, List.setIfInBounds_toArray, List.set_cons_zero, List.set_cons_succ, i64_w, i32_w]
    rfl
  refine one_ (i := 11) (N := some 28) (bs 12 4095) rfl rfl (one_of HT_.out (by kernel_rfl)) (by decide) (fun K hK => ?_)
  refine goes_ Tryd.func34 (by kernel_rfl) rfl #[.pointer (some ⟨gb, 0, none⟩), .string ((((((⟨#[112, 114, 111, 116, 111, 99, 111, 108, 32]⟩ : ByteArray) ++ ap) ++ (⟨#[10]⟩ : ByteArray)) ++ (⟨#[99, 111, 114, 101, 115]⟩ : ByteArray)) ++ sc) ++ (⟨#[10]⟩ : ByteArray))] (by rfl) rfl rfl (by (try simp only [List.map_toArray, List.map_cons, List.map_nil]); first | done | rfl | (simp only [List.length_drop, List.length_take]; rfl)) ?_
  with_reducible refine (bWrite_ w.heap.size gb (Lib.strCells ⟨#[]⟩) ((((((⟨#[112, 114, 111, 116, 111, 99, 111, 108, 32]⟩ : ByteArray) ++ ap) ++ (⟨#[10]⟩ : ByteArray)) ++ (⟨#[99, 111, 114, 101, 115]⟩ : ByteArray)) ++ sc) ++ (⟨#[10]⟩ : ByteArray)) _ HP.out.bl (by rw [Lib.strCells_length]; simp only [ByteArray.size_append]; have := HSZ.out; simp only [ByteArray.size, List.size_toArray, List.length_cons, List.length_nil] at this ⊢; omega) HP.out.be.size).mono ?_
  rintro e_ w7 ⟨v_, rfl, hA, hb, hk⟩
  refine ⟨_, rfl, ?_⟩
  have hp_ := HP.out.write hA hb hk
  clear HP
  have HP := Aside0.mk hp_
  clear hp_ hA hb hk
  refine hK.out _ _ ⟨(blk_cell HP.out.sb 0).trans rfl, (blk_cell HP.out.sb 1).trans rfl⟩ (fun hHeld => ?_)
  clear hK K
  refine norm_ (a' := ?_) ?_ ?_
  rotate_left
  · show Act.put _ (some 28) _ = _
    simp only [Act.put, List.setIfInBounds_toArray, List.set_cons_zero, List.set_cons_succ, i64_w, i32_w]
    rfl
  refine done_ (done_of HT_.out (by kernel_rfl)) ?_
  clear z1 z2 z3 z4 z5
  have hzc_2 : w7.cell? ⟨gs, 2, none⟩ = some (.slice A0_2 l0_2.length c0_2) := (blk_cell HP.out.sb 2).trans rfl
  go_upto_if 32 with (fail)
  (try simp only [Act.put, List.setIfInBounds_toArray, List.set_cons_zero, List.set_cons_succ])
  go_cut [] (fun wc => ∃ (acc : ByteArray), Aside0 (text_Print.lt k l0_3 acc = some r) ∧ Aside0 (PS w gs gb #[.int .i64 a0_0, .slice A0_1 l0_1.length c0_1, .slice A0_2 l0_2.length c0_2, .slice A0_3 l0_3.length c0_3] acc wc))
  case first =>
    have h := H.out
    clear H
    by_cases c2 : l0_2.length > 0
    · rw [if_pos c2] at h
      have c2b0 : decide (0 < l0_2.length) = true := decide_eq_true c2
      have c2b1 : decide (0 < (l0_2.length : Int)) = true := decide_eq_true (by omega)
      obtain ⟨sh, hsh, h⟩ := Option.bind_eq_some_iff.1 h
      have HSH := Aside0.mk hsh
      clear hsh
      by_cases cz : sh.size ≤ 1000000000
      rotate_left
      · rw [if_neg cz] at h; cases h
      rw [if_pos cz] at h
      have H := Aside0.mk h
      have HSZ2 := Aside0.mk cz
      clear h
      have z1 : (9223372036854775807 < 5 + sh.size) = False := eq_false (by omega)
      have z2 : (9223372036854775807 < 5 + sh.size + 1) = False := eq_false (by omega)
      clear cz
      go_wp2_with (first | (go_at_call 36; (with_reducible refine (text_nums.calls k A0_2 c0_2 l0_2 sh _ (Kd.C_below HR2.out HP.out.be) HC2.out (Glob.below HG.out HP.out.be) HSH.out).mono ?_); rintro e_ w8 ⟨rfl, hb⟩; have HP2 := Aside0.mk (HP.out.below hb); clear hb) | (go_at_call 34; refine (bWrite_ w.heap.size gb (Lib.strCells ((((((⟨#[112, 114, 111, 116, 111, 99, 111, 108, 32]⟩ : ByteArray) ++ ap) ++ (⟨#[10]⟩ : ByteArray)) ++ (⟨#[99, 111, 114, 101, 115]⟩ : ByteArray)) ++ sc) ++ (⟨#[10]⟩ : ByteArray))) (((⟨#[104, 111, 109, 101, 115]⟩ : ByteArray) ++ sh) ++ (⟨#[10]⟩ : ByteArray)) _ HP2.out.bl (by rw [Lib.strCells_length]; have h1 := HSZ.out; have h2 := HSZ2.out; simp only [ByteArray.size_append]; simp only [ByteArray.size, List.size_toArray, List.length_cons, List.length_nil] at h1 h2 ⊢; omega) HP2.out.be.size).mono ?_; rintro e_ w9 ⟨v_, rfl, hA, hb, hk⟩; have HP3 := Aside0.mk (HP2.out.write hA hb hk); clear hA hb hk))
      go_meet
      case rel => exact ⟨_, H, HP3⟩
    · rw [if_neg c2] at h
      have c2b0 : decide (0 < l0_2.length) = false := decide_eq_false c2
      have c2b1 : decide (0 < (l0_2.length : Int)) = false := decide_eq_false (by omega)
      have H := Aside0.mk h
      clear h
      go_wp2
      go_meet
      case rel => exact ⟨_, H, HP⟩
  clear HP H
  obtain ⟨acc0, H, HP⟩ := hcut
  have hzd_3 : wc.cell? ⟨gs, 3, none⟩ = some (.slice A0_3 l0_3.length c0_3) := (blk_cell HP.out.sb 3).trans rfl
  go_wp2
  go_loopg [42] l0_3.length (fun kq v42 w' => ∃ (i : Nat) (acc : ByteArray), v42 = .int .i64 i ∧ Aside0 (kq + i = l0_3.length) ∧ Aside0 (text_Print.lt k (l0_3.drop i) acc = some r) ∧ Aside0 (PS w gs gb #[.int .i64 a0_0, .slice A0_1 l0_1.length c0_1, .slice A0_2 l0_2.length c0_2, .slice A0_3 l0_3.length c0_3] acc w'))
  case atStart => exact ⟨0, acc0, rfl, ⟨by omega⟩, ⟨H.out⟩, HP⟩
  clear HP H
  obtain ⟨i, acc, rfl, HI, H, HP⟩ := hrel
  obtain ⟨gko, rfl⟩ : ∃ x, x = gk := ⟨gk, rfl⟩
  by_cases hlt : i < l0_3.length
  rotate_left
  · have hn : l0_3.length ≤ i := by omega
    have h := H.out
    rw [List.drop_eq_nil_of_le hn] at h
    obtain rfl : acc = r := Option.some.inj h
    clear h H
    go_wp2_with (first | (go_at_call 38; refine (Tryd.bString w.heap.size gb acc.data.toList _ HP.out.bl HP.out.be.size).mono ?_; rintro e_ w8 ⟨rfl, _, hb, _⟩; have HB9 := Aside0.mk (HP.out.be.trans hb); clear hb))
    go_ret
    exact ⟨congrArg (fun z => Ending.returned (Value.string z)) (strCells_data acc), HB9.out⟩
  have p0 : (0 : Int) ≤ (i : Int) := by omega
  have q0 : (i : Int) < (l0_3.length : Int) := by omega
  obtain ⟨ad, A5, c5, e3, hx0, hx1, hx2, hx3, hx4, hx5, hl5, hi5⟩ := at_T53 HR3.out (i : Int) p0 q0
  cases e3
  have eg : rd_T53 l0_3 (i : Int) = l0_3[i] := by unfold rd_T53; simp [hlt]
  simp only [Int.toNat_natCast, eg] at hx0 hx1 hx2 hx3 hx4 hx5 hl5 hi5
  have h := H.out
  rw [List.drop_eq_getElem_cons hlt] at h
  clear H eg
  generalize l0_3[i] = t at hx0 hx1 hx2 hx3 hx4 hx5 hl5 hi5 h
  have HI5 := Aside0.mk hi5
  have HL5 := Aside0.mk hl5
  clear hi5 hl5
  unfold text_Print.lt at h
  obtain ⟨sn, hsn, h⟩ := Option.bind_eq_some_iff.1 h
  have HSN := Aside0.mk hsn
  clear hsn
  by_cases cz : acc.size + t.f0.size + sn.size ≤ 1000000000
  rotate_left
  · rw [if_neg cz] at h; cases h
  rw [if_pos cz] at h
  have HSZ := Aside0.mk cz
  obtain ⟨b2, hb2, h⟩ := Option.bind_eq_some_iff.1 h
  have HB2P := Aside0.mk hb2
  clear hb2
  by_cases cy : b2.size ≤ 1000000000
  rotate_left
  · rw [if_neg cy] at h; cases h
  rw [if_pos cy] at h
  have HSY := Aside0.mk cy
  have H := Aside0.mk h
  clear h cy
  have z1 : (9223372036854775807 < 5 + t.f0.size) = False := eq_false (by omega)
  have z2 : (9223372036854775807 < 5 + t.f0.size + sn.size) = False := eq_false (by omega)
  clear cz
  replace hx0 := (HP.out.be.cell (World.block_lt_of_cell? w _ hx0)).trans hx0
  replace hx1 := (HP.out.be.cell (World.block_lt_of_cell? w _ hx1)).trans hx1
  replace hx2 := (HP.out.be.cell (World.block_lt_of_cell? w _ hx2)).trans hx2
  replace hx3 := (HP.out.be.cell (World.block_lt_of_cell? w _ hx3)).trans hx3
  replace hx4 := (HP.out.be.cell (World.block_lt_of_cell? w _ hx4)).trans hx4
  replace hx5 := (HP.out.be.cell (World.block_lt_of_cell? w _ hx5)).trans hx5
  go_wp2
  have bt := blk_new wr (.cells #[.string t.f0, .int .i64 t.f1, .int .i64 t.f2, .int .i64 t.f3, .int .i64 t.f4, .slice A5 t.f5.length c5] 53 (0, 0))
  have hp_ := HP.out.below (below_alloc (Below.refl _ _) (.cells #[.string t.f0, .int .i64 t.f1, .int .i64 t.f2, .int .i64 t.f3, .int .i64 t.f4, .slice A5 t.f5.length c5] 53 (0, 0)))
  clear HP hx0 hx1 hx2 hx3 hx4 hx5
  generalize wr.alloc (.cells #[.string t.f0, .int .i64 t.f1, .int .i64 t.f2, .int .i64 t.f3, .int .i64 t.f4, .slice A5 t.f5.length c5] 53 (0, 0)) = w3 at bt hp_ ⊢
  generalize wr.heap.size = gt at bt ⊢
  have BT := Aside0.mk (blk_drew bt)
  have HP := Aside0.mk (hp_.below (below_drew1 (Below.refl _ _)))
  clear bt hp_
  refine start_ (n := 15) (S := fun w' => w'.cell? ⟨gt, 0, none⟩ = some (.string t.f0) ∧ w'.cell? ⟨gt, 1, none⟩ = some (.int .i64 t.f1) ∧ w'.cell? ⟨gt, 2, none⟩ = some (.int .i64 t.f2) ∧ w'.cell? ⟨gt, 3, none⟩ = some (.int .i64 t.f3) ∧ w'.cell? ⟨gt, 4, none⟩ = some (.int .i64 t.f4)) (ds := []) (bs 15 0) (by kernel_rfl) rfl rfl ⟨(blk_cell BT.out 0).trans rfl, (blk_cell BT.out 1).trans rfl, (blk_cell BT.out 2).trans rfl, (blk_cell BT.out 3).trans rfl, (blk_cell BT.out 4).trans rfl⟩ (fun hHeld => ?_)
  refine with_tabW text_Print.tab11 text_Print.bits11 (fun HT_ HW_ => ?_)
  generalize w3.drew = w4 at HP BT hHeld ⊢
  refine pure_ (i := 0) (N := some 46) (v := ?_) (a' := ?_) (bs 15 1) rfl rfl (any_of HT_.out (by kernel_rfl)) (fun _ _ _ h => h) (Or.inl ⟨by rfl, ?_⟩) ?_ ?_
  rotate_left
  · intro w'
    go_simp
    with_reducible rfl
  rotate_left
  · simp only [Act.put, List.setIfInBounds_toArray, List.set_cons_zero, List.set_cons_succ, i64_w, i32_w]
    rfl
  refine pure_ (i := 3) (N := some 49) (v := ?_) (a' := ?_) (bs 15 9) rfl rfl (any_of HT_.out (by kernel_rfl)) (fun _ _ _ h => h) (Or.inl ⟨by rfl, ?_⟩) ?_ ?_
  rotate_left
  · intro w'
    go_simp
    with_reducible rfl
  rotate_left
  · simp only [Act.put, List.setIfInBounds_toArray, List.set_cons_zero, List.set_cons_succ, i64_w, i32_w]
    rfl
  refine pure_ (i := 5) (N := some 51) (v := ?_) (a' := ?_) (bs 15 41) rfl rfl (any_of HT_.out (by kernel_rfl)) (fun _ _ _ h => h) (Or.inl ⟨by rfl, ?_⟩) ?_ ?_
  rotate_left
  · intro w'
    go_simp
    with_reducible rfl
  rotate_left
  · simp only [Act.put, List.setIfInBounds_toArray, List.set_cons_zero, List.set_cons_succ, i64_w, i32_w]
    rfl
  refine pure_ (i := 7) (N := some 53) (v := ?_) (a' := ?_) (bs 15 169) rfl rfl (any_of HT_.out (by kernel_rfl)) (fun _ _ _ h => h) (Or.inl ⟨by rfl, ?_⟩) ?_ ?_
  rotate_left
  · intro w'
    go_simp
    with_reducible rfl
  rotate_left
  · simp only [Act.put, List.setIfInBounds_toArray, List.set_cons_zero, List.set_cons_succ, i64_w, i32_w]
    rfl
  refine pure_ (i := 9) (N := some 55) (v := ?_) (a' := ?_) (bs 15 681) rfl rfl (any_of HT_.out (by kernel_rfl)) (fun _ _ _ h => h) (Or.inl ⟨by rfl, ?_⟩) ?_ ?_
  rotate_left
  · intro w'
    go_simp
    with_reducible rfl
  rotate_left
  · simp only [Act.put, List.setIfInBounds_toArray, List.set_cons_zero, List.set_cons_succ, i64_w, i32_w]
    rfl
  refine take_ (i := 1) (N := some 47) (v := ?_) (a' := ?_) (bs 15 683) rfl rfl (take_ofW HT_.out HW_.out (by kernel_rfl)) (fun _ _ _ h => h) (Or.inl ⟨by rfl, ?_⟩) hHeld ?_ ?_
  rotate_left
  · rintro w' ⟨s0, s1, s2, s3, s4⟩
    go_simp
    with_reducible rfl
  rotate_left
  · simp only [Act.put, List.setIfInBounds_toArray, List.set_cons_zero, List.set_cons_succ, i64_w, i32_w]
    rfl
  refine pure_ (i := 2) (N := some 48) (v := ?_) (a' := ?_) (bs 15 687) rfl rfl (any_of HT_.out (by kernel_rfl)) (fun _ _ _ h => h) (Or.inl ⟨by rfl, ?_⟩) ?_ ?_
  rotate_left
  · intro w'
    go_simp
    with_reducible rfl
  rotate_left
  · simp only [Act.put, List.setIfInBounds_toArray, List.set_cons_zero, List.set_cons_succ, i64_w, i32_w]
    rfl
  refine take_ (i := 4) (N := some 50) (v := ?_) (a' := ?_) (bs 15 703) rfl rfl (take_ofW HT_.out HW_.out (by kernel_rfl)) (fun _ _ _ h => h) (Or.inl ⟨by rfl, ?_⟩) hHeld ?_ ?_
  rotate_left
  · rintro w' ⟨s0, s1, s2, s3, s4⟩
    go_simp
    with_reducible rfl
  rotate_left
  · simp only [Act.put, List.setIfInBounds_toArray, List.set_cons_zero, List.set_cons_succ, i64_w, i32_w]
    rfl
  refine take_ (i := 6) (N := some 52) (v := ?_) (a' := ?_) (bs 15 767) rfl rfl (take_ofW HT_.out HW_.out (by kernel_rfl)) (fun _ _ _ h => h) (Or.inl ⟨by rfl, ?_⟩) hHeld ?_ ?_
  rotate_left
  · rintro w' ⟨s0, s1, s2, s3, s4⟩
    go_simp
    with_reducible rfl
  rotate_left
  · simp only [Act.put, List.setIfInBounds_toArray, List.set_cons_zero, List.set_cons_succ, i64_w, i32_w]
    rfl
  refine take_ (i := 8) (N := some 54) (v := ?_) (a' := ?_) (bs 15 1023) rfl rfl (take_ofW HT_.out HW_.out (by kernel_rfl)) (fun _ _ _ h => h) (Or.inl ⟨by rfl, ?_⟩) hHeld ?_ ?_
  rotate_left
  · rintro w' ⟨s0, s1, s2, s3, s4⟩
    go_simp
    with_reducible rfl
  rotate_left
  · simp only [Act.put, List.setIfInBounds_toArray, List.set_cons_zero, List.set_cons_succ, i64_w, i32_w]
    rfl
  refine take_ (i := 10) (N := some 56) (v := ?_) (a' := ?_) (bs 15 2047) rfl rfl (take_ofW HT_.out HW_.out (by kernel_rfl)) (fun _ _ _ h => h) (Or.inl ⟨by rfl, ?_⟩) hHeld ?_ ?_
  rotate_left
  · rintro w' ⟨s0, s1, s2, s3, s4⟩
    go_simp
    with_reducible rfl
  rotate_left
  · simp only [Act.put, List.setIfInBounds_toArray, List.set_cons_zero, List.set_cons_succ, i64_w, i32_w]
    rfl
  refine one_ (i := 11) (N := some 57) (bs 15 4095) rfl rfl (one_of HT_.out (by kernel_rfl)) (by decide) (fun K hK => ?_)
  refine Kd.R_lit_step (Kd.int .i64) _ 3 ?hg (N := 57) ?hd (xs := ([t.f1, t.f2, t.f3, t.f4] : List Int)) (inner := [.int .i64 t.f1, .int .i64 t.f2, .int .i64 t.f3, .int .i64 t.f4]) (ok := fun _ => True) (okp := fun _ => True) ?hr ?hp (fun _ hk => hk) trivial (Below.refl _ _) (Nat.le_refl _) (by simp) ?_; (case hd => rfl); (case hg => rfl); (case hr => first | (go_simp; done) | (go_simp; rfl)); (case hp => exact (Reps.one (show Kd.M (Kd.int .i64) _ _ _ t.f1 [.int .i64 t.f1] from rfl) (Reps.one (show Kd.M (Kd.int .i64) _ _ _ t.f2 [.int .i64 t.f2] from rfl) (Reps.one (show Kd.M (Kd.int .i64) _ _ _ t.f3 [.int .i64 t.f3] from rfl) (Reps.one (show Kd.M (Kd.int .i64) _ _ _ t.f4 [.int .i64 t.f4] from rfl) ((Reps.none _ _)))))))
  intro v57 w8 ho hb hg_ hnew_
  clear hg_ hnew_
  have HO := Aside0.mk ho
  clear ho
  have hp_ := HP.out.below hb
  clear HP
  have HP := Aside0.mk hp_
  clear hp_
  have bt_ := blk_below BT.out hb
  clear BT
  have BT := Aside0.mk bt_
  clear bt_ hb
  obtain ⟨Ao, co, eo⟩ := Kd.R_slice HO.out
  have HO := Aside0.mk (eo ▸ HO.out)
  have EO := Aside0.mk eo
  clear eo
  refine hK.out _ _ ⟨(blk_cell BT.out 0).trans rfl, (blk_cell BT.out 1).trans rfl, (blk_cell BT.out 2).trans rfl, (blk_cell BT.out 3).trans rfl, (blk_cell BT.out 4).trans rfl⟩ (fun hHeld => ?_)
  clear hK K
  refine norm_ (a' := ?_) ?_ ?_
  rotate_left
  · show Act.put _ (some 57) _ = _
    simp only [Act.put, List.setIfInBounds_toArray, List.set_cons_zero, List.set_cons_succ, i64_w, i32_w]
    rfl
  refine one_ (i := 12) (N := some 58) (bs 15 8191) rfl rfl (one_of HT_.out (by kernel_rfl)) (by decide) (fun K hK => ?_)
  refine goes_ Tryd.func36 (by kernel_rfl) rfl #[v57] (by rfl) rfl rfl (by (try simp only [List.map_toArray, List.map_cons, List.map_nil]); first | done | rfl | (simp only [List.length_drop, List.length_take]; rfl)) ?_
  with_reducible refine (calls_of_args (show #[v57] = #[.slice Ao ([t.f1, t.f2, t.f3, t.f4] : List Int).length co] by rw [EO.out]) (text_nums.calls k Ao co [t.f1, t.f2, t.f3, t.f4] sn _ (Kd.R_reads' HO.out).2.2 (Kd.R_reads' HO.out).2.1 (Glob.below HG.out HP.out.be) HSN.out)).mono ?_
  rintro e_ w9 ⟨rfl, hb⟩
  refine ⟨_, rfl, ?_⟩
  have hp_ := HP.out.below hb
  clear HP
  have HP := Aside0.mk hp_
  clear hp_
  have bt_ := blk_below BT.out hb
  clear BT
  have BT := Aside0.mk bt_
  clear bt_ hb
  clear HO
  refine hK.out _ _ ⟨(blk_cell BT.out 0).trans rfl, (blk_cell BT.out 1).trans rfl, (blk_cell BT.out 2).trans rfl, (blk_cell BT.out 3).trans rfl, (blk_cell BT.out 4).trans rfl⟩ (fun hHeld => ?_)
  clear hK K
  refine norm_ (a' := ?_) ?_ ?_
  rotate_left
  · show Act.put _ (some 58) _ = _
    simp only [Act.put, List.setIfInBounds_toArray, List.set_cons_zero, List.set_cons_succ, i64_w, i32_w]
    rfl
  refine pure_ (i := 13) (N := some 59) (v := ?_) (a' := ?_) (bs 15 16383) rfl rfl (any_of HT_.out (by kernel_rfl)) (fun _ _ _ h => h) (Or.inl ⟨by rfl, ?_⟩) ?_ ?_
  rotate_left
  · intro w'
    go_simp
    with_reducible rfl
  rotate_left
  · simp only [Act.put, List.setIfInBounds_toArray, List.set_cons_zero, List.set_cons_succ, i64_w, i32_w]
    rfl
  refine one_ (i := 14) (N := some 60) (bs 15 32767) rfl rfl (one_of HT_.out (by kernel_rfl)) (by decide) (fun K hK => ?_)
  refine goes_ Tryd.func34 (by kernel_rfl) rfl #[.pointer (some ⟨gb, 0, none⟩), .string (((⟨#[116, 97, 115, 107, 32]⟩ : ByteArray) ++ t.f0) ++ sn)] (by rfl) rfl rfl (by (try simp only [List.map_toArray, List.map_cons, List.map_nil]); first | done | rfl | (simp only [List.length_drop, List.length_take]; rfl)) ?_
  with_reducible refine (bWrite_ w.heap.size gb (Lib.strCells acc) (((⟨#[116, 97, 115, 107, 32]⟩ : ByteArray) ++ t.f0) ++ sn) _ HP.out.bl (by rw [Lib.strCells_length]; simp only [ByteArray.size_append]; have := HSZ.out; simp only [ByteArray.size, List.size_toArray, List.length_cons, List.length_nil] at this ⊢; omega) HP.out.be.size).mono ?_
  rintro e_ w10 ⟨v_, rfl, hA, hb, hk⟩
  refine ⟨_, rfl, ?_⟩
  have bt_ := blk_wrote BT.out (by decide) (by decide) HP.out.bl hk
  clear BT
  have BT := Aside0.mk bt_
  clear bt_
  have hp_ := HP.out.write hA hb hk
  clear HP
  have HP := Aside0.mk hp_
  clear hp_ hA hb hk
  refine hK.out _ _ ⟨(blk_cell BT.out 0).trans rfl, (blk_cell BT.out 1).trans rfl, (blk_cell BT.out 2).trans rfl, (blk_cell BT.out 3).trans rfl, (blk_cell BT.out 4).trans rfl⟩ (fun hHeld => ?_)
  clear hK K
  refine norm_ (a' := ?_) ?_ ?_
  rotate_left
  · show Act.put _ (some 60) _ = _
    simp only [Act.put, List.setIfInBounds_toArray, List.set_cons_zero, List.set_cons_succ, i64_w, i32_w]
    rfl
  refine done_ (done_of HT_.out (by kernel_rfl)) ?_
  clear z1 z2
  have ht_5 : w10.cell? ⟨gt, 5, none⟩ = some (.slice A5 t.f5.length c5) := (blk_cell BT.out 5).trans rfl
  go_wp2
  go_loopg [64] t.f5.length (fun kq v64 w' => ∃ (j : Nat) (acc : ByteArray), v64 = .int .i64 j ∧ Aside0 (kq + j = t.f5.length) ∧ Aside0 (text_Print.lp (t.f5.drop j) acc = some b2) ∧ Aside0 (PS w gs gb #[.int .i64 a0_0, .slice A0_1 l0_1.length c0_1, .slice A0_2 l0_2.length c0_2, .slice (some ad) l0_3.length c0_3] acc w'))
  case atStart => exact ⟨0, _, rfl, ⟨by omega⟩, HB2P, HP⟩
  clear HP HB2P BT ht_5
  obtain ⟨j, acc2, rfl, HJ, HB2P, HP⟩ := hrel
  by_cases hlj : j < t.f5.length
  rotate_left
  · have hn : t.f5.length ≤ j := by omega
    have h := HB2P.out
    rw [List.drop_eq_nil_of_le hn] at h
    obtain rfl : acc2 = b2 := Option.some.inj h
    clear h HB2P
    go_wp2_with (first | (go_at_call 34; refine (bWrite_ w.heap.size gb (Lib.strCells acc2) (⟨#[10]⟩ : ByteArray) _ HP.out.bl (by rw [Lib.strCells_length]; have := HSY.out; simp only [ByteArray.size, List.size_toArray, List.length_cons, List.length_nil] at this ⊢; omega) HP.out.be.size).mono ?_; rintro e_ w9 ⟨v_, rfl, hA, hb, hk⟩; have HP3 := Aside0.mk (HP.out.write hA hb hk); clear hA hb hk))
    go_roundg (gko - 1)
    case measure => have := HI.out; omega
    case rel => exact ⟨i + 1, _, congrArg (Value.int .i64) (show wrap64 ((i : Int) + 1) = ((i + 1 : Nat) : Int) by have := HL6.out; unfold wrap64; omega), ⟨by have := HI.out; omega⟩, H, HP3⟩
  have pj : (0 : Int) ≤ (j : Int) := by omega
  have qj : (j : Int) < (t.f5.length : Int) := by omega
  obtain ⟨ad5, e5, hy0, hy1, hy2⟩ := at_T50 HI5.out (j : Int) pj qj
  cases e5
  have eg : rd_T50 t.f5 (j : Int) = t.f5[j] := by unfold rd_T50; simp [hlj]
  simp only [Int.toNat_natCast, eg] at hy0 hy1 hy2
  have h := HB2P.out
  rw [List.drop_eq_getElem_cons hlj] at h
  clear HB2P eg
  generalize t.f5[j] = q at hy0 hy1 hy2 h
  unfold text_Print.lp at h
  obtain ⟨sp, hsp, h⟩ := Option.bind_eq_some_iff.1 h
  have HSP := Aside0.mk hsp
  clear hsp
  by_cases cz : acc2.size + sp.size ≤ 1000000000
  rotate_left
  · rw [if_neg cz] at h; cases h
  rw [if_pos cz] at h
  have HSX := Aside0.mk cz
  have HB2P := Aside0.mk h
  clear h
  have z1 : (9223372036854775807 < 1 + sp.size) = False := eq_false (by omega)
  clear cz
  replace hy0 := (HP.out.be.cell (World.block_lt_of_cell? w _ hy0)).trans hy0
  replace hy1 := (HP.out.be.cell (World.block_lt_of_cell? w _ hy1)).trans hy1
  replace hy2 := (HP.out.be.cell (World.block_lt_of_cell? w _ hy2)).trans hy2
  go_wp2_with (first | (go_at_call 37; refine (text_part.calls q.f0 q.f1 q.f2 sp _ (Glob.below HG.out (below_alloc HP.out.be _)) HSP.out).mono ?_; rintro e_ w8 ⟨rfl, hb⟩; have HP2 := Aside0.mk ((HP.out.below (below_alloc (Below.refl _ _) _)).below hb); clear hb) | (go_at_call 34; refine (bWrite_ w.heap.size gb (Lib.strCells acc2) ((⟨#[32]⟩ : ByteArray) ++ sp) _ HP2.out.bl (by rw [Lib.strCells_length]; simp only [ByteArray.size_append]; have := HSX.out; simp only [ByteArray.size, List.size_toArray, List.length_cons, List.length_nil] at this ⊢; omega) HP2.out.be.size).mono ?_; rintro e_ w9 ⟨v_, rfl, hA, hb, hk⟩; have HP3 := Aside0.mk (HP2.out.write hA hb hk); clear hA hb hk))
  go_roundg (gk - 1)
  case measure => have := HJ.out; omega
  case rel => exact ⟨j + 1, _, congrArg (Value.int .i64) (show wrap64 ((j : Int) + 1) = ((j + 1 : Nat) : Int) by have := HI5.out.2.1; unfold wrap64; omega), ⟨by have := HJ.out; omega⟩, HB2P, HP3⟩
end Go.Proofs.YtgkjoodlcojkkaaDoor.QD
end
section
namespace Go.Proofs.YtgkjoodlcojkkaaDoor.Y
open Go.RowKit Go.Proofs.YtgkjoodlcojkkaaDoorW.PrintWords Go.Proofs.YtgkjoodlcojkkaaDoorW.PrintLast Go.Proofs.YtgkjoodlcojkkaaDoorW.PrintMore Go.Proofs.YtgkjoodlcojkkaaDoor.QD
set_option linter.unusedVariables false
set_option linter.unusedSimpArgs false
theorem splitL_piece (c : UInt8) : ∀ (l : Bs), ∀ p ∈ splitL c l, p.length ≤ l.length
  | [], p, h => by simp [splitL] at h; simp [h]
  | x :: xs, p, h => by
    have ih := splitL_piece c xs
    unfold splitL at h
    split at h
    · rcases List.mem_cons.1 h with rfl | h
      · simp
      · have := ih p h; simp; omega
    · split at h
      · simp at h; subst h; simp
      · rename_i q qs hq
        rcases List.mem_cons.1 h with rfl | h
        · have := ih q (by rw [hq]; simp); simp; omega
        · have := ih p (by rw [hq]; simp [h]); simp; omega
def T4 (x : S50 × Int) : Int × Int × Int × Int := (x.1.f0, x.1.f1, x.1.f2, x.2)
def readsQ (q : List Bs) (b : Bool) : S50 × Int := if b = true then (z50, 18) else match numbersS (q.drop 1) with
    | none => (z50, 10)
    | some n => partOf (q.getD 0 []) n
theorem readsS_q (w : Bs) : readsS w = readsQ (splitL 58 w) (nestB w) := rfl
theorem rd0_ (n : List Int) : rd n 0 = n.getD 0 0 := rfl
theorem rd1_ (n : List Int) : rd n 1 = n.getD 1 0 := rfl
theorem reads_j2 (q : List Bs) (hq : q ≠ []) (n : List Int) (b : Bool) (hb : b = true → n.length = 1) (k : Nat) :
    text_reads.j2 (k + 1) (q.map B) n b = some (if b = true then (2, n.getD 0 0, 0, 0) else if q.getD 0 [] = lockW ∧ n.length = 2 then (3, n.getD 1 0, n.getD 0 0, 0) else (0, 0, 0, 10)) := by
  have hl : 0 < q.length := List.length_pos_iff.2 hq
  rw [text_reads.j2]
  by_cases h : b = true
  · have := hb h
    rw [if_pos h, if_pos h, if_pos (by omega), rd0_]
  · rw [if_neg h, if_neg h, List.length_map, if_pos (by omega), rdw0]
    by_cases h1 : q.getD 0 [] = ([108, 111, 99, 107] : List UInt8)
    · rw [if_pos h1]
      by_cases h2 : n.length = 2
      · rw [if_pos (by omega), if_pos (by omega), if_pos (by omega), if_pos ⟨h1, h2⟩, rd0_, rd1_]
      · rw [if_neg (by omega), if_neg (fun h => h2 h.2)]
    · rw [if_neg h1, if_neg (fun h => h1 h.1)]
theorem reads_j1 (q : List Bs) (hq : q ≠ []) (n : List Int) (b : Bool) (hb : b = true → n.length = 1) (k : Nat) :
    text_reads.j1 (k + 2) (q.map B) n b = some (if b = true then (1, n.getD 0 0, 0, 0) else if q.getD 0 [] = sleepB ∧ n.length = 1 then (2, n.getD 0 0, 0, 0) else if q.getD 0 [] = lockW ∧ n.length = 2 then (3, n.getD 1 0, n.getD 0 0, 0) else (0, 0, 0, 10)) := by
  have hl : 0 < q.length := List.length_pos_iff.2 hq
  rw [text_reads.j1]
  by_cases h : b = true
  · have := hb h
    rw [if_pos h, if_pos h, if_pos (by omega), rd0_]
  · rw [if_neg h, if_neg h, List.length_map, if_pos (by omega), rdw0]
    by_cases h1 : q.getD 0 [] = ([115, 108, 101, 101, 112] : List UInt8)
    · rw [if_pos h1, reads_j2 q hq n _ (fun e => by have := beq_iff_eq.1 e; omega)]
      by_cases h2 : n.length = 1
      · rw [if_pos (beq_iff_eq.2 (by omega)), if_pos ⟨h1, h2⟩]
      · have n1 : ¬ (q.getD 0 [] = sleepB ∧ n.length = 1) := fun e => h2 e.2
        rw [if_neg (fun e => h2 (by have := beq_iff_eq.1 e; omega)), if_neg n1]
    · have n1 : ¬ (q.getD 0 [] = sleepB ∧ n.length = 1) := fun e => h1 e.1
      rw [if_neg h1, reads_j2 q hq n _ (fun e => by cases e), if_neg Bool.false_ne_true, if_neg n1]
theorem numbers_some {ps : List Bs} {n : List Int} (hn : numbersS ps = some n) (hs : ∀ p ∈ ps, p.length ≤ 281474976710656) (hl : ps.length < 17592186044416) (k : Nat) (hk : ps.length < k) : text_numbers.f k (ps.map B) = some (n, true) := by rw [numbers_eq ps hs hl k hk, hn]; rfl
theorem numbers_none {ps : List Bs} (hn : numbersS ps = none) (hs : ∀ p ∈ ps, p.length ≤ 281474976710656) (hl : ps.length < 17592186044416) (k : Nat) (hk : ps.length < k) : text_numbers.f k (ps.map B) = some ([], false) := by rw [numbers_eq ps hs hl k hk, hn]; rfl
theorem reads_j0 (q : List Bs) (hq : q ≠ []) (b : Bool) (hs : ∀ p ∈ q, p.length ≤ 281474976710656) (hl : q.length < 17592186044416) (k : Nat) (hk : q.length < k) :
    text_reads.j0 (k + 3) (q.map B) b = some (T4 (readsQ q b)) := by
  have hlp : 0 < q.length := List.length_pos_iff.2 hq
  rw [text_reads.j0]
  unfold readsQ
  by_cases h : b = true
  · rw [if_pos h, if_pos h]; rfl
  · rw [if_neg h, if_neg h, List.length_map, if_pos (by omega), ← List.map_drop]
    cases hn : numbersS (q.drop 1) with
    | none => rw [numbers_none hn (fun p hp => hs p (List.drop_subset _ _ hp)) (by rw [List.length_drop]; omega) (k + 2) (by rw [List.length_drop]; omega)]; rfl
    | some n =>
      rw [numbers_some hn (fun p hp => hs p (List.drop_subset _ _ hp)) (by rw [List.length_drop]; omega) (k + 2) (by rw [List.length_drop]; omega), Option.bind_some, if_pos (show ((n, true) : List Int × Bool).2 = true from rfl), if_pos (by omega), rdw0]
      show (if q.getD 0 [] = ([114, 117, 110] : List UInt8) then text_reads.j1 (k + 2) (q.map B) n ((n.length : Int) == 1) else text_reads.j1 (k + 2) (q.map B) n false) = some (T4 (partOf (q.getD 0 []) n))
      unfold partOf
      by_cases h1 : q.getD 0 [] = ([114, 117, 110] : List UInt8)
      · rw [if_pos h1, reads_j1 q hq n _ (fun e => by have := beq_iff_eq.1 e; omega)]
        by_cases h2 : n.length = 1
        · rw [if_pos (beq_iff_eq.2 (by omega)), if_pos ⟨h1, h2⟩]; rfl
        · have n1 : ¬ (q.getD 0 [] = sleepB ∧ n.length = 1) := fun e => h2 e.2
          have n2 : ¬ (q.getD 0 [] = runB ∧ n.length = 1) := fun e => h2 e.2
          have n3 : ¬ (q.getD 0 [] = lockW ∧ n.length = 2) := fun e => absurd (h1.symm.trans e.1) (by decide)
          rw [if_neg (fun e => h2 (by have := beq_iff_eq.1 e; omega)), if_neg n1, if_neg n3, if_neg n2, if_neg n1, if_neg n3]; rfl
      · have n2 : ¬ (q.getD 0 [] = runB ∧ n.length = 1) := fun e => h1 e.1
        rw [if_neg h1, reads_j1 q hq n _ (fun e => by cases e), if_neg Bool.false_ne_true, if_neg n2]
        by_cases n1 : q.getD 0 [] = sleepB ∧ n.length = 1
        · rw [if_pos n1, if_pos n1]; rfl
        · rw [if_neg n1, if_neg n1]
          by_cases n3 : q.getD 0 [] = lockW ∧ n.length = 2
          · rw [if_pos n3, if_pos n3]; rfl
          · rw [if_neg n3, if_neg n3]; rfl
theorem prefix_len {w : Bs} (h : Lib.hasPrefix w lockB = true) : 5 ≤ w.length := by
  unfold Lib.hasPrefix at h
  have := (List.isPrefixOf_iff_prefix.1 h).length_le
  simpa [lockB] using this
theorem reads_eq (w : Bs) (hw : w.length ≤ 1000000) (k : Nat) (hk : w.length + 10 < k) : text_reads.f k (B w) = some (T4 (readsS w)) := by
  obtain ⟨k, rfl⟩ : ∃ j, k = j + 3 := ⟨k - 3, by omega⟩
  have hq := splitL_ne 58 w
  have hle := splitL_len 58 w
  have hj := fun b => reads_j0 (splitL 58 w) hq b (fun p hp => by have := splitL_piece 58 w p hp; omega) (by omega) k (by omega)
  unfold text_reads.f strings_HasPrefix.f
  rw [show (⟨#[58]⟩ : ByteArray) = B [58] from rfl, Split_eq 58 w (by omega), Option.bind_some, Option.bind_some, show (⟨#[108, 111, 99, 107, 58]⟩ : ByteArray) = B lockB from rfl, data_B, data_B, readsS_q]
  by_cases h : Lib.hasPrefix w lockB = true
  · have h5 := prefix_len h
    rw [if_pos h, size_B, if_pos (by omega), extract_B]
    unfold strings_Contains.f
    rw [if_pos (by rw [size_B, List.length_drop, List.length_take]; omega), Option.bind_some, data_B, data_B, List.take_length, hj]
    unfold nestB
    rw [h, Bool.true_and]
  · rw [if_neg h, hj]
    unfold nestB
    rw [Bool.eq_false_iff.2 h, Bool.false_and]
theorem reads18 (w : Bs) : (readsS w).2 = 18 ↔ nestB w = true := by
  rw [readsS_q]
  unfold readsQ
  constructor
  · intro h
    by_cases c : nestB w = true
    · exact c
    · rw [if_neg c] at h
      cases hn : numbersS ((splitL 58 w).drop 1) with
      | none => rw [hn] at h; exact absurd (show (10 : Int) = 18 from h) (by decide)
      | some n =>
        rw [hn] at h
        simp only [partOf] at h
        split at h
        · exact absurd (show (0 : Int) = 18 from h) (by decide)
        · split at h
          · exact absurd (show (0 : Int) = 18 from h) (by decide)
          · split at h
            · exact absurd (show (0 : Int) = 18 from h) (by decide)
            · exact absurd (show (10 : Int) = 18 from h) (by decide)
  · intro h; rw [if_pos h]
theorem nested_loop (ps : List Bs) (m : Nat) (hs : ∀ p ∈ ps, p.length ≤ m) (hm : m ≤ 1000000) (hl : ps.length < 1000000000) : ∀ (n i k : Nat), i + n = ps.length → n + m + 10 < k →
    text_nested.l0 k (ps.map B) (ps.length : Int) (i : Int) = some ((ps.drop i).any nestB)
  | n, i, 0, hn, hk => by omega
  | 0, i, k + 1, hn, hk => by
    unfold text_nested.l0
    rw [if_neg (by omega), List.drop_eq_nil_of_le (by omega)]
    rfl
  | n + 1, i, k + 1, hn, hk => by
    unfold text_nested.l0
    have hi : i < ps.length := by omega
    have e0 : ps.getD i [] = ps[i] := by simp [hi]
    have hp := hs _ (List.getElem_mem hi)
    rw [if_pos (by omega), if_pos (by omega), List.length_map, if_pos (by omega), rdOf_B, e0, reads_eq _ (by omega) k (by omega), Option.bind_some, w64s i (by omega), nested_loop ps m hs hm hl n (i + 1) k (by omega) (by omega), List.drop_eq_getElem_cons hi, List.any_cons]
    by_cases h : nestB ps[i] = true
    · rw [if_pos (show (T4 (readsS ps[i])).2.2.2 = 18 from (reads18 _).2 h), h]; rfl
    · rw [if_neg (show ¬ (T4 (readsS ps[i])).2.2.2 = 18 from fun e => h ((reads18 _).1 e)), Bool.eq_false_iff.2 h]; rfl
theorem nested_eq (ps : List Bs) (m : Nat) (hs : ∀ p ∈ ps, p.length ≤ m) (hm : m ≤ 1000000) (hl : ps.length < 1000000000) (k : Nat) (hk : ps.length + m + 10 < k) : text_nested.f k (ps.map B) = some (ps.any nestB) := by
  unfold text_nested.f
  rw [List.length_map]
  have := nested_loop ps m hs hm hl ps.length 0 k (by omega) hk
  simpa using this
def T7 (x : S53 × Int) : ByteArray × Int × Int × Int × Int × (List (S50)) × Int := (x.1.f0, x.1.f1, x.1.f2, x.1.f3, x.1.f4, x.1.f5, x.2)
theorem parts_loop (bad : Int) (nm : ByteArray) (a b c d : Int) (ps : List Bs) (m : Nat) (hs : ∀ p ∈ ps, p.length ≤ m) (hm : m ≤ 1000000) (hl : ps.length < 1000000000) : ∀ (n : Nat) (out : List S50) (i k : Nat), i + n = ps.length → n + m + 10 < k → out.length ≤ i →
    text_tasked.l0 k bad (ps.map B) (ps.length : Int) (i : Int) nm a b c d out = some (match partsS (ps.drop i) with | some l => (nm, a, b, c, d, out ++ l, 0) | none => (⟨#[]⟩, 0, 0, 0, 0, [], bad))
  | n, out, i, 0, hn, hk, ho => by omega
  | 0, out, i, k + 1, hn, hk, ho => by
    rw [text_tasked.l0, if_neg (by omega), List.drop_eq_nil_of_le (by omega)]
    simp [partsS]
  | n + 1, out, i, k + 1, hn, hk, ho => by
    have hi : i < ps.length := by omega
    have e0 : ps.getD i [] = ps[i] := by simp [hi]
    have hp := hs _ (List.getElem_mem hi)
    rw [text_tasked.l0, if_pos (by omega), if_pos (by omega), List.length_map, if_pos (by omega), rdOf_B, e0, reads_eq _ (by omega) k (by omega), Option.bind_some, w64s i (by omega), List.drop_eq_getElem_cons hi]
    unfold partsS
    by_cases h : (readsS ps[i]).2 = 0
    · rw [if_pos (show (T4 (readsS ps[i])).2.2.2 = 0 from h), if_pos h, if_pos (by omega), parts_loop bad nm a b c d ps m hs hm hl n _ (i + 1) k (by omega) (by omega) (by simp; omega)]
      cases partsS (ps.drop (i + 1)) with
      | none => rfl
      | some l => simp [T4]
    · rw [if_neg (show ¬ (T4 (readsS ps[i])).2.2.2 = 0 from h), if_neg h]
theorem numbersS_len : ∀ (l : List Bs) (n : List Int), numbersS l = some n → n.length = l.length
  | [], n, h => by simp [numbersS] at h; subst h; rfl
  | w :: ws, n, h => by
    rw [numbersS_cons] at h
    by_cases c : (numS w).2 = true
    · rw [if_pos c] at h
      cases hn : numbersS ws with
      | none => rw [hn] at h; simp at h
      | some l =>
        rw [hn] at h
        simp at h
        subst h
        simp [numbersS_len ws l hn]
    · rw [if_neg c] at h; cases h
theorem tasked_eq (ws : List Bs) (hne : ws ≠ []) (m : Nat) (hs : ∀ p ∈ ws, p.length ≤ m) (hm : m ≤ 1000000) (hl : ws.length < 1000000000) (k : Nat) (hk : ws.length + m + 20 < k) : text_tasked.f k (ws.map B) = some (T7 (taskedS ws)) := by
  have hlp : 0 < ws.length := List.length_pos_iff.2 hne
  have key : ∀ bad : Int, text_tasked.j0 k (ws.map B) bad = some (T7 (if ws.length < 6 then (z53, bad) else match numbersS ((ws.take 6).drop 2) with
      | none => (z53, bad)
      | some n => match partsS (ws.drop 6) with
        | none => (z53, bad)
        | some ps => (⟨B (ws.getD 1 []), n.getD 0 0, n.getD 1 0, n.getD 2 0, n.getD 3 0, ps⟩, 0))) := by
    intro bad
    obtain ⟨k, rfl⟩ : ∃ j, k = j + 1 := ⟨k - 1, by omega⟩
    rw [text_tasked.j0, List.length_map]
    by_cases h6 : ws.length < 6
    · rw [if_pos (by omega), if_pos h6]; rfl
    · have e1 : ((ws.map B).take 6).drop 2 = (((ws.take 6).drop 2)).map B := by rw [List.map_drop, List.map_take]
      rw [if_neg (by omega), if_neg h6, if_pos (by decide), if_pos (by omega), e1]
      cases hn : numbersS ((ws.take 6).drop 2) with
      | none => rw [numbers_none hn (fun p hp => by have := hs p (List.take_subset _ _ (List.drop_subset _ _ hp)); omega) (by rw [List.length_drop, List.length_take]; omega) k (by rw [List.length_drop, List.length_take]; omega)]; rfl
      | some n =>
        have hnl : n.length = 4 := by rw [numbersS_len _ n hn, List.length_drop, List.length_take]; omega
        have e2 : (rdOf ByteArray.empty (ws.map B) 1) = B (ws.getD 1 []) := rdOf_B ws 1
        rw [numbers_some hn (fun p hp => by have := hs p (List.take_subset _ _ (List.drop_subset _ _ hp)); omega) (by rw [List.length_drop, List.length_take]; omega) k (by rw [List.length_drop, List.length_take]; omega), Option.bind_some, if_pos (show ((n, true) : List Int × Bool).2 = true from rfl), if_pos (by omega),
          if_pos (show (0 : Int) < (n.length : Int) by omega), if_pos (show (1 : Int) < (n.length : Int) by omega), if_pos (show (2 : Int) < (n.length : Int) by omega), if_pos (show (3 : Int) < (n.length : Int) by omega), e2, ← List.map_drop, List.length_map]
        have := parts_loop bad (B (ws.getD 1 [])) (rd n 0) (rd n 1) (rd n 2) (rd n 3) (ws.drop 6) m (fun p hp => hs p (List.drop_subset _ _ hp)) hm (by rw [List.length_drop]; omega) (ws.drop 6).length [] 0 k (by omega) (by rw [List.length_drop]; omega) (Nat.zero_le _)
        rw [List.drop_zero] at this
        refine Eq.trans this ?_
        cases partsS (ws.drop 6) with
        | none => rfl
        | some l => rfl
  unfold text_tasked.f
  rw [List.length_map, if_pos (by omega), ← List.map_drop, nested_eq _ m (fun p hp => hs p (List.drop_subset _ _ hp)) hm (by rw [List.length_drop]; omega) k (by rw [List.length_drop]; omega), Option.bind_some]
  unfold taskedS badS
  by_cases h : (ws.drop 1).any nestB = true
  · rw [if_pos h, key, if_pos h]; rfl
  · rw [if_neg h, key, if_neg h]; rfl
theorem partsS_len : ∀ (l : List Bs) (n : List S50), partsS l = some n → n.length = l.length
  | [], n, h => by simp [partsS] at h; subst h; rfl
  | w :: ws, n, h => by
    unfold partsS at h
    by_cases c : (readsS w).2 = 0
    · rw [if_pos c] at h
      cases hn : partsS ws with
      | none => rw [hn] at h; simp at h
      | some l =>
        rw [hn] at h
        simp at h
        subst h
        simp [partsS_len ws l hn]
    · rw [if_neg c] at h; cases h
theorem getD_len (ws : List Bs) (m i : Nat) (hs : ∀ p ∈ ws, p.length ≤ m) : (ws.getD i []).length ≤ m := by
  by_cases h : i < ws.length
  · rw [show ws.getD i [] = ws[i] by simp [h]]; exact hs _ (List.getElem_mem h)
  · simp [h]
theorem taskedS_small (ws : List Bs) (m : Nat) (hs : ∀ p ∈ ws, p.length ≤ m) (hl : ws.length ≤ m) : (taskedS ws).1.f0.size ≤ m ∧ (taskedS ws).1.f5.length ≤ m := by
  have hz : z53.f0.size ≤ m ∧ z53.f5.length ≤ m := ⟨by show (0 : Nat) ≤ m; omega, by show (0 : Nat) ≤ m; omega⟩
  unfold taskedS
  split
  · exact hz
  · split
    · exact hz
    · split
      · exact hz
      · rename_i ps hps
        have := partsS_len _ ps hps
        rw [List.length_drop] at this
        refine ⟨?_, ?_⟩
        · show (B (ws.getD 1 [])).size ≤ m
          rw [size_B]; exact getD_len ws m 1 hs
        · show ps.length ≤ m; omega
theorem tasksS_facts (m : Nat) : ∀ (rs : List (Nat × List Bs)), (∀ r ∈ rs, r.2.length ≤ m ∧ ∀ p ∈ r.2, p.length ≤ m) → (∀ t ∈ (tasksS rs).1, t.f0.size ≤ m ∧ t.f5.length ≤ m) ∧ ((tasksS rs).2.2 = 0 → (tasksS rs).1.length = rs.length)
  | [], _ => ⟨fun t ht => by simp [tasksS] at ht, fun _ => rfl⟩
  | r :: rs, h => by
    have ih := tasksS_facts m rs (fun x hx => h x (by simp [hx]))
    have hr := h r (by simp)
    unfold tasksS
    split
    · split
      · refine ⟨fun t ht => ?_, fun e => ?_⟩
        · rcases List.mem_cons.1 ht with rfl | ht
          · exact taskedS_small r.2 m hr.2 hr.1
          · exact ih.1 t ht
        · simp [ih.2 e]
      · rename_i hne
        exact ⟨fun t ht => by simp at ht, fun e => absurd e hne⟩
    · exact ⟨fun t ht => by simp at ht, fun e => absurd (show (10 : Int) = 0 from e) (by decide)⟩
theorem checkGo_lt (cs hs : List Int) (ts : List S53) : ∀ (l : List S53) (i : Nat), 0 ≤ (checkGo cs hs ts i l).1 → (checkGo cs hs ts i l).1 < ((i + l.length : Nat) : Int)
  | [], i, h => by simp [checkGo] at h
  | t :: r, i, h => by
    unfold checkGo at h ⊢
    by_cases c : oneS cs hs ts t i = 0
    · rw [if_pos c] at h ⊢
      have := checkGo_lt cs hs ts r (i + 1) h
      simp only [List.length_cons]; omega
    · rw [if_neg c]
      simp only [List.length_cons]; omega
theorem checkS_lt (p : Int) (cs hs : List Int) (ts : List S53) (h : 0 ≤ (checkS p cs hs ts).1) : (checkS p cs hs ts).1 < (ts.length : Int) := by
  unfold checkS at h ⊢
  split at h
  · rename_i h1
    rw [if_pos h1]
    split at h
    · rename_i h2
      rw [if_pos h2]
      split at h
      · exact absurd h (by decide)
      · rename_i h3
        rw [if_neg h3]
        split at h
        · exact absurd h (by decide)
        · rename_i h4
          rw [if_neg h4]
          have := checkGo_lt cs hs ts ts 0 h
          omega
    · exact absurd h (by decide)
  · exact absurd h (by decide)
theorem headS_first (rs : List (Nat × List Bs)) (h : (headS rs).2.2.2.2 = true) : 2 ≤ (headS rs).2.2.2.1 ∧ (headS rs).2.2.2.1 ≤ rs.length := by
  revert h
  match rs with
  | [] => intro h; exact absurd (show false = true from h) (by decide)
  | [r0] =>
    intro h
    simp only [headS, headT] at h
    split at h
    · split at h
      · split at h <;> exact absurd (show false = true from h) (by decide)
      · exact absurd (show false = true from h) (by decide)
    · exact absurd (show false = true from h) (by decide)
  | r0 :: r1 :: rest =>
    simp only [headS, headT]
    split
    · split
      · split
        · intro h; exact absurd (show false = true from h) (by decide)
        · split
          · split
            · intro h; exact absurd (show false = true from h) (by decide)
            · intro h; exact absurd (show false = true from h) (by decide)
            · split
              · intro h; simp
              · split
                · split
                  · intro h; exact absurd (show false = true from h) (by decide)
                  · intro h; exact absurd (show false = true from h) (by decide)
                  · intro h; simp
                · intro h; simp
          · intro h; exact absurd (show false = true from h) (by decide)
      · intro h; exact absurd (show false = true from h) (by decide)
    · intro h; exact absurd (show false = true from h) (by decide)
theorem fin_eq (rs : List (Nat × List Bs)) (all : Nat) (p : Int) (cs hs : List Int) (first : Nat) (ts : List S53) (m : Nat) (hb : ∀ t ∈ ts, t.f0.size ≤ m ∧ t.f5.length ≤ m) (h2 : 2 ≤ rs.length) (hf : first + ts.length ≤ rs.length) (k : Nat) (hk : 3 * m + 20 < k) (hk2 : k < 9223372036854775807) :
    text_Parse.fin k (rs.map R81) (all : Int) p cs hs (first : Int) ts = some (finS rs all p cs hs first ts) := by
  unfold text_Parse.fin finS
  rw [check_eq p cs hs ts (3 * m + 1) (fun t ht => by have := hb t ht; omega) k (by omega) hk2, Option.bind_some]
  by_cases c0 : (checkS p cs hs ts).2 = 0
  · rw [if_pos c0, if_pos c0]
  · rw [if_neg c0, if_neg c0]
    by_cases c1 : 0 ≤ (checkS p cs hs ts).1
    · have hlt := checkS_lt p cs hs ts c1
      obtain ⟨j, hj⟩ := Int.eq_ofNat_of_zero_le c1
      rw [if_pos c1, if_pos c1, List.length_map, if_pos (by omega), hj, Int.toNat_natCast, show ((first : Int) + (j : Int)) = ((first + j : Nat) : Int) by omega, rd_R81]
      rfl
    · rw [if_neg c1, if_neg c1]
      by_cases c2 : (checkS p cs hs ts).2 = 14
      · rw [if_pos c2, if_pos (Or.inl c2)]; rfl
      · rw [if_neg c2]
        by_cases c3 : (checkS p cs hs ts).2 = 11
        · rw [if_pos c3, if_pos (Or.inr c3)]; rfl
        · rw [if_neg c3, List.length_map, if_pos (show 1 < rs.length by omega), rd_R81_1, if_neg (fun e => e.elim c2 c3)]; rfl
theorem lp_eq (R : List S81) (nl p : Int) (cs hs : List Int) (first : Int) (m : Nat) (hm : m ≤ 1000000) (k : Nat) (hk : 2 * m + 30 < k) : ∀ (rs : List (Nat × List Bs)) (ts : List S53), (∀ r ∈ rs, r.2 ≠ [] ∧ r.2.length ≤ m ∧ ∀ q ∈ r.2, q.length ≤ m) → ts.length + rs.length ≤ 1000000 →
    text_Parse.lp k R nl p cs hs first (rs.map R81) ts = if (tasksS rs).2.2 = 0 then text_Parse.fin k R nl p cs hs first (ts ++ (tasksS rs).1) else some (zres (((tasksS rs).2.1 : Nat) : Int) (tasksS rs).2.2)
  | [], ts, _, _ => by
    rw [List.map_nil]
    unfold text_Parse.lp
    rw [if_pos (show (tasksS []).2.2 = 0 from rfl)]
    simp [tasksS]
  | r :: rs, ts, h, hl => by
    have hr := h r (by simp)
    have hlen : 0 < r.2.length := List.length_pos_iff.2 hr.1
    have hl' : ts.length + (rs.length + 1) ≤ 1000000 := by simpa using hl
    rw [List.map_cons]
    unfold text_Parse.lp tasksS
    rw [R81_f1, List.length_map, if_pos (by omega), rdw0, R81_f0]
    by_cases c : r.2.getD 0 [] = taskB
    · rw [if_pos (show r.2.getD 0 [] = ([116, 97, 115, 107] : List UInt8) from c), if_pos c, tasked_eq r.2 hr.1 m hr.2.2 hm (by omega) k (by omega), Option.bind_some]
      by_cases c0 : (taskedS r.2).2 = 0
      · rw [if_pos (show (T7 (taskedS r.2)).2.2.2.2.2.2 = 0 from c0), if_pos c0, if_pos (by omega)]
        have := lp_eq R nl p cs hs first m hm k hk rs (ts ++ [(taskedS r.2).1]) (fun x hx => h x (by simp [hx])) (by simp; omega)
        rw [List.append_assoc] at this
        exact this
      · rw [if_neg (show ¬ (T7 (taskedS r.2)).2.2.2.2.2.2 = 0 from c0), if_neg c0, if_neg c0]
        rfl
    · rw [if_neg (show ¬ r.2.getD 0 [] = ([116, 97, 115, 107] : List UInt8) from c), if_neg c, if_neg (show ¬ (10 : Int) = 0 by decide)]
theorem cutL_len' (c : UInt8) (l : Bs) : (cutL c l).length ≤ l.length + 1 := by
  have h := splitL_len c l
  unfold cutL dropLastE
  split
  · simp; omega
  · exact h
theorem cutL_piece (c : UInt8) (l : Bs) : ∀ p ∈ cutL c l, p.length ≤ l.length := by
  intro p hp
  refine splitL_piece c l p ?_
  unfold cutL dropLastE at hp
  split at hp
  · exact List.dropLast_subset _ hp
  · exact hp
theorem wordsL_piece (l : Bs) : ∀ p ∈ wordsL l, p.length ≤ l.length := by
  intro p hp
  have := splitL_piece 32 (upto l) p (List.mem_filter.1 hp).1
  have := upto_len l
  omega
theorem wordsL_len' (l : Bs) : (wordsL l).length ≤ l.length + 1 := by
  have h := splitL_len 32 (upto l)
  have h2 := upto_len l
  have h3 : (wordsL l).length ≤ (splitL 32 (upto l)).length := List.length_filter_le _ _
  omega
theorem rowsS_small (m : Nat) : ∀ (l : List Bs) (i : Nat), (∀ p ∈ l, p.length ≤ m) → ∀ r ∈ rowsS i l, r.2 ≠ [] ∧ r.2.length ≤ m + 1 ∧ ∀ q ∈ r.2, q.length ≤ m + 1
  | [], i, _, r, h => by simp [rowsS] at h
  | s :: ss, i, hs, r, h => by
    have ih := rowsS_small m ss (i + 1) (fun p hp => hs p (by simp [hp]))
    rw [rowsS_cons] at h
    by_cases c : wordsL s = []
    · rw [if_pos c] at h; exact ih r h
    · rw [if_neg c] at h
      rcases List.mem_cons.1 h with rfl | h
      · have h1 := hs s (by simp)
        have h2 := wordsL_len' s
        exact ⟨c, by show (wordsL s).length ≤ m + 1; omega, fun q hq => by have := wordsL_piece s q hq; omega⟩
      · exact ih r h
theorem parse_eq (l : Bs) (hl : l.length ≤ 1000000) (k : Nat) (hk : 20000 < k) (hk2 : k < 9223372036854775807) : text_Parse.f k (B l) = some (parseS l) := by
  unfold text_Parse.f parseS
  rw [size_B]
  by_cases h : l.length > 2000
  · rw [if_pos (by omega), if_pos h]; rfl
  · rw [if_neg (by omega), if_neg h]
    have c1 := cutL_len' 10 l
    have c2 := cutL_piece 10 l
    have hsm := rowsS_small 2000 (cutL 10 l) 0 (fun p hp => by have := c2 p hp; omega)
    have hrl := rowsS_len (cutL 10 l) 0
    rw [words_Lines_eq l (by omega), Option.bind_some, rows_eq (cutL 10 l) 2000 (fun p hp => by have := c2 p hp; omega) (by decide) (by omega) k (by omega), Option.bind_some]
    generalize rowsS 0 (cutL 10 l) = rs at hsm hrl ⊢
    rw [head_eq rs (fun r hr => (hsm r hr).1) (fun r hr p hp => by have := (hsm r hr).2.2 p hp; omega) 2001 (fun r hr => (hsm r hr).2.1) (by decide) k (by omega), Option.bind_some]
    unfold parseR
    by_cases ho : (headS rs).2.2.2.2 = true
    · have hf := headS_first rs ho
      rw [if_pos (show (hR (headS rs)).2.2.2.2.2 = true from ho), if_pos ho, if_pos (show (hR (headS rs)).2.2.2.1.length = 0 ∧ 0 ≤ (hR (headS rs)).2.2.2.2.1 ∧ (hR (headS rs)).2.2.2.2.1 ≤ ((rs.map R81).length : Int) ∧ (rs.map R81).length ≤ 1000000 from ⟨rfl, by show (0 : Int) ≤ (((headS rs).2.2.2.1 : Nat) : Int); omega, by show (((headS rs).2.2.2.1 : Nat) : Int) ≤ _; rw [List.length_map]; omega, by rw [List.length_map]; omega⟩)]
      have hd : (rs.map R81).drop (hR (headS rs)).2.2.2.2.1.toNat = (rs.drop (headS rs).2.2.2.1).map R81 := by rw [List.map_drop]; rfl
      have hft := tasksS_facts 2001 (rs.drop (headS rs).2.2.2.1) (fun r hr => (hsm r (List.drop_subset _ _ hr)).2)
      rw [hd, lp_eq _ _ _ _ _ _ 2001 (by decide) k (by omega) _ [] (fun r hr => hsm r (List.drop_subset _ _ hr)) (by rw [List.length_drop]; simp; omega), List.nil_append]
      by_cases c0 : (tasksS (rs.drop (headS rs).2.2.2.1)).2.2 = 0
      · rw [if_pos c0, if_pos c0, List.length_map]
        exact fin_eq rs _ _ _ _ _ _ 2001 hft.1 (by omega) (by rw [hft.2 c0, List.length_drop]; omega) k (by omega) hk2
      · rw [if_neg c0, if_neg c0]; rfl
    · rw [if_neg (show ¬ (hR (headS rs)).2.2.2.2.2 = true from ho), if_neg ho, List.length_map]
      have hln := line_eq rs (headS rs).2.2.2.1 (((cutL 10 l).length : Nat) : Int)
      have : text_line.f (rs.map R81) (hR (headS rs)).2.2.2.2.1 (((cutL 10 l).length : Nat) : Int) = _ := hln
      rw [this, Option.bind_some]
      unfold zres bad
      by_cases c : (headS rs).2.2.2.1 < rs.length
      · rw [if_pos c, if_pos c]
      · rw [if_neg c, if_neg c]
theorem part_eq (q : S50) : text_part.f q.f0 q.f1 q.f2 = some (B (partW q)) := by
  have l1 := textS_len q.f1
  have l2 := textS_len q.f2
  unfold text_part.f partW
  by_cases h1 : q.f0 = 1
  · rw [if_pos h1, if_pos h1, words_Text_eq, Option.bind_some, size_B, if_pos (by omega), show (⟨#[114, 117, 110, 58]⟩ : ByteArray) = B [114, 117, 110, 58] from rfl, append_B]; rfl
  · rw [if_neg h1, if_neg h1]
    by_cases h2 : q.f0 = 2
    · rw [if_pos h2, if_pos h2, words_Text_eq, Option.bind_some, size_B, if_pos (by omega), show (⟨#[115, 108, 101, 101, 112, 58]⟩ : ByteArray) = B [115, 108, 101, 101, 112, 58] from rfl, append_B]; rfl
    · rw [if_neg h2, if_neg h2, words_Text_eq, Option.bind_some, size_B, if_pos (by omega), show (⟨#[108, 111, 99, 107, 58]⟩ : ByteArray) = B [108, 111, 99, 107, 58] from rfl, append_B, size_B, if_pos (by simp; omega), words_Text_eq, Option.bind_some, show (⟨#[58]⟩ : ByteArray) = B [58] from rfl, append_B, size_B, size_B, if_pos (by simp; omega), append_B]
      simp [lockW]
theorem partW_len (q : S50) : (partW q).length ≤ 30 := by
  have l1 := textS_len q.f1
  have l2 := textS_len q.f2
  unfold partW
  split
  · simp [runB]; omega
  · split
    · simp [sleepB]; omega
    · simp [lockW]; omega
theorem lpP_eq : ∀ (qs : List S50) (b : Bs), b.length + 31 * qs.length ≤ 900000000 → text_Print.lp qs (B b) = some (B (b ++ (qs.map partW).flatMap (32 :: ·)))
  | [], b, _ => by unfold text_Print.lp; simp
  | q :: qs, b, h => by
    have hl := partW_len q
    have h' : b.length + 31 * (qs.length + 1) ≤ 900000000 := by simpa using h
    unfold text_Print.lp
    rw [part_eq, Option.bind_some, size_B, size_B, if_pos (by omega), show (⟨#[32]⟩ : ByteArray) = B [32] from rfl, append_B, append_B, lpP_eq qs _ (by simp; omega)]
    simp
theorem numsS_flat : ∀ (l : List Int), numsS l = (l.map textS).flatMap (32 :: ·)
  | [] => rfl
  | n :: l => by rw [numsS, numsS_flat l]; simp
theorem numsS_len : ∀ (l : List Int), (numsS l).length ≤ 11 * l.length
  | [] => by simp [numsS]
  | n :: l => by
    have := numsS_len l
    have := textS_len n
    unfold numsS
    simp only [List.length_cons, List.length_append]
    omega
theorem flat_len (qs : List S50) : ((qs.map partW).flatMap (32 :: ·)).length ≤ 31 * qs.length := by
  induction qs with
  | nil => simp
  | cons q qs ih =>
    have := partW_len q
    rw [List.map_cons, List.flatMap_cons, List.length_append, List.length_cons, List.length_cons]
    omega
theorem ltP_eq (k : Nat) (hk : 10 < k) : ∀ (ts : List S53) (b : Bs), (∀ t ∈ ts, t.f0.size ≤ 1000 ∧ t.f5.length ≤ 1000) → b.length + 100000 * ts.length ≤ 100000000 → text_Print.lt k ts (B b) = some (B (b ++ linesT (ts.map taskWs)))
  | [], b, _, _ => by unfold text_Print.lt; simp [linesT]
  | t :: ts, b, hs, h => by
    have ht := hs t (by simp)
    have h' : b.length + 100000 * (ts.length + 1) ≤ 100000000 := by simpa using h
    have hn := numsS_len [t.f1, t.f2, t.f3, t.f4]
    have hsz : (B (t.f0.data.toList)).size ≤ 1000 := by rw [B_data]; exact ht.1
    rw [size_B] at hsz
    simp only [List.length_cons, List.length_nil] at hn
    unfold text_Print.lt
    have hf := flat_len t.f5
    have e0 : t.f0 = B t.f0.data.toList := (B_data _).symm
    rw [nums_eq _ (by simp) k (by simp; omega), Option.bind_some, size_B, size_B, if_pos (by have := ht.1; omega)]
    have e1 : B b ++ (((⟨#[116, 97, 115, 107, 32]⟩ : ByteArray) ++ t.f0) ++ B (numsS [t.f1, t.f2, t.f3, t.f4])) = B (b ++ ([116, 97, 115, 107, 32] ++ t.f0.data.toList ++ numsS [t.f1, t.f2, t.f3, t.f4])) := by
      conv => lhs; rw [e0]
      rw [show (⟨#[116, 97, 115, 107, 32]⟩ : ByteArray) = B [116, 97, 115, 107, 32] from rfl, append_B, append_B, append_B]
    rw [e1, lpP_eq _ _ (by simp only [List.length_append, List.length_cons, List.length_nil]; omega), Option.bind_some, size_B, if_pos (by simp only [List.length_append, List.length_cons, List.length_nil]; omega), show (⟨#[10]⟩ : ByteArray) = B [10] from rfl, append_B,
      ltP_eq k hk ts _ (fun x hx => hs x (by simp [hx])) (by simp only [List.length_append, List.length_cons, List.length_nil]; omega)]
    congr 2
    rw [List.map_cons]
    unfold linesT taskWs joinW
    rw [numsS_flat]
    simp [taskB]
theorem print_eq (p : Int) (cs hs : List Int) (ts : List S53) (m : Nat) (hb : ∀ t ∈ ts, t.f0.size < m ∧ 3 * t.f5.length < m) (k : Nat) (hk : m + 1000 < k) (hk2 : k < 9223372036854775807) : text_Print.f k p cs hs ts = some (B (printS p cs hs ts)) := by
  unfold text_Print.f printS
  rw [check_eq p cs hs ts m hb k (by omega) hk2, Option.bind_some]
  by_cases hck : (checkS p cs hs ts).2 = 0
  · have h := okS_of hck
    have hp : text_protocol.f p = some (B (protoW p)) := by
      have := h.kp
      unfold btw at this
      simp only [Bool.and_eq_true, decide_eq_true_eq] at this
      have : p = 1 ∨ p = 2 ∨ p = 3 := by omega
      rcases this with rfl | rfl | rfl <;> rfl
    have hpl : (protoW p).length ≤ 10 := by unfold protoW; split; · decide
                                            · split <;> decide
    have hcl := h.ncs
    have hhl := h.nhs
    have htl := h.nts
    have hn1 := numsS_len cs
    have hn2 := numsS_len hs
    have hsm : ∀ t ∈ ts, t.f0.size ≤ 1000 ∧ t.f5.length ≤ 1000 := by
      intro t ht
      have o := h.each t ht
      have hnm := o.name
      have hnp := o.np
      unfold nameS at hnm
      simp only [Bool.and_eq_true, decide_eq_true_eq] at hnm
      have := hnm.2.2
      rw [len_data] at this
      exact ⟨by omega, by omega⟩
    rw [if_pos hck, if_pos hck, hp, Option.bind_some, nums_eq cs (by omega) k (by omega), Option.bind_some, size_B, size_B, if_pos (by omega)]
    have e1 : (((((⟨#[112, 114, 111, 116, 111, 99, 111, 108, 32]⟩ : ByteArray) ++ B (protoW p)) ++ (⟨#[10]⟩ : ByteArray)) ++ (⟨#[99, 111, 114, 101, 115]⟩ : ByteArray)) ++ B (numsS cs)) ++ (⟨#[10]⟩ : ByteArray) = B (linesT [[protocolB, protoW p], coresB :: cs.map textS]) := by
      rw [show (⟨#[112, 114, 111, 116, 111, 99, 111, 108, 32]⟩ : ByteArray) = B (protocolB ++ [32]) from rfl, show (⟨#[10]⟩ : ByteArray) = B [10] from rfl, show (⟨#[99, 111, 114, 101, 115]⟩ : ByteArray) = B coresB from rfl, append_B, append_B, append_B, append_B, append_B]
      congr 1
      unfold linesT joinW
      rw [numsS_flat]
      simp
    have hA : ∀ (a b : List (List Bs)), linesT (a ++ b) = linesT a ++ linesT b := by intro a b; unfold linesT; rw [List.flatMap_append]
    have hL2 : (linesT [[protocolB, protoW p], coresB :: cs.map textS]).length ≤ 1000 := by
      have : (((((⟨#[112, 114, 111, 116, 111, 99, 111, 108, 32]⟩ : ByteArray) ++ B (protoW p)) ++ (⟨#[10]⟩ : ByteArray)) ++ (⟨#[99, 111, 114, 101, 115]⟩ : ByteArray)) ++ B (numsS cs)) ++ (⟨#[10]⟩ : ByteArray) = _ := e1
      have h3 := congrArg ByteArray.size this
      rw [size_B] at h3
      rw [← h3]
      simp only [ByteArray.size_append, size_B]
      show 9 + (protoW p).length + 1 + 5 + (numsS cs).length + 1 ≤ 1000
      omega
    rw [e1]
    by_cases hh : hs = []
    · subst hh
      rw [if_neg (by simp), ltP_eq k (by omega) ts _ hsm (by omega)]
      congr 2
      unfold setWs
      rw [if_pos rfl, List.nil_append, ← hA]
      rfl
    · have hpos : hs.length > 0 := List.length_pos_iff.2 hh
      rw [if_pos hpos, nums_eq hs (by omega) k (by omega), Option.bind_some, size_B, if_pos (by omega)]
      have e2 : ((⟨#[104, 111, 109, 101, 115]⟩ : ByteArray) ++ B (numsS hs)) ++ (⟨#[10]⟩ : ByteArray) = B (linesT [homesB :: hs.map textS]) := by
        rw [show (⟨#[104, 111, 109, 101, 115]⟩ : ByteArray) = B homesB from rfl, show (⟨#[10]⟩ : ByteArray) = B [10] from rfl, append_B, append_B]
        congr 1
        unfold linesT joinW
        rw [numsS_flat]
        simp
      have hL3 : (linesT [homesB :: hs.map textS]).length ≤ 1000 := by
        have h3 := congrArg ByteArray.size e2
        rw [size_B] at h3
        rw [← h3]
        simp only [ByteArray.size_append, size_B]
        show 5 + (numsS hs).length + 1 ≤ 1000
        omega
      rw [e2, append_B, ltP_eq k (by omega) ts _ hsm (by rw [List.length_append]; omega)]
      congr 2
      unfold setWs
      rw [if_neg hh, ← hA, ← hA]
      rfl
  · rw [if_neg hck, if_neg hck]; rfl
end Go.Proofs.YtgkjoodlcojkkaaDoor.Y
end
section
namespace Go.Proofs.YtgkjoodlcojkkaaDoor.QD
open Go.RowKit Go.Proofs.YtgkjoodlcojkkaaDoorW.PrintWords Go.Proofs.YtgkjoodlcojkkaaDoorW.PrintLast Go.Proofs.YtgkjoodlcojkkaaDoorW.PrintMore
attribute [local go_sem] max2_int min2_int max_two min_two max_three min_three max_four min_four
set_option linter.unusedVariables false
set_option linter.unusedSimpArgs false
theorem eqA50 (d : Nat) (w : World) (x0 y0 : Int) (x1 y1 : Int) (x2 y2 : Int) :
    (Op.equalIn (d + 2) 50 (.agg #[.int .i64 x0, .int .i64 x1, .int .i64 x2]) (.agg #[.int .i64 y0, .int .i64 y1, .int .i64 y2])).run Tryd.prog w = .ok (x0 == y0 && (x1 == y1 && (x2 == y2))) w := by
  refine eqA_of Tryd.underlying50 (by kernel_rfl) ?_
  refine eqf_cons (by rfl) (by go_simp; rfl) (by go_simp; rfl) (by go_simp) ?_
  refine eqf_cons (by rfl) (by go_simp; rfl) (by go_simp; rfl) (by go_simp) ?_
  exact eqf_last (by rfl) (by go_simp; rfl) (by go_simp; rfl) (by go_simp)
end Go.Proofs.YtgkjoodlcojkkaaDoor.QD
end
section
namespace Go.Proofs.YtgkjoodlcojkkaaDoor.QD
open Go.RowKit Go.Proofs.YtgkjoodlcojkkaaDoorW.PrintWords Go.Proofs.YtgkjoodlcojkkaaDoorW.PrintLast Go.Proofs.YtgkjoodlcojkkaaDoorW.PrintMore
attribute [local go_sem] max2_int min2_int max_two min_two max_three min_three max_four min_four
set_option linter.unusedVariables false
set_option linter.unusedSimpArgs false
attribute [local go_sem high] eqA50
def sl_known.f (k : Nat)  : Option (Bool) := (text_Parse.f k (⟨#[112, 114, 111, 116, 111, 99, 111, 108, 32, 102, 97, 105, 114, 10, 99, 111, 114, 101, 115, 32, 49, 10, 104, 111, 109, 101, 115, 32, 48, 10, 10, 116, 97, 115, 107, 32, 97, 32, 49, 48, 32, 49, 48, 32, 49, 32, 48, 32, 114, 117, 110, 58, 51, 32, 108, 111, 99, 107, 58, 48, 58, 50, 32, 35, 32, 115, 111, 10]⟩ : ByteArray)).bind fun bt262 => ((text_Parse.f k (⟨#[112, 114, 111, 116, 111, 99, 111, 108, 32, 102, 97, 105, 114, 10, 99, 111, 114, 101, 115, 32, 49, 10, 104, 111, 109, 101, 115, 32, 48, 10, 116, 97, 115, 107, 32, 97, 32, 49, 48, 32, 49, 48, 32, 49, 32, 48, 32, 108, 111, 99, 107, 58, 48, 58, 108, 111, 99, 107, 58, 48, 58, 50, 10]⟩ : ByteArray)).bind fun bt275 => ((text_Parse.f k (⟨#[99, 111, 114, 101, 115, 32, 49, 10]⟩ : ByteArray)).bind fun bt288 => (if bt262.2.2.2.2.2 = 0 then (if bt262.2.2.2.2.1 = 5 then (if (bt262.2.2.2.1.length : Int) = 1 then (if 0 < (bt262.2.2.2.1.length : Int) then (if (((rd_T53 bt262.2.2.2.1 0).f5).length : Int) = 2 then (if 1 < (((rd_T53 bt262.2.2.2.1 0).f5).length : Int) then (if (((rd_T50 ((rd_T53 bt262.2.2.2.1 0).f5) 1).f0) == 3 && (((rd_T50 ((rd_T53 bt262.2.2.2.1 0).f5) 1).f1) == 2 && (((rd_T50 ((rd_T53 bt262.2.2.2.1 0).f5) 1).f2) == 0))) = true then (if bt275.2.2.2.2.2 = 18 then (if bt275.2.2.2.2.1 = 3 then (if bt288.2.2.2.2.2 = 10 then (if bt288.2.2.2.2.1 = 0 then ((text_Print.f k bt262.1 bt262.2.1 bt262.2.2.1 bt262.2.2.2.1).bind fun t304 => (some (t304.toList == ([112, 114, 111, 116, 111, 99, 111, 108, 32, 102, 97, 105, 114, 10, 99, 111, 114, 101, 115, 32, 49, 10, 104, 111, 109, 101, 115, 32, 48, 10, 116, 97, 115, 107, 32, 97, 32, 49, 48, 32, 49, 48, 32, 49, 32, 48, 32, 114, 117, 110, 58, 51, 32, 108, 111, 99, 107, 58, 48, 58, 50, 10] : List UInt8)))) else (some false)) else (some false)) else (some false)) else (some false)) else (some false)) else (none)) else (some false)) else (none)) else (some false)) else (some false)) else (some false))))
theorem sl_known.mono : ∀ k, LeO (sl_known.f k ) (sl_known.f (k + 1) ) := by
  intro  k
  unfold sl_known.f
  repeat' first
      | (with_reducible exact text_Parse.mono _ _)
      | (with_reducible exact text_Print.mono _ _ _ _ _)
      | (with_reducible exact LeO.refl _)
      | (with_reducible exact LeO.none _)
      | (with_reducible refine LeO.ite ?_ ?_)
      | (with_reducible refine LeO.bind ?_ (fun _ => ?_))
      | exact text_Parse.mono _ _
      | exact text_Print.mono _ _ _ _ _
      | exact LeO.none _
      | refine LeO.ite ?_ ?_
      | refine LeO.bind ?_ (fun _ => ?_)
set_option maxHeartbeats 8000000 in
set_option maxRecDepth 100000 in
theorem sl_known.calls (k : Nat)  (r : Bool) [hT_ : IsTrue r] (w : World) (hG : Glob w) (h : sl_known.f k  = some r) :
    Calls Tryd.prog 21 #[] w fun e w' => e = .returned (.bool r) ∧ Below w.heap.size w w' := by
  have hu37 := Tryd.underlying37
  have hu50 := Tryd.underlying50
  have HG := Aside0.mk hG
  clear hG
  have HB := Aside0.mk (Below.refl w.heap.size w)
  have H : ((text_Parse.f k (⟨#[112, 114, 111, 116, 111, 99, 111, 108, 32, 102, 97, 105, 114, 10, 99, 111, 114, 101, 115, 32, 49, 10, 104, 111, 109, 101, 115, 32, 48, 10, 10, 116, 97, 115, 107, 32, 97, 32, 49, 48, 32, 49, 48, 32, 49, 32, 48, 32, 114, 117, 110, 58, 51, 32, 108, 111, 99, 107, 58, 48, 58, 50, 32, 35, 32, 115, 111, 10]⟩ : ByteArray)).bind fun bt262 => ((text_Parse.f k (⟨#[112, 114, 111, 116, 111, 99, 111, 108, 32, 102, 97, 105, 114, 10, 99, 111, 114, 101, 115, 32, 49, 10, 104, 111, 109, 101, 115, 32, 48, 10, 116, 97, 115, 107, 32, 97, 32, 49, 48, 32, 49, 48, 32, 49, 32, 48, 32, 108, 111, 99, 107, 58, 48, 58, 108, 111, 99, 107, 58, 48, 58, 50, 10]⟩ : ByteArray)).bind fun bt275 => ((text_Parse.f k (⟨#[99, 111, 114, 101, 115, 32, 49, 10]⟩ : ByteArray)).bind fun bt288 => (if bt262.2.2.2.2.2 = 0 then (if bt262.2.2.2.2.1 = 5 then (if (bt262.2.2.2.1.length : Int) = 1 then (if 0 < (bt262.2.2.2.1.length : Int) then (if (((rd_T53 bt262.2.2.2.1 0).f5).length : Int) = 2 then (if 1 < (((rd_T53 bt262.2.2.2.1 0).f5).length : Int) then (if (((rd_T50 ((rd_T53 bt262.2.2.2.1 0).f5) 1).f0) == 3 && (((rd_T50 ((rd_T53 bt262.2.2.2.1 0).f5) 1).f1) == 2 && (((rd_T50 ((rd_T53 bt262.2.2.2.1 0).f5) 1).f2) == 0))) = true then (if bt275.2.2.2.2.2 = 18 then (if bt275.2.2.2.2.1 = 3 then (if bt288.2.2.2.2.2 = 10 then (if bt288.2.2.2.2.1 = 0 then ((text_Print.f k bt262.1 bt262.2.1 bt262.2.2.1 bt262.2.2.2.1).bind fun t304 => (some (t304.toList == ([112, 114, 111, 116, 111, 99, 111, 108, 32, 102, 97, 105, 114, 10, 99, 111, 114, 101, 115, 32, 49, 10, 104, 111, 109, 101, 115, 32, 48, 10, 116, 97, 115, 107, 32, 97, 32, 49, 48, 32, 49, 48, 32, 49, 32, 48, 32, 114, 117, 110, 58, 51, 32, 108, 111, 99, 107, 58, 48, 58, 50, 10] : List UInt8)))) else (some false)) else (some false)) else (some false)) else (some false)) else (some false)) else (none)) else (some false)) else (none)) else (some false)) else (some false)) else (some false))))) = some r := h
  clear h
  replace H := Option.bind_eq_some_iff.mp H
  obtain ⟨⟨t262, t263, t266, t269, t272, t273⟩, A10, H⟩ := H
  replace H : ((text_Parse.f k (⟨#[112, 114, 111, 116, 111, 99, 111, 108, 32, 102, 97, 105, 114, 10, 99, 111, 114, 101, 115, 32, 49, 10, 104, 111, 109, 101, 115, 32, 48, 10, 116, 97, 115, 107, 32, 97, 32, 49, 48, 32, 49, 48, 32, 49, 32, 48, 32, 108, 111, 99, 107, 58, 48, 58, 108, 111, 99, 107, 58, 48, 58, 50, 10]⟩ : ByteArray)).bind fun bt275 => ((text_Parse.f k (⟨#[99, 111, 114, 101, 115, 32, 49, 10]⟩ : ByteArray)).bind fun bt288 => (if t273 = 0 then (if t272 = 5 then (if (t269.length : Int) = 1 then (if 0 < (t269.length : Int) then (if (((rd_T53 t269 0).f5).length : Int) = 2 then (if 1 < (((rd_T53 t269 0).f5).length : Int) then (if (((rd_T50 ((rd_T53 t269 0).f5) 1).f0) == 3 && (((rd_T50 ((rd_T53 t269 0).f5) 1).f1) == 2 && (((rd_T50 ((rd_T53 t269 0).f5) 1).f2) == 0))) = true then (if bt275.2.2.2.2.2 = 18 then (if bt275.2.2.2.2.1 = 3 then (if bt288.2.2.2.2.2 = 10 then (if bt288.2.2.2.2.1 = 0 then ((text_Print.f k t262 t263 t266 t269).bind fun t304 => (some (t304.toList == ([112, 114, 111, 116, 111, 99, 111, 108, 32, 102, 97, 105, 114, 10, 99, 111, 114, 101, 115, 32, 49, 10, 104, 111, 109, 101, 115, 32, 48, 10, 116, 97, 115, 107, 32, 97, 32, 49, 48, 32, 49, 48, 32, 49, 32, 48, 32, 114, 117, 110, 58, 51, 32, 108, 111, 99, 107, 58, 48, 58, 50, 10] : List UInt8)))) else (some false)) else (some false)) else (some false)) else (some false)) else (some false)) else (none)) else (some false)) else (none)) else (some false)) else (some false)) else (some false)))) = some r := H
  have A1 := Aside0.mk A10
  clear A10
  replace H := Option.bind_eq_some_iff.mp H
  obtain ⟨⟨t275, t276, t279, t282, t285, t286⟩, A20, H⟩ := H
  replace H : ((text_Parse.f k (⟨#[99, 111, 114, 101, 115, 32, 49, 10]⟩ : ByteArray)).bind fun bt288 => (if t273 = 0 then (if t272 = 5 then (if (t269.length : Int) = 1 then (if 0 < (t269.length : Int) then (if (((rd_T53 t269 0).f5).length : Int) = 2 then (if 1 < (((rd_T53 t269 0).f5).length : Int) then (if (((rd_T50 ((rd_T53 t269 0).f5) 1).f0) == 3 && (((rd_T50 ((rd_T53 t269 0).f5) 1).f1) == 2 && (((rd_T50 ((rd_T53 t269 0).f5) 1).f2) == 0))) = true then (if t286 = 18 then (if t285 = 3 then (if bt288.2.2.2.2.2 = 10 then (if bt288.2.2.2.2.1 = 0 then ((text_Print.f k t262 t263 t266 t269).bind fun t304 => (some (t304.toList == ([112, 114, 111, 116, 111, 99, 111, 108, 32, 102, 97, 105, 114, 10, 99, 111, 114, 101, 115, 32, 49, 10, 104, 111, 109, 101, 115, 32, 48, 10, 116, 97, 115, 107, 32, 97, 32, 49, 48, 32, 49, 48, 32, 49, 32, 48, 32, 114, 117, 110, 58, 51, 32, 108, 111, 99, 107, 58, 48, 58, 50, 10] : List UInt8)))) else (some false)) else (some false)) else (some false)) else (some false)) else (some false)) else (none)) else (some false)) else (none)) else (some false)) else (some false)) else (some false))) = some r := H
  have A2 := Aside0.mk A20
  clear A20
  replace H := Option.bind_eq_some_iff.mp H
  obtain ⟨⟨t288, t289, t292, t295, t298, t299⟩, A30, H⟩ := H
  replace H : (if t273 = 0 then (if t272 = 5 then (if (t269.length : Int) = 1 then (if 0 < (t269.length : Int) then (if (((rd_T53 t269 0).f5).length : Int) = 2 then (if 1 < (((rd_T53 t269 0).f5).length : Int) then (if (((rd_T50 ((rd_T53 t269 0).f5) 1).f0) == 3 && (((rd_T50 ((rd_T53 t269 0).f5) 1).f1) == 2 && (((rd_T50 ((rd_T53 t269 0).f5) 1).f2) == 0))) = true then (if t286 = 18 then (if t285 = 3 then (if t299 = 10 then (if t298 = 0 then ((text_Print.f k t262 t263 t266 t269).bind fun t304 => (some (t304.toList == ([112, 114, 111, 116, 111, 99, 111, 108, 32, 102, 97, 105, 114, 10, 99, 111, 114, 101, 115, 32, 49, 10, 104, 111, 109, 101, 115, 32, 48, 10, 116, 97, 115, 107, 32, 97, 32, 49, 48, 32, 49, 48, 32, 49, 32, 48, 32, 114, 117, 110, 58, 51, 32, 108, 111, 99, 107, 58, 48, 58, 50, 10] : List UInt8)))) else (some false)) else (some false)) else (some false)) else (some false)) else (some false)) else (none)) else (some false)) else (none)) else (some false)) else (some false)) else (some false)) = some r := H
  have A3 := Aside0.mk A30
  clear A30
  by_cases c4 : t273 = 0
  rotate_left
  · rw [if_neg c4] at H
    have c4b0 : (t273 == 0) = false := beq_eq_false_iff_ne.mpr c4
    have c4b1 : (t273 != 0) = true := bne_iff_ne.mpr c4
    exact absurd ((Option.some.inj H).trans hT_.out) (by simp)
  rw [if_pos c4] at H
  have c4b0 : (t273 == 0) = true := beq_iff_eq.mpr c4
  have c4b1 : (t273 != 0) = false := bne_eq_false_iff_eq.mpr c4
  clear c4
  by_cases c5 : t272 = 5
  rotate_left
  · rw [if_neg c5] at H
    have c5b0 : (t272 == 5) = false := beq_eq_false_iff_ne.mpr c5
    have c5b1 : (t272 != 5) = true := bne_iff_ne.mpr c5
    exact absurd ((Option.some.inj H).trans hT_.out) (by simp)
  rw [if_pos c5] at H
  have c5b0 : (t272 == 5) = true := beq_iff_eq.mpr c5
  have c5b1 : (t272 != 5) = false := bne_eq_false_iff_eq.mpr c5
  clear c5
  by_cases c6 : (t269.length : Int) = 1
  rotate_left
  · rw [if_neg c6] at H
    have c6b0 : ((t269.length : Int) == 1) = false := beq_eq_false_iff_ne.mpr c6
    have c6b1 : ((t269.length : Int) != 1) = true := bne_iff_ne.mpr c6
    exact absurd ((Option.some.inj H).trans hT_.out) (by simp)
  rw [if_pos c6] at H
  have c6b0 : ((t269.length : Int) == 1) = true := beq_iff_eq.mpr c6
  have c6b1 : ((t269.length : Int) != 1) = false := bne_eq_false_iff_eq.mpr c6
  clear c6
  by_cases c7 : 0 < (t269.length : Int)
  rotate_left
  · rw [if_neg c7] at H
    exact absurd H (by simp)
  rw [if_pos c7] at H
  have c7b0 : decide (0 < (t269.length : Int)) = true := decide_eq_true c7
  have c7b1 : decide (0 < t269.length) = true := decide_eq_true (by omega)
  clear c7
  by_cases c8 : (((rd_T53 t269 0).f5).length : Int) = 2
  rotate_left
  · rw [if_neg c8] at H
    have c8b0 : ((((rd_T53 t269 0).f5).length : Int) == 2) = false := beq_eq_false_iff_ne.mpr c8
    have c8b1 : ((((rd_T53 t269 0).f5).length : Int) != 2) = true := bne_iff_ne.mpr c8
    exact absurd ((Option.some.inj H).trans hT_.out) (by simp)
  rw [if_pos c8] at H
  have c8b0 : ((((rd_T53 t269 0).f5).length : Int) == 2) = true := beq_iff_eq.mpr c8
  have c8b1 : ((((rd_T53 t269 0).f5).length : Int) != 2) = false := bne_eq_false_iff_eq.mpr c8
  clear c8
  by_cases c9 : 1 < (((rd_T53 t269 0).f5).length : Int)
  rotate_left
  · rw [if_neg c9] at H
    exact absurd H (by simp)
  rw [if_pos c9] at H
  have c9b0 : decide (1 < (((rd_T53 t269 0).f5).length : Int)) = true := decide_eq_true c9
  have c9b1 : decide (1 < ((rd_T53 t269 0).f5).length) = true := decide_eq_true (by omega)
  clear c9
  by_cases c10 : (((rd_T50 ((rd_T53 t269 0).f5) 1).f0) == 3 && (((rd_T50 ((rd_T53 t269 0).f5) 1).f1) == 2 && (((rd_T50 ((rd_T53 t269 0).f5) 1).f2) == 0))) = true
  rotate_left
  · rw [if_neg c10] at H
    have c10b0 : (((rd_T50 ((rd_T53 t269 0).f5) 1).f0) == 3 && (((rd_T50 ((rd_T53 t269 0).f5) 1).f1) == 2 && (((rd_T50 ((rd_T53 t269 0).f5) 1).f2) == 0))) = false := by simpa using c10
    (try (have c10b1 : decide (((rd_T50 ((rd_T53 t269 0).f5) 1).f0) = 3 && (((rd_T50 ((rd_T53 t269 0).f5) 1).f1) == 2 && (((rd_T50 ((rd_T53 t269 0).f5) 1).f2) == 0))) = false := by simpa using c10))
    (try (have c10b2 : (((rd_T50 ((rd_T53 t269 0).f5) 1).f0) == 3 && (((rd_T50 ((rd_T53 t269 0).f5) 1).f1) == 2 && (((rd_T50 ((rd_T53 t269 0).f5) 1).f2) == 0))) = false := by simpa using c10))
    (try (have c10b3 : ¬ (((rd_T50 ((rd_T53 t269 0).f5) 1).f0) = 3 && (((rd_T50 ((rd_T53 t269 0).f5) 1).f1) == 2 && (((rd_T50 ((rd_T53 t269 0).f5) 1).f2) == 0))) := by simpa using c10))
    clear c10
    exact absurd ((Option.some.inj H).trans hT_.out) (by simp)
  rw [if_pos c10] at H
  have c10b0 : (((rd_T50 ((rd_T53 t269 0).f5) 1).f0) == 3 && (((rd_T50 ((rd_T53 t269 0).f5) 1).f1) == 2 && (((rd_T50 ((rd_T53 t269 0).f5) 1).f2) == 0))) = true := c10
  (try (have c10b1 : decide (((rd_T50 ((rd_T53 t269 0).f5) 1).f0) = 3 && (((rd_T50 ((rd_T53 t269 0).f5) 1).f1) == 2 && (((rd_T50 ((rd_T53 t269 0).f5) 1).f2) == 0))) = true := by simpa using c10))
  (try (have c10b2 : (((rd_T50 ((rd_T53 t269 0).f5) 1).f0) == 3 && (((rd_T50 ((rd_T53 t269 0).f5) 1).f1) == 2 && (((rd_T50 ((rd_T53 t269 0).f5) 1).f2) == 0))) = true := by simpa using c10))
  clear c10
  by_cases c11 : t286 = 18
  rotate_left
  · rw [if_neg c11] at H
    have c11b0 : (t286 == 18) = false := beq_eq_false_iff_ne.mpr c11
    have c11b1 : (t286 != 18) = true := bne_iff_ne.mpr c11
    exact absurd ((Option.some.inj H).trans hT_.out) (by simp)
  rw [if_pos c11] at H
  have c11b0 : (t286 == 18) = true := beq_iff_eq.mpr c11
  have c11b1 : (t286 != 18) = false := bne_eq_false_iff_eq.mpr c11
  clear c11
  by_cases c12 : t285 = 3
  rotate_left
  · rw [if_neg c12] at H
    have c12b0 : (t285 == 3) = false := beq_eq_false_iff_ne.mpr c12
    have c12b1 : (t285 != 3) = true := bne_iff_ne.mpr c12
    exact absurd ((Option.some.inj H).trans hT_.out) (by simp)
  rw [if_pos c12] at H
  have c12b0 : (t285 == 3) = true := beq_iff_eq.mpr c12
  have c12b1 : (t285 != 3) = false := bne_eq_false_iff_eq.mpr c12
  clear c12
  by_cases c13 : t299 = 10
  rotate_left
  · rw [if_neg c13] at H
    have c13b0 : (t299 == 10) = false := beq_eq_false_iff_ne.mpr c13
    have c13b1 : (t299 != 10) = true := bne_iff_ne.mpr c13
    exact absurd ((Option.some.inj H).trans hT_.out) (by simp)
  rw [if_pos c13] at H
  have c13b0 : (t299 == 10) = true := beq_iff_eq.mpr c13
  have c13b1 : (t299 != 10) = false := bne_eq_false_iff_eq.mpr c13
  clear c13
  by_cases c14 : t298 = 0
  rotate_left
  · rw [if_neg c14] at H
    have c14b0 : (t298 == 0) = false := beq_eq_false_iff_ne.mpr c14
    have c14b1 : (t298 != 0) = true := bne_iff_ne.mpr c14
    exact absurd ((Option.some.inj H).trans hT_.out) (by simp)
  rw [if_pos c14] at H
  have c14b0 : (t298 == 0) = true := beq_iff_eq.mpr c14
  have c14b1 : (t298 != 0) = false := bne_eq_false_iff_eq.mpr c14
  clear c14
  replace H := Option.bind_eq_some_iff.mp H
  obtain ⟨t304, A150, H⟩ := H
  replace H : (some (t304.toList == ([112, 114, 111, 116, 111, 99, 111, 108, 32, 102, 97, 105, 114, 10, 99, 111, 114, 101, 115, 32, 49, 10, 104, 111, 109, 101, 115, 32, 48, 10, 116, 97, 115, 107, 32, 97, 32, 49, 48, 32, 49, 48, 32, 49, 32, 48, 32, 114, 117, 110, 58, 51, 32, 108, 111, 99, 107, 58, 48, 58, 50, 10] : List UInt8))) = some r := H
  have A15 := Aside0.mk A150
  clear A150
  obtain rfl := Option.some.inj H
  go_enter Tryd.func21, Tryd.ntmps21
  go_wp2_with (first | ((with_reducible refine gate_callee (f := 25) rfl ?_); refine goesL_ (some 11) rfl rfl Tryd.func25 (by kernel_rfl) rfl #[.string (⟨#[112, 114, 111, 116, 111, 99, 111, 108, 32, 102, 97, 105, 114, 10, 99, 111, 114, 101, 115, 32, 49, 10, 104, 111, 109, 101, 115, 32, 48, 10, 10, 116, 97, 115, 107, 32, 97, 32, 49, 48, 32, 49, 48, 32, 49, 32, 48, 32, 114, 117, 110, 58, 51, 32, 108, 111, 99, 107, 58, 48, 58, 50, 32, 35, 32, 115, 111, 10]⟩ : ByteArray)] rfl (by (try simp only [List.map_toArray, List.map_cons, List.map_nil]); first | done | rfl | (simp only [List.length_drop, List.length_take]; rfl)) ?_; (with_reducible refine (text_Parse.calls k (⟨#[112, 114, 111, 116, 111, 99, 111, 108, 32, 102, 97, 105, 114, 10, 99, 111, 114, 101, 115, 32, 49, 10, 104, 111, 109, 101, 115, 32, 48, 10, 10, 116, 97, 115, 107, 32, 97, 32, 49, 48, 32, 49, 48, 32, 49, 32, 48, 32, 114, 117, 110, 58, 51, 32, 108, 111, 99, 107, 58, 48, 58, 50, 32, 35, 32, 115, 111, 10]⟩ : ByteArray) t262 t263 t266 t269 t272 t273 _ ?side1 A1.out).mono ?_); (case side1 => first | exact Glob.below HG.out (HB.out) | (repeat (first | exact Glob.below HG.out HB.out | (with_reducible refine Glob.alloc ?_ _) | (with_reducible refine Glob.drewN ?_ _) | (with_reducible refine Glob.drew ?_)))); rintro e w16 ⟨v264, v267, v270, rfl, ho0, ho1, ho2, hb⟩; refine ⟨_, rfl, ?_⟩; have n0_ := Aside0.mk (Kd.R_lower ho0 (below_size (HB.out))); have n1_ := Aside0.mk (Kd.R_lower ho1 (below_size (HB.out))); have n2_ := Aside0.mk (Kd.S_lower ho2 (below_size (HB.out))); have n3_ := Aside0.mk (below_step (HB.out) hb); clear HB; have HO265 := n0_; have HO268 := n1_; have HO271 := n2_; have HB := n3_; clear n0_ n1_ n2_ n3_; (try clear hb); (try clear hb2); (try clear hk); (try clear hi); (try clear ho0); (try clear ho1); (try clear ho2)) | ((with_reducible refine gate_dst (N := 1) rfl ?_); (try (refine gate_guard (by rfl) ?_; dsimp only)); refine box_event ?hg (N := 1) ?hd (cs := #[.int .i64 0, .slice none 0 0, .slice none 0 0, .slice none 0 0]) (t := 37) ?hr ?_; (case hd => rfl); (case hg => rfl); (case hr => first | (go_simp; done) | (go_simp; rfl)); intro gb274 hg w17 hbox hb; have n0_ := Aside0.mk (Kd.R_below (by (with_reducible repeat (first | apply Kd.R_alloc | apply Kd.R_drewN | apply Kd.R_drew)); exact HO265.out) hb); have n1_ := Aside0.mk (Kd.R_below (by (with_reducible repeat (first | apply Kd.R_alloc | apply Kd.R_drewN | apply Kd.R_drew)); exact HO268.out) hb); have n2_ := Aside0.mk (Kd.S_below (by (with_reducible repeat (first | apply Kd.S_alloc | apply Kd.S_drewN | apply Kd.S_drew)); exact HO271.out) hb); have n3_ := Aside0.mk (below_step (HB.out) hb); have n4_ := Aside0.mk (hbox); have n5_ := Aside0.mk ((by rw [hg]; exact (below_size (HB.out)) : w.heap.size ≤ gb274)); have n6_ := n5_; clear HO265; clear HO268; clear HO271; clear HB; have HO265 := n0_; have HO268 := n1_; have HO271 := n2_; have HB := n3_; have BK274 := n4_; have GW274 := n5_; have GE274 := n6_; clear n0_ n1_ n2_ n3_ n4_ n5_ n6_; clear hb hbox hg; have hcz18_0 : w17.cell? ⟨gb274, 0, none⟩ = some (.int .i64 0) := (blk_cell BK274.out 0).trans rfl; have hcz18_1 : w17.cell? ⟨gb274, 1, none⟩ = some (.slice none 0 0) := (blk_cell BK274.out 1).trans rfl; have hcz18_2 : w17.cell? ⟨gb274, 2, none⟩ = some (.slice none 0 0) := (blk_cell BK274.out 2).trans rfl; have hcz18_3 : w17.cell? ⟨gb274, 3, none⟩ = some (.slice none 0 0) := (blk_cell BK274.out 3).trans rfl; have hfz18_0 := blk_frozen BK274.out 0; have hfz18_1 := blk_frozen BK274.out 1; have hfz18_2 := blk_frozen BK274.out 2; have hfz18_3 := blk_frozen BK274.out 3; obtain ⟨Ao19, co19, eo19⟩ := Kd.R_slice HO265.out; subst eo19; obtain ⟨Ao20, co20, eo20⟩ := Kd.R_slice HO268.out; subst eo20; obtain ⟨Ao21, co21, eo21⟩ := Kd.S_slice HO271.out; subst eo21) | ((with_reducible refine gate_callee (f := 25) rfl ?_); refine goesL_ (some 16) rfl rfl Tryd.func25 (by kernel_rfl) rfl #[.string (⟨#[112, 114, 111, 116, 111, 99, 111, 108, 32, 102, 97, 105, 114, 10, 99, 111, 114, 101, 115, 32, 49, 10, 104, 111, 109, 101, 115, 32, 48, 10, 116, 97, 115, 107, 32, 97, 32, 49, 48, 32, 49, 48, 32, 49, 32, 48, 32, 108, 111, 99, 107, 58, 48, 58, 108, 111, 99, 107, 58, 48, 58, 50, 10]⟩ : ByteArray)] rfl (by (try simp only [List.map_toArray, List.map_cons, List.map_nil]); first | done | rfl | (simp only [List.length_drop, List.length_take]; rfl)) ?_; (with_reducible refine (text_Parse.calls k (⟨#[112, 114, 111, 116, 111, 99, 111, 108, 32, 102, 97, 105, 114, 10, 99, 111, 114, 101, 115, 32, 49, 10, 104, 111, 109, 101, 115, 32, 48, 10, 116, 97, 115, 107, 32, 97, 32, 49, 48, 32, 49, 48, 32, 49, 32, 48, 32, 108, 111, 99, 107, 58, 48, 58, 108, 111, 99, 107, 58, 48, 58, 50, 10]⟩ : ByteArray) t275 t276 t279 t282 t285 t286 _ ?side1 A2.out).mono ?_); (case side1 => first | exact Glob.below HG.out (by repeat (first | (with_reducible first | exact HB.out | apply below_alloc | apply pw_below_drewN | apply below_drew1 | refine below_set ?_ GE274.out) | exact HB.out)) | (repeat (first | exact Glob.below HG.out HB.out | (with_reducible refine Glob.alloc ?_ _) | (with_reducible refine Glob.drewN ?_ _) | (with_reducible refine Glob.drew ?_)))); rintro e w22 ⟨v277, v280, v283, rfl, ho0, ho1, ho2, hb⟩; refine ⟨_, rfl, ?_⟩; have n0_ := Aside0.mk (Kd.R_mono (Kd.R_told (Kd.R_told (Kd.R_old (by (with_reducible repeat (first | apply Kd.R_alloc | apply Kd.R_drewN | apply Kd.R_drew)); exact (Kd.R_mono (Kd.R_far (p := ⟨gb274, 3, none⟩) (Kd.R_far (p := ⟨gb274, 2, none⟩) (Kd.R_far (p := ⟨gb274, 1, none⟩) (Kd.R_far (p := ⟨gb274, 0, none⟩) (Kd.R_types HO265.out BK274.out (by decide)) (fun _ hk => hk.2) (.int .i64 t262)) (fun _ hk => hk.2) (.slice Ao19 t263.length co19)) (fun _ hk => hk.2) (.slice Ao20 t266.length co20)) (fun _ hk => hk.2) (.slice Ao21 t269.length co21)) (fun _ h_ => h_.1))) hb) (Kd.R_base ho0)) (Kd.R_base ho1)) (fun _ h_ => h_.1)); have n1_ := Aside0.mk (Kd.R_mono (Kd.R_told (Kd.R_told (Kd.R_old (by (with_reducible repeat (first | apply Kd.R_alloc | apply Kd.R_drewN | apply Kd.R_drew)); exact (Kd.R_mono (Kd.R_far (p := ⟨gb274, 3, none⟩) (Kd.R_far (p := ⟨gb274, 2, none⟩) (Kd.R_far (p := ⟨gb274, 1, none⟩) (Kd.R_far (p := ⟨gb274, 0, none⟩) (Kd.R_types HO268.out BK274.out (by decide)) (fun _ hk => hk.2) (.int .i64 t262)) (fun _ hk => hk.2) (.slice Ao19 t263.length co19)) (fun _ hk => hk.2) (.slice Ao20 t266.length co20)) (fun _ hk => hk.2) (.slice Ao21 t269.length co21)) (fun _ h_ => h_.1))) hb) (Kd.R_base ho0)) (Kd.R_base ho1)) (fun _ h_ => h_.1)); have n2_ := Aside0.mk (Kd.S_elder' (by (with_reducible repeat (first | apply Kd.S_alloc | apply Kd.S_drewN | apply Kd.S_drew)); exact (Kd.S_mono (Kd.S_far (p := ⟨gb274, 3, none⟩) (Kd.S_far (p := ⟨gb274, 2, none⟩) (Kd.S_far (p := ⟨gb274, 1, none⟩) (Kd.S_far (p := ⟨gb274, 0, none⟩) (Kd.S_types HO271.out BK274.out (by decide)) (fun _ hk => hk.2) (.int .i64 t262)) (fun _ hk => hk.2) (.slice Ao19 t263.length co19)) (fun _ hk => hk.2) (.slice Ao20 t266.length co20)) (fun _ hk => hk.2) (.slice Ao21 t269.length co21)) (fun _ h_ => h_.1))) (Kd.S_base ho2) hb); have n3_ := Aside0.mk (Kd.R_lower (Kd.R_new' (Kd.R_new' ho0 (Kd.R_lt (by (with_reducible repeat (first | apply Kd.R_alloc | apply Kd.R_drewN | apply Kd.R_drew)); exact (Kd.R_mono (Kd.R_far (p := ⟨gb274, 3, none⟩) (Kd.R_far (p := ⟨gb274, 2, none⟩) (Kd.R_far (p := ⟨gb274, 1, none⟩) (Kd.R_far (p := ⟨gb274, 0, none⟩) (Kd.R_types HO265.out BK274.out (by decide)) (fun _ hk => hk.2) (.int .i64 t262)) (fun _ hk => hk.2) (.slice Ao19 t263.length co19)) (fun _ hk => hk.2) (.slice Ao20 t266.length co20)) (fun _ hk => hk.2) (.slice Ao21 t269.length co21)) (fun _ h_ => h_.1))))) (Kd.R_lt (by (with_reducible repeat (first | apply Kd.R_alloc | apply Kd.R_drewN | apply Kd.R_drew)); exact (Kd.R_mono (Kd.R_far (p := ⟨gb274, 3, none⟩) (Kd.R_far (p := ⟨gb274, 2, none⟩) (Kd.R_far (p := ⟨gb274, 1, none⟩) (Kd.R_far (p := ⟨gb274, 0, none⟩) (Kd.R_types HO268.out BK274.out (by decide)) (fun _ hk => hk.2) (.int .i64 t262)) (fun _ hk => hk.2) (.slice Ao19 t263.length co19)) (fun _ hk => hk.2) (.slice Ao20 t266.length co20)) (fun _ hk => hk.2) (.slice Ao21 t269.length co21)) (fun _ h_ => h_.1))))) (below_size (by repeat (first | (with_reducible first | exact HB.out | apply below_alloc | apply pw_below_drewN | apply below_drew1 | refine below_set ?_ GE274.out) | exact HB.out)))); have n4_ := Aside0.mk (Kd.R_lower (Kd.R_new' (Kd.R_new' ho1 (Kd.R_lt (by (with_reducible repeat (first | apply Kd.R_alloc | apply Kd.R_drewN | apply Kd.R_drew)); exact (Kd.R_mono (Kd.R_far (p := ⟨gb274, 3, none⟩) (Kd.R_far (p := ⟨gb274, 2, none⟩) (Kd.R_far (p := ⟨gb274, 1, none⟩) (Kd.R_far (p := ⟨gb274, 0, none⟩) (Kd.R_types HO265.out BK274.out (by decide)) (fun _ hk => hk.2) (.int .i64 t262)) (fun _ hk => hk.2) (.slice Ao19 t263.length co19)) (fun _ hk => hk.2) (.slice Ao20 t266.length co20)) (fun _ hk => hk.2) (.slice Ao21 t269.length co21)) (fun _ h_ => h_.1))))) (Kd.R_lt (by (with_reducible repeat (first | apply Kd.R_alloc | apply Kd.R_drewN | apply Kd.R_drew)); exact (Kd.R_mono (Kd.R_far (p := ⟨gb274, 3, none⟩) (Kd.R_far (p := ⟨gb274, 2, none⟩) (Kd.R_far (p := ⟨gb274, 1, none⟩) (Kd.R_far (p := ⟨gb274, 0, none⟩) (Kd.R_types HO268.out BK274.out (by decide)) (fun _ hk => hk.2) (.int .i64 t262)) (fun _ hk => hk.2) (.slice Ao19 t263.length co19)) (fun _ hk => hk.2) (.slice Ao20 t266.length co20)) (fun _ hk => hk.2) (.slice Ao21 t269.length co21)) (fun _ h_ => h_.1))))) (below_size (by repeat (first | (with_reducible first | exact HB.out | apply below_alloc | apply pw_below_drewN | apply below_drew1 | refine below_set ?_ GE274.out) | exact HB.out)))); have n5_ := Aside0.mk (Kd.S_lower (Kd.S_new' ho2 (Kd.S_lt (by (with_reducible repeat (first | apply Kd.S_alloc | apply Kd.S_drewN | apply Kd.S_drew)); exact (Kd.S_mono (Kd.S_far (p := ⟨gb274, 3, none⟩) (Kd.S_far (p := ⟨gb274, 2, none⟩) (Kd.S_far (p := ⟨gb274, 1, none⟩) (Kd.S_far (p := ⟨gb274, 0, none⟩) (Kd.S_types HO271.out BK274.out (by decide)) (fun _ hk => hk.2) (.int .i64 t262)) (fun _ hk => hk.2) (.slice Ao19 t263.length co19)) (fun _ hk => hk.2) (.slice Ao20 t266.length co20)) (fun _ hk => hk.2) (.slice Ao21 t269.length co21)) (fun _ h_ => h_.1))))) (below_size (by repeat (first | (with_reducible first | exact HB.out | apply below_alloc | apply pw_below_drewN | apply below_drew1 | refine below_set ?_ GE274.out) | exact HB.out)))); have n6_ := Aside0.mk (blk_below (g := gb274) (o := .cells #[.int .i64 t262, .slice Ao19 t263.length co19, .slice Ao20 t266.length co20, .slice Ao21 t269.length co21] 37 (0, 0)) (by (with_reducible repeat (first | refine blk_drewN ?_ _ | refine blk_drew ?_ | refine blk_alloc ?_ _)); refine blk_put (cs := #[.int .i64 t262, .slice Ao19 t263.length co19, .slice Ao20 t266.length co20, .slice none 0 0]) ?_ 3 _ rfl; (with_reducible repeat (first | refine blk_drewN ?_ _ | refine blk_drew ?_ | refine blk_alloc ?_ _)); refine blk_put (cs := #[.int .i64 t262, .slice Ao19 t263.length co19, .slice none 0 0, .slice none 0 0]) ?_ 2 _ rfl; (with_reducible repeat (first | refine blk_drewN ?_ _ | refine blk_drew ?_ | refine blk_alloc ?_ _)); refine blk_put (cs := #[.int .i64 t262, .slice none 0 0, .slice none 0 0, .slice none 0 0]) ?_ 1 _ rfl; (with_reducible repeat (first | refine blk_drewN ?_ _ | refine blk_drew ?_ | refine blk_alloc ?_ _)); refine blk_put (cs := #[.int .i64 0, .slice none 0 0, .slice none 0 0, .slice none 0 0]) ?_ 0 _ rfl; (with_reducible repeat (first | refine blk_drewN ?_ _ | refine blk_drew ?_ | refine blk_alloc ?_ _)); exact BK274.out) hb); have n7_ := Aside0.mk (below_step (by repeat (first | (with_reducible first | exact HB.out | apply below_alloc | apply pw_below_drewN | apply below_drew1 | refine below_set ?_ GE274.out) | exact HB.out)) hb); clear HO265; clear HO268; clear HO271; clear BK274; clear HB; have HO265 := n0_; have HO268 := n1_; have HO271 := n2_; have HO278 := n3_; have HO281 := n4_; have HO284 := n5_; have BK274 := n6_; have HB := n7_; clear n0_ n1_ n2_ n3_ n4_ n5_ n6_ n7_; (try clear hb); (try clear hb2); (try clear hk); (try clear hi); (try clear ho0); (try clear ho1); (try clear ho2)) | ((with_reducible refine gate_dst (N := 4) rfl ?_); (try (refine gate_guard (by rfl) ?_; dsimp only)); refine box_event ?hg (N := 4) ?hd (cs := #[.int .i64 0, .slice none 0 0, .slice none 0 0, .slice none 0 0]) (t := 37) ?hr ?_; (case hd => rfl); (case hg => rfl); (case hr => first | (go_simp; done) | (go_simp; rfl)); intro gb287 hg w23 hbox hb; have n0_ := Aside0.mk (Kd.R_below (by (with_reducible repeat (first | apply Kd.R_alloc | apply Kd.R_drewN | apply Kd.R_drew)); exact HO265.out) hb); have n1_ := Aside0.mk (Kd.R_below (by (with_reducible repeat (first | apply Kd.R_alloc | apply Kd.R_drewN | apply Kd.R_drew)); exact HO268.out) hb); have n2_ := Aside0.mk (Kd.S_below (by (with_reducible repeat (first | apply Kd.S_alloc | apply Kd.S_drewN | apply Kd.S_drew)); exact HO271.out) hb); have n3_ := Aside0.mk (Kd.R_below (by (with_reducible repeat (first | apply Kd.R_alloc | apply Kd.R_drewN | apply Kd.R_drew)); exact HO278.out) hb); have n4_ := Aside0.mk (Kd.R_below (by (with_reducible repeat (first | apply Kd.R_alloc | apply Kd.R_drewN | apply Kd.R_drew)); exact HO281.out) hb); have n5_ := Aside0.mk (Kd.S_below (by (with_reducible repeat (first | apply Kd.S_alloc | apply Kd.S_drewN | apply Kd.S_drew)); exact HO284.out) hb); have n6_ := Aside0.mk (blk_below BK274.out hb); have n7_ := Aside0.mk (below_step (HB.out) hb); have n8_ := Aside0.mk (hbox); have n9_ := Aside0.mk ((by rw [hg]; exact (below_size (HB.out)) : w.heap.size ≤ gb287)); have n10_ := n9_; have n11_ := Aside0.mk ((by rw [hg]; exact Nat.ne_of_lt (blk_lt BK274.out) : gb274 ≠ gb287)); have n12_ := Aside0.mk ((by rw [hg]; exact Nat.ne_of_gt (blk_lt BK274.out) : gb287 ≠ gb274)); clear HO265; clear HO268; clear HO271; clear HO278; clear HO281; clear HO284; clear BK274; clear HB; have HO265 := n0_; have HO268 := n1_; have HO271 := n2_; have HO278 := n3_; have HO281 := n4_; have HO284 := n5_; have BK274 := n6_; have HB := n7_; have BK287 := n8_; have GW287 := n9_; have GE287 := n10_; have NB274_287 := n11_; have NB287_274 := n12_; clear n0_ n1_ n2_ n3_ n4_ n5_ n6_ n7_ n8_ n9_ n10_ n11_ n12_; clear hb hbox hg; have hnb24 := NB287_274.out; have hnc24 := NB274_287.out; have hcz25_0 : w23.cell? ⟨gb287, 0, none⟩ = some (.int .i64 0) := (blk_cell BK287.out 0).trans rfl; have hcz25_1 : w23.cell? ⟨gb287, 1, none⟩ = some (.slice none 0 0) := (blk_cell BK287.out 1).trans rfl; have hcz25_2 : w23.cell? ⟨gb287, 2, none⟩ = some (.slice none 0 0) := (blk_cell BK287.out 2).trans rfl; have hcz25_3 : w23.cell? ⟨gb287, 3, none⟩ = some (.slice none 0 0) := (blk_cell BK287.out 3).trans rfl; have hfz25_0 := blk_frozen BK287.out 0; have hfz25_1 := blk_frozen BK287.out 1; have hfz25_2 := blk_frozen BK287.out 2; have hfz25_3 := blk_frozen BK287.out 3; obtain ⟨Ao26, co26, eo26⟩ := Kd.R_slice HO278.out; subst eo26; obtain ⟨Ao27, co27, eo27⟩ := Kd.R_slice HO281.out; subst eo27; obtain ⟨Ao28, co28, eo28⟩ := Kd.S_slice HO284.out; subst eo28) | ((with_reducible refine gate_callee (f := 25) rfl ?_); refine goesL_ (some 21) rfl rfl Tryd.func25 (by kernel_rfl) rfl #[.string (⟨#[99, 111, 114, 101, 115, 32, 49, 10]⟩ : ByteArray)] rfl (by (try simp only [List.map_toArray, List.map_cons, List.map_nil]); first | done | rfl | (simp only [List.length_drop, List.length_take]; rfl)) ?_; (with_reducible refine (text_Parse.calls k (⟨#[99, 111, 114, 101, 115, 32, 49, 10]⟩ : ByteArray) t288 t289 t292 t295 t298 t299 _ ?side1 A3.out).mono ?_); (case side1 => first | exact Glob.below HG.out (by repeat (first | (with_reducible first | exact HB.out | apply below_alloc | apply pw_below_drewN | apply below_drew1 | refine below_set ?_ GE274.out | refine below_set ?_ GE287.out) | exact HB.out)) | (repeat (first | exact Glob.below HG.out HB.out | (with_reducible refine Glob.alloc ?_ _) | (with_reducible refine Glob.drewN ?_ _) | (with_reducible refine Glob.drew ?_)))); rintro e w29 ⟨v290, v293, v296, rfl, ho0, ho1, ho2, hb⟩; refine ⟨_, rfl, ?_⟩; have n0_ := Aside0.mk (Kd.R_mono (Kd.R_told (Kd.R_told (Kd.R_old (by (with_reducible repeat (first | apply Kd.R_alloc | apply Kd.R_drewN | apply Kd.R_drew)); exact (Kd.R_mono (Kd.R_far (p := ⟨gb287, 3, none⟩) (Kd.R_far (p := ⟨gb287, 2, none⟩) (Kd.R_far (p := ⟨gb287, 1, none⟩) (Kd.R_far (p := ⟨gb287, 0, none⟩) (Kd.R_types HO265.out BK287.out (by decide)) (fun _ hk => hk.2) (.int .i64 t275)) (fun _ hk => hk.2) (.slice Ao26 t276.length co26)) (fun _ hk => hk.2) (.slice Ao27 t279.length co27)) (fun _ hk => hk.2) (.slice Ao28 t282.length co28)) (fun _ h_ => h_.1))) hb) (Kd.R_base ho0)) (Kd.R_base ho1)) (fun _ h_ => h_.1)); have n1_ := Aside0.mk (Kd.R_mono (Kd.R_told (Kd.R_told (Kd.R_old (by (with_reducible repeat (first | apply Kd.R_alloc | apply Kd.R_drewN | apply Kd.R_drew)); exact (Kd.R_mono (Kd.R_far (p := ⟨gb287, 3, none⟩) (Kd.R_far (p := ⟨gb287, 2, none⟩) (Kd.R_far (p := ⟨gb287, 1, none⟩) (Kd.R_far (p := ⟨gb287, 0, none⟩) (Kd.R_types HO268.out BK287.out (by decide)) (fun _ hk => hk.2) (.int .i64 t275)) (fun _ hk => hk.2) (.slice Ao26 t276.length co26)) (fun _ hk => hk.2) (.slice Ao27 t279.length co27)) (fun _ hk => hk.2) (.slice Ao28 t282.length co28)) (fun _ h_ => h_.1))) hb) (Kd.R_base ho0)) (Kd.R_base ho1)) (fun _ h_ => h_.1)); have n2_ := Aside0.mk (Kd.S_elder' (by (with_reducible repeat (first | apply Kd.S_alloc | apply Kd.S_drewN | apply Kd.S_drew)); exact (Kd.S_mono (Kd.S_far (p := ⟨gb287, 3, none⟩) (Kd.S_far (p := ⟨gb287, 2, none⟩) (Kd.S_far (p := ⟨gb287, 1, none⟩) (Kd.S_far (p := ⟨gb287, 0, none⟩) (Kd.S_types HO271.out BK287.out (by decide)) (fun _ hk => hk.2) (.int .i64 t275)) (fun _ hk => hk.2) (.slice Ao26 t276.length co26)) (fun _ hk => hk.2) (.slice Ao27 t279.length co27)) (fun _ hk => hk.2) (.slice Ao28 t282.length co28)) (fun _ h_ => h_.1))) (Kd.S_base ho2) hb); have n3_ := Aside0.mk (Kd.R_mono (Kd.R_told (Kd.R_told (Kd.R_old (by (with_reducible repeat (first | apply Kd.R_alloc | apply Kd.R_drewN | apply Kd.R_drew)); exact (Kd.R_mono (Kd.R_far (p := ⟨gb287, 3, none⟩) (Kd.R_far (p := ⟨gb287, 2, none⟩) (Kd.R_far (p := ⟨gb287, 1, none⟩) (Kd.R_far (p := ⟨gb287, 0, none⟩) (Kd.R_types HO278.out BK287.out (by decide)) (fun _ hk => hk.2) (.int .i64 t275)) (fun _ hk => hk.2) (.slice Ao26 t276.length co26)) (fun _ hk => hk.2) (.slice Ao27 t279.length co27)) (fun _ hk => hk.2) (.slice Ao28 t282.length co28)) (fun _ h_ => h_.1))) hb) (Kd.R_base ho0)) (Kd.R_base ho1)) (fun _ h_ => h_.1)); have n4_ := Aside0.mk (Kd.R_mono (Kd.R_told (Kd.R_told (Kd.R_old (by (with_reducible repeat (first | apply Kd.R_alloc | apply Kd.R_drewN | apply Kd.R_drew)); exact (Kd.R_mono (Kd.R_far (p := ⟨gb287, 3, none⟩) (Kd.R_far (p := ⟨gb287, 2, none⟩) (Kd.R_far (p := ⟨gb287, 1, none⟩) (Kd.R_far (p := ⟨gb287, 0, none⟩) (Kd.R_types HO281.out BK287.out (by decide)) (fun _ hk => hk.2) (.int .i64 t275)) (fun _ hk => hk.2) (.slice Ao26 t276.length co26)) (fun _ hk => hk.2) (.slice Ao27 t279.length co27)) (fun _ hk => hk.2) (.slice Ao28 t282.length co28)) (fun _ h_ => h_.1))) hb) (Kd.R_base ho0)) (Kd.R_base ho1)) (fun _ h_ => h_.1)); have n5_ := Aside0.mk (Kd.S_elder' (by (with_reducible repeat (first | apply Kd.S_alloc | apply Kd.S_drewN | apply Kd.S_drew)); exact (Kd.S_mono (Kd.S_far (p := ⟨gb287, 3, none⟩) (Kd.S_far (p := ⟨gb287, 2, none⟩) (Kd.S_far (p := ⟨gb287, 1, none⟩) (Kd.S_far (p := ⟨gb287, 0, none⟩) (Kd.S_types HO284.out BK287.out (by decide)) (fun _ hk => hk.2) (.int .i64 t275)) (fun _ hk => hk.2) (.slice Ao26 t276.length co26)) (fun _ hk => hk.2) (.slice Ao27 t279.length co27)) (fun _ hk => hk.2) (.slice Ao28 t282.length co28)) (fun _ h_ => h_.1))) (Kd.S_base ho2) hb); have n6_ := Aside0.mk (Kd.R_lower (Kd.R_new' (Kd.R_new' (Kd.R_new' (Kd.R_new' ho0 (Kd.R_lt (by (with_reducible repeat (first | apply Kd.R_alloc | apply Kd.R_drewN | apply Kd.R_drew)); exact (Kd.R_mono (Kd.R_far (p := ⟨gb287, 3, none⟩) (Kd.R_far (p := ⟨gb287, 2, none⟩) (Kd.R_far (p := ⟨gb287, 1, none⟩) (Kd.R_far (p := ⟨gb287, 0, none⟩) (Kd.R_types HO265.out BK287.out (by decide)) (fun _ hk => hk.2) (.int .i64 t275)) (fun _ hk => hk.2) (.slice Ao26 t276.length co26)) (fun _ hk => hk.2) (.slice Ao27 t279.length co27)) (fun _ hk => hk.2) (.slice Ao28 t282.length co28)) (fun _ h_ => h_.1))))) (Kd.R_lt (by (with_reducible repeat (first | apply Kd.R_alloc | apply Kd.R_drewN | apply Kd.R_drew)); exact (Kd.R_mono (Kd.R_far (p := ⟨gb287, 3, none⟩) (Kd.R_far (p := ⟨gb287, 2, none⟩) (Kd.R_far (p := ⟨gb287, 1, none⟩) (Kd.R_far (p := ⟨gb287, 0, none⟩) (Kd.R_types HO268.out BK287.out (by decide)) (fun _ hk => hk.2) (.int .i64 t275)) (fun _ hk => hk.2) (.slice Ao26 t276.length co26)) (fun _ hk => hk.2) (.slice Ao27 t279.length co27)) (fun _ hk => hk.2) (.slice Ao28 t282.length co28)) (fun _ h_ => h_.1))))) (Kd.R_lt (by (with_reducible repeat (first | apply Kd.R_alloc | apply Kd.R_drewN | apply Kd.R_drew)); exact (Kd.R_mono (Kd.R_far (p := ⟨gb287, 3, none⟩) (Kd.R_far (p := ⟨gb287, 2, none⟩) (Kd.R_far (p := ⟨gb287, 1, none⟩) (Kd.R_far (p := ⟨gb287, 0, none⟩) (Kd.R_types HO278.out BK287.out (by decide)) (fun _ hk => hk.2) (.int .i64 t275)) (fun _ hk => hk.2) (.slice Ao26 t276.length co26)) (fun _ hk => hk.2) (.slice Ao27 t279.length co27)) (fun _ hk => hk.2) (.slice Ao28 t282.length co28)) (fun _ h_ => h_.1))))) (Kd.R_lt (by (with_reducible repeat (first | apply Kd.R_alloc | apply Kd.R_drewN | apply Kd.R_drew)); exact (Kd.R_mono (Kd.R_far (p := ⟨gb287, 3, none⟩) (Kd.R_far (p := ⟨gb287, 2, none⟩) (Kd.R_far (p := ⟨gb287, 1, none⟩) (Kd.R_far (p := ⟨gb287, 0, none⟩) (Kd.R_types HO281.out BK287.out (by decide)) (fun _ hk => hk.2) (.int .i64 t275)) (fun _ hk => hk.2) (.slice Ao26 t276.length co26)) (fun _ hk => hk.2) (.slice Ao27 t279.length co27)) (fun _ hk => hk.2) (.slice Ao28 t282.length co28)) (fun _ h_ => h_.1))))) (below_size (by repeat (first | (with_reducible first | exact HB.out | apply below_alloc | apply pw_below_drewN | apply below_drew1 | refine below_set ?_ GE274.out | refine below_set ?_ GE287.out) | exact HB.out)))); have n7_ := Aside0.mk (Kd.R_lower (Kd.R_new' (Kd.R_new' (Kd.R_new' (Kd.R_new' ho1 (Kd.R_lt (by (with_reducible repeat (first | apply Kd.R_alloc | apply Kd.R_drewN | apply Kd.R_drew)); exact (Kd.R_mono (Kd.R_far (p := ⟨gb287, 3, none⟩) (Kd.R_far (p := ⟨gb287, 2, none⟩) (Kd.R_far (p := ⟨gb287, 1, none⟩) (Kd.R_far (p := ⟨gb287, 0, none⟩) (Kd.R_types HO265.out BK287.out (by decide)) (fun _ hk => hk.2) (.int .i64 t275)) (fun _ hk => hk.2) (.slice Ao26 t276.length co26)) (fun _ hk => hk.2) (.slice Ao27 t279.length co27)) (fun _ hk => hk.2) (.slice Ao28 t282.length co28)) (fun _ h_ => h_.1))))) (Kd.R_lt (by (with_reducible repeat (first | apply Kd.R_alloc | apply Kd.R_drewN | apply Kd.R_drew)); exact (Kd.R_mono (Kd.R_far (p := ⟨gb287, 3, none⟩) (Kd.R_far (p := ⟨gb287, 2, none⟩) (Kd.R_far (p := ⟨gb287, 1, none⟩) (Kd.R_far (p := ⟨gb287, 0, none⟩) (Kd.R_types HO268.out BK287.out (by decide)) (fun _ hk => hk.2) (.int .i64 t275)) (fun _ hk => hk.2) (.slice Ao26 t276.length co26)) (fun _ hk => hk.2) (.slice Ao27 t279.length co27)) (fun _ hk => hk.2) (.slice Ao28 t282.length co28)) (fun _ h_ => h_.1))))) (Kd.R_lt (by (with_reducible repeat (first | apply Kd.R_alloc | apply Kd.R_drewN | apply Kd.R_drew)); exact (Kd.R_mono (Kd.R_far (p := ⟨gb287, 3, none⟩) (Kd.R_far (p := ⟨gb287, 2, none⟩) (Kd.R_far (p := ⟨gb287, 1, none⟩) (Kd.R_far (p := ⟨gb287, 0, none⟩) (Kd.R_types HO278.out BK287.out (by decide)) (fun _ hk => hk.2) (.int .i64 t275)) (fun _ hk => hk.2) (.slice Ao26 t276.length co26)) (fun _ hk => hk.2) (.slice Ao27 t279.length co27)) (fun _ hk => hk.2) (.slice Ao28 t282.length co28)) (fun _ h_ => h_.1))))) (Kd.R_lt (by (with_reducible repeat (first | apply Kd.R_alloc | apply Kd.R_drewN | apply Kd.R_drew)); exact (Kd.R_mono (Kd.R_far (p := ⟨gb287, 3, none⟩) (Kd.R_far (p := ⟨gb287, 2, none⟩) (Kd.R_far (p := ⟨gb287, 1, none⟩) (Kd.R_far (p := ⟨gb287, 0, none⟩) (Kd.R_types HO281.out BK287.out (by decide)) (fun _ hk => hk.2) (.int .i64 t275)) (fun _ hk => hk.2) (.slice Ao26 t276.length co26)) (fun _ hk => hk.2) (.slice Ao27 t279.length co27)) (fun _ hk => hk.2) (.slice Ao28 t282.length co28)) (fun _ h_ => h_.1))))) (below_size (by repeat (first | (with_reducible first | exact HB.out | apply below_alloc | apply pw_below_drewN | apply below_drew1 | refine below_set ?_ GE274.out | refine below_set ?_ GE287.out) | exact HB.out)))); have n8_ := Aside0.mk (Kd.S_lower (Kd.S_new' (Kd.S_new' ho2 (Kd.S_lt (by (with_reducible repeat (first | apply Kd.S_alloc | apply Kd.S_drewN | apply Kd.S_drew)); exact (Kd.S_mono (Kd.S_far (p := ⟨gb287, 3, none⟩) (Kd.S_far (p := ⟨gb287, 2, none⟩) (Kd.S_far (p := ⟨gb287, 1, none⟩) (Kd.S_far (p := ⟨gb287, 0, none⟩) (Kd.S_types HO271.out BK287.out (by decide)) (fun _ hk => hk.2) (.int .i64 t275)) (fun _ hk => hk.2) (.slice Ao26 t276.length co26)) (fun _ hk => hk.2) (.slice Ao27 t279.length co27)) (fun _ hk => hk.2) (.slice Ao28 t282.length co28)) (fun _ h_ => h_.1))))) (Kd.S_lt (by (with_reducible repeat (first | apply Kd.S_alloc | apply Kd.S_drewN | apply Kd.S_drew)); exact (Kd.S_mono (Kd.S_far (p := ⟨gb287, 3, none⟩) (Kd.S_far (p := ⟨gb287, 2, none⟩) (Kd.S_far (p := ⟨gb287, 1, none⟩) (Kd.S_far (p := ⟨gb287, 0, none⟩) (Kd.S_types HO284.out BK287.out (by decide)) (fun _ hk => hk.2) (.int .i64 t275)) (fun _ hk => hk.2) (.slice Ao26 t276.length co26)) (fun _ hk => hk.2) (.slice Ao27 t279.length co27)) (fun _ hk => hk.2) (.slice Ao28 t282.length co28)) (fun _ h_ => h_.1))))) (below_size (by repeat (first | (with_reducible first | exact HB.out | apply below_alloc | apply pw_below_drewN | apply below_drew1 | refine below_set ?_ GE274.out | refine below_set ?_ GE287.out) | exact HB.out)))); have n9_ := Aside0.mk (blk_below (g := gb274) (o := .cells #[.int .i64 t262, .slice Ao19 t263.length co19, .slice Ao20 t266.length co20, .slice Ao21 t269.length co21] 37 (0, 0)) (by (with_reducible repeat (first | refine blk_drewN ?_ _ | refine blk_drew ?_ | refine blk_alloc ?_ _)); refine blk_far ?_ NB274_287.out _; (with_reducible repeat (first | refine blk_drewN ?_ _ | refine blk_drew ?_ | refine blk_alloc ?_ _)); refine blk_far ?_ NB274_287.out _; (with_reducible repeat (first | refine blk_drewN ?_ _ | refine blk_drew ?_ | refine blk_alloc ?_ _)); refine blk_far ?_ NB274_287.out _; (with_reducible repeat (first | refine blk_drewN ?_ _ | refine blk_drew ?_ | refine blk_alloc ?_ _)); refine blk_far ?_ NB274_287.out _; (with_reducible repeat (first | refine blk_drewN ?_ _ | refine blk_drew ?_ | refine blk_alloc ?_ _)); exact BK274.out) hb); have n10_ := Aside0.mk (blk_below (g := gb287) (o := .cells #[.int .i64 t275, .slice Ao26 t276.length co26, .slice Ao27 t279.length co27, .slice Ao28 t282.length co28] 37 (0, 0)) (by (with_reducible repeat (first | refine blk_drewN ?_ _ | refine blk_drew ?_ | refine blk_alloc ?_ _)); refine blk_put (cs := #[.int .i64 t275, .slice Ao26 t276.length co26, .slice Ao27 t279.length co27, .slice none 0 0]) ?_ 3 _ rfl; (with_reducible repeat (first | refine blk_drewN ?_ _ | refine blk_drew ?_ | refine blk_alloc ?_ _)); refine blk_put (cs := #[.int .i64 t275, .slice Ao26 t276.length co26, .slice none 0 0, .slice none 0 0]) ?_ 2 _ rfl; (with_reducible repeat (first | refine blk_drewN ?_ _ | refine blk_drew ?_ | refine blk_alloc ?_ _)); refine blk_put (cs := #[.int .i64 t275, .slice none 0 0, .slice none 0 0, .slice none 0 0]) ?_ 1 _ rfl; (with_reducible repeat (first | refine blk_drewN ?_ _ | refine blk_drew ?_ | refine blk_alloc ?_ _)); refine blk_put (cs := #[.int .i64 0, .slice none 0 0, .slice none 0 0, .slice none 0 0]) ?_ 0 _ rfl; (with_reducible repeat (first | refine blk_drewN ?_ _ | refine blk_drew ?_ | refine blk_alloc ?_ _)); exact BK287.out) hb); have n11_ := Aside0.mk (below_step (by repeat (first | (with_reducible first | exact HB.out | apply below_alloc | apply pw_below_drewN | apply below_drew1 | refine below_set ?_ GE274.out | refine below_set ?_ GE287.out) | exact HB.out)) hb); clear HO265; clear HO268; clear HO271; clear HO278; clear HO281; clear HO284; clear BK274; clear BK287; clear HB; have HO265 := n0_; have HO268 := n1_; have HO271 := n2_; have HO278 := n3_; have HO281 := n4_; have HO284 := n5_; have HO291 := n6_; have HO294 := n7_; have HO297 := n8_; have BK274 := n9_; have BK287 := n10_; have HB := n11_; clear n0_ n1_ n2_ n3_ n4_ n5_ n6_ n7_ n8_ n9_ n10_ n11_; (try clear hb); (try clear hb2); (try clear hk); (try clear hi); (try clear ho0); (try clear ho1); (try clear ho2)) | ((with_reducible refine gate_dst (N := 7) rfl ?_); (try (refine gate_guard (by rfl) ?_; dsimp only)); refine box_event ?hg (N := 7) ?hd (cs := #[.int .i64 0, .slice none 0 0, .slice none 0 0, .slice none 0 0]) (t := 37) ?hr ?_; (case hd => rfl); (case hg => rfl); (case hr => first | (go_simp; done) | (go_simp; rfl)); intro gb300 hg w30 hbox hb; have n0_ := Aside0.mk (Kd.R_below (by (with_reducible repeat (first | apply Kd.R_alloc | apply Kd.R_drewN | apply Kd.R_drew)); exact HO265.out) hb); have n1_ := Aside0.mk (Kd.R_below (by (with_reducible repeat (first | apply Kd.R_alloc | apply Kd.R_drewN | apply Kd.R_drew)); exact HO268.out) hb); have n2_ := Aside0.mk (Kd.S_below (by (with_reducible repeat (first | apply Kd.S_alloc | apply Kd.S_drewN | apply Kd.S_drew)); exact HO271.out) hb); have n3_ := Aside0.mk (Kd.R_below (by (with_reducible repeat (first | apply Kd.R_alloc | apply Kd.R_drewN | apply Kd.R_drew)); exact HO278.out) hb); have n4_ := Aside0.mk (Kd.R_below (by (with_reducible repeat (first | apply Kd.R_alloc | apply Kd.R_drewN | apply Kd.R_drew)); exact HO281.out) hb); have n5_ := Aside0.mk (Kd.S_below (by (with_reducible repeat (first | apply Kd.S_alloc | apply Kd.S_drewN | apply Kd.S_drew)); exact HO284.out) hb); have n6_ := Aside0.mk (Kd.R_below (by (with_reducible repeat (first | apply Kd.R_alloc | apply Kd.R_drewN | apply Kd.R_drew)); exact HO291.out) hb); have n7_ := Aside0.mk (Kd.R_below (by (with_reducible repeat (first | apply Kd.R_alloc | apply Kd.R_drewN | apply Kd.R_drew)); exact HO294.out) hb); have n8_ := Aside0.mk (Kd.S_below (by (with_reducible repeat (first | apply Kd.S_alloc | apply Kd.S_drewN | apply Kd.S_drew)); exact HO297.out) hb); have n9_ := Aside0.mk (blk_below BK274.out hb); have n10_ := Aside0.mk (blk_below BK287.out hb); have n11_ := Aside0.mk (below_step (HB.out) hb); have n12_ := Aside0.mk (hbox); have n13_ := Aside0.mk ((by rw [hg]; exact (below_size (HB.out)) : w.heap.size ≤ gb300)); have n14_ := n13_; have n15_ := Aside0.mk ((by rw [hg]; exact Nat.ne_of_lt (blk_lt BK274.out) : gb274 ≠ gb300)); have n16_ := Aside0.mk ((by rw [hg]; exact Nat.ne_of_gt (blk_lt BK274.out) : gb300 ≠ gb274)); have n17_ := Aside0.mk ((by rw [hg]; exact Nat.ne_of_lt (blk_lt BK287.out) : gb287 ≠ gb300)); have n18_ := Aside0.mk ((by rw [hg]; exact Nat.ne_of_gt (blk_lt BK287.out) : gb300 ≠ gb287)); clear HO265; clear HO268; clear HO271; clear HO278; clear HO281; clear HO284; clear HO291; clear HO294; clear HO297; clear BK274; clear BK287; clear HB; have HO265 := n0_; have HO268 := n1_; have HO271 := n2_; have HO278 := n3_; have HO281 := n4_; have HO284 := n5_; have HO291 := n6_; have HO294 := n7_; have HO297 := n8_; have BK274 := n9_; have BK287 := n10_; have HB := n11_; have BK300 := n12_; have GW300 := n13_; have GE300 := n14_; have NB274_300 := n15_; have NB300_274 := n16_; have NB287_300 := n17_; have NB300_287 := n18_; clear n0_ n1_ n2_ n3_ n4_ n5_ n6_ n7_ n8_ n9_ n10_ n11_ n12_ n13_ n14_ n15_ n16_ n17_ n18_; clear hb hbox hg; have hnb31 := NB300_274.out; have hnc31 := NB274_300.out; have hnb32 := NB300_287.out; have hnc32 := NB287_300.out; have hcz33_0 : w30.cell? ⟨gb300, 0, none⟩ = some (.int .i64 0) := (blk_cell BK300.out 0).trans rfl; have hcz33_1 : w30.cell? ⟨gb300, 1, none⟩ = some (.slice none 0 0) := (blk_cell BK300.out 1).trans rfl; have hcz33_2 : w30.cell? ⟨gb300, 2, none⟩ = some (.slice none 0 0) := (blk_cell BK300.out 2).trans rfl; have hcz33_3 : w30.cell? ⟨gb300, 3, none⟩ = some (.slice none 0 0) := (blk_cell BK300.out 3).trans rfl; have hfz33_0 := blk_frozen BK300.out 0; have hfz33_1 := blk_frozen BK300.out 1; have hfz33_2 := blk_frozen BK300.out 2; have hfz33_3 := blk_frozen BK300.out 3; obtain ⟨Ao34, co34, eo34⟩ := Kd.R_slice HO291.out; subst eo34; obtain ⟨Ao35, co35, eo35⟩ := Kd.R_slice HO294.out; subst eo35; obtain ⟨Ao36, co36, eo36⟩ := Kd.S_slice HO297.out; subst eo36) | ((with_reducible refine gate_store (t := 37) (p := 7) rfl ?_); refine store_event (t := 37) (p := 7) (v := ?vo_w37) (w1 := ((((w30.setCell ⟨gb300, 0, none⟩ (.int .i64 t288)).setCell ⟨gb300, 1, none⟩ (.slice Ao34 t289.length co34)).setCell ⟨gb300, 2, none⟩ (.slice Ao35 t292.length co35)).setCell ⟨gb300, 3, none⟩ (.slice Ao36 t295.length co36))) ?hg ?ho ?hn ?hr ?_; (case ho => rfl); (case hg => rfl); (case hn => rfl); (case hr => first | (go_simp; done) | (go_simp; rfl)); intro w37 hw; have n0_ : Aside0 (Kd.R (Kd.int .i64) 3 w37 w.heap.size (fun k_ => some k_ ≠ (.slice Ao20 t266.length co20 : Value).ownBlock ∧ some k_ ≠ (.slice Ao26 t276.length co26 : Value).ownBlock ∧ some k_ ≠ (.slice Ao27 t279.length co27 : Value).ownBlock ∧ some k_ ≠ (.slice Ao34 t289.length co34 : Value).ownBlock ∧ some k_ ≠ (.slice Ao35 t292.length co35 : Value).ownBlock) (.slice Ao19 t263.length co19) t263) := ⟨(by rw [hw]; exact (by (with_reducible repeat (first | apply Kd.R_alloc | apply Kd.R_drewN | apply Kd.R_drew)); exact Kd.R_mono (Kd.R_far (p := ⟨gb300, 3, none⟩) (Kd.R_far (p := ⟨gb300, 2, none⟩) (Kd.R_far (p := ⟨gb300, 1, none⟩) (Kd.R_far (p := ⟨gb300, 0, none⟩) (Kd.R_types HO265.out BK300.out (by decide)) (fun _ hk => hk.2) (.int .i64 t288)) (fun _ hk => hk.2) (.slice Ao34 t289.length co34)) (fun _ hk => hk.2) (.slice Ao35 t292.length co35)) (fun _ hk => hk.2) (.slice Ao36 t295.length co36)) (fun _ hk => ⟨hk.1.1.1.1.1, ⟨hk.1.1.1.1.2, ⟨hk.1.1.1.2, ⟨hk.1.1.2, hk.1.2⟩⟩⟩⟩)))⟩; have n1_ : Aside0 (Kd.R (Kd.int .i64) 3 w37 w.heap.size (fun k_ => some k_ ≠ (.slice Ao19 t263.length co19 : Value).ownBlock ∧ some k_ ≠ (.slice Ao26 t276.length co26 : Value).ownBlock ∧ some k_ ≠ (.slice Ao27 t279.length co27 : Value).ownBlock ∧ some k_ ≠ (.slice Ao34 t289.length co34 : Value).ownBlock ∧ some k_ ≠ (.slice Ao35 t292.length co35 : Value).ownBlock) (.slice Ao20 t266.length co20) t266) := ⟨(by rw [hw]; exact (by (with_reducible repeat (first | apply Kd.R_alloc | apply Kd.R_drewN | apply Kd.R_drew)); exact Kd.R_mono (Kd.R_far (p := ⟨gb300, 3, none⟩) (Kd.R_far (p := ⟨gb300, 2, none⟩) (Kd.R_far (p := ⟨gb300, 1, none⟩) (Kd.R_far (p := ⟨gb300, 0, none⟩) (Kd.R_types HO268.out BK300.out (by decide)) (fun _ hk => hk.2) (.int .i64 t288)) (fun _ hk => hk.2) (.slice Ao34 t289.length co34)) (fun _ hk => hk.2) (.slice Ao35 t292.length co35)) (fun _ hk => hk.2) (.slice Ao36 t295.length co36)) (fun _ hk => ⟨hk.1.1.1.1.1, ⟨hk.1.1.1.1.2, ⟨hk.1.1.1.2, ⟨hk.1.1.2, hk.1.2⟩⟩⟩⟩)))⟩; have n2_ : Aside0 (Kd.S k53 53 w37 w.heap.size (fun k_ => some k_ ≠ (.slice Ao28 t282.length co28 : Value).ownBlock ∧ some k_ ≠ (.slice Ao36 t295.length co36 : Value).ownBlock) (.slice Ao21 t269.length co21) t269) := ⟨(by rw [hw]; exact (by (with_reducible repeat (first | apply Kd.S_alloc | apply Kd.S_drewN | apply Kd.S_drew)); exact Kd.S_mono (Kd.S_far (p := ⟨gb300, 3, none⟩) (Kd.S_far (p := ⟨gb300, 2, none⟩) (Kd.S_far (p := ⟨gb300, 1, none⟩) (Kd.S_far (p := ⟨gb300, 0, none⟩) (Kd.S_types HO271.out BK300.out (by decide)) (fun _ hk => hk.2) (.int .i64 t288)) (fun _ hk => hk.2) (.slice Ao34 t289.length co34)) (fun _ hk => hk.2) (.slice Ao35 t292.length co35)) (fun _ hk => hk.2) (.slice Ao36 t295.length co36)) (fun _ hk => ⟨hk.1.1.2, hk.1.2⟩)))⟩; have n3_ : Aside0 (Kd.R (Kd.int .i64) 3 w37 w.heap.size (fun k_ => some k_ ≠ (.slice Ao19 t263.length co19 : Value).ownBlock ∧ some k_ ≠ (.slice Ao20 t266.length co20 : Value).ownBlock ∧ some k_ ≠ (.slice Ao27 t279.length co27 : Value).ownBlock ∧ some k_ ≠ (.slice Ao34 t289.length co34 : Value).ownBlock ∧ some k_ ≠ (.slice Ao35 t292.length co35 : Value).ownBlock) (.slice Ao26 t276.length co26) t276) := ⟨(by rw [hw]; exact (by (with_reducible repeat (first | apply Kd.R_alloc | apply Kd.R_drewN | apply Kd.R_drew)); exact Kd.R_mono (Kd.R_far (p := ⟨gb300, 3, none⟩) (Kd.R_far (p := ⟨gb300, 2, none⟩) (Kd.R_far (p := ⟨gb300, 1, none⟩) (Kd.R_far (p := ⟨gb300, 0, none⟩) (Kd.R_types HO278.out BK300.out (by decide)) (fun _ hk => hk.2) (.int .i64 t288)) (fun _ hk => hk.2) (.slice Ao34 t289.length co34)) (fun _ hk => hk.2) (.slice Ao35 t292.length co35)) (fun _ hk => hk.2) (.slice Ao36 t295.length co36)) (fun _ hk => ⟨hk.1.1.1.1.2, ⟨hk.1.1.1.2, ⟨hk.1.1.1.1.1, ⟨hk.1.1.2, hk.1.2⟩⟩⟩⟩)))⟩; have n4_ : Aside0 (Kd.R (Kd.int .i64) 3 w37 w.heap.size (fun k_ => some k_ ≠ (.slice Ao19 t263.length co19 : Value).ownBlock ∧ some k_ ≠ (.slice Ao20 t266.length co20 : Value).ownBlock ∧ some k_ ≠ (.slice Ao26 t276.length co26 : Value).ownBlock ∧ some k_ ≠ (.slice Ao34 t289.length co34 : Value).ownBlock ∧ some k_ ≠ (.slice Ao35 t292.length co35 : Value).ownBlock) (.slice Ao27 t279.length co27) t279) := ⟨(by rw [hw]; exact (by (with_reducible repeat (first | apply Kd.R_alloc | apply Kd.R_drewN | apply Kd.R_drew)); exact Kd.R_mono (Kd.R_far (p := ⟨gb300, 3, none⟩) (Kd.R_far (p := ⟨gb300, 2, none⟩) (Kd.R_far (p := ⟨gb300, 1, none⟩) (Kd.R_far (p := ⟨gb300, 0, none⟩) (Kd.R_types HO281.out BK300.out (by decide)) (fun _ hk => hk.2) (.int .i64 t288)) (fun _ hk => hk.2) (.slice Ao34 t289.length co34)) (fun _ hk => hk.2) (.slice Ao35 t292.length co35)) (fun _ hk => hk.2) (.slice Ao36 t295.length co36)) (fun _ hk => ⟨hk.1.1.1.1.2, ⟨hk.1.1.1.2, ⟨hk.1.1.1.1.1, ⟨hk.1.1.2, hk.1.2⟩⟩⟩⟩)))⟩; have n5_ : Aside0 (Kd.S k53 53 w37 w.heap.size (fun k_ => some k_ ≠ (.slice Ao21 t269.length co21 : Value).ownBlock ∧ some k_ ≠ (.slice Ao36 t295.length co36 : Value).ownBlock) (.slice Ao28 t282.length co28) t282) := ⟨(by rw [hw]; exact (by (with_reducible repeat (first | apply Kd.S_alloc | apply Kd.S_drewN | apply Kd.S_drew)); exact Kd.S_mono (Kd.S_far (p := ⟨gb300, 3, none⟩) (Kd.S_far (p := ⟨gb300, 2, none⟩) (Kd.S_far (p := ⟨gb300, 1, none⟩) (Kd.S_far (p := ⟨gb300, 0, none⟩) (Kd.S_types HO284.out BK300.out (by decide)) (fun _ hk => hk.2) (.int .i64 t288)) (fun _ hk => hk.2) (.slice Ao34 t289.length co34)) (fun _ hk => hk.2) (.slice Ao35 t292.length co35)) (fun _ hk => hk.2) (.slice Ao36 t295.length co36)) (fun _ hk => ⟨hk.1.1.2, hk.1.2⟩)))⟩; have n6_ : Aside0 (Kd.R (Kd.int .i64) 3 w37 w.heap.size (fun k_ => some k_ ≠ (.slice Ao19 t263.length co19 : Value).ownBlock ∧ some k_ ≠ (.slice Ao20 t266.length co20 : Value).ownBlock ∧ some k_ ≠ (.slice Ao26 t276.length co26 : Value).ownBlock ∧ some k_ ≠ (.slice Ao27 t279.length co27 : Value).ownBlock ∧ some k_ ≠ (.slice Ao35 t292.length co35 : Value).ownBlock) (.slice Ao34 t289.length co34) t289) := ⟨(by rw [hw]; exact (by (with_reducible repeat (first | apply Kd.R_alloc | apply Kd.R_drewN | apply Kd.R_drew)); exact Kd.R_mono (Kd.R_far (p := ⟨gb300, 3, none⟩) (Kd.R_far (p := ⟨gb300, 2, none⟩) (Kd.R_far (p := ⟨gb300, 1, none⟩) (Kd.R_far (p := ⟨gb300, 0, none⟩) (Kd.R_types HO291.out BK300.out (by decide)) (fun _ hk => hk.2) (.int .i64 t288)) (fun _ hk => hk.2) (.slice Ao34 t289.length co34)) (fun _ hk => hk.2) (.slice Ao35 t292.length co35)) (fun _ hk => hk.2) (.slice Ao36 t295.length co36)) (fun _ hk => ⟨hk.1.1.1.1.2, ⟨hk.1.1.1.2, ⟨hk.1.1.2, ⟨hk.1.2, hk.1.1.1.1.1⟩⟩⟩⟩)))⟩; have n7_ : Aside0 (Kd.R (Kd.int .i64) 3 w37 w.heap.size (fun k_ => some k_ ≠ (.slice Ao19 t263.length co19 : Value).ownBlock ∧ some k_ ≠ (.slice Ao20 t266.length co20 : Value).ownBlock ∧ some k_ ≠ (.slice Ao26 t276.length co26 : Value).ownBlock ∧ some k_ ≠ (.slice Ao27 t279.length co27 : Value).ownBlock ∧ some k_ ≠ (.slice Ao34 t289.length co34 : Value).ownBlock) (.slice Ao35 t292.length co35) t292) := ⟨(by rw [hw]; exact (by (with_reducible repeat (first | apply Kd.R_alloc | apply Kd.R_drewN | apply Kd.R_drew)); exact Kd.R_mono (Kd.R_far (p := ⟨gb300, 3, none⟩) (Kd.R_far (p := ⟨gb300, 2, none⟩) (Kd.R_far (p := ⟨gb300, 1, none⟩) (Kd.R_far (p := ⟨gb300, 0, none⟩) (Kd.R_types HO294.out BK300.out (by decide)) (fun _ hk => hk.2) (.int .i64 t288)) (fun _ hk => hk.2) (.slice Ao34 t289.length co34)) (fun _ hk => hk.2) (.slice Ao35 t292.length co35)) (fun _ hk => hk.2) (.slice Ao36 t295.length co36)) (fun _ hk => ⟨hk.1.1.1.1.2, ⟨hk.1.1.1.2, ⟨hk.1.1.2, ⟨hk.1.2, hk.1.1.1.1.1⟩⟩⟩⟩)))⟩; have n8_ : Aside0 (Kd.S k53 53 w37 w.heap.size (fun k_ => some k_ ≠ (.slice Ao21 t269.length co21 : Value).ownBlock ∧ some k_ ≠ (.slice Ao28 t282.length co28 : Value).ownBlock) (.slice Ao36 t295.length co36) t295) := ⟨(by rw [hw]; exact (by (with_reducible repeat (first | apply Kd.S_alloc | apply Kd.S_drewN | apply Kd.S_drew)); exact Kd.S_mono (Kd.S_far (p := ⟨gb300, 3, none⟩) (Kd.S_far (p := ⟨gb300, 2, none⟩) (Kd.S_far (p := ⟨gb300, 1, none⟩) (Kd.S_far (p := ⟨gb300, 0, none⟩) (Kd.S_types HO297.out BK300.out (by decide)) (fun _ hk => hk.2) (.int .i64 t288)) (fun _ hk => hk.2) (.slice Ao34 t289.length co34)) (fun _ hk => hk.2) (.slice Ao35 t292.length co35)) (fun _ hk => hk.2) (.slice Ao36 t295.length co36)) (fun _ hk => ⟨hk.1.1.2, hk.1.2⟩)))⟩; have n9_ : Aside0 (w37.heap[gb274]? = some (.cells #[.int .i64 t262, .slice Ao19 t263.length co19, .slice Ao20 t266.length co20, .slice Ao21 t269.length co21] 37 (0, 0))) := ⟨(by rw [hw]; exact (by (with_reducible repeat (first | refine blk_drewN ?_ _ | refine blk_drew ?_ | refine blk_alloc ?_ _)); refine blk_far ?_ NB274_300.out _; (with_reducible repeat (first | refine blk_drewN ?_ _ | refine blk_drew ?_ | refine blk_alloc ?_ _)); refine blk_far ?_ NB274_300.out _; (with_reducible repeat (first | refine blk_drewN ?_ _ | refine blk_drew ?_ | refine blk_alloc ?_ _)); refine blk_far ?_ NB274_300.out _; (with_reducible repeat (first | refine blk_drewN ?_ _ | refine blk_drew ?_ | refine blk_alloc ?_ _)); refine blk_far ?_ NB274_300.out _; (with_reducible repeat (first | refine blk_drewN ?_ _ | refine blk_drew ?_ | refine blk_alloc ?_ _)); exact BK274.out))⟩; have n10_ : Aside0 (w37.heap[gb287]? = some (.cells #[.int .i64 t275, .slice Ao26 t276.length co26, .slice Ao27 t279.length co27, .slice Ao28 t282.length co28] 37 (0, 0))) := ⟨(by rw [hw]; exact (by (with_reducible repeat (first | refine blk_drewN ?_ _ | refine blk_drew ?_ | refine blk_alloc ?_ _)); refine blk_far ?_ NB287_300.out _; (with_reducible repeat (first | refine blk_drewN ?_ _ | refine blk_drew ?_ | refine blk_alloc ?_ _)); refine blk_far ?_ NB287_300.out _; (with_reducible repeat (first | refine blk_drewN ?_ _ | refine blk_drew ?_ | refine blk_alloc ?_ _)); refine blk_far ?_ NB287_300.out _; (with_reducible repeat (first | refine blk_drewN ?_ _ | refine blk_drew ?_ | refine blk_alloc ?_ _)); refine blk_far ?_ NB287_300.out _; (with_reducible repeat (first | refine blk_drewN ?_ _ | refine blk_drew ?_ | refine blk_alloc ?_ _)); exact BK287.out))⟩; have n11_ : Aside0 (w37.heap[gb300]? = some (.cells #[.int .i64 t288, .slice Ao34 t289.length co34, .slice Ao35 t292.length co35, .slice Ao36 t295.length co36] 37 (0, 0))) := ⟨(by rw [hw]; exact (by (with_reducible repeat (first | refine blk_drewN ?_ _ | refine blk_drew ?_ | refine blk_alloc ?_ _)); refine blk_put (cs := #[.int .i64 t288, .slice Ao34 t289.length co34, .slice Ao35 t292.length co35, .slice none 0 0]) ?_ 3 _ rfl; (with_reducible repeat (first | refine blk_drewN ?_ _ | refine blk_drew ?_ | refine blk_alloc ?_ _)); refine blk_put (cs := #[.int .i64 t288, .slice Ao34 t289.length co34, .slice none 0 0, .slice none 0 0]) ?_ 2 _ rfl; (with_reducible repeat (first | refine blk_drewN ?_ _ | refine blk_drew ?_ | refine blk_alloc ?_ _)); refine blk_put (cs := #[.int .i64 t288, .slice none 0 0, .slice none 0 0, .slice none 0 0]) ?_ 1 _ rfl; (with_reducible repeat (first | refine blk_drewN ?_ _ | refine blk_drew ?_ | refine blk_alloc ?_ _)); refine blk_put (cs := #[.int .i64 0, .slice none 0 0, .slice none 0 0, .slice none 0 0]) ?_ 0 _ rfl; (with_reducible repeat (first | refine blk_drewN ?_ _ | refine blk_drew ?_ | refine blk_alloc ?_ _)); exact BK300.out))⟩; have n12_ : Aside0 (Below w.heap.size w w37) := ⟨(by rw [hw]; exact (by repeat (first | (with_reducible first | exact HB.out | apply below_alloc | apply pw_below_drewN | apply below_drew1 | refine below_set ?_ GE274.out | refine below_set ?_ GE287.out | refine below_set ?_ GE300.out) | exact HB.out)))⟩; clear hw; clear HO265; clear HO268; clear HO271; clear HO278; clear HO281; clear HO284; clear HO291; clear HO294; clear HO297; clear BK274; clear BK287; clear BK300; clear HB; have HO265 := n0_; have HO268 := n1_; have HO271 := n2_; have HO278 := n3_; have HO281 := n4_; have HO284 := n5_; have HO291 := n6_; have HO294 := n7_; have HO297 := n8_; have BK274 := n9_; have BK287 := n10_; have BK300 := n11_; have HB := n12_; clear n0_ n1_ n2_ n3_ n4_ n5_ n6_ n7_ n8_ n9_ n10_ n11_ n12_; have hcz38_0 : w37.cell? ⟨gb274, 0, none⟩ = some (.int .i64 t262) := (blk_cell BK274.out 0).trans rfl; have hcz38_1 : w37.cell? ⟨gb274, 1, none⟩ = some (.slice Ao19 t263.length co19) := (blk_cell BK274.out 1).trans rfl; have hcz38_2 : w37.cell? ⟨gb274, 2, none⟩ = some (.slice Ao20 t266.length co20) := (blk_cell BK274.out 2).trans rfl; have hcz38_3 : w37.cell? ⟨gb274, 3, none⟩ = some (.slice Ao21 t269.length co21) := (blk_cell BK274.out 3).trans rfl; have hfz38_0 := blk_frozen BK274.out 0; have hfz38_1 := blk_frozen BK274.out 1; have hfz38_2 := blk_frozen BK274.out 2; have hfz38_3 := blk_frozen BK274.out 3; have p301 : 0 ≤ (0 : Int) := (by omega); have q301 : 0 < (t269.length : Int) := of_decide_eq_true (by first | (with_reducible assumption) | assumption); obtain ⟨ad301, A301_5, c301_5, e301, hx301_0, hx301_1, hx301_2, hx301_3, hx301_4, hx301_5, hl301_5, hi301_5⟩ := at_T53 (Kd.S_reads' HO271.out).2.2 0 p301 q301; cases e301; obtain ⟨ce301, hce301, hMe301, hcc301⟩ := Kd.S_get HO271.out z53 0 p301 (by first | exact q301 | exact of_decide_eq_true (by first | (with_reducible assumption) | assumption) | (have e_ := (Kd.S_reads' HO271.out).1; omega)); obtain ⟨ve301_5, rfl, ge301_5⟩ := k53_openM hMe301; have hv301_5 := hcc301 5 _ rfl; rw [add_field _ _ 5 (by omega)] at hv301_5; replace hv301_5 := Option.some.inj (hv301_5.symm.trans hx301_5); rw [hv301_5] at ge301_5; have HL301_5 := Aside0.mk (show Kd.R k50 50 _ _ _ _ ((rd_T53 t269 0).f5) from ge301_5); clear hv301_5 ge301_5; clear hcc301 hce301; have qi301 : (0 < t269.length) = True := eq_true (by omega); (try rw [show ((0 : Int)).toNat = 0 from rfl] at hx301_0); (try rw [show 0 * 6 = 0 from rfl] at hx301_0); (try rw [Addr.add_zero'] at hx301_0); (try rw [show ((0 : Int)).toNat = 0 from rfl] at hx301_1); (try rw [show 0 * 6 = 0 from rfl] at hx301_1); (try rw [Addr.add_zero'] at hx301_1); (try rw [show ((0 : Int)).toNat = 0 from rfl] at hx301_2); (try rw [show 0 * 6 = 0 from rfl] at hx301_2); (try rw [Addr.add_zero'] at hx301_2); (try rw [show ((0 : Int)).toNat = 0 from rfl] at hx301_3); (try rw [show 0 * 6 = 0 from rfl] at hx301_3); (try rw [Addr.add_zero'] at hx301_3); (try rw [show ((0 : Int)).toNat = 0 from rfl] at hx301_4); (try rw [show 0 * 6 = 0 from rfl] at hx301_4); (try rw [Addr.add_zero'] at hx301_4); (try rw [show ((0 : Int)).toNat = 0 from rfl] at hx301_5); (try rw [show 0 * 6 = 0 from rfl] at hx301_5); (try rw [Addr.add_zero'] at hx301_5); have HR301_5 := Aside0.mk hi301_5; have HC301_5 := Aside0.mk hl301_5; clear hi301_5 hl301_5; replace p301 := eq_true p301; replace q301 := eq_true q301; have p302 : 0 ≤ (0 : Int) := (by omega); have q302 : 0 < (t269.length : Int) := of_decide_eq_true (by first | (with_reducible assumption) | assumption); obtain ⟨ad302, A302_5, c302_5, e302, hx302_0, hx302_1, hx302_2, hx302_3, hx302_4, hx302_5, hl302_5, hi302_5⟩ := at_T53 (Kd.S_reads' HO271.out).2.2 0 p302 q302; obtain rfl : ad301 = ad302 := (by injection e302); obtain ⟨ce302, hce302, hMe302, hcc302⟩ := Kd.S_get HO271.out z53 0 p302 (by first | exact q302 | exact of_decide_eq_true (by first | (with_reducible assumption) | assumption) | (have e_ := (Kd.S_reads' HO271.out).1; omega)); obtain ⟨ve302_5, rfl, ge302_5⟩ := k53_openM hMe302; have hv302_5 := hcc302 5 _ rfl; rw [add_field _ _ 5 (by omega)] at hv302_5; replace hv302_5 := Option.some.inj (hv302_5.symm.trans hx302_5); rw [hv302_5] at ge302_5; have HL302_5 := Aside0.mk (show Kd.R k50 50 _ _ _ _ ((rd_T53 t269 0).f5) from ge302_5); clear hv302_5 ge302_5; clear hcc302 hce302; have qi302 : (0 < t269.length) = True := eq_true (by omega); (try rw [show ((0 : Int)).toNat = 0 from rfl] at hx302_0); (try rw [show 0 * 6 = 0 from rfl] at hx302_0); (try rw [Addr.add_zero'] at hx302_0); (try rw [show ((0 : Int)).toNat = 0 from rfl] at hx302_1); (try rw [show 0 * 6 = 0 from rfl] at hx302_1); (try rw [Addr.add_zero'] at hx302_1); (try rw [show ((0 : Int)).toNat = 0 from rfl] at hx302_2); (try rw [show 0 * 6 = 0 from rfl] at hx302_2); (try rw [Addr.add_zero'] at hx302_2); (try rw [show ((0 : Int)).toNat = 0 from rfl] at hx302_3); (try rw [show 0 * 6 = 0 from rfl] at hx302_3); (try rw [Addr.add_zero'] at hx302_3); (try rw [show ((0 : Int)).toNat = 0 from rfl] at hx302_4); (try rw [show 0 * 6 = 0 from rfl] at hx302_4); (try rw [Addr.add_zero'] at hx302_4); (try rw [show ((0 : Int)).toNat = 0 from rfl] at hx302_5); (try rw [show 0 * 6 = 0 from rfl] at hx302_5); (try rw [Addr.add_zero'] at hx302_5); have HR302_5 := Aside0.mk hi302_5; have HC302_5 := Aside0.mk hl302_5; clear hi302_5 hl302_5; replace p302 := eq_true p302; replace q302 := eq_true q302; have ea_ := Option.some.inj (hx301_5.symm.trans hx302_5); injection ea_ with ea_ en_ ec_; subst ea_; subst ec_; clear en_; have p303 : 0 ≤ (1 : Int) := (by omega); have q303 : 1 < (((rd_T53 t269 0).f5).length : Int) := of_decide_eq_true (by first | (with_reducible assumption) | assumption); obtain ⟨ad303, e303, hx303_0, hx303_1, hx303_2⟩ := at_T50 (by repeat (first | (with_reducible exact HR302_5.out) | (with_reducible refine Kd.C_alloc ?_ _) | (with_reducible refine Kd.C_drewN ?_ _) | (with_reducible refine Kd.C_drew ?_) | exact HR302_5.out)) 1 p303 q303; cases e303; (try simp only [show (1 : Int).toNat = 1 from rfl, Nat.reduceMul, Nat.reduceEqDiff, Go.Addr.add, ↓reduceIte] at hx303_0); (try simp only [show (1 : Int).toNat = 1 from rfl, Nat.reduceMul, Nat.reduceEqDiff, Go.Addr.add, ↓reduceIte] at hx303_1); (try simp only [show (1 : Int).toNat = 1 from rfl, Nat.reduceMul, Nat.reduceEqDiff, Go.Addr.add, ↓reduceIte] at hx303_2); have qi303 : (1 < ((rd_T53 t269 0).f5).length) = True := eq_true (by omega); (try rw [show ((1 : Int)).toNat = 1 from rfl] at hx303_0); (try rw [show 1 * 3 = 3 from rfl] at hx303_0); (try rw [show ((1 : Int)).toNat = 1 from rfl] at hx303_1); (try rw [show 1 * 3 = 3 from rfl] at hx303_1); (try rw [show ((1 : Int)).toNat = 1 from rfl] at hx303_2); (try rw [show 1 * 3 = 3 from rfl] at hx303_2); replace p303 := eq_true p303; replace q303 := eq_true q303) | (go_at_call 24; (with_reducible refine (text_Print.calls k t262 _ _ t263 _ _ t266 _ _ t269 t304 _ ?side1 ?side2 ?side3 ?side4 ?side5 ?side6 ?side7 A15.out).mono ?_); (case side1 => repeat (first | exact (Kd.R_reads' HO265.out).2.2 | (with_reducible refine Kd.C_alloc ?_ _) | (with_reducible refine Kd.C_drewN ?_ _) | (with_reducible refine Kd.C_drew ?_))); (case side2 => exact (Kd.R_reads' HO265.out).2.1); (case side3 => repeat (first | exact (Kd.R_reads' HO268.out).2.2 | (with_reducible refine Kd.C_alloc ?_ _) | (with_reducible refine Kd.C_drewN ?_ _) | (with_reducible refine Kd.C_drew ?_))); (case side4 => exact (Kd.R_reads' HO268.out).2.1); (case side5 => repeat (first | exact (Kd.S_reads' HO271.out).2.2 | (with_reducible refine Kd.C_alloc ?_ _) | (with_reducible refine Kd.C_drewN ?_ _) | (with_reducible refine Kd.C_drew ?_))); (case side6 => exact (Kd.S_reads' HO271.out).2.1); (case side7 => first | exact Glob.below HG.out (HB.out) | (repeat (first | exact Glob.below HG.out HB.out | (with_reducible refine Glob.alloc ?_ _) | (with_reducible refine Glob.drewN ?_ _) | (with_reducible refine Glob.drew ?_)))); rintro e w39 ⟨rfl, hb⟩; have n0_ := Aside0.mk (Kd.R_below (by (with_reducible repeat (first | apply Kd.R_alloc | apply Kd.R_drewN | apply Kd.R_drew)); exact HO265.out) hb); have n1_ := Aside0.mk (Kd.R_below (by (with_reducible repeat (first | apply Kd.R_alloc | apply Kd.R_drewN | apply Kd.R_drew)); exact HO268.out) hb); have n2_ := Aside0.mk (Kd.S_below (by (with_reducible repeat (first | apply Kd.S_alloc | apply Kd.S_drewN | apply Kd.S_drew)); exact HO271.out) hb); have n3_ := Aside0.mk (Kd.R_below (by (with_reducible repeat (first | apply Kd.R_alloc | apply Kd.R_drewN | apply Kd.R_drew)); exact HO278.out) hb); have n4_ := Aside0.mk (Kd.R_below (by (with_reducible repeat (first | apply Kd.R_alloc | apply Kd.R_drewN | apply Kd.R_drew)); exact HO281.out) hb); have n5_ := Aside0.mk (Kd.S_below (by (with_reducible repeat (first | apply Kd.S_alloc | apply Kd.S_drewN | apply Kd.S_drew)); exact HO284.out) hb); have n6_ := Aside0.mk (Kd.R_below (by (with_reducible repeat (first | apply Kd.R_alloc | apply Kd.R_drewN | apply Kd.R_drew)); exact HO291.out) hb); have n7_ := Aside0.mk (Kd.R_below (by (with_reducible repeat (first | apply Kd.R_alloc | apply Kd.R_drewN | apply Kd.R_drew)); exact HO294.out) hb); have n8_ := Aside0.mk (Kd.S_below (by (with_reducible repeat (first | apply Kd.S_alloc | apply Kd.S_drewN | apply Kd.S_drew)); exact HO297.out) hb); have n9_ := Aside0.mk (Kd.R_below (by (with_reducible repeat (first | apply Kd.R_alloc | apply Kd.R_drewN | apply Kd.R_drew)); exact HL301_5.out) hb); have n10_ := Aside0.mk (Kd.R_below (by (with_reducible repeat (first | apply Kd.R_alloc | apply Kd.R_drewN | apply Kd.R_drew)); exact HL302_5.out) hb); have n11_ := Aside0.mk (blk_below BK274.out hb); have n12_ := Aside0.mk (blk_below BK287.out hb); have n13_ := Aside0.mk (blk_below BK300.out hb); have n14_ := Aside0.mk (Kd.C_below (by repeat (first | (with_reducible exact HR301_5.out) | (with_reducible refine Kd.C_alloc ?_ _) | (with_reducible refine Kd.C_drewN ?_ _) | (with_reducible refine Kd.C_drew ?_) | exact HR301_5.out)) hb); have n15_ := Aside0.mk (Kd.C_below (by repeat (first | (with_reducible exact HR302_5.out) | (with_reducible refine Kd.C_alloc ?_ _) | (with_reducible refine Kd.C_drewN ?_ _) | (with_reducible refine Kd.C_drew ?_) | exact HR302_5.out)) hb); have n16_ := Aside0.mk (below_step (HB.out) hb); clear HO265; clear HO268; clear HO271; clear HO278; clear HO281; clear HO284; clear HO291; clear HO294; clear HO297; clear HL301_5; clear HL302_5; clear BK274; clear BK287; clear BK300; clear HR301_5; clear HR302_5; clear HB; have HO265 := n0_; have HO268 := n1_; have HO271 := n2_; have HO278 := n3_; have HO281 := n4_; have HO284 := n5_; have HO291 := n6_; have HO294 := n7_; have HO297 := n8_; have HL301_5 := n9_; have HL302_5 := n10_; have BK274 := n11_; have BK287 := n12_; have BK300 := n13_; have HR301_5 := n14_; have HR302_5 := n15_; have HB := n16_; clear n0_ n1_ n2_ n3_ n4_ n5_ n6_ n7_ n8_ n9_ n10_ n11_ n12_ n13_ n14_ n15_ n16_; (try clear hb); (try clear hb2); (try clear hk); (try clear hi)))
  go_ret
  exact ⟨by first | rfl | (simp [errW_none, errW_some] <;> rfl) | (simp [*, errW_none, errW_some] <;> rfl), HB.out⟩
end Go.Proofs.YtgkjoodlcojkkaaDoor.QD
end
section
namespace Go.Proofs.YtgkjoodlcojkkaaDoor.Y
open Go.RowKit Go.Proofs.YtgkjoodlcojkkaaDoorW.PrintWords Go.Proofs.YtgkjoodlcojkkaaDoorW.PrintLast Go.Proofs.YtgkjoodlcojkkaaDoorW.PrintMore Go.Proofs.YtgkjoodlcojkkaaDoor.QD
set_option linter.unusedVariables false
set_option linter.unusedSimpArgs false
theorem textS_one {n : Nat} (h : n < 10) : textS (n : Int) = [UInt8.ofNat (48 + n)] := by
  rw [textS_val (by omega) (by omega), Int.toNat_natCast, dec_small h]
theorem textS_two {n : Nat} (h0 : 10 ≤ n) (h : n < 100) : textS (n : Int) = [UInt8.ofNat (48 + n / 10), UInt8.ofNat (48 + n % 10)] := by
  rw [textS_val (by omega) (by omega), Int.toNat_natCast, dec_big (by omega), dec_small (by omega)]; rfl
theorem tx0 : textS 0 = [48] := textS_one (n := 0) (by decide)
theorem tx1 : textS 1 = [49] := textS_one (n := 1) (by decide)
theorem tx2 : textS 2 = [50] := textS_one (n := 2) (by decide)
theorem tx3 : textS 3 = [51] := textS_one (n := 3) (by decide)
theorem tx10 : textS 10 = [49, 48] := textS_two (n := 10) (by decide) (by decide)
def kn1 : Bs := [112, 114, 111, 116, 111, 99, 111, 108, 32, 102, 97, 105, 114, 10, 99, 111, 114, 101, 115, 32, 49, 10, 104, 111, 109, 101, 115, 32, 48, 10, 10, 116, 97, 115, 107, 32, 97, 32, 49, 48, 32, 49, 48, 32, 49, 32, 48, 32, 114, 117, 110, 58, 51, 32, 108, 111, 99, 107, 58, 48, 58, 50, 32, 35, 32, 115, 111, 10]
def kn2 : Bs := [112, 114, 111, 116, 111, 99, 111, 108, 32, 102, 97, 105, 114, 10, 99, 111, 114, 101, 115, 32, 49, 10, 104, 111, 109, 101, 115, 32, 48, 10, 116, 97, 115, 107, 32, 97, 32, 49, 48, 32, 49, 48, 32, 49, 32, 48, 32, 108, 111, 99, 107, 58, 48, 58, 108, 111, 99, 107, 58, 48, 58, 50, 10]
def kn3 : Bs := [99, 111, 114, 101, 115, 32, 49, 10]
def knT : S53 := ⟨B [97], 10, 10, 1, 0, [⟨1, 3, 0⟩, ⟨3, 2, 0⟩]⟩
theorem kn1_eq : parseS kn1 = (1, [1], [0], [knT], 5, 0) := by kernel_rfl
theorem kn2_eq : parseS kn2 = (0, [], [], [], 3, 18) := by kernel_rfl
theorem kn3_eq : parseS kn3 = (0, [], [], [], 0, 10) := by kernel_rfl
theorem knP_ok : (checkS 1 [1] [0] [knT]).2 = 0 := by kernel_rfl
theorem knP_eq : printS 1 [1] [0] [knT] = [112, 114, 111, 116, 111, 99, 111, 108, 32, 102, 97, 105, 114, 10, 99, 111, 114, 101, 115, 32, 49, 10, 104, 111, 109, 101, 115, 32, 48, 10, 116, 97, 115, 107, 32, 97, 32, 49, 48, 32, 49, 48, 32, 49, 32, 48, 32, 114, 117, 110, 58, 51, 32, 108, 111, 99, 107, 58, 48, 58, 50, 10] := by
  unfold printS
  rw [if_pos knP_ok]
  have e1 : setWs 1 [1] [0] [knT] = [[protocolB, protoW 1], [coresB, textS 1], [homesB, textS 0], [taskB, [97], textS 10, textS 10, textS 1, textS 0, runB ++ 58 :: textS 3, lockW ++ 58 :: (textS 0 ++ 58 :: textS 2)]] := by kernel_rfl
  rw [e1, tx0, tx1, tx2, tx3, tx10]
  decide
theorem known9_eq (k : Nat) (hk : 20000 < k) (hk2 : k < 9223372036854775807) : sl_known.f k = some true := by
  unfold sl_known.f
  have p1 := parse_eq kn1 (by decide) k hk hk2
  have p2 := parse_eq kn2 (by decide) k hk hk2
  have p3 := parse_eq kn3 (by decide) k hk hk2
  have p4 := print_eq 1 [1] [0] [knT] 100 (fun t ht => by
    have : t = knT := by simpa using ht
    subst this
    exact ⟨by show (1 : Nat) < 100; decide, by show 3 * 2 < 100; decide⟩) k (by omega) hk2
  rw [kn1_eq] at p1
  rw [kn2_eq] at p2
  rw [kn3_eq] at p3
  rw [knP_eq] at p4
  unfold kn1 at p1
  unfold kn2 at p2
  unfold kn3 at p3
  unfold B at p1 p2 p3
  rw [p1, Option.bind_some, p2, Option.bind_some, p3, Option.bind_some]
  rw [if_pos (show (0 : Int) = 0 from rfl), if_pos (show (5 : Int) = 5 from rfl), if_pos (show (([knT] : List S53).length : Int) = 1 from rfl), if_pos (show 0 < (([knT] : List S53).length : Int) by decide),
    if_pos (show (((rd_T53 [knT] 0).f5).length : Int) = 2 from rfl), if_pos (show 1 < (((rd_T53 [knT] 0).f5).length : Int) by decide), if_pos (show (((rd_T50 ((rd_T53 [knT] 0).f5) 1).f0) == 3 && (((rd_T50 ((rd_T53 [knT] 0).f5) 1).f1) == 2 && (((rd_T50 ((rd_T53 [knT] 0).f5) 1).f2) == 0))) = true from rfl),
    if_pos (show (18 : Int) = 18 from rfl), if_pos (show (3 : Int) = 3 from rfl), if_pos (show (10 : Int) = 10 from rfl), if_pos (show (0 : Int) = 0 from rfl)]
  have p4' : text_Print.f k 1 [1] [0] [knT] = some (B [112, 114, 111, 116, 111, 99, 111, 108, 32, 102, 97, 105, 114, 10, 99, 111, 114, 101, 115, 32, 49, 10, 104, 111, 109, 101, 115, 32, 48, 10, 116, 97, 115, 107, 32, 97, 32, 49, 48, 32, 49, 48, 32, 49, 32, 48, 32, 114, 117, 110, 58, 51, 32, 108, 111, 99, 107, 58, 48, 58, 50, 10]) := p4
  rw [p4', Option.bind_some, toList_B]
  rfl
end Go.Proofs.YtgkjoodlcojkkaaDoor.Y
end
section
namespace Go.Proofs.YtgkjoodlcojkkaaDoor.QD
open Go.RowKit Go.Proofs.YtgkjoodlcojkkaaDoorW.PrintWords Go.Proofs.YtgkjoodlcojkkaaDoorW.PrintLast Go.Proofs.YtgkjoodlcojkkaaDoorW.PrintMore
attribute [local go_sem] max2_int min2_int max_two min_two max_three min_three max_four min_four
set_option linter.unusedVariables false
set_option linter.unusedSimpArgs false
def sr_sameInts.l0 : Nat → List Int → List Int → Int → Option (Bool)
  | 0, _, _, _ => none
  | k + 1, x0, x1, x5 => if x5 < (x0.length : Int) then (if 0 ≤ x5 then (if x5 < (x1.length : Int) then (if (rd x0 x5) = (rd x1 x5) then (sr_sameInts.l0 k x0 x1 (wrap64 (x5 + 1))) else (some false)) else (none)) else (none)) else (some true)
def sr_sameInts.f (k : Nat) (l0 : List Int) (l1 : List Int) : Option (Bool) := if (l0.length : Int) = (l1.length : Int) then (sr_sameInts.l0 k l0 l1 0) else (some false)
theorem sr_sameInts.mono_l : ∀ k, (∀ y0 y1 y2, LeO (sr_sameInts.l0 k y0 y1 y2) (sr_sameInts.l0 (k + 1) y0 y1 y2))
  | 0 => fun _ _ _ r h => by simp [sr_sameInts.l0] at h
  | k + 1 => by
    have ih0 := sr_sameInts.mono_l k
    · intro y0 y1 y2
      unfold sr_sameInts.l0
      repeat' first
      | (with_reducible exact ih0 _ _ _)
      | (with_reducible exact LeO.refl _)
      | (with_reducible exact LeO.none _)
      | (with_reducible refine LeO.ite ?_ ?_)
      | (with_reducible refine LeO.bind ?_ (fun _ => ?_))
      | exact ih0 _ _ _
      | exact LeO.none _
      | refine LeO.ite ?_ ?_
      | refine LeO.bind ?_ (fun _ => ?_)
theorem sr_sameInts.mono : ∀ a0 a1 k, LeO (sr_sameInts.f k a0 a1) (sr_sameInts.f (k + 1) a0 a1) := by
  intro a0 a1 k
  have ih0 := sr_sameInts.mono_l k
  unfold sr_sameInts.f
  repeat' first
      | (with_reducible exact ih0 _ _ _)
      | (with_reducible exact LeO.refl _)
      | (with_reducible exact LeO.none _)
      | (with_reducible refine LeO.ite ?_ ?_)
      | (with_reducible refine LeO.bind ?_ (fun _ => ?_))
      | exact ih0 _ _ _
      | exact LeO.none _
      | refine LeO.ite ?_ ?_
      | refine LeO.bind ?_ (fun _ => ?_)
set_option maxHeartbeats 8000000 in
set_option maxRecDepth 100000 in
theorem sr_sameInts.calls (k : Nat) (A0 : Option Addr) (c0 : Nat) (l0 : List Int) (A1 : Option Addr) (c1 : Nat) (l1 : List Int) (r : Bool) (w : World) (hr0 : Kd.C (Kd.int .i64) w A0 l0.length l0) (hc0 : l0.length ≤ c0) (hr1 : Kd.C (Kd.int .i64) w A1 l1.length l1) (hc1 : l1.length ≤ c1) (h : sr_sameInts.f k l0 l1 = some r) :
    Calls Tryd.prog 43 #[.slice A0 l0.length c0, .slice A1 l1.length c1] w fun e w' => e = .returned (.bool r) ∧ Drawn0 w w' := by
  have HR0 := Aside0.mk hr0
  have HC0 := Aside0.mk hc0
  clear hr0 hc0
  have HR1 := Aside0.mk hr1
  have HC1 := Aside0.mk hc1
  clear hr1 hc1
  have H : (if (l0.length : Int) = (l1.length : Int) then (sr_sameInts.l0 k l0 l1 0) else (some false)) = some r := h
  clear h
  by_cases c3 : (l0.length : Int) = (l1.length : Int)
  rotate_left
  · rw [if_neg c3] at H
    have c3b0 : ((l0.length : Int) == (l1.length : Int)) = false := beq_eq_false_iff_ne.mpr c3
    have c3b1 : ((l0.length : Int) != (l1.length : Int)) = true := bne_iff_ne.mpr c3
    have c3b2 : (l0.length == l1.length) = false := by first | simpa using c3 | (simp at c3 ⊢; omega)
    obtain rfl := Option.some.inj H
    go_enter Tryd.func43, Tryd.ntmps43
    go_wp2
    repeat (go_quiet (fail); try go_wp2)
    go_ret
    exact ⟨by first | rfl | (simp; done) | (simp [*]; done), by repeat (first | exact Drawn0.refl _ | apply Drawn0.step)⟩
  rw [if_pos c3] at H
  have c3b0 : ((l0.length : Int) == (l1.length : Int)) = true := beq_iff_eq.mpr c3
  have c3b1 : ((l0.length : Int) != (l1.length : Int)) = false := bne_eq_false_iff_eq.mpr c3
  have c3b2 : (l0.length == l1.length) = true := by first | simpa using c3 | (simp at c3 ⊢; omega)
  clear c3
  have H' := Aside0.mk H
  clear H
  go_enter Tryd.func43, Tryd.ntmps43
  go_wp2
  repeat (go_quiet (fail); try go_wp2)
  go_loopg [5] k (fun kq v5 w' => ∃ (x5_1 : Int), v5 = .int .i64 x5_1 ∧ Aside0 (sr_sameInts.l0 kq l0 l1 x5_1 = some r) ∧ Aside0 (kq ≤ k) ∧ Drawn0 w w')
  case atStart => exact ⟨(0), (by first | rfl | (simp; done) | (simp [*]; done)), H', ⟨Nat.le_refl _⟩, by repeat (first | exact Drawn0.refl _ | apply Drawn0.step)⟩
  clear H'
  (try clear c1); (try clear p2); (try clear c3); (try clear c3b0); (try clear c3b1); (try clear c3b2)
  obtain ⟨x5_1, rfl, HA, HK1, ⟨m1, rfl⟩⟩ := hrel
  cases gk with
  | zero => exact absurd HA.out (by simp [sr_sameInts.l0])
  | succ k1 => ?_
  have H := HA.out
  clear HA
  simp only [sr_sameInts.l0] at H
  by_cases c4 : x5_1 < (l0.length : Int)
  rotate_left
  · rw [if_neg c4] at H
    have c4b0 : decide (x5_1 < (l0.length : Int)) = false := decide_eq_false c4
    clear c4
    obtain rfl := Option.some.inj H
    go_wp2
    repeat (go_quiet (fail); try go_wp2)
    go_ret
    exact ⟨by first | rfl | (simp; done) | (simp [*]; done), by repeat (first | exact Drawn0.refl _ | apply Drawn0.step)⟩
  rw [if_pos c4] at H
  have c4b0 : decide (x5_1 < (l0.length : Int)) = true := decide_eq_true c4
  clear c4
  by_cases c5 : 0 ≤ x5_1
  rotate_left
  · rw [if_neg c5] at H
    exact absurd H (by simp)
  rw [if_pos c5] at H
  have c5b0 : decide (0 ≤ x5_1) = true := decide_eq_true c5
  clear c5
  by_cases c6 : x5_1 < (l1.length : Int)
  rotate_left
  · rw [if_neg c6] at H
    exact absurd H (by simp)
  rw [if_pos c6] at H
  have c6b0 : decide (x5_1 < (l1.length : Int)) = true := decide_eq_true c6
  clear c6
  by_cases c7 : (rd l0 x5_1) = (rd l1 x5_1)
  rotate_left
  · rw [if_neg c7] at H
    have c7b0 : ((rd l0 x5_1) == (rd l1 x5_1)) = false := beq_eq_false_iff_ne.mpr c7
    have c7b1 : ((rd l0 x5_1) != (rd l1 x5_1)) = true := bne_iff_ne.mpr c7
    obtain rfl := Option.some.inj H
    have p329 : 0 ≤ (x5_1 : Int) := of_decide_eq_true (by first | (with_reducible assumption) | assumption)
    have q329 : x5_1 < (l0.length : Int) := of_decide_eq_true (by first | (with_reducible assumption) | assumption)
    obtain ⟨ad329, e329, hx329_0⟩ := Kd.at_int HR0.out x5_1 p329 q329
    cases e329
    replace p329 := eq_true p329
    replace q329 := eq_true q329
    have p330 : 0 ≤ (x5_1 : Int) := of_decide_eq_true (by first | (with_reducible assumption) | assumption)
    have q330 : x5_1 < (l1.length : Int) := of_decide_eq_true (by first | (with_reducible assumption) | assumption)
    obtain ⟨ad330, e330, hx330_0⟩ := Kd.at_int HR1.out x5_1 p330 q330
    cases e330
    replace p330 := eq_true p330
    replace q330 := eq_true q330
    go_wp2
    repeat (go_quiet (fail); try go_wp2)
    go_ret
    exact ⟨by first | rfl | (simp; done) | (simp [*]; done), by repeat (first | exact Drawn0.refl _ | apply Drawn0.step)⟩
  rw [if_pos c7] at H
  have c7b0 : ((rd l0 x5_1) == (rd l1 x5_1)) = true := beq_iff_eq.mpr c7
  have c7b1 : ((rd l0 x5_1) != (rd l1 x5_1)) = false := bne_eq_false_iff_eq.mpr c7
  clear c7
  have H' := Aside0.mk H
  clear H
  have p329 : 0 ≤ (x5_1 : Int) := of_decide_eq_true (by first | (with_reducible assumption) | assumption)
  have q329 : x5_1 < (l0.length : Int) := of_decide_eq_true (by first | (with_reducible assumption) | assumption)
  obtain ⟨ad329, e329, hx329_0⟩ := Kd.at_int HR0.out x5_1 p329 q329
  cases e329
  replace p329 := eq_true p329
  replace q329 := eq_true q329
  have p330 : 0 ≤ (x5_1 : Int) := of_decide_eq_true (by first | (with_reducible assumption) | assumption)
  have q330 : x5_1 < (l1.length : Int) := of_decide_eq_true (by first | (with_reducible assumption) | assumption)
  obtain ⟨ad330, e330, hx330_0⟩ := Kd.at_int HR1.out x5_1 p330 q330
  cases e330
  replace p330 := eq_true p330
  replace q330 := eq_true q330
  go_wp2
  repeat (go_quiet (fail); try go_wp2)
  go_roundg k1
  case measure => have := HK1.out; omega
  case rel => exact ⟨(wrap64 (x5_1 + 1)), (by first | rfl | (simp; done) | (simp [*]; done)), H', ⟨by have := HK1.out; omega⟩, by repeat (first | exact Drawn0.refl _ | apply Drawn0.step)⟩
end Go.Proofs.YtgkjoodlcojkkaaDoor.QD
end
section
namespace Go.Proofs.YtgkjoodlcojkkaaDoor.QD
open Go.RowKit Go.Proofs.YtgkjoodlcojkkaaDoorW.PrintWords Go.Proofs.YtgkjoodlcojkkaaDoorW.PrintLast Go.Proofs.YtgkjoodlcojkkaaDoorW.PrintMore
attribute [local go_sem] max2_int min2_int max_two min_two max_three min_three max_four min_four
set_option linter.unusedVariables false
set_option linter.unusedSimpArgs false
attribute [local go_sem high] eqA50
mutual
def sr_SameTask.j0 : Nat → Bool → ByteArray → Int → Int → Int → Int → List (S50) → ByteArray → Int → Int → Int → Int → List (S50) → Option (Bool)
  | 0, _, _, _, _, _, _, _, _, _, _, _, _, _ => none
  | k + 1, x47, x332000, x332001, x332002, x332003, x332004, x332005, x333000, x333001, x333002, x333003, x333004, x333005 => if x47 = true then (some false) else (sr_SameTask.l0 k 0 x332000 x332001 x332002 x332003 x332004 x332005 x333000 x333001 x333002 x333003 x333004 x333005)
def sr_SameTask.l0 : Nat → Int → ByteArray → Int → Int → Int → Int → List (S50) → ByteArray → Int → Int → Int → Int → List (S50) → Option (Bool)
  | 0, _, _, _, _, _, _, _, _, _, _, _, _, _ => none
  | k + 1, x5, x332000, x332001, x332002, x332003, x332004, x332005, x333000, x333001, x333002, x333003, x333004, x333005 => if x5 < (x332005.length : Int) then (if 0 ≤ x5 then (if x5 < (x333005.length : Int) then (if (!(((rd_T50 x332005 x5).f0) == ((rd_T50 x333005 x5).f0)) || (!(((rd_T50 x332005 x5).f1) == ((rd_T50 x333005 x5).f1)) || (!(((rd_T50 x332005 x5).f2) == ((rd_T50 x333005 x5).f2))))) = true then (some false) else (sr_SameTask.l0 k (wrap64 (x5 + 1)) x332000 x332001 x332002 x332003 x332004 x332005 x333000 x333001 x333002 x333003 x333004 x333005)) else (none)) else (none)) else (some true)
end
def sr_SameTask.f (k : Nat) (a0_0 : ByteArray) (a0_1 : Int) (a0_2 : Int) (a0_3 : Int) (a0_4 : Int) (l0_5 : List (S50)) (a1_0 : ByteArray) (a1_1 : Int) (a1_2 : Int) (a1_3 : Int) (a1_4 : Int) (l1_5 : List (S50)) : Option (Bool) := if a0_0.toList = a1_0.toList then (if a0_1 = a1_1 then (if a0_2 = a1_2 then (if a0_3 = a1_3 then (if a0_4 = a1_4 then (sr_SameTask.j0 k ((l0_5.length : Int) != (l1_5.length : Int)) a0_0 a0_1 a0_2 a0_3 a0_4 l0_5 a1_0 a1_1 a1_2 a1_3 a1_4 l1_5) else (sr_SameTask.j0 k true a0_0 a0_1 a0_2 a0_3 a0_4 l0_5 a1_0 a1_1 a1_2 a1_3 a1_4 l1_5)) else (sr_SameTask.j0 k true a0_0 a0_1 a0_2 a0_3 a0_4 l0_5 a1_0 a1_1 a1_2 a1_3 a1_4 l1_5)) else (sr_SameTask.j0 k true a0_0 a0_1 a0_2 a0_3 a0_4 l0_5 a1_0 a1_1 a1_2 a1_3 a1_4 l1_5)) else (sr_SameTask.j0 k true a0_0 a0_1 a0_2 a0_3 a0_4 l0_5 a1_0 a1_1 a1_2 a1_3 a1_4 l1_5)) else (sr_SameTask.j0 k true a0_0 a0_1 a0_2 a0_3 a0_4 l0_5 a1_0 a1_1 a1_2 a1_3 a1_4 l1_5)
theorem sr_SameTask.mono_l : ∀ k, (∀ y0 y1 y2 y3 y4 y5 y6 y7 y8 y9 y10 y11 y12, LeO (sr_SameTask.j0 k y0 y1 y2 y3 y4 y5 y6 y7 y8 y9 y10 y11 y12) (sr_SameTask.j0 (k + 1) y0 y1 y2 y3 y4 y5 y6 y7 y8 y9 y10 y11 y12)) ∧ (∀ y0 y1 y2 y3 y4 y5 y6 y7 y8 y9 y10 y11 y12, LeO (sr_SameTask.l0 k y0 y1 y2 y3 y4 y5 y6 y7 y8 y9 y10 y11 y12) (sr_SameTask.l0 (k + 1) y0 y1 y2 y3 y4 y5 y6 y7 y8 y9 y10 y11 y12))
  | 0 => ⟨fun _ _ _ _ _ _ _ _ _ _ _ _ _ r h => by simp [sr_SameTask.j0] at h, fun _ _ _ _ _ _ _ _ _ _ _ _ _ r h => by simp [sr_SameTask.l0] at h⟩
  | k + 1 => by
    obtain ⟨ih0, ih1⟩ := sr_SameTask.mono_l k
    refine ⟨?_, ?_⟩
    · intro y0 y1 y2 y3 y4 y5 y6 y7 y8 y9 y10 y11 y12
      unfold sr_SameTask.j0
      repeat' first
      | (with_reducible exact ih0 _ _ _ _ _ _ _ _ _ _ _ _ _)
      | (with_reducible exact ih1 _ _ _ _ _ _ _ _ _ _ _ _ _)
      | (with_reducible exact LeO.refl _)
      | (with_reducible exact LeO.none _)
      | (with_reducible refine LeO.ite ?_ ?_)
      | (with_reducible refine LeO.bind ?_ (fun _ => ?_))
      | exact ih0 _ _ _ _ _ _ _ _ _ _ _ _ _
      | exact ih1 _ _ _ _ _ _ _ _ _ _ _ _ _
      | exact LeO.none _
      | refine LeO.ite ?_ ?_
      | refine LeO.bind ?_ (fun _ => ?_)
    · intro y0 y1 y2 y3 y4 y5 y6 y7 y8 y9 y10 y11 y12
      unfold sr_SameTask.l0
      repeat' first
      | (with_reducible exact ih0 _ _ _ _ _ _ _ _ _ _ _ _ _)
      | (with_reducible exact ih1 _ _ _ _ _ _ _ _ _ _ _ _ _)
      | (with_reducible exact LeO.refl _)
      | (with_reducible exact LeO.none _)
      | (with_reducible refine LeO.ite ?_ ?_)
      | (with_reducible refine LeO.bind ?_ (fun _ => ?_))
      | exact ih0 _ _ _ _ _ _ _ _ _ _ _ _ _
      | exact ih1 _ _ _ _ _ _ _ _ _ _ _ _ _
      | exact LeO.none _
      | refine LeO.ite ?_ ?_
      | refine LeO.bind ?_ (fun _ => ?_)
theorem sr_SameTask.mono : ∀ a0 a1 a2 a3 a4 a5 a6 a7 a8 a9 a10 a11 k, LeO (sr_SameTask.f k a0 a1 a2 a3 a4 a5 a6 a7 a8 a9 a10 a11) (sr_SameTask.f (k + 1) a0 a1 a2 a3 a4 a5 a6 a7 a8 a9 a10 a11) := by
  intro a0 a1 a2 a3 a4 a5 a6 a7 a8 a9 a10 a11 k
  obtain ⟨ih0, ih1⟩ := sr_SameTask.mono_l k
  unfold sr_SameTask.f
  repeat' first
      | (with_reducible exact ih0 _ _ _ _ _ _ _ _ _ _ _ _ _)
      | (with_reducible exact ih1 _ _ _ _ _ _ _ _ _ _ _ _ _)
      | (with_reducible exact LeO.refl _)
      | (with_reducible exact LeO.none _)
      | (with_reducible refine LeO.ite ?_ ?_)
      | (with_reducible refine LeO.bind ?_ (fun _ => ?_))
      | exact ih0 _ _ _ _ _ _ _ _ _ _ _ _ _
      | exact ih1 _ _ _ _ _ _ _ _ _ _ _ _ _
      | exact LeO.none _
      | refine LeO.ite ?_ ?_
      | refine LeO.bind ?_ (fun _ => ?_)
set_option maxHeartbeats 8000000 in
set_option maxRecDepth 100000 in
theorem sr_SameTask.calls (k : Nat) (a0_0 : ByteArray) (a0_1 : Int) (a0_2 : Int) (a0_3 : Int) (a0_4 : Int) (A0_5 : Option Addr) (c0_5 : Nat) (l0_5 : List (S50)) (a1_0 : ByteArray) (a1_1 : Int) (a1_2 : Int) (a1_3 : Int) (a1_4 : Int) (A1_5 : Option Addr) (c1_5 : Nat) (l1_5 : List (S50)) (r : Bool) (w : World) (hr0_5 : Kd.C k50 w A0_5 l0_5.length l0_5) (hc0_5 : l0_5.length ≤ c0_5) (hr1_5 : Kd.C k50 w A1_5 l1_5.length l1_5) (hc1_5 : l1_5.length ≤ c1_5) (h : sr_SameTask.f k a0_0 a0_1 a0_2 a0_3 a0_4 l0_5 a1_0 a1_1 a1_2 a1_3 a1_4 l1_5 = some r) :
    Calls Tryd.prog 44 #[.agg #[.string a0_0, .int .i64 a0_1, .int .i64 a0_2, .int .i64 a0_3, .int .i64 a0_4, .slice A0_5 l0_5.length c0_5], .agg #[.string a1_0, .int .i64 a1_1, .int .i64 a1_2, .int .i64 a1_3, .int .i64 a1_4, .slice A1_5 l1_5.length c1_5]] w fun e w' => e = .returned (.bool r) ∧ Below w.heap.size w w' := by
  have hu53 := Tryd.underlying53
  have hu50 := Tryd.underlying50
  have HR0_5 := Aside0.mk hr0_5
  have HC0_5 := Aside0.mk hc0_5
  clear hr0_5 hc0_5
  have HR1_5 := Aside0.mk hr1_5
  have HC1_5 := Aside0.mk hc1_5
  clear hr1_5 hc1_5
  have HB := Aside0.mk (Below.refl w.heap.size w)
  have H : (if a0_0.toList = a1_0.toList then (if a0_1 = a1_1 then (if a0_2 = a1_2 then (if a0_3 = a1_3 then (if a0_4 = a1_4 then (sr_SameTask.j0 k ((l0_5.length : Int) != (l1_5.length : Int)) a0_0 a0_1 a0_2 a0_3 a0_4 l0_5 a1_0 a1_1 a1_2 a1_3 a1_4 l1_5) else (sr_SameTask.j0 k true a0_0 a0_1 a0_2 a0_3 a0_4 l0_5 a1_0 a1_1 a1_2 a1_3 a1_4 l1_5)) else (sr_SameTask.j0 k true a0_0 a0_1 a0_2 a0_3 a0_4 l0_5 a1_0 a1_1 a1_2 a1_3 a1_4 l1_5)) else (sr_SameTask.j0 k true a0_0 a0_1 a0_2 a0_3 a0_4 l0_5 a1_0 a1_1 a1_2 a1_3 a1_4 l1_5)) else (sr_SameTask.j0 k true a0_0 a0_1 a0_2 a0_3 a0_4 l0_5 a1_0 a1_1 a1_2 a1_3 a1_4 l1_5)) else (sr_SameTask.j0 k true a0_0 a0_1 a0_2 a0_3 a0_4 l0_5 a1_0 a1_1 a1_2 a1_3 a1_4 l1_5)) = some r := h
  clear h
  have HC3 := Aside0.mk H
  clear H
  go_enter Tryd.func44, Tryd.ntmps44
  go_upto_region 1 with (first | ((with_reducible refine gate_dst (N := 2) rfl ?_); (try (refine gate_guard (by rfl) ?_; dsimp only)); refine box_event ?hg (N := 2) ?hd (cs := #[.string a0_0, .int .i64 a0_1, .int .i64 a0_2, .int .i64 a0_3, .int .i64 a0_4, .slice A0_5 l0_5.length c0_5]) (t := 53) ?hr ?_; (case hd => rfl); (case hg => rfl); (case hr => first | (go_simp; done) | (go_simp; rfl)); intro gb331 hg w4 hbox hb; have n0_ := Aside0.mk (below_step (by repeat (first | (with_reducible first | exact HB.out | apply below_alloc | apply pw_below_drewN | apply below_drew1) | exact HB.out)) hb); have n1_ := Aside0.mk (hbox); have n2_ := Aside0.mk ((by rw [hg]; exact (below_size (by repeat (first | (with_reducible first | exact HB.out | apply below_alloc | apply pw_below_drewN | apply below_drew1) | exact HB.out))) : w.heap.size ≤ gb331)); have n3_ := n2_; clear HB; have HB := n0_; have BK331 := n1_; have GW331 := n2_; have GE331 := n3_; clear n0_ n1_ n2_ n3_; clear hb hbox hg) | ((with_reducible refine gate_dst (N := 3) rfl ?_); (try (refine gate_guard (by rfl) ?_; dsimp only)); refine box_event ?hg (N := 3) ?hd (cs := #[.string a1_0, .int .i64 a1_1, .int .i64 a1_2, .int .i64 a1_3, .int .i64 a1_4, .slice A1_5 l1_5.length c1_5]) (t := 53) ?hr ?_; (case hd => rfl); (case hg => rfl); (case hr => first | (go_simp; done) | (go_simp; rfl)); intro gb332 hg w5 hbox hb; have n0_ := Aside0.mk (blk_below (g := gb331) (o := .cells #[.string a0_0, .int .i64 a0_1, .int .i64 a0_2, .int .i64 a0_3, .int .i64 a0_4, .slice A0_5 l0_5.length c0_5] 53 (0, 0)) (by (with_reducible repeat (first | refine blk_drewN ?_ _ | refine blk_drew ?_ | refine blk_alloc ?_ _)); exact BK331.out) hb); have n1_ := Aside0.mk (below_step (by repeat (first | (with_reducible first | exact HB.out | apply below_alloc | apply pw_below_drewN | apply below_drew1 | refine below_set ?_ GE331.out) | exact HB.out)) hb); have n2_ := Aside0.mk (hbox); have n3_ := Aside0.mk ((by rw [hg]; exact (below_size (by repeat (first | (with_reducible first | exact HB.out | apply below_alloc | apply pw_below_drewN | apply below_drew1 | refine below_set ?_ GE331.out) | exact HB.out))) : w.heap.size ≤ gb332)); have n4_ := n3_; have n5_ := Aside0.mk ((by rw [hg]; exact Nat.ne_of_lt (blk_lt (g := gb331) (o := .cells #[.string a0_0, .int .i64 a0_1, .int .i64 a0_2, .int .i64 a0_3, .int .i64 a0_4, .slice A0_5 l0_5.length c0_5] 53 (0, 0)) (by (with_reducible repeat (first | refine blk_drewN ?_ _ | refine blk_drew ?_ | refine blk_alloc ?_ _)); exact BK331.out)) : gb331 ≠ gb332)); have n6_ := Aside0.mk ((by rw [hg]; exact Nat.ne_of_gt (blk_lt (g := gb331) (o := .cells #[.string a0_0, .int .i64 a0_1, .int .i64 a0_2, .int .i64 a0_3, .int .i64 a0_4, .slice A0_5 l0_5.length c0_5] 53 (0, 0)) (by (with_reducible repeat (first | refine blk_drewN ?_ _ | refine blk_drew ?_ | refine blk_alloc ?_ _)); exact BK331.out)) : gb332 ≠ gb331)); clear BK331; clear HB; have BK331 := n0_; have HB := n1_; have BK332 := n2_; have GW332 := n3_; have GE332 := n4_; have NB331_332 := n5_; have NB332_331 := n6_; clear n0_ n1_ n2_ n3_ n4_ n5_ n6_; clear hb hbox hg))
  repeat (go_quiet (first | ((with_reducible refine gate_dst (N := 2) rfl ?_); (try (refine gate_guard (by rfl) ?_; dsimp only)); refine box_event ?hg (N := 2) ?hd (cs := #[.string a0_0, .int .i64 a0_1, .int .i64 a0_2, .int .i64 a0_3, .int .i64 a0_4, .slice A0_5 l0_5.length c0_5]) (t := 53) ?hr ?_; (case hd => rfl); (case hg => rfl); (case hr => first | (go_simp; done) | (go_simp; rfl)); intro gb331 hg w4 hbox hb; have n0_ := Aside0.mk (below_step (by repeat (first | (with_reducible first | exact HB.out | apply below_alloc | apply pw_below_drewN | apply below_drew1) | exact HB.out)) hb); have n1_ := Aside0.mk (hbox); have n2_ := Aside0.mk ((by rw [hg]; exact (below_size (by repeat (first | (with_reducible first | exact HB.out | apply below_alloc | apply pw_below_drewN | apply below_drew1) | exact HB.out))) : w.heap.size ≤ gb331)); have n3_ := n2_; clear HB; have HB := n0_; have BK331 := n1_; have GW331 := n2_; have GE331 := n3_; clear n0_ n1_ n2_ n3_; clear hb hbox hg) | ((with_reducible refine gate_dst (N := 3) rfl ?_); (try (refine gate_guard (by rfl) ?_; dsimp only)); refine box_event ?hg (N := 3) ?hd (cs := #[.string a1_0, .int .i64 a1_1, .int .i64 a1_2, .int .i64 a1_3, .int .i64 a1_4, .slice A1_5 l1_5.length c1_5]) (t := 53) ?hr ?_; (case hd => rfl); (case hg => rfl); (case hr => first | (go_simp; done) | (go_simp; rfl)); intro gb332 hg w5 hbox hb; have n0_ := Aside0.mk (blk_below (g := gb331) (o := .cells #[.string a0_0, .int .i64 a0_1, .int .i64 a0_2, .int .i64 a0_3, .int .i64 a0_4, .slice A0_5 l0_5.length c0_5] 53 (0, 0)) (by (with_reducible repeat (first | refine blk_drewN ?_ _ | refine blk_drew ?_ | refine blk_alloc ?_ _)); exact BK331.out) hb); have n1_ := Aside0.mk (below_step (by repeat (first | (with_reducible first | exact HB.out | apply below_alloc | apply pw_below_drewN | apply below_drew1 | refine below_set ?_ GE331.out) | exact HB.out)) hb); have n2_ := Aside0.mk (hbox); have n3_ := Aside0.mk ((by rw [hg]; exact (below_size (by repeat (first | (with_reducible first | exact HB.out | apply below_alloc | apply pw_below_drewN | apply below_drew1 | refine below_set ?_ GE331.out) | exact HB.out))) : w.heap.size ≤ gb332)); have n4_ := n3_; have n5_ := Aside0.mk ((by rw [hg]; exact Nat.ne_of_lt (blk_lt (g := gb331) (o := .cells #[.string a0_0, .int .i64 a0_1, .int .i64 a0_2, .int .i64 a0_3, .int .i64 a0_4, .slice A0_5 l0_5.length c0_5] 53 (0, 0)) (by (with_reducible repeat (first | refine blk_drewN ?_ _ | refine blk_drew ?_ | refine blk_alloc ?_ _)); exact BK331.out)) : gb331 ≠ gb332)); have n6_ := Aside0.mk ((by rw [hg]; exact Nat.ne_of_gt (blk_lt (g := gb331) (o := .cells #[.string a0_0, .int .i64 a0_1, .int .i64 a0_2, .int .i64 a0_3, .int .i64 a0_4, .slice A0_5 l0_5.length c0_5] 53 (0, 0)) (by (with_reducible repeat (first | refine blk_drewN ?_ _ | refine blk_drew ?_ | refine blk_alloc ?_ _)); exact BK331.out)) : gb332 ≠ gb331)); clear BK331; clear HB; have BK331 := n0_; have HB := n1_; have BK332 := n2_; have GW332 := n3_; have GE332 := n4_; have NB331_332 := n5_; have NB332_331 := n6_; clear n0_ n1_ n2_ n3_ n4_ n5_ n6_; clear hb hbox hg)); go_upto_region 1 with (first | ((with_reducible refine gate_dst (N := 2) rfl ?_); (try (refine gate_guard (by rfl) ?_; dsimp only)); refine box_event ?hg (N := 2) ?hd (cs := #[.string a0_0, .int .i64 a0_1, .int .i64 a0_2, .int .i64 a0_3, .int .i64 a0_4, .slice A0_5 l0_5.length c0_5]) (t := 53) ?hr ?_; (case hd => rfl); (case hg => rfl); (case hr => first | (go_simp; done) | (go_simp; rfl)); intro gb331 hg w4 hbox hb; have n0_ := Aside0.mk (below_step (by repeat (first | (with_reducible first | exact HB.out | apply below_alloc | apply pw_below_drewN | apply below_drew1) | exact HB.out)) hb); have n1_ := Aside0.mk (hbox); have n2_ := Aside0.mk ((by rw [hg]; exact (below_size (by repeat (first | (with_reducible first | exact HB.out | apply below_alloc | apply pw_below_drewN | apply below_drew1) | exact HB.out))) : w.heap.size ≤ gb331)); have n3_ := n2_; clear HB; have HB := n0_; have BK331 := n1_; have GW331 := n2_; have GE331 := n3_; clear n0_ n1_ n2_ n3_; clear hb hbox hg) | ((with_reducible refine gate_dst (N := 3) rfl ?_); (try (refine gate_guard (by rfl) ?_; dsimp only)); refine box_event ?hg (N := 3) ?hd (cs := #[.string a1_0, .int .i64 a1_1, .int .i64 a1_2, .int .i64 a1_3, .int .i64 a1_4, .slice A1_5 l1_5.length c1_5]) (t := 53) ?hr ?_; (case hd => rfl); (case hg => rfl); (case hr => first | (go_simp; done) | (go_simp; rfl)); intro gb332 hg w5 hbox hb; have n0_ := Aside0.mk (blk_below (g := gb331) (o := .cells #[.string a0_0, .int .i64 a0_1, .int .i64 a0_2, .int .i64 a0_3, .int .i64 a0_4, .slice A0_5 l0_5.length c0_5] 53 (0, 0)) (by (with_reducible repeat (first | refine blk_drewN ?_ _ | refine blk_drew ?_ | refine blk_alloc ?_ _)); exact BK331.out) hb); have n1_ := Aside0.mk (below_step (by repeat (first | (with_reducible first | exact HB.out | apply below_alloc | apply pw_below_drewN | apply below_drew1 | refine below_set ?_ GE331.out) | exact HB.out)) hb); have n2_ := Aside0.mk (hbox); have n3_ := Aside0.mk ((by rw [hg]; exact (below_size (by repeat (first | (with_reducible first | exact HB.out | apply below_alloc | apply pw_below_drewN | apply below_drew1 | refine below_set ?_ GE331.out) | exact HB.out))) : w.heap.size ≤ gb332)); have n4_ := n3_; have n5_ := Aside0.mk ((by rw [hg]; exact Nat.ne_of_lt (blk_lt (g := gb331) (o := .cells #[.string a0_0, .int .i64 a0_1, .int .i64 a0_2, .int .i64 a0_3, .int .i64 a0_4, .slice A0_5 l0_5.length c0_5] 53 (0, 0)) (by (with_reducible repeat (first | refine blk_drewN ?_ _ | refine blk_drew ?_ | refine blk_alloc ?_ _)); exact BK331.out)) : gb331 ≠ gb332)); have n6_ := Aside0.mk ((by rw [hg]; exact Nat.ne_of_gt (blk_lt (g := gb331) (o := .cells #[.string a0_0, .int .i64 a0_1, .int .i64 a0_2, .int .i64 a0_3, .int .i64 a0_4, .slice A0_5 l0_5.length c0_5] 53 (0, 0)) (by (with_reducible repeat (first | refine blk_drewN ?_ _ | refine blk_drew ?_ | refine blk_alloc ?_ _)); exact BK331.out)) : gb332 ≠ gb331)); clear BK331; clear HB; have BK331 := n0_; have HB := n1_; have BK332 := n2_; have GW332 := n3_; have GE332 := n4_; have NB331_332 := n5_; have NB332_331 := n6_; clear n0_ n1_ n2_ n3_ n4_ n5_ n6_; clear hb hbox hg)))
  (try simp only [Act.put, List.setIfInBounds_toArray, List.set_cons_zero, List.set_cons_succ])
  go_cut [47] (fun v47 wc => ∃ (kq : Nat) (x47_2 : Bool), v47 = .bool x47_2 ∧ Aside0 (sr_SameTask.j0 kq x47_2 a0_0 a0_1 a0_2 a0_3 a0_4 l0_5 a1_0 a1_1 a1_2 a1_3 a1_4 l1_5 = some r) ∧ Aside0 (kq ≤ k) ∧ Aside0 (wc.heap[gb331]? = some (.cells #[.string a0_0, .int .i64 a0_1, .int .i64 a0_2, .int .i64 a0_3, .int .i64 a0_4, (.slice A0_5 l0_5.length c0_5)] 53 (0, 0))) ∧ Aside0 (wc.heap[gb332]? = some (.cells #[.string a1_0, .int .i64 a1_1, .int .i64 a1_2, .int .i64 a1_3, .int .i64 a1_4, (.slice A1_5 l1_5.length c1_5)] 53 (0, 0))) ∧ Aside0 (Below w.heap.size w wc))
  case first =>
    have H := HC3.out
    clear HC3
    by_cases c6 : a0_0.toList = a1_0.toList
    rotate_left
    · rw [if_neg c6] at H
      have c6b0 : (a0_0.toList == a1_0.toList) = false := beq_eq_false_iff_ne.mpr c6
      have c6b1 : (a0_0.toList != a1_0.toList) = true := bne_iff_ne.mpr c6
      (first | rw [c6b0] | (simp only [i64_w, i32_w]; rw [c6b0]) | skip)
      have H' := Aside0.mk H
      clear H
      have hnb7 := NB331_332.out
      have hnc7 := NB332_331.out
      have hcz8_0 : w5.cell? ⟨gb331, 0, none⟩ = some (.string a0_0) := (blk_cell BK331.out 0).trans rfl
      have hcz8_1 : w5.cell? ⟨gb331, 1, none⟩ = some (.int .i64 a0_1) := (blk_cell BK331.out 1).trans rfl
      have hcz8_2 : w5.cell? ⟨gb331, 2, none⟩ = some (.int .i64 a0_2) := (blk_cell BK331.out 2).trans rfl
      have hcz8_3 : w5.cell? ⟨gb331, 3, none⟩ = some (.int .i64 a0_3) := (blk_cell BK331.out 3).trans rfl
      have hcz8_4 : w5.cell? ⟨gb331, 4, none⟩ = some (.int .i64 a0_4) := (blk_cell BK331.out 4).trans rfl
      have hcz8_5 : w5.cell? ⟨gb331, 5, none⟩ = some (.slice A0_5 l0_5.length c0_5) := (blk_cell BK331.out 5).trans rfl
      have hfz8_0 := blk_frozen BK331.out 0
      have hfz8_1 := blk_frozen BK331.out 1
      have hfz8_2 := blk_frozen BK331.out 2
      have hfz8_3 := blk_frozen BK331.out 3
      have hfz8_4 := blk_frozen BK331.out 4
      have hfz8_5 := blk_frozen BK331.out 5
      have hcz9_0 : w5.cell? ⟨gb332, 0, none⟩ = some (.string a1_0) := (blk_cell BK332.out 0).trans rfl
      have hcz9_1 : w5.cell? ⟨gb332, 1, none⟩ = some (.int .i64 a1_1) := (blk_cell BK332.out 1).trans rfl
      have hcz9_2 : w5.cell? ⟨gb332, 2, none⟩ = some (.int .i64 a1_2) := (blk_cell BK332.out 2).trans rfl
      have hcz9_3 : w5.cell? ⟨gb332, 3, none⟩ = some (.int .i64 a1_3) := (blk_cell BK332.out 3).trans rfl
      have hcz9_4 : w5.cell? ⟨gb332, 4, none⟩ = some (.int .i64 a1_4) := (blk_cell BK332.out 4).trans rfl
      have hcz9_5 : w5.cell? ⟨gb332, 5, none⟩ = some (.slice A1_5 l1_5.length c1_5) := (blk_cell BK332.out 5).trans rfl
      have hfz9_0 := blk_frozen BK332.out 0
      have hfz9_1 := blk_frozen BK332.out 1
      have hfz9_2 := blk_frozen BK332.out 2
      have hfz9_3 := blk_frozen BK332.out 3
      have hfz9_4 := blk_frozen BK332.out 4
      have hfz9_5 := blk_frozen BK332.out 5
      go_wp2
      repeat (go_quiet (fail); try go_wp2)
      go_meet
      case rel => exact ⟨_, (true), (by first | rfl | (simp; done) | (simp [*]; done)), H', ⟨by first | omega | exact Nat.le_refl _⟩, ⟨by (with_reducible repeat (first | refine blk_drewN ?_ _ | refine blk_drew ?_ | refine blk_alloc ?_ _)); exact BK331.out⟩, ⟨by (with_reducible repeat (first | refine blk_drewN ?_ _ | refine blk_drew ?_ | refine blk_alloc ?_ _)); exact BK332.out⟩, ⟨by repeat (first | (with_reducible first | exact HB.out | apply below_alloc | apply pw_below_drewN | apply below_drew1 | refine below_set ?_ GE331.out | refine below_set ?_ GE332.out) | exact HB.out)⟩⟩
    rw [if_pos c6] at H
    have c6b0 : (a0_0.toList == a1_0.toList) = true := beq_iff_eq.mpr c6
    have c6b1 : (a0_0.toList != a1_0.toList) = false := bne_eq_false_iff_eq.mpr c6
    clear c6
    (first | rw [c6b0] | (simp only [i64_w, i32_w]; rw [c6b0]) | skip)
    by_cases c10 : a0_1 = a1_1
    rotate_left
    · rw [if_neg c10] at H
      have c10b0 : (a0_1 == a1_1) = false := beq_eq_false_iff_ne.mpr c10
      have c10b1 : (a0_1 != a1_1) = true := bne_iff_ne.mpr c10
      have H' := Aside0.mk H
      clear H
      have hnb11 := NB331_332.out
      have hnc11 := NB332_331.out
      have hcz12_0 : w5.cell? ⟨gb331, 0, none⟩ = some (.string a0_0) := (blk_cell BK331.out 0).trans rfl
      have hcz12_1 : w5.cell? ⟨gb331, 1, none⟩ = some (.int .i64 a0_1) := (blk_cell BK331.out 1).trans rfl
      have hcz12_2 : w5.cell? ⟨gb331, 2, none⟩ = some (.int .i64 a0_2) := (blk_cell BK331.out 2).trans rfl
      have hcz12_3 : w5.cell? ⟨gb331, 3, none⟩ = some (.int .i64 a0_3) := (blk_cell BK331.out 3).trans rfl
      have hcz12_4 : w5.cell? ⟨gb331, 4, none⟩ = some (.int .i64 a0_4) := (blk_cell BK331.out 4).trans rfl
      have hcz12_5 : w5.cell? ⟨gb331, 5, none⟩ = some (.slice A0_5 l0_5.length c0_5) := (blk_cell BK331.out 5).trans rfl
      have hfz12_0 := blk_frozen BK331.out 0
      have hfz12_1 := blk_frozen BK331.out 1
      have hfz12_2 := blk_frozen BK331.out 2
      have hfz12_3 := blk_frozen BK331.out 3
      have hfz12_4 := blk_frozen BK331.out 4
      have hfz12_5 := blk_frozen BK331.out 5
      have hcz13_0 : w5.cell? ⟨gb332, 0, none⟩ = some (.string a1_0) := (blk_cell BK332.out 0).trans rfl
      have hcz13_1 : w5.cell? ⟨gb332, 1, none⟩ = some (.int .i64 a1_1) := (blk_cell BK332.out 1).trans rfl
      have hcz13_2 : w5.cell? ⟨gb332, 2, none⟩ = some (.int .i64 a1_2) := (blk_cell BK332.out 2).trans rfl
      have hcz13_3 : w5.cell? ⟨gb332, 3, none⟩ = some (.int .i64 a1_3) := (blk_cell BK332.out 3).trans rfl
      have hcz13_4 : w5.cell? ⟨gb332, 4, none⟩ = some (.int .i64 a1_4) := (blk_cell BK332.out 4).trans rfl
      have hcz13_5 : w5.cell? ⟨gb332, 5, none⟩ = some (.slice A1_5 l1_5.length c1_5) := (blk_cell BK332.out 5).trans rfl
      have hfz13_0 := blk_frozen BK332.out 0
      have hfz13_1 := blk_frozen BK332.out 1
      have hfz13_2 := blk_frozen BK332.out 2
      have hfz13_3 := blk_frozen BK332.out 3
      have hfz13_4 := blk_frozen BK332.out 4
      have hfz13_5 := blk_frozen BK332.out 5
      go_wp2
      repeat (go_quiet (fail); try go_wp2)
      go_meet
      case rel => exact ⟨_, (true), (by first | rfl | (simp; done) | (simp [*]; done)), H', ⟨by first | omega | exact Nat.le_refl _⟩, ⟨by (with_reducible repeat (first | refine blk_drewN ?_ _ | refine blk_drew ?_ | refine blk_alloc ?_ _)); exact BK331.out⟩, ⟨by (with_reducible repeat (first | refine blk_drewN ?_ _ | refine blk_drew ?_ | refine blk_alloc ?_ _)); exact BK332.out⟩, ⟨by repeat (first | (with_reducible first | exact HB.out | apply below_alloc | apply pw_below_drewN | apply below_drew1 | refine below_set ?_ GE331.out | refine below_set ?_ GE332.out) | exact HB.out)⟩⟩
    rw [if_pos c10] at H
    have c10b0 : (a0_1 == a1_1) = true := beq_iff_eq.mpr c10
    have c10b1 : (a0_1 != a1_1) = false := bne_eq_false_iff_eq.mpr c10
    clear c10
    by_cases c14 : a0_2 = a1_2
    rotate_left
    · rw [if_neg c14] at H
      have c14b0 : (a0_2 == a1_2) = false := beq_eq_false_iff_ne.mpr c14
      have c14b1 : (a0_2 != a1_2) = true := bne_iff_ne.mpr c14
      have H' := Aside0.mk H
      clear H
      have hnb15 := NB331_332.out
      have hnc15 := NB332_331.out
      have hcz16_0 : w5.cell? ⟨gb331, 0, none⟩ = some (.string a0_0) := (blk_cell BK331.out 0).trans rfl
      have hcz16_1 : w5.cell? ⟨gb331, 1, none⟩ = some (.int .i64 a0_1) := (blk_cell BK331.out 1).trans rfl
      have hcz16_2 : w5.cell? ⟨gb331, 2, none⟩ = some (.int .i64 a0_2) := (blk_cell BK331.out 2).trans rfl
      have hcz16_3 : w5.cell? ⟨gb331, 3, none⟩ = some (.int .i64 a0_3) := (blk_cell BK331.out 3).trans rfl
      have hcz16_4 : w5.cell? ⟨gb331, 4, none⟩ = some (.int .i64 a0_4) := (blk_cell BK331.out 4).trans rfl
      have hcz16_5 : w5.cell? ⟨gb331, 5, none⟩ = some (.slice A0_5 l0_5.length c0_5) := (blk_cell BK331.out 5).trans rfl
      have hfz16_0 := blk_frozen BK331.out 0
      have hfz16_1 := blk_frozen BK331.out 1
      have hfz16_2 := blk_frozen BK331.out 2
      have hfz16_3 := blk_frozen BK331.out 3
      have hfz16_4 := blk_frozen BK331.out 4
      have hfz16_5 := blk_frozen BK331.out 5
      have hcz17_0 : w5.cell? ⟨gb332, 0, none⟩ = some (.string a1_0) := (blk_cell BK332.out 0).trans rfl
      have hcz17_1 : w5.cell? ⟨gb332, 1, none⟩ = some (.int .i64 a1_1) := (blk_cell BK332.out 1).trans rfl
      have hcz17_2 : w5.cell? ⟨gb332, 2, none⟩ = some (.int .i64 a1_2) := (blk_cell BK332.out 2).trans rfl
      have hcz17_3 : w5.cell? ⟨gb332, 3, none⟩ = some (.int .i64 a1_3) := (blk_cell BK332.out 3).trans rfl
      have hcz17_4 : w5.cell? ⟨gb332, 4, none⟩ = some (.int .i64 a1_4) := (blk_cell BK332.out 4).trans rfl
      have hcz17_5 : w5.cell? ⟨gb332, 5, none⟩ = some (.slice A1_5 l1_5.length c1_5) := (blk_cell BK332.out 5).trans rfl
      have hfz17_0 := blk_frozen BK332.out 0
      have hfz17_1 := blk_frozen BK332.out 1
      have hfz17_2 := blk_frozen BK332.out 2
      have hfz17_3 := blk_frozen BK332.out 3
      have hfz17_4 := blk_frozen BK332.out 4
      have hfz17_5 := blk_frozen BK332.out 5
      go_wp2
      repeat (go_quiet (fail); try go_wp2)
      go_meet
      case rel => exact ⟨_, (true), (by first | rfl | (simp; done) | (simp [*]; done)), H', ⟨by first | omega | exact Nat.le_refl _⟩, ⟨by (with_reducible repeat (first | refine blk_drewN ?_ _ | refine blk_drew ?_ | refine blk_alloc ?_ _)); exact BK331.out⟩, ⟨by (with_reducible repeat (first | refine blk_drewN ?_ _ | refine blk_drew ?_ | refine blk_alloc ?_ _)); exact BK332.out⟩, ⟨by repeat (first | (with_reducible first | exact HB.out | apply below_alloc | apply pw_below_drewN | apply below_drew1 | refine below_set ?_ GE331.out | refine below_set ?_ GE332.out) | exact HB.out)⟩⟩
    rw [if_pos c14] at H
    have c14b0 : (a0_2 == a1_2) = true := beq_iff_eq.mpr c14
    have c14b1 : (a0_2 != a1_2) = false := bne_eq_false_iff_eq.mpr c14
    clear c14
    by_cases c18 : a0_3 = a1_3
    rotate_left
    · rw [if_neg c18] at H
      have c18b0 : (a0_3 == a1_3) = false := beq_eq_false_iff_ne.mpr c18
      have c18b1 : (a0_3 != a1_3) = true := bne_iff_ne.mpr c18
      have H' := Aside0.mk H
      clear H
      have hnb19 := NB331_332.out
      have hnc19 := NB332_331.out
      have hcz20_0 : w5.cell? ⟨gb331, 0, none⟩ = some (.string a0_0) := (blk_cell BK331.out 0).trans rfl
      have hcz20_1 : w5.cell? ⟨gb331, 1, none⟩ = some (.int .i64 a0_1) := (blk_cell BK331.out 1).trans rfl
      have hcz20_2 : w5.cell? ⟨gb331, 2, none⟩ = some (.int .i64 a0_2) := (blk_cell BK331.out 2).trans rfl
      have hcz20_3 : w5.cell? ⟨gb331, 3, none⟩ = some (.int .i64 a0_3) := (blk_cell BK331.out 3).trans rfl
      have hcz20_4 : w5.cell? ⟨gb331, 4, none⟩ = some (.int .i64 a0_4) := (blk_cell BK331.out 4).trans rfl
      have hcz20_5 : w5.cell? ⟨gb331, 5, none⟩ = some (.slice A0_5 l0_5.length c0_5) := (blk_cell BK331.out 5).trans rfl
      have hfz20_0 := blk_frozen BK331.out 0
      have hfz20_1 := blk_frozen BK331.out 1
      have hfz20_2 := blk_frozen BK331.out 2
      have hfz20_3 := blk_frozen BK331.out 3
      have hfz20_4 := blk_frozen BK331.out 4
      have hfz20_5 := blk_frozen BK331.out 5
      have hcz21_0 : w5.cell? ⟨gb332, 0, none⟩ = some (.string a1_0) := (blk_cell BK332.out 0).trans rfl
      have hcz21_1 : w5.cell? ⟨gb332, 1, none⟩ = some (.int .i64 a1_1) := (blk_cell BK332.out 1).trans rfl
      have hcz21_2 : w5.cell? ⟨gb332, 2, none⟩ = some (.int .i64 a1_2) := (blk_cell BK332.out 2).trans rfl
      have hcz21_3 : w5.cell? ⟨gb332, 3, none⟩ = some (.int .i64 a1_3) := (blk_cell BK332.out 3).trans rfl
      have hcz21_4 : w5.cell? ⟨gb332, 4, none⟩ = some (.int .i64 a1_4) := (blk_cell BK332.out 4).trans rfl
      have hcz21_5 : w5.cell? ⟨gb332, 5, none⟩ = some (.slice A1_5 l1_5.length c1_5) := (blk_cell BK332.out 5).trans rfl
      have hfz21_0 := blk_frozen BK332.out 0
      have hfz21_1 := blk_frozen BK332.out 1
      have hfz21_2 := blk_frozen BK332.out 2
      have hfz21_3 := blk_frozen BK332.out 3
      have hfz21_4 := blk_frozen BK332.out 4
      have hfz21_5 := blk_frozen BK332.out 5
      go_wp2
      repeat (go_quiet (fail); try go_wp2)
      go_meet
      case rel => exact ⟨_, (true), (by first | rfl | (simp; done) | (simp [*]; done)), H', ⟨by first | omega | exact Nat.le_refl _⟩, ⟨by (with_reducible repeat (first | refine blk_drewN ?_ _ | refine blk_drew ?_ | refine blk_alloc ?_ _)); exact BK331.out⟩, ⟨by (with_reducible repeat (first | refine blk_drewN ?_ _ | refine blk_drew ?_ | refine blk_alloc ?_ _)); exact BK332.out⟩, ⟨by repeat (first | (with_reducible first | exact HB.out | apply below_alloc | apply pw_below_drewN | apply below_drew1 | refine below_set ?_ GE331.out | refine below_set ?_ GE332.out) | exact HB.out)⟩⟩
    rw [if_pos c18] at H
    have c18b0 : (a0_3 == a1_3) = true := beq_iff_eq.mpr c18
    have c18b1 : (a0_3 != a1_3) = false := bne_eq_false_iff_eq.mpr c18
    clear c18
    by_cases c22 : a0_4 = a1_4
    rotate_left
    · rw [if_neg c22] at H
      have c22b0 : (a0_4 == a1_4) = false := beq_eq_false_iff_ne.mpr c22
      have c22b1 : (a0_4 != a1_4) = true := bne_iff_ne.mpr c22
      have H' := Aside0.mk H
      clear H
      have hnb23 := NB331_332.out
      have hnc23 := NB332_331.out
      have hcz24_0 : w5.cell? ⟨gb331, 0, none⟩ = some (.string a0_0) := (blk_cell BK331.out 0).trans rfl
      have hcz24_1 : w5.cell? ⟨gb331, 1, none⟩ = some (.int .i64 a0_1) := (blk_cell BK331.out 1).trans rfl
      have hcz24_2 : w5.cell? ⟨gb331, 2, none⟩ = some (.int .i64 a0_2) := (blk_cell BK331.out 2).trans rfl
      have hcz24_3 : w5.cell? ⟨gb331, 3, none⟩ = some (.int .i64 a0_3) := (blk_cell BK331.out 3).trans rfl
      have hcz24_4 : w5.cell? ⟨gb331, 4, none⟩ = some (.int .i64 a0_4) := (blk_cell BK331.out 4).trans rfl
      have hcz24_5 : w5.cell? ⟨gb331, 5, none⟩ = some (.slice A0_5 l0_5.length c0_5) := (blk_cell BK331.out 5).trans rfl
      have hfz24_0 := blk_frozen BK331.out 0
      have hfz24_1 := blk_frozen BK331.out 1
      have hfz24_2 := blk_frozen BK331.out 2
      have hfz24_3 := blk_frozen BK331.out 3
      have hfz24_4 := blk_frozen BK331.out 4
      have hfz24_5 := blk_frozen BK331.out 5
      have hcz25_0 : w5.cell? ⟨gb332, 0, none⟩ = some (.string a1_0) := (blk_cell BK332.out 0).trans rfl
      have hcz25_1 : w5.cell? ⟨gb332, 1, none⟩ = some (.int .i64 a1_1) := (blk_cell BK332.out 1).trans rfl
      have hcz25_2 : w5.cell? ⟨gb332, 2, none⟩ = some (.int .i64 a1_2) := (blk_cell BK332.out 2).trans rfl
      have hcz25_3 : w5.cell? ⟨gb332, 3, none⟩ = some (.int .i64 a1_3) := (blk_cell BK332.out 3).trans rfl
      have hcz25_4 : w5.cell? ⟨gb332, 4, none⟩ = some (.int .i64 a1_4) := (blk_cell BK332.out 4).trans rfl
      have hcz25_5 : w5.cell? ⟨gb332, 5, none⟩ = some (.slice A1_5 l1_5.length c1_5) := (blk_cell BK332.out 5).trans rfl
      have hfz25_0 := blk_frozen BK332.out 0
      have hfz25_1 := blk_frozen BK332.out 1
      have hfz25_2 := blk_frozen BK332.out 2
      have hfz25_3 := blk_frozen BK332.out 3
      have hfz25_4 := blk_frozen BK332.out 4
      have hfz25_5 := blk_frozen BK332.out 5
      go_wp2
      repeat (go_quiet (fail); try go_wp2)
      go_meet
      case rel => exact ⟨_, (true), (by first | rfl | (simp; done) | (simp [*]; done)), H', ⟨by first | omega | exact Nat.le_refl _⟩, ⟨by (with_reducible repeat (first | refine blk_drewN ?_ _ | refine blk_drew ?_ | refine blk_alloc ?_ _)); exact BK331.out⟩, ⟨by (with_reducible repeat (first | refine blk_drewN ?_ _ | refine blk_drew ?_ | refine blk_alloc ?_ _)); exact BK332.out⟩, ⟨by repeat (first | (with_reducible first | exact HB.out | apply below_alloc | apply pw_below_drewN | apply below_drew1 | refine below_set ?_ GE331.out | refine below_set ?_ GE332.out) | exact HB.out)⟩⟩
    rw [if_pos c22] at H
    have c22b0 : (a0_4 == a1_4) = true := beq_iff_eq.mpr c22
    have c22b1 : (a0_4 != a1_4) = false := bne_eq_false_iff_eq.mpr c22
    clear c22
    have H' := Aside0.mk H
    clear H
    have hnb26 := NB331_332.out
    have hnc26 := NB332_331.out
    have hcz27_0 : w5.cell? ⟨gb331, 0, none⟩ = some (.string a0_0) := (blk_cell BK331.out 0).trans rfl
    have hcz27_1 : w5.cell? ⟨gb331, 1, none⟩ = some (.int .i64 a0_1) := (blk_cell BK331.out 1).trans rfl
    have hcz27_2 : w5.cell? ⟨gb331, 2, none⟩ = some (.int .i64 a0_2) := (blk_cell BK331.out 2).trans rfl
    have hcz27_3 : w5.cell? ⟨gb331, 3, none⟩ = some (.int .i64 a0_3) := (blk_cell BK331.out 3).trans rfl
    have hcz27_4 : w5.cell? ⟨gb331, 4, none⟩ = some (.int .i64 a0_4) := (blk_cell BK331.out 4).trans rfl
    have hcz27_5 : w5.cell? ⟨gb331, 5, none⟩ = some (.slice A0_5 l0_5.length c0_5) := (blk_cell BK331.out 5).trans rfl
    have hfz27_0 := blk_frozen BK331.out 0
    have hfz27_1 := blk_frozen BK331.out 1
    have hfz27_2 := blk_frozen BK331.out 2
    have hfz27_3 := blk_frozen BK331.out 3
    have hfz27_4 := blk_frozen BK331.out 4
    have hfz27_5 := blk_frozen BK331.out 5
    have hcz28_0 : w5.cell? ⟨gb332, 0, none⟩ = some (.string a1_0) := (blk_cell BK332.out 0).trans rfl
    have hcz28_1 : w5.cell? ⟨gb332, 1, none⟩ = some (.int .i64 a1_1) := (blk_cell BK332.out 1).trans rfl
    have hcz28_2 : w5.cell? ⟨gb332, 2, none⟩ = some (.int .i64 a1_2) := (blk_cell BK332.out 2).trans rfl
    have hcz28_3 : w5.cell? ⟨gb332, 3, none⟩ = some (.int .i64 a1_3) := (blk_cell BK332.out 3).trans rfl
    have hcz28_4 : w5.cell? ⟨gb332, 4, none⟩ = some (.int .i64 a1_4) := (blk_cell BK332.out 4).trans rfl
    have hcz28_5 : w5.cell? ⟨gb332, 5, none⟩ = some (.slice A1_5 l1_5.length c1_5) := (blk_cell BK332.out 5).trans rfl
    have hfz28_0 := blk_frozen BK332.out 0
    have hfz28_1 := blk_frozen BK332.out 1
    have hfz28_2 := blk_frozen BK332.out 2
    have hfz28_3 := blk_frozen BK332.out 3
    have hfz28_4 := blk_frozen BK332.out 4
    have hfz28_5 := blk_frozen BK332.out 5
    go_wp2
    repeat (go_quiet (fail); try go_wp2)
    go_meet
    case rel => exact ⟨_, (((l0_5.length : Int) != (l1_5.length : Int))), (by first | rfl | (simp; done) | (simp [*]; done)), H', ⟨by first | omega | exact Nat.le_refl _⟩, ⟨by (with_reducible repeat (first | refine blk_drewN ?_ _ | refine blk_drew ?_ | refine blk_alloc ?_ _)); exact BK331.out⟩, ⟨by (with_reducible repeat (first | refine blk_drewN ?_ _ | refine blk_drew ?_ | refine blk_alloc ?_ _)); exact BK332.out⟩, ⟨by repeat (first | (with_reducible first | exact HB.out | apply below_alloc | apply pw_below_drewN | apply below_drew1 | refine below_set ?_ GE331.out | refine below_set ?_ GE332.out) | exact HB.out)⟩⟩
  clear HC3
  (try clear c1); (try clear c2); (try clear p2); (try clear c4); (try clear c6); (try clear c6b0); (try clear c6b1); (try clear c7); (try clear c10); (try clear c10b0); (try clear c10b1); (try clear c11); (try clear c14); (try clear c14b0); (try clear c14b1); (try clear c15); (try clear c18); (try clear c18b0); (try clear c18b1); (try clear c19); (try clear c22); (try clear c22b0); (try clear c22b1); (try clear c23); (try clear c26); (try clear hcz12_0); (try clear hcz12_1); (try clear hcz12_2); (try clear hcz12_3); (try clear hcz12_4); (try clear hcz12_5); (try clear hcz13_0); (try clear hcz13_1); (try clear hcz13_2); (try clear hcz13_3); (try clear hcz13_4); (try clear hcz13_5); (try clear hcz16_0); (try clear hcz16_1); (try clear hcz16_2); (try clear hcz16_3); (try clear hcz16_4); (try clear hcz16_5); (try clear hcz17_0); (try clear hcz17_1); (try clear hcz17_2); (try clear hcz17_3); (try clear hcz17_4); (try clear hcz17_5); (try clear hcz20_0); (try clear hcz20_1); (try clear hcz20_2); (try clear hcz20_3); (try clear hcz20_4); (try clear hcz20_5); (try clear hcz21_0); (try clear hcz21_1); (try clear hcz21_2); (try clear hcz21_3); (try clear hcz21_4); (try clear hcz21_5); (try clear hcz24_0); (try clear hcz24_1); (try clear hcz24_2); (try clear hcz24_3); (try clear hcz24_4); (try clear hcz24_5); (try clear hcz25_0); (try clear hcz25_1); (try clear hcz25_2); (try clear hcz25_3); (try clear hcz25_4); (try clear hcz25_5); (try clear hcz27_0); (try clear hcz27_1); (try clear hcz27_2); (try clear hcz27_3); (try clear hcz27_4); (try clear hcz27_5); (try clear hcz28_0); (try clear hcz28_1); (try clear hcz28_2); (try clear hcz28_3); (try clear hcz28_4); (try clear hcz28_5); (try clear hcz8_0); (try clear hcz8_1); (try clear hcz8_2); (try clear hcz8_3); (try clear hcz8_4); (try clear hcz8_5); (try clear hcz9_0); (try clear hcz9_1); (try clear hcz9_2); (try clear hcz9_3); (try clear hcz9_4); (try clear hcz9_5); (try clear hfz12_0); (try clear hfz12_1); (try clear hfz12_2); (try clear hfz12_3); (try clear hfz12_4); (try clear hfz12_5); (try clear hfz13_0); (try clear hfz13_1); (try clear hfz13_2); (try clear hfz13_3); (try clear hfz13_4); (try clear hfz13_5); (try clear hfz16_0); (try clear hfz16_1); (try clear hfz16_2); (try clear hfz16_3); (try clear hfz16_4); (try clear hfz16_5); (try clear hfz17_0); (try clear hfz17_1); (try clear hfz17_2); (try clear hfz17_3); (try clear hfz17_4); (try clear hfz17_5); (try clear hfz20_0); (try clear hfz20_1); (try clear hfz20_2); (try clear hfz20_3); (try clear hfz20_4); (try clear hfz20_5); (try clear hfz21_0); (try clear hfz21_1); (try clear hfz21_2); (try clear hfz21_3); (try clear hfz21_4); (try clear hfz21_5); (try clear hfz24_0); (try clear hfz24_1); (try clear hfz24_2); (try clear hfz24_3); (try clear hfz24_4); (try clear hfz24_5); (try clear hfz25_0); (try clear hfz25_1); (try clear hfz25_2); (try clear hfz25_3); (try clear hfz25_4); (try clear hfz25_5); (try clear hfz27_0); (try clear hfz27_1); (try clear hfz27_2); (try clear hfz27_3); (try clear hfz27_4); (try clear hfz27_5); (try clear hfz28_0); (try clear hfz28_1); (try clear hfz28_2); (try clear hfz28_3); (try clear hfz28_4); (try clear hfz28_5); (try clear hfz8_0); (try clear hfz8_1); (try clear hfz8_2); (try clear hfz8_3); (try clear hfz8_4); (try clear hfz8_5); (try clear hfz9_0); (try clear hfz9_1); (try clear hfz9_2); (try clear hfz9_3); (try clear hfz9_4); (try clear hfz9_5)
  obtain ⟨kq, x47_2, rfl, HA, HJ2, BK331, BK332, HB⟩ := hcut
  cases kq with
  | zero => exact absurd HA.out (by simp [sr_SameTask.j0])
  | succ kj2 => ?_
  have H := HA.out
  clear HA
  simp only [sr_SameTask.j0] at H
  by_cases c29 : x47_2 = true
  · subst c29
    have H1 : (some false) = some r := by rw [if_pos rfl] at H; exact H
    clear H
    have H := H1
    clear H1
    obtain rfl := Option.some.inj H
    go_wp2
    repeat (go_quiet (fail); try go_wp2)
    go_ret
    exact ⟨by first | rfl | (simp [errW_none, errW_some] <;> rfl) | (simp [*, errW_none, errW_some] <;> rfl), by repeat (first | (with_reducible first | exact HB.out | apply below_alloc | apply pw_below_drewN | apply below_drew1 | refine below_set ?_ GE331.out | refine below_set ?_ GE332.out) | exact HB.out)⟩
  replace c29 := Bool.eq_false_iff.mpr c29
  subst c29
  have H1 : (sr_SameTask.l0 kj2 0 a0_0 a0_1 a0_2 a0_3 a0_4 l0_5 a1_0 a1_1 a1_2 a1_3 a1_4 l1_5) = some r := by rw [if_neg (show ¬ (false = true) by decide)] at H; exact H
  clear H
  have H := H1
  clear H1
  have H' := Aside0.mk H
  clear H
  go_wp2
  repeat (go_quiet (fail); try go_wp2)
  go_loopg [5] kj2 (fun kq v5 w' => ∃ (x5_2 : Int), v5 = .int .i64 x5_2 ∧ Aside0 (sr_SameTask.l0 kq x5_2 a0_0 a0_1 a0_2 a0_3 a0_4 l0_5 a1_0 a1_1 a1_2 a1_3 a1_4 l1_5 = some r) ∧ Aside0 (kq ≤ kj2) ∧ Aside0 (w'.heap[gb331]? = some (.cells #[.string a0_0, .int .i64 a0_1, .int .i64 a0_2, .int .i64 a0_3, .int .i64 a0_4, (.slice A0_5 l0_5.length c0_5)] 53 (0, 0))) ∧ Aside0 (w'.heap[gb332]? = some (.cells #[.string a1_0, .int .i64 a1_1, .int .i64 a1_2, .int .i64 a1_3, .int .i64 a1_4, (.slice A1_5 l1_5.length c1_5)] 53 (0, 0))) ∧ Aside0 (Below w.heap.size w w'))
  case atStart => exact ⟨(0), (by first | rfl | (simp; done) | (simp [*]; done)), H', ⟨Nat.le_refl _⟩, ⟨by (with_reducible repeat (first | refine blk_drewN ?_ _ | refine blk_drew ?_ | refine blk_alloc ?_ _)); exact BK331.out⟩, ⟨by (with_reducible repeat (first | refine blk_drewN ?_ _ | refine blk_drew ?_ | refine blk_alloc ?_ _)); exact BK332.out⟩, ⟨by repeat (first | (with_reducible first | exact HB.out | apply below_alloc | apply pw_below_drewN | apply below_drew1 | refine below_set ?_ GE331.out | refine below_set ?_ GE332.out) | exact HB.out)⟩⟩
  clear H'
  (try clear c1); (try clear c2); (try clear p2); (try clear c4); (try clear c6); (try clear c6b0); (try clear c6b1); (try clear c7); (try clear c10); (try clear c10b0); (try clear c10b1); (try clear c11); (try clear c14); (try clear c14b0); (try clear c14b1); (try clear c15); (try clear c18); (try clear c18b0); (try clear c18b1); (try clear c19); (try clear c22); (try clear c22b0); (try clear c22b1); (try clear c23); (try clear c26); (try clear c29); (try clear hcz12_0); (try clear hcz12_1); (try clear hcz12_2); (try clear hcz12_3); (try clear hcz12_4); (try clear hcz12_5); (try clear hcz13_0); (try clear hcz13_1); (try clear hcz13_2); (try clear hcz13_3); (try clear hcz13_4); (try clear hcz13_5); (try clear hcz16_0); (try clear hcz16_1); (try clear hcz16_2); (try clear hcz16_3); (try clear hcz16_4); (try clear hcz16_5); (try clear hcz17_0); (try clear hcz17_1); (try clear hcz17_2); (try clear hcz17_3); (try clear hcz17_4); (try clear hcz17_5); (try clear hcz20_0); (try clear hcz20_1); (try clear hcz20_2); (try clear hcz20_3); (try clear hcz20_4); (try clear hcz20_5); (try clear hcz21_0); (try clear hcz21_1); (try clear hcz21_2); (try clear hcz21_3); (try clear hcz21_4); (try clear hcz21_5); (try clear hcz24_0); (try clear hcz24_1); (try clear hcz24_2); (try clear hcz24_3); (try clear hcz24_4); (try clear hcz24_5); (try clear hcz25_0); (try clear hcz25_1); (try clear hcz25_2); (try clear hcz25_3); (try clear hcz25_4); (try clear hcz25_5); (try clear hcz27_0); (try clear hcz27_1); (try clear hcz27_2); (try clear hcz27_3); (try clear hcz27_4); (try clear hcz27_5); (try clear hcz28_0); (try clear hcz28_1); (try clear hcz28_2); (try clear hcz28_3); (try clear hcz28_4); (try clear hcz28_5); (try clear hcz8_0); (try clear hcz8_1); (try clear hcz8_2); (try clear hcz8_3); (try clear hcz8_4); (try clear hcz8_5); (try clear hcz9_0); (try clear hcz9_1); (try clear hcz9_2); (try clear hcz9_3); (try clear hcz9_4); (try clear hcz9_5); (try clear hfz12_0); (try clear hfz12_1); (try clear hfz12_2); (try clear hfz12_3); (try clear hfz12_4); (try clear hfz12_5); (try clear hfz13_0); (try clear hfz13_1); (try clear hfz13_2); (try clear hfz13_3); (try clear hfz13_4); (try clear hfz13_5); (try clear hfz16_0); (try clear hfz16_1); (try clear hfz16_2); (try clear hfz16_3); (try clear hfz16_4); (try clear hfz16_5); (try clear hfz17_0); (try clear hfz17_1); (try clear hfz17_2); (try clear hfz17_3); (try clear hfz17_4); (try clear hfz17_5); (try clear hfz20_0); (try clear hfz20_1); (try clear hfz20_2); (try clear hfz20_3); (try clear hfz20_4); (try clear hfz20_5); (try clear hfz21_0); (try clear hfz21_1); (try clear hfz21_2); (try clear hfz21_3); (try clear hfz21_4); (try clear hfz21_5); (try clear hfz24_0); (try clear hfz24_1); (try clear hfz24_2); (try clear hfz24_3); (try clear hfz24_4); (try clear hfz24_5); (try clear hfz25_0); (try clear hfz25_1); (try clear hfz25_2); (try clear hfz25_3); (try clear hfz25_4); (try clear hfz25_5); (try clear hfz27_0); (try clear hfz27_1); (try clear hfz27_2); (try clear hfz27_3); (try clear hfz27_4); (try clear hfz27_5); (try clear hfz28_0); (try clear hfz28_1); (try clear hfz28_2); (try clear hfz28_3); (try clear hfz28_4); (try clear hfz28_5); (try clear hfz8_0); (try clear hfz8_1); (try clear hfz8_2); (try clear hfz8_3); (try clear hfz8_4); (try clear hfz8_5); (try clear hfz9_0); (try clear hfz9_1); (try clear hfz9_2); (try clear hfz9_3); (try clear hfz9_4); (try clear hfz9_5); (try clear p2)
  obtain ⟨x5_2, rfl, HA, HK2, BK331, BK332, HB⟩ := hrel
  cases gk with
  | zero => exact absurd HA.out (by simp [sr_SameTask.l0])
  | succ k2 => ?_
  have H := HA.out
  clear HA
  simp only [sr_SameTask.l0] at H
  by_cases c30 : x5_2 < (l0_5.length : Int)
  rotate_left
  · rw [if_neg c30] at H
    have c30b0 : decide (x5_2 < (l0_5.length : Int)) = false := decide_eq_false c30
    clear c30
    obtain rfl := Option.some.inj H
    have hnb31 := NB331_332.out
    have hnc31 := NB332_331.out
    have hcz32_0 : wr.cell? ⟨gb331, 0, none⟩ = some (.string a0_0) := (blk_cell BK331.out 0).trans rfl
    have hcz32_1 : wr.cell? ⟨gb331, 1, none⟩ = some (.int .i64 a0_1) := (blk_cell BK331.out 1).trans rfl
    have hcz32_2 : wr.cell? ⟨gb331, 2, none⟩ = some (.int .i64 a0_2) := (blk_cell BK331.out 2).trans rfl
    have hcz32_3 : wr.cell? ⟨gb331, 3, none⟩ = some (.int .i64 a0_3) := (blk_cell BK331.out 3).trans rfl
    have hcz32_4 : wr.cell? ⟨gb331, 4, none⟩ = some (.int .i64 a0_4) := (blk_cell BK331.out 4).trans rfl
    have hcz32_5 : wr.cell? ⟨gb331, 5, none⟩ = some (.slice A0_5 l0_5.length c0_5) := (blk_cell BK331.out 5).trans rfl
    have hfz32_0 := blk_frozen BK331.out 0
    have hfz32_1 := blk_frozen BK331.out 1
    have hfz32_2 := blk_frozen BK331.out 2
    have hfz32_3 := blk_frozen BK331.out 3
    have hfz32_4 := blk_frozen BK331.out 4
    have hfz32_5 := blk_frozen BK331.out 5
    go_wp2
    repeat (go_quiet (fail); try go_wp2)
    go_ret
    exact ⟨by first | rfl | (simp [errW_none, errW_some] <;> rfl) | (simp [*, errW_none, errW_some] <;> rfl), by repeat (first | (with_reducible first | exact HB.out | apply below_alloc | apply pw_below_drewN | apply below_drew1 | refine below_set ?_ GE331.out | refine below_set ?_ GE332.out) | exact HB.out)⟩
  rw [if_pos c30] at H
  have c30b0 : decide (x5_2 < (l0_5.length : Int)) = true := decide_eq_true c30
  clear c30
  by_cases c33 : 0 ≤ x5_2
  rotate_left
  · rw [if_neg c33] at H
    exact absurd H (by simp)
  rw [if_pos c33] at H
  have c33b0 : decide (0 ≤ x5_2) = true := decide_eq_true c33
  clear c33
  by_cases c34 : x5_2 < (l1_5.length : Int)
  rotate_left
  · rw [if_neg c34] at H
    exact absurd H (by simp)
  rw [if_pos c34] at H
  have c34b0 : decide (x5_2 < (l1_5.length : Int)) = true := decide_eq_true c34
  clear c34
  by_cases c35 : (!(((rd_T50 l0_5 x5_2).f0) == ((rd_T50 l1_5 x5_2).f0)) || (!(((rd_T50 l0_5 x5_2).f1) == ((rd_T50 l1_5 x5_2).f1)) || (!(((rd_T50 l0_5 x5_2).f2) == ((rd_T50 l1_5 x5_2).f2))))) = true
  rotate_left
  · rw [if_neg c35] at H
    have c35b0 : (!(((rd_T50 l0_5 x5_2).f0) == ((rd_T50 l1_5 x5_2).f0)) || (!(((rd_T50 l0_5 x5_2).f1) == ((rd_T50 l1_5 x5_2).f1)) || (!(((rd_T50 l0_5 x5_2).f2) == ((rd_T50 l1_5 x5_2).f2))))) = false := by simpa using c35
    clear c35
    have H' := Aside0.mk H
    clear H
    have hnb36 := NB331_332.out
    have hnc36 := NB332_331.out
    have hcz37_0 : wr.cell? ⟨gb331, 0, none⟩ = some (.string a0_0) := (blk_cell BK331.out 0).trans rfl
    have hcz37_1 : wr.cell? ⟨gb331, 1, none⟩ = some (.int .i64 a0_1) := (blk_cell BK331.out 1).trans rfl
    have hcz37_2 : wr.cell? ⟨gb331, 2, none⟩ = some (.int .i64 a0_2) := (blk_cell BK331.out 2).trans rfl
    have hcz37_3 : wr.cell? ⟨gb331, 3, none⟩ = some (.int .i64 a0_3) := (blk_cell BK331.out 3).trans rfl
    have hcz37_4 : wr.cell? ⟨gb331, 4, none⟩ = some (.int .i64 a0_4) := (blk_cell BK331.out 4).trans rfl
    have hcz37_5 : wr.cell? ⟨gb331, 5, none⟩ = some (.slice A0_5 l0_5.length c0_5) := (blk_cell BK331.out 5).trans rfl
    have hfz37_0 := blk_frozen BK331.out 0
    have hfz37_1 := blk_frozen BK331.out 1
    have hfz37_2 := blk_frozen BK331.out 2
    have hfz37_3 := blk_frozen BK331.out 3
    have hfz37_4 := blk_frozen BK331.out 4
    have hfz37_5 := blk_frozen BK331.out 5
    have p333 : 0 ≤ (x5_2 : Int) := of_decide_eq_true (by first | (with_reducible assumption) | assumption)
    have q333 : x5_2 < (l0_5.length : Int) := of_decide_eq_true (by first | (with_reducible assumption) | assumption)
    obtain ⟨ad333, e333, hx333_0, hx333_1, hx333_2⟩ := at_T50 HR0_5.out x5_2 p333 q333
    cases e333
    replace hx333_0 := (HB.out.cell (World.block_lt_of_cell? w _ hx333_0)).trans hx333_0
    replace hx333_1 := (HB.out.cell (World.block_lt_of_cell? w _ hx333_1)).trans hx333_1
    replace hx333_2 := (HB.out.cell (World.block_lt_of_cell? w _ hx333_2)).trans hx333_2
    replace p333 := eq_true p333
    replace q333 := eq_true q333
    have hcz38_0 : wr.cell? ⟨gb332, 0, none⟩ = some (.string a1_0) := (blk_cell BK332.out 0).trans rfl
    have hcz38_1 : wr.cell? ⟨gb332, 1, none⟩ = some (.int .i64 a1_1) := (blk_cell BK332.out 1).trans rfl
    have hcz38_2 : wr.cell? ⟨gb332, 2, none⟩ = some (.int .i64 a1_2) := (blk_cell BK332.out 2).trans rfl
    have hcz38_3 : wr.cell? ⟨gb332, 3, none⟩ = some (.int .i64 a1_3) := (blk_cell BK332.out 3).trans rfl
    have hcz38_4 : wr.cell? ⟨gb332, 4, none⟩ = some (.int .i64 a1_4) := (blk_cell BK332.out 4).trans rfl
    have hcz38_5 : wr.cell? ⟨gb332, 5, none⟩ = some (.slice A1_5 l1_5.length c1_5) := (blk_cell BK332.out 5).trans rfl
    have hfz38_0 := blk_frozen BK332.out 0
    have hfz38_1 := blk_frozen BK332.out 1
    have hfz38_2 := blk_frozen BK332.out 2
    have hfz38_3 := blk_frozen BK332.out 3
    have hfz38_4 := blk_frozen BK332.out 4
    have hfz38_5 := blk_frozen BK332.out 5
    have p334 : 0 ≤ (x5_2 : Int) := of_decide_eq_true (by first | (with_reducible assumption) | assumption)
    have q334 : x5_2 < (l1_5.length : Int) := of_decide_eq_true (by first | (with_reducible assumption) | assumption)
    obtain ⟨ad334, e334, hx334_0, hx334_1, hx334_2⟩ := at_T50 HR1_5.out x5_2 p334 q334
    cases e334
    replace hx334_0 := (HB.out.cell (World.block_lt_of_cell? w _ hx334_0)).trans hx334_0
    replace hx334_1 := (HB.out.cell (World.block_lt_of_cell? w _ hx334_1)).trans hx334_1
    replace hx334_2 := (HB.out.cell (World.block_lt_of_cell? w _ hx334_2)).trans hx334_2
    replace p334 := eq_true p334
    replace q334 := eq_true q334
    go_wp2
    repeat (go_quiet (fail); try go_wp2)
    go_roundg k2
    case measure => have := HJ2.out; have := HK2.out; omega
    case rel => exact ⟨(wrap64 (x5_2 + 1)), (by first | rfl | (simp; done) | (simp [*]; done)), H', ⟨by have := HJ2.out; have := HK2.out; omega⟩, ⟨by (with_reducible repeat (first | refine blk_drewN ?_ _ | refine blk_drew ?_ | refine blk_alloc ?_ _)); exact BK331.out⟩, ⟨by (with_reducible repeat (first | refine blk_drewN ?_ _ | refine blk_drew ?_ | refine blk_alloc ?_ _)); exact BK332.out⟩, ⟨by repeat (first | (with_reducible first | exact HB.out | apply below_alloc | apply pw_below_drewN | apply below_drew1 | refine below_set ?_ GE331.out | refine below_set ?_ GE332.out) | exact HB.out)⟩⟩
  rw [if_pos c35] at H
  have c35b0 : (!(((rd_T50 l0_5 x5_2).f0) == ((rd_T50 l1_5 x5_2).f0)) || (!(((rd_T50 l0_5 x5_2).f1) == ((rd_T50 l1_5 x5_2).f1)) || (!(((rd_T50 l0_5 x5_2).f2) == ((rd_T50 l1_5 x5_2).f2))))) = true := c35
  clear c35
  obtain rfl := Option.some.inj H
  have hnb39 := NB331_332.out
  have hnc39 := NB332_331.out
  have hcz40_0 : wr.cell? ⟨gb331, 0, none⟩ = some (.string a0_0) := (blk_cell BK331.out 0).trans rfl
  have hcz40_1 : wr.cell? ⟨gb331, 1, none⟩ = some (.int .i64 a0_1) := (blk_cell BK331.out 1).trans rfl
  have hcz40_2 : wr.cell? ⟨gb331, 2, none⟩ = some (.int .i64 a0_2) := (blk_cell BK331.out 2).trans rfl
  have hcz40_3 : wr.cell? ⟨gb331, 3, none⟩ = some (.int .i64 a0_3) := (blk_cell BK331.out 3).trans rfl
  have hcz40_4 : wr.cell? ⟨gb331, 4, none⟩ = some (.int .i64 a0_4) := (blk_cell BK331.out 4).trans rfl
  have hcz40_5 : wr.cell? ⟨gb331, 5, none⟩ = some (.slice A0_5 l0_5.length c0_5) := (blk_cell BK331.out 5).trans rfl
  have hfz40_0 := blk_frozen BK331.out 0
  have hfz40_1 := blk_frozen BK331.out 1
  have hfz40_2 := blk_frozen BK331.out 2
  have hfz40_3 := blk_frozen BK331.out 3
  have hfz40_4 := blk_frozen BK331.out 4
  have hfz40_5 := blk_frozen BK331.out 5
  have p333 : 0 ≤ (x5_2 : Int) := of_decide_eq_true (by first | (with_reducible assumption) | assumption)
  have q333 : x5_2 < (l0_5.length : Int) := of_decide_eq_true (by first | (with_reducible assumption) | assumption)
  obtain ⟨ad333, e333, hx333_0, hx333_1, hx333_2⟩ := at_T50 HR0_5.out x5_2 p333 q333
  cases e333
  replace hx333_0 := (HB.out.cell (World.block_lt_of_cell? w _ hx333_0)).trans hx333_0
  replace hx333_1 := (HB.out.cell (World.block_lt_of_cell? w _ hx333_1)).trans hx333_1
  replace hx333_2 := (HB.out.cell (World.block_lt_of_cell? w _ hx333_2)).trans hx333_2
  replace p333 := eq_true p333
  replace q333 := eq_true q333
  have hcz41_0 : wr.cell? ⟨gb332, 0, none⟩ = some (.string a1_0) := (blk_cell BK332.out 0).trans rfl
  have hcz41_1 : wr.cell? ⟨gb332, 1, none⟩ = some (.int .i64 a1_1) := (blk_cell BK332.out 1).trans rfl
  have hcz41_2 : wr.cell? ⟨gb332, 2, none⟩ = some (.int .i64 a1_2) := (blk_cell BK332.out 2).trans rfl
  have hcz41_3 : wr.cell? ⟨gb332, 3, none⟩ = some (.int .i64 a1_3) := (blk_cell BK332.out 3).trans rfl
  have hcz41_4 : wr.cell? ⟨gb332, 4, none⟩ = some (.int .i64 a1_4) := (blk_cell BK332.out 4).trans rfl
  have hcz41_5 : wr.cell? ⟨gb332, 5, none⟩ = some (.slice A1_5 l1_5.length c1_5) := (blk_cell BK332.out 5).trans rfl
  have hfz41_0 := blk_frozen BK332.out 0
  have hfz41_1 := blk_frozen BK332.out 1
  have hfz41_2 := blk_frozen BK332.out 2
  have hfz41_3 := blk_frozen BK332.out 3
  have hfz41_4 := blk_frozen BK332.out 4
  have hfz41_5 := blk_frozen BK332.out 5
  have p334 : 0 ≤ (x5_2 : Int) := of_decide_eq_true (by first | (with_reducible assumption) | assumption)
  have q334 : x5_2 < (l1_5.length : Int) := of_decide_eq_true (by first | (with_reducible assumption) | assumption)
  obtain ⟨ad334, e334, hx334_0, hx334_1, hx334_2⟩ := at_T50 HR1_5.out x5_2 p334 q334
  cases e334
  replace hx334_0 := (HB.out.cell (World.block_lt_of_cell? w _ hx334_0)).trans hx334_0
  replace hx334_1 := (HB.out.cell (World.block_lt_of_cell? w _ hx334_1)).trans hx334_1
  replace hx334_2 := (HB.out.cell (World.block_lt_of_cell? w _ hx334_2)).trans hx334_2
  replace p334 := eq_true p334
  replace q334 := eq_true q334
  go_wp2
  repeat (go_quiet (fail); try go_wp2)
  go_ret
  exact ⟨by first | rfl | (simp [errW_none, errW_some] <;> rfl) | (simp [*, errW_none, errW_some] <;> rfl), by repeat (first | (with_reducible first | exact HB.out | apply below_alloc | apply pw_below_drewN | apply below_drew1 | refine below_set ?_ GE331.out | refine below_set ?_ GE332.out) | exact HB.out)⟩
end Go.Proofs.YtgkjoodlcojkkaaDoor.QD
end
