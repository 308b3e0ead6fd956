import Derived.Test.YtgkjoodlcojkkaaDoorProg
import Derived.WalkSmall
import Derived.Lib.LaidTab
import Derived.Shelf.Strconv.AtoiAll
import Derived.Shelf.Strconv.Itoa3
import Derived.Shelf.Strings.Builder1
import Derived.Shelf.Utf8.RuneCount
import Derived.Shelf.Strconv.Atoi
import Derived.Shelf.Strconv.Itoa0
import Derived.Shelf.Strconv.Itoa1
import Derived.Shelf.LaysM
import Derived.Shelf.Strconv.Itoa2
import Derived.Shelf.Strconv.AtoiErrFast
import Derived.Shelf.Strconv.ParseIntEmpty
import Derived.Shelf.Strconv.AtoiFail
import Derived.Shelf.Strconv.Clone
import Derived.Shelf.Strconv.SyntaxError
import Derived.Shelf.LaysC
import Derived.Shelf.Strconv.ToError
import Derived.Shelf.Strconv.Lower
import Derived.Shelf.Strconv.ParseUint10
import Derived.Shelf.Strconv.ParseUint10Empty
import Derived.Shelf.Strconv.ParseUint10Any
import Derived.Shelf.Strconv.ParseInt10
import Derived.Shelf.Strconv.AtoiLong
import Derived.Shelf.Strconv.AtoiInnerAll
import Derived.Shelf.Strconv.RangeError
import Derived.Shelf.Strconv.ToErrorRange
import Derived.Shelf.Strings.Search1
import Derived.Shelf.Strings.Search2
import Derived.Shelf.Strings.Search3
import Derived.Shelf.Strings.Cut
import Derived.Shelf.Strings.Count
import Derived.Shelf.Strings.Shaped
import Derived.Shelf.Strings.Prefix
import Derived.Shelf.Strings.Split
import Derived.Shelf.Strings.SplitShaped
import Derived.Shelf.Unicode.Decode
import Derived.Shelf.Strings.RuneCount
import Derived.Shelf.Strings.Explode
import Derived.Shelf.Unicode.DecodeSlow
import Derived.Shelf.Unicode.DecodeAny
import Derived.Test.YtgkjoodlcojkkaaDoorRows
import Derived.WalkKit
import Derived.ProofKit
import Derived.OpenShut
import Derived.ShutString
import Derived.ChangeOld
import Derived.Below
import Derived.SizedLaws
import Derived.LaidMore
import Derived.Lay
import Derived.Stop.Joined
import Derived.Stop.LaidErr
import Derived.Deep.Draws
import Derived.Deep.AppendLies
import Derived.Maps.AppendAt
import Derived.OwnWalk
import Derived.Laws.BytesArg
import Derived.Laws.MakeOwn
import Derived.Laws.OwnMore
import Derived.Deep.OwnRows
import Derived.Tactics
import Derived.Lib.ConvBytes
import Derived.Laws.Slices
import Derived.KernelRfl
import Derived.RowKit3
import Derived.Deep.LoopGhost
import Derived.Deep.QuietTactic
import Derived.BigQuiet
import Derived.WideLaws
import Derived.Deep.DeepCutAuto
import Derived.Deep.CutBlock
import Derived.Deep.RegionHeld3
import Derived.Laws.Rows
import Derived.Lib.AppendStr
import Derived.ArgAppend
import Derived.Laws.IdiomCopy
import Derived.OrdersHeld
import Derived.Laws.BitsLemmas
import Derived.RowKit
import Derived.WalkMore
import Derived.Test.YtgkjoodlcojkkaaDoorMS1
import Derived.Lib.SplitLaws
import Derived.Lib.AppendIntMem
import Derived.Lib.AtoiErrMem
import Derived.Lib.CutLaws
import Derived.Lib.IndexLaws
section
/- What the program's package variables hold while it runs (the table of powers of ten, the two errors of strconv, MaxLen): a fact that whatever the call does below its own memory keeps. No conditions. -/
namespace Go.Proofs.YtgkjoodlcojkkaaDoor
open Go Go.RowKit

structure GlobAt (w : World) : Prop where
  maxlen : ∃ m : Int, w.cell? ⟨2, 0, none⟩ = some (.int .i64 m)
  pow : Lib.TabIs Tryd.prog w "internal/strconv.uint64pow10" .u64 Lib.pow10Tab
  esyn : ∃ t p, w.var? Tryd.prog "strconv.ErrSyntax" = some #[.iface t p]
  eran : ∃ t p, w.var? Tryd.prog "strconv.ErrRange" = some #[.iface t p]

def Glob (w : World) : Prop := ∃ u, GlobAt u ∧ Below u.heap.size u w

theorem GlobAt.glob {w : World} (h : GlobAt w) : Glob w := ⟨w, h, Below.refl _ _⟩
theorem Glob.below {w w' : World} (h : Glob w) (hb : Below w.heap.size w w') : Glob w' := by
  obtain ⟨u, hu, h⟩ := h
  exact ⟨u, hu, h.trans (hb.mono h.size)⟩
theorem Glob.alloc {w : World} (h : Glob w) (o : Obj) : Glob (w.alloc o) := h.below ((Below.refl _ _).alloc (Nat.le_refl _) o)
theorem Glob.drew {w : World} (h : Glob w) : Glob w.drew := h.below (Below.refl _ _).drew
theorem Glob.drewN {w : World} (h : Glob w) (n : Nat) : Glob (w.drewN n) := h.below ⟨rfl, rfl, rfl, Nat.le_refl _, fun _ _ => rfl⟩

theorem var_kept {u w : World} {n : String} {cs : Array Value} (hv : u.var? Tryd.prog n = some cs) (hb : Below u.heap.size u w) : w.var? Tryd.prog n = some cs := by
  have hv' := hv
  unfold World.var? at hv
  obtain ⟨g, hg, hv⟩ := Option.bind_eq_some_iff.1 hv
  have hlt : g < u.heap.size := by
    by_cases h : g < u.heap.size
    · exact h
    · have : u.heap[g]? = none := Array.getElem?_eq_none_iff.2 (by omega)
      rw [this] at hv; cases hv
  exact var?_below hb hg hlt hv'

theorem Glob.at {w : World} (h : Glob w) : GlobAt w := by
  obtain ⟨u, ⟨⟨m, h1⟩, h2, ⟨t3, p3, h3⟩, ⟨t4, p4, h4⟩⟩, hb⟩ := h
  exact ⟨⟨m, (hb.cell (World.block_lt_of_cell? u _ h1)).trans h1⟩, var_kept h2 hb, ⟨t3, p3, var_kept h3 hb⟩, ⟨t4, p4, var_kept h4 hb⟩⟩

end Go.Proofs.YtgkjoodlcojkkaaDoor
end
section
/-
  DERIVED: THE SHELF's CONTRACTS AT THIS DUMP, IN PLAIN WORDS (tools/lay-plain.mjs out of 'TrydShelf.lean', which tools/lay-shelf.mjs wrote): THE SAME DECLARATIONS UNDER THE SAME NAMES: 'import', 'namespace', 'open', 'def', 'theorem' AND NOTHING ELSE: no command of the shelf's: FOR A HAND-IN. Each laying: the table of numbers ('.._ren') and one theorem, a field a fact of the dump's own or the kernel's comparison; each contract: ONE APPLICATION.
-/
namespace Go.Proofs
open Go.Shelf
def Tryd.laysM171_ren : Go.Shelf.Ren := ⟨fun | 171 => 28 | 243 => 47 | 246 => 64 | 283 => 82 | 284 => 83 | 285 => 84 | 286 => 85 | 129 => 99 | 317 => 98 | 318 => 100 | 319 => 101 | 320 => 102 | 337 => 106 | 338 => 107 | n => n, fun | 3 => 3 | 9 => 9 | 2 => 2 | 4 => 4 | 171 => 123 | 0 => 0 | 53 => 116 | 37 => 55 | 5 => 5 | 173 => 126 | 212 => 140 | 51 => 141 | 20 => 20 | 213 => 142 | 46 => 32 | 232 => 151 | 233 => 152 | n => n, fun | 17 => 3 | 18 => 6 | 19 => 7 | n => n⟩
theorem Tryd.laysM171 : Go.Proofs.LaysM.n171 Tryd.prog Tryd.laysM171_ren := {
  mixed := by kernel_rfl
  f129 := Tryd.func99.trans (congrArg some (by kernel_rfl))
  f171 := Tryd.func28.trans (congrArg some (by kernel_rfl))
  f243 := Tryd.func47.trans (congrArg some (by kernel_rfl))
  f246 := Tryd.func64.trans (congrArg some (by kernel_rfl))
  f283 := Tryd.func82.trans (congrArg some (by kernel_rfl))
  f284 := Tryd.func83.trans (congrArg some (by kernel_rfl))
  f285 := Tryd.func84.trans (congrArg some (by kernel_rfl))
  f286 := Tryd.func85.trans (congrArg some (by kernel_rfl))
  f317 := Tryd.func98.trans (congrArg some (by kernel_rfl))
  f318 := Tryd.func100.trans (congrArg some (by kernel_rfl))
  f319 := Tryd.func101.trans (congrArg some (by kernel_rfl))
  f320 := Tryd.func102.trans (congrArg some (by kernel_rfl))
  f337 := Tryd.func106.trans (congrArg some (by kernel_rfl))
  f338 := Tryd.func107.trans (congrArg some (by kernel_rfl))
  t0 := Tryd.underlying0
  a0 := Tryd.isAgg0
  z0 := Tryd.sizeOf0
  v0 := Tryd.zeroValue0
  t2 := Tryd.underlying2
  a2 := Tryd.isAgg2
  z2 := Tryd.sizeOf2
  v2 := Tryd.zeroValue2
  t3 := Tryd.underlying3
  a3 := Tryd.isAgg3
  z3 := Tryd.sizeOf3
  v3 := Tryd.zeroValue3
  t4 := Tryd.underlying4
  a4 := Tryd.isAgg4
  z4 := Tryd.sizeOf4
  v4 := Tryd.zeroValue4
  t5 := Tryd.underlying5
  a5 := Tryd.isAgg5
  z5 := Tryd.sizeOf5
  v5 := Tryd.zeroValue5
  t9 := Tryd.underlying9
  a9 := Tryd.isAgg9
  z9 := Tryd.sizeOf9
  v9 := Tryd.zeroValue9
  t20 := Tryd.underlying20
  a20 := Tryd.isAgg20
  z20 := Tryd.sizeOf20
  v20 := Tryd.zeroValue20
  t37 := Tryd.underlying55
  a37 := Tryd.isAgg55
  z37 := Tryd.sizeOf55
  v37 := Tryd.zeroValue55
  t46 := Tryd.underlying32
  a46 := Tryd.isAgg32
  z46 := Tryd.sizeOf32
  v46 := Tryd.zeroValue32
  t51 := Tryd.underlying141
  a51 := Tryd.isAgg141
  z51 := Tryd.sizeOf141
  v51 := Tryd.zeroValue141
  t53 := Tryd.underlying116
  a53 := Tryd.isAgg116
  z53 := Tryd.sizeOf116
  v53 := Tryd.zeroValue116
  t171 := Tryd.underlying123
  a171 := Tryd.isAgg123
  z171 := Tryd.sizeOf123
  v171 := Tryd.zeroValue123
  t173 := Tryd.underlying126
  a173 := Tryd.isAgg126
  z173 := Tryd.sizeOf126
  v173 := Tryd.zeroValue126
  t212 := Tryd.underlying140
  a212 := Tryd.isAgg140
  z212 := Tryd.sizeOf140
  v212 := Tryd.zeroValue140
  t213 := Tryd.underlying142
  a213 := Tryd.isAgg142
  z213 := Tryd.sizeOf142
  t232 := Tryd.underlying151
  a232 := Tryd.isAgg151
  z232 := Tryd.sizeOf151
  v232 := Tryd.zeroValue151
  t233 := Tryd.underlying152
  a233 := Tryd.isAgg152
  z233 := Tryd.sizeOf152
  v233 := Tryd.zeroValue152
  g17 := by kernel_rfl
  g18 := by kernel_rfl
  g19 := by kernel_rfl
  i0 := by kernel_rfl
  i2 := by kernel_rfl
  i3 := by kernel_rfl
  i4 := by kernel_rfl
  i5 := by kernel_rfl
  i9 := by kernel_rfl
  i20 := by kernel_rfl
  i37 := by kernel_rfl
  i46 := by kernel_rfl
  i51 := by kernel_rfl
  i53 := by kernel_rfl
  i171 := by kernel_rfl
  i173 := by kernel_rfl
  i212 := by kernel_rfl
  i232 := by kernel_rfl
  i233 := by kernel_rfl
  m17 := by kernel_rfl
  m18 := by kernel_rfl
  m19 := by kernel_rfl }
open Go.RowKit Go.Sort Go.Lib in
theorem Tryd.strconv_Itoa (n : Int) (h0 : -9223372036854775808 ≤ n) (h1 : n ≤ 9223372036854775807) (w : World) (htab : Lib.TabIs Tryd.prog w "internal/strconv.uint64pow10" .u64 Lib.pow10Tab) :
    Calls Tryd.prog 28 #[.int .i64 n] w fun e w' => e = .returned (.string ⟨(Lib.itoa n).toArray⟩) ∧ ∃ k os, w' = grow (w.drewN k) os := Any.strconv_Itoa Tryd.laysM171 n h0 h1 w htab
def Tryd.laysC172_ren : Go.Shelf.Ren := ⟨fun | 172 => 27 | 244 => 45 | 245 => 46 | 247 => 59 | 279 => 60 | 280 => 61 | 281 => 62 | 282 => 63 | 287 => 79 | 316 => 80 | 171 => 28 | 205 => 81 | 321 => 96 | 322 => 97 | 243 => 47 | 246 => 64 | 283 => 82 | 284 => 83 | 285 => 84 | 286 => 85 | 129 => 99 | 317 => 98 | 318 => 100 | 319 => 101 | 320 => 102 | 337 => 106 | 338 => 107 | n => n, fun | 9 => 9 | 3 => 3 | 75 => 58 | 76 => 59 | 4 => 4 | 5 => 5 | 167 => 98 | 37 => 55 | 0 => 0 | 85 => 99 | 2 => 2 | 168 => 101 | 53 => 116 | 175 => 117 | 46 => 32 | 210 => 121 | 127 => 92 | 145 => 138 | 143 => 136 | 21 => 21 | 171 => 123 | 173 => 126 | 212 => 140 | 51 => 141 | 20 => 20 | 213 => 142 | 232 => 151 | 233 => 152 | 80 => 74 | n => n, fun | 15 => 0 | 16 => 1 | 17 => 3 | 18 => 6 | 19 => 7 | n => n⟩
theorem Tryd.laysC172 : Go.Proofs.LaysC.n172 Tryd.prog Tryd.laysC172_ren := {
  mixed := by kernel_rfl
  f129 := Tryd.func99.trans (congrArg some (by kernel_rfl))
  f171 := Tryd.func28.trans (congrArg some (by kernel_rfl))
  f172 := Tryd.func27.trans (congrArg some (by kernel_rfl))
  f205 := Tryd.func81.trans (congrArg some (by kernel_rfl))
  f243 := Tryd.func47.trans (congrArg some (by kernel_rfl))
  f244 := Tryd.func45.trans (congrArg some (by kernel_rfl))
  f245 := Tryd.func46.trans (congrArg some (by kernel_rfl))
  f246 := Tryd.func64.trans (congrArg some (by kernel_rfl))
  f247 := Tryd.func59.trans (congrArg some (by kernel_rfl))
  f279 := Tryd.func60.trans (congrArg some (by kernel_rfl))
  f280 := Tryd.func61.trans (congrArg some (by kernel_rfl))
  f281 := Tryd.func62.trans (congrArg some (by kernel_rfl))
  f282 := Tryd.func63.trans (congrArg some (by kernel_rfl))
  f283 := Tryd.func82.trans (congrArg some (by kernel_rfl))
  f284 := Tryd.func83.trans (congrArg some (by kernel_rfl))
  f285 := Tryd.func84.trans (congrArg some (by kernel_rfl))
  f286 := Tryd.func85.trans (congrArg some (by kernel_rfl))
  f287 := Tryd.func79.trans (congrArg some (by kernel_rfl))
  f316 := Tryd.func80.trans (congrArg some (by kernel_rfl))
  f317 := Tryd.func98.trans (congrArg some (by kernel_rfl))
  f318 := Tryd.func100.trans (congrArg some (by kernel_rfl))
  f319 := Tryd.func101.trans (congrArg some (by kernel_rfl))
  f320 := Tryd.func102.trans (congrArg some (by kernel_rfl))
  f321 := Tryd.func96.trans (congrArg some (by kernel_rfl))
  f322 := Tryd.func97.trans (congrArg some (by kernel_rfl))
  f337 := Tryd.func106.trans (congrArg some (by kernel_rfl))
  f338 := Tryd.func107.trans (congrArg some (by kernel_rfl))
  t0 := Tryd.underlying0
  a0 := Tryd.isAgg0
  z0 := Tryd.sizeOf0
  v0 := Tryd.zeroValue0
  t2 := Tryd.underlying2
  a2 := Tryd.isAgg2
  z2 := Tryd.sizeOf2
  v2 := Tryd.zeroValue2
  t3 := Tryd.underlying3
  a3 := Tryd.isAgg3
  z3 := Tryd.sizeOf3
  v3 := Tryd.zeroValue3
  t4 := Tryd.underlying4
  a4 := Tryd.isAgg4
  z4 := Tryd.sizeOf4
  v4 := Tryd.zeroValue4
  t5 := Tryd.underlying5
  a5 := Tryd.isAgg5
  z5 := Tryd.sizeOf5
  v5 := Tryd.zeroValue5
  t9 := Tryd.underlying9
  a9 := Tryd.isAgg9
  z9 := Tryd.sizeOf9
  v9 := Tryd.zeroValue9
  t20 := Tryd.underlying20
  a20 := Tryd.isAgg20
  z20 := Tryd.sizeOf20
  v20 := Tryd.zeroValue20
  t21 := Tryd.underlying21
  a21 := Tryd.isAgg21
  z21 := Tryd.sizeOf21
  v21 := Tryd.zeroValue21
  t37 := Tryd.underlying55
  a37 := Tryd.isAgg55
  z37 := Tryd.sizeOf55
  v37 := Tryd.zeroValue55
  t46 := Tryd.underlying32
  a46 := Tryd.isAgg32
  z46 := Tryd.sizeOf32
  v46 := Tryd.zeroValue32
  t51 := Tryd.underlying141
  a51 := Tryd.isAgg141
  z51 := Tryd.sizeOf141
  v51 := Tryd.zeroValue141
  t53 := Tryd.underlying116
  a53 := Tryd.isAgg116
  z53 := Tryd.sizeOf116
  v53 := Tryd.zeroValue116
  t75 := Tryd.underlying58
  a75 := Tryd.isAgg58
  z75 := Tryd.sizeOf58
  v75 := Tryd.zeroValue58
  t76 := Tryd.underlying59
  a76 := Tryd.isAgg59
  z76 := Tryd.sizeOf59
  v76 := Tryd.zeroValue59
  t85 := Tryd.underlying99
  a85 := Tryd.isAgg99
  z85 := Tryd.sizeOf99
  v85 := Tryd.zeroValue99
  t127 := Tryd.underlying92
  a127 := Tryd.isAgg92
  z127 := Tryd.sizeOf92
  v127 := Tryd.zeroValue92
  t143 := Tryd.underlying136
  a143 := Tryd.isAgg136
  z143 := Tryd.sizeOf136
  v143 := Tryd.zeroValue136
  t145 := Tryd.underlying138
  a145 := Tryd.isAgg138
  z145 := Tryd.sizeOf138
  v145 := Tryd.zeroValue138
  t167 := Tryd.underlying98
  a167 := Tryd.isAgg98
  z167 := Tryd.sizeOf98
  v167 := Tryd.zeroValue98
  t168 := Tryd.underlying101
  a168 := Tryd.isAgg101
  z168 := Tryd.sizeOf101
  v168 := Tryd.zeroValue101
  t171 := Tryd.underlying123
  a171 := Tryd.isAgg123
  z171 := Tryd.sizeOf123
  v171 := Tryd.zeroValue123
  t173 := Tryd.underlying126
  a173 := Tryd.isAgg126
  z173 := Tryd.sizeOf126
  v173 := Tryd.zeroValue126
  t175 := Tryd.underlying117
  a175 := Tryd.isAgg117
  z175 := Tryd.sizeOf117
  v175 := Tryd.zeroValue117
  t210 := Tryd.underlying121
  a210 := Tryd.isAgg121
  z210 := Tryd.sizeOf121
  v210 := Tryd.zeroValue121
  t212 := Tryd.underlying140
  a212 := Tryd.isAgg140
  z212 := Tryd.sizeOf140
  v212 := Tryd.zeroValue140
  t213 := Tryd.underlying142
  a213 := Tryd.isAgg142
  z213 := Tryd.sizeOf142
  t232 := Tryd.underlying151
  a232 := Tryd.isAgg151
  z232 := Tryd.sizeOf151
  v232 := Tryd.zeroValue151
  t233 := Tryd.underlying152
  a233 := Tryd.isAgg152
  z233 := Tryd.sizeOf152
  v233 := Tryd.zeroValue152
  g15 := by kernel_rfl
  g16 := by kernel_rfl
  g17 := by kernel_rfl
  g18 := by kernel_rfl
  g19 := by kernel_rfl
  t80 := Tryd.underlying74
  a80 := Tryd.isAgg74
  z80 := Tryd.sizeOf74
  v80 := Tryd.zeroValue74
  i0 := by kernel_rfl
  i2 := by kernel_rfl
  i3 := by kernel_rfl
  i4 := by kernel_rfl
  i5 := by kernel_rfl
  i9 := by kernel_rfl
  i20 := by kernel_rfl
  i21 := by kernel_rfl
  i37 := by kernel_rfl
  i46 := by kernel_rfl
  i51 := by kernel_rfl
  i53 := by kernel_rfl
  i75 := by kernel_rfl
  i76 := by kernel_rfl
  i80 := by kernel_rfl
  i85 := by kernel_rfl
  i127 := by kernel_rfl
  i143 := by kernel_rfl
  i145 := by kernel_rfl
  i167 := by kernel_rfl
  i168 := by kernel_rfl
  i171 := by kernel_rfl
  i173 := by kernel_rfl
  i175 := by kernel_rfl
  i210 := by kernel_rfl
  i212 := by kernel_rfl
  i232 := by kernel_rfl
  i233 := by kernel_rfl
  m15 := by kernel_rfl
  m16 := by kernel_rfl
  m17 := by kernel_rfl
  m18 := by kernel_rfl
  m19 := by kernel_rfl
  c0 := by kernel_rfl
  c2 := by kernel_rfl
  c3 := by kernel_rfl
  c4 := by kernel_rfl
  c5 := by kernel_rfl
  c9 := by kernel_rfl
  c20 := by kernel_rfl
  c21 := by kernel_rfl
  c37 := by kernel_rfl
  c46 := by kernel_rfl
  c51 := by kernel_rfl
  c53 := by kernel_rfl
  c75 := by kernel_rfl
  c76 := by kernel_rfl
  c80 := by kernel_rfl
  c85 := by kernel_rfl
  c127 := by kernel_rfl
  c143 := by kernel_rfl
  c145 := by kernel_rfl
  c167 := by kernel_rfl
  c168 := by kernel_rfl
  c171 := by kernel_rfl
  c173 := by kernel_rfl
  c175 := by kernel_rfl
  c210 := by kernel_rfl
  c212 := by kernel_rfl
  c213 := by kernel_rfl
  c232 := by kernel_rfl
  c233 := by kernel_rfl }
open Go.RowKit in
theorem Tryd.strconv_Atoi_ok (s : ByteArray) (hmax : s.size ≤ 9223372036854775806) (v : Int) (h : Lib.atoiAll s.data.toList = .ok v) (w : World) :
    Calls Tryd.prog 27 #[.string s] w fun e w' => e = .returned (.tuple #[.int .i64 v, .nilIface]) ∧ (w' = w ∨ ∃ t, w' = Lib.bytesWorld w 5 t) := Any.strconv_Atoi_ok Tryd.laysC172 s hmax v h w
open Go.RowKit in
theorem Tryd.strconv_Atoi_range (s : ByteArray) (hlim : s.size ≤ 281474976710656) (h : Lib.atoiAll s.data.toList = .range) (ev : Value) (w : World) (hv : w.cell? ⟨1, 0, none⟩ = some ev) (hev : ev = .nilIface ∨ ∃ te pe, ev = .iface te pe) :
    Calls Tryd.prog 27 #[.string s] w fun e w' => ∃ N, e = .returned (.tuple #[.int .i64 (Lib.atoiSat s.data.toList), .iface 101 (.pointer (some ⟨N, 0, none⟩))]) ∧ w.heap.size ≤ N ∧ w'.heap[N]? = some (.cells #[.string ⟨#[65, 116, 111, 105]⟩, .string s, ev] 121 (0, 0)) ∧ Below w.heap.size w w' := Any.strconv_Atoi_range Tryd.laysC172 s hlim h ev w hv hev
def Tryd.lays144_ren : Go.Shelf.Ren := ⟨fun | 144 => 78 | 143 => 67 | 219 => 68 | 217 => 89 | 225 => 90 | 224 => 91 | 267 => 92 | 266 => 104 | 314 => 105 | n => n, fun | 9 => 9 | 4 => 4 | 3 => 3 | 5 => 5 | 46 => 32 | 146 => 144 | 51 => 141 | n => n, fun | 1 => 2 | n => n⟩
theorem Tryd.lays144 : Go.Proofs.Lays.n144 Tryd.prog Tryd.lays144_ren := {
  mixed := by kernel_rfl
  f143 := Tryd.func67.trans (congrArg some (by kernel_rfl))
  f144 := Tryd.func78.trans (congrArg some (by kernel_rfl))
  f217 := Tryd.func89.trans (congrArg some (by kernel_rfl))
  f219 := Tryd.func68.trans (congrArg some (by kernel_rfl))
  f224 := Tryd.func91.trans (congrArg some (by kernel_rfl))
  f225 := Tryd.func90.trans (congrArg some (by kernel_rfl))
  f266 := Tryd.func104.trans (congrArg some (by kernel_rfl))
  f267 := Tryd.func92.trans (congrArg some (by kernel_rfl))
  f314 := Tryd.func105.trans (congrArg some (by kernel_rfl))
  t3 := Tryd.underlying3
  a3 := Tryd.isAgg3
  z3 := Tryd.sizeOf3
  v3 := Tryd.zeroValue3
  t4 := Tryd.underlying4
  a4 := Tryd.isAgg4
  z4 := Tryd.sizeOf4
  v4 := Tryd.zeroValue4
  t5 := Tryd.underlying5
  a5 := Tryd.isAgg5
  z5 := Tryd.sizeOf5
  v5 := Tryd.zeroValue5
  t9 := Tryd.underlying9
  a9 := Tryd.isAgg9
  z9 := Tryd.sizeOf9
  v9 := Tryd.zeroValue9
  t46 := Tryd.underlying32
  a46 := Tryd.isAgg32
  z46 := Tryd.sizeOf32
  v46 := Tryd.zeroValue32
  t51 := Tryd.underlying141
  a51 := Tryd.isAgg141
  z51 := Tryd.sizeOf141
  v51 := Tryd.zeroValue141
  t146 := Tryd.underlying144
  a146 := Tryd.isAgg144
  z146 := Tryd.sizeOf144
  v146 := Tryd.zeroValue144
  g1 := by kernel_rfl }
open Go.RowKit Go.Lib in
theorem Tryd.strings_Contains (s sub : ByteArray) (m : Int) (w : World) (hs : s.size < 4294967281) (hm : w.cell? ⟨2, 0, none⟩ = some (.int .i64 m)) :
    Calls Tryd.prog 78 #[.string s, .string sub] w fun e w' => e = .returned (.bool (Lib.contains s.data.toList sub.data.toList)) ∧ w' = w := Any.strings_Contains Tryd.lays144 s sub m w hs hm
def Tryd.lays145_ren : Go.Shelf.Ren := ⟨fun | 145 => 31 | 220 => 49 | 219 => 68 | 217 => 89 | 225 => 90 | 224 => 91 | 267 => 92 | 266 => 104 | 314 => 105 | n => n, fun | 9 => 9 | 4 => 4 | 59 => 63 | 3 => 3 | 5 => 5 | 46 => 32 | 146 => 144 | 51 => 141 | n => n, fun | 1 => 2 | n => n⟩
theorem Tryd.lays145 : Go.Proofs.Lays.n145 Tryd.prog Tryd.lays145_ren := {
  mixed := by kernel_rfl
  f145 := Tryd.func31.trans (congrArg some (by kernel_rfl))
  f217 := Tryd.func89.trans (congrArg some (by kernel_rfl))
  f219 := Tryd.func68.trans (congrArg some (by kernel_rfl))
  f220 := Tryd.func49.trans (congrArg some (by kernel_rfl))
  f224 := Tryd.func91.trans (congrArg some (by kernel_rfl))
  f225 := Tryd.func90.trans (congrArg some (by kernel_rfl))
  f266 := Tryd.func104.trans (congrArg some (by kernel_rfl))
  f267 := Tryd.func92.trans (congrArg some (by kernel_rfl))
  f314 := Tryd.func105.trans (congrArg some (by kernel_rfl))
  t3 := Tryd.underlying3
  a3 := Tryd.isAgg3
  z3 := Tryd.sizeOf3
  v3 := Tryd.zeroValue3
  t4 := Tryd.underlying4
  a4 := Tryd.isAgg4
  z4 := Tryd.sizeOf4
  v4 := Tryd.zeroValue4
  t5 := Tryd.underlying5
  a5 := Tryd.isAgg5
  z5 := Tryd.sizeOf5
  v5 := Tryd.zeroValue5
  t9 := Tryd.underlying9
  a9 := Tryd.isAgg9
  z9 := Tryd.sizeOf9
  v9 := Tryd.zeroValue9
  t46 := Tryd.underlying32
  a46 := Tryd.isAgg32
  z46 := Tryd.sizeOf32
  v46 := Tryd.zeroValue32
  t51 := Tryd.underlying141
  a51 := Tryd.isAgg141
  z51 := Tryd.sizeOf141
  v51 := Tryd.zeroValue141
  t59 := Tryd.underlying63
  a59 := Tryd.isAgg63
  z59 := Tryd.sizeOf63
  v59 := Tryd.zeroValue63
  t146 := Tryd.underlying144
  a146 := Tryd.isAgg144
  z146 := Tryd.sizeOf144
  v146 := Tryd.zeroValue144
  g1 := by kernel_rfl }
open Go.RowKit Go.Lib in
theorem Tryd.strings_Cut (s sep : ByteArray) (m : Int) (w : World) (hs : s.size < 4294967281) (hm : w.cell? ⟨2, 0, none⟩ = some (.int .i64 m)) :
    Calls Tryd.prog 31 #[.string s, .string sep] w fun e w' => e = .returned (.tuple #[.string ⟨(Lib.cut s.data.toList sep.data.toList).1.toArray⟩, .string ⟨(Lib.cut s.data.toList sep.data.toList).2.1.toArray⟩, .bool (Lib.cut s.data.toList sep.data.toList).2.2]) ∧ ∃ n, w' = w.drewN n := Any.strings_Cut Tryd.lays145 s sep m w hs hm
def Tryd.lays99_ren : Go.Shelf.Ren := ⟨fun | 99 => 77 | 206 => 95 | n => n, fun | 9 => 9 | 4 => 4 | 3 => 3 | n => n, fun | n => n⟩
theorem Tryd.lays99 : Go.Proofs.Lays.n99 Tryd.prog Tryd.lays99_ren := {
  mixed := by kernel_rfl
  f99 := Tryd.func77.trans (congrArg some (by kernel_rfl))
  f206 := Tryd.func95.trans (congrArg some (by kernel_rfl))
  t3 := Tryd.underlying3
  a3 := Tryd.isAgg3
  z3 := Tryd.sizeOf3
  v3 := Tryd.zeroValue3
  t4 := Tryd.underlying4
  a4 := Tryd.isAgg4
  z4 := Tryd.sizeOf4
  v4 := Tryd.zeroValue4
  t9 := Tryd.underlying9
  a9 := Tryd.isAgg9
  z9 := Tryd.sizeOf9
  v9 := Tryd.zeroValue9 }
open Go.RowKit Go.Lib in
theorem Tryd.strings_HasPrefix (s p : ByteArray) (w : World) :
    Calls Tryd.prog 77 #[.string s, .string p] w fun e w' => e = .returned (.bool (Lib.hasPrefix s.data.toList p.data.toList)) ∧ w' = w := Any.strings_HasPrefix Tryd.lays99 s p w
def Tryd.lays146_ren : Go.Shelf.Ren := ⟨fun | 146 => 29 | 221 => 48 | 268 => 65 | 138 => 66 | 143 => 67 | 195 => 86 | 197 => 87 | 218 => 88 | 219 => 68 | 260 => 103 | 217 => 89 | 225 => 90 | 224 => 91 | 267 => 92 | 266 => 104 | 314 => 105 | n => n, fun | 9 => 9 | 31 => 26 | 3 => 3 | 4 => 4 | 0 => 0 | 105 => 129 | 21 => 21 | 5 => 5 | 46 => 32 | 119 => 147 | 139 => 150 | 138 => 149 | 146 => 144 | 51 => 141 | n => n, fun | 1 => 2 | 3 => 4 | 4 => 5 | n => n⟩
theorem Tryd.lays146 : Go.Proofs.Lays.n146 Tryd.prog Tryd.lays146_ren := {
  mixed := by kernel_rfl
  f138 := Tryd.func66.trans (congrArg some (by kernel_rfl))
  f143 := Tryd.func67.trans (congrArg some (by kernel_rfl))
  f146 := Tryd.func29.trans (congrArg some (by kernel_rfl))
  f195 := Tryd.func86.trans (congrArg some (by kernel_rfl))
  f197 := Tryd.func87.trans (congrArg some (by kernel_rfl))
  f217 := Tryd.func89.trans (congrArg some (by kernel_rfl))
  f218 := Tryd.func88.trans (congrArg some (by kernel_rfl))
  f219 := Tryd.func68.trans (congrArg some (by kernel_rfl))
  f221 := Tryd.func48.trans (congrArg some (by kernel_rfl))
  f224 := Tryd.func91.trans (congrArg some (by kernel_rfl))
  f225 := Tryd.func90.trans (congrArg some (by kernel_rfl))
  f260 := Tryd.func103.trans (congrArg some (by kernel_rfl))
  f266 := Tryd.func104.trans (congrArg some (by kernel_rfl))
  f267 := Tryd.func92.trans (congrArg some (by kernel_rfl))
  f268 := Tryd.func65.trans (congrArg some (by kernel_rfl))
  f314 := Tryd.func105.trans (congrArg some (by kernel_rfl))
  t0 := Tryd.underlying0
  a0 := Tryd.isAgg0
  z0 := Tryd.sizeOf0
  v0 := Tryd.zeroValue0
  t3 := Tryd.underlying3
  a3 := Tryd.isAgg3
  z3 := Tryd.sizeOf3
  v3 := Tryd.zeroValue3
  t4 := Tryd.underlying4
  a4 := Tryd.isAgg4
  z4 := Tryd.sizeOf4
  v4 := Tryd.zeroValue4
  t5 := Tryd.underlying5
  a5 := Tryd.isAgg5
  z5 := Tryd.sizeOf5
  v5 := Tryd.zeroValue5
  t9 := Tryd.underlying9
  a9 := Tryd.isAgg9
  z9 := Tryd.sizeOf9
  v9 := Tryd.zeroValue9
  t21 := Tryd.underlying21
  a21 := Tryd.isAgg21
  z21 := Tryd.sizeOf21
  v21 := Tryd.zeroValue21
  t31 := Tryd.underlying26
  a31 := Tryd.isAgg26
  z31 := Tryd.sizeOf26
  v31 := Tryd.zeroValue26
  t46 := Tryd.underlying32
  a46 := Tryd.isAgg32
  z46 := Tryd.sizeOf32
  v46 := Tryd.zeroValue32
  t51 := Tryd.underlying141
  a51 := Tryd.isAgg141
  z51 := Tryd.sizeOf141
  v51 := Tryd.zeroValue141
  t105 := Tryd.underlying129
  a105 := Tryd.isAgg129
  z105 := Tryd.sizeOf129
  v105 := Tryd.zeroValue129
  t119 := Tryd.underlying147
  a119 := Tryd.isAgg147
  z119 := Tryd.sizeOf147
  t138 := Tryd.underlying149
  a138 := Tryd.isAgg149
  z138 := Tryd.sizeOf149
  v138 := Tryd.zeroValue149
  t139 := Tryd.underlying150
  a139 := Tryd.isAgg150
  z139 := Tryd.sizeOf150
  v139 := Tryd.zeroValue150
  t146 := Tryd.underlying144
  a146 := Tryd.isAgg144
  z146 := Tryd.sizeOf144
  v146 := Tryd.zeroValue144
  g1 := by kernel_rfl
  g3 := by kernel_rfl
  g4 := by kernel_rfl }
open Go.RowKit Go.Lib in
theorem Tryd.strings_Split (s sep : ByteArray) (m : Int) (w : World) (hs : s.size < 4294967281) (hm : w.cell? ⟨2, 0, none⟩ = some (.int .i64 m)) (h1 : 1 ≤ sep.size) :
    Calls Tryd.prog 29 #[.string s, .string sep] w fun e w' =>
      e = .returned (.slice (some ⟨w.heap.size, 0, none⟩) (Lib.countB s sep + 1) (Lib.countB s sep + 1)) ∧ w' = w.alloc (.cells ((Lib.splitB sep 0 (Lib.countB s sep) s).map Value.string).toArray 9) := Any.strings_Split Tryd.lays146 (by kernel_rfl) s sep m w hs hm h1
def Tryd.laysM146_ren : Go.Shelf.Ren := ⟨fun | 146 => 29 | 221 => 48 | 268 => 65 | 138 => 66 | 143 => 67 | 195 => 86 | 197 => 87 | 218 => 88 | 219 => 68 | 260 => 103 | 217 => 89 | 225 => 90 | 224 => 91 | 267 => 92 | 266 => 104 | 314 => 105 | n => n, fun | 9 => 9 | 31 => 26 | 3 => 3 | 4 => 4 | 0 => 0 | 105 => 129 | 21 => 21 | 5 => 5 | 46 => 32 | 119 => 147 | 139 => 150 | 138 => 149 | 146 => 144 | 51 => 141 | n => n, fun | 1 => 2 | 3 => 4 | 4 => 5 | n => n⟩
theorem Tryd.laysM146 : Go.Proofs.LaysM.n146 Tryd.prog Tryd.laysM146_ren := {
  mixed := by kernel_rfl
  f138 := Tryd.func66.trans (congrArg some (by kernel_rfl))
  f143 := Tryd.func67.trans (congrArg some (by kernel_rfl))
  f146 := Tryd.func29.trans (congrArg some (by kernel_rfl))
  f195 := Tryd.func86.trans (congrArg some (by kernel_rfl))
  f197 := Tryd.func87.trans (congrArg some (by kernel_rfl))
  f217 := Tryd.func89.trans (congrArg some (by kernel_rfl))
  f218 := Tryd.func88.trans (congrArg some (by kernel_rfl))
  f219 := Tryd.func68.trans (congrArg some (by kernel_rfl))
  f221 := Tryd.func48.trans (congrArg some (by kernel_rfl))
  f224 := Tryd.func91.trans (congrArg some (by kernel_rfl))
  f225 := Tryd.func90.trans (congrArg some (by kernel_rfl))
  f260 := Tryd.func103.trans (congrArg some (by kernel_rfl))
  f266 := Tryd.func104.trans (congrArg some (by kernel_rfl))
  f267 := Tryd.func92.trans (congrArg some (by kernel_rfl))
  f268 := Tryd.func65.trans (congrArg some (by kernel_rfl))
  f314 := Tryd.func105.trans (congrArg some (by kernel_rfl))
  t0 := Tryd.underlying0
  a0 := Tryd.isAgg0
  z0 := Tryd.sizeOf0
  v0 := Tryd.zeroValue0
  t3 := Tryd.underlying3
  a3 := Tryd.isAgg3
  z3 := Tryd.sizeOf3
  v3 := Tryd.zeroValue3
  t4 := Tryd.underlying4
  a4 := Tryd.isAgg4
  z4 := Tryd.sizeOf4
  v4 := Tryd.zeroValue4
  t5 := Tryd.underlying5
  a5 := Tryd.isAgg5
  z5 := Tryd.sizeOf5
  v5 := Tryd.zeroValue5
  t9 := Tryd.underlying9
  a9 := Tryd.isAgg9
  z9 := Tryd.sizeOf9
  v9 := Tryd.zeroValue9
  t21 := Tryd.underlying21
  a21 := Tryd.isAgg21
  z21 := Tryd.sizeOf21
  v21 := Tryd.zeroValue21
  t31 := Tryd.underlying26
  a31 := Tryd.isAgg26
  z31 := Tryd.sizeOf26
  v31 := Tryd.zeroValue26
  t46 := Tryd.underlying32
  a46 := Tryd.isAgg32
  z46 := Tryd.sizeOf32
  v46 := Tryd.zeroValue32
  t51 := Tryd.underlying141
  a51 := Tryd.isAgg141
  z51 := Tryd.sizeOf141
  v51 := Tryd.zeroValue141
  t105 := Tryd.underlying129
  a105 := Tryd.isAgg129
  z105 := Tryd.sizeOf129
  v105 := Tryd.zeroValue129
  t119 := Tryd.underlying147
  a119 := Tryd.isAgg147
  z119 := Tryd.sizeOf147
  t138 := Tryd.underlying149
  a138 := Tryd.isAgg149
  z138 := Tryd.sizeOf149
  v138 := Tryd.zeroValue149
  t139 := Tryd.underlying150
  a139 := Tryd.isAgg150
  z139 := Tryd.sizeOf150
  v139 := Tryd.zeroValue150
  t146 := Tryd.underlying144
  a146 := Tryd.isAgg144
  z146 := Tryd.sizeOf144
  v146 := Tryd.zeroValue144
  g1 := by kernel_rfl
  g3 := by kernel_rfl
  g4 := by kernel_rfl
  i0 := by kernel_rfl
  i3 := by kernel_rfl
  i4 := by kernel_rfl
  i5 := by kernel_rfl
  i9 := by kernel_rfl
  i21 := by kernel_rfl
  i31 := by kernel_rfl
  i46 := by kernel_rfl
  i51 := by kernel_rfl
  i105 := by kernel_rfl
  i138 := by kernel_rfl
  i139 := by kernel_rfl
  i146 := by kernel_rfl
  m1 := by kernel_rfl
  s1_3 := fun w h => Go.Proofs.cell_of_shapedOpen_int (zero := #[.int .i64 0]) (t := 3) h (of_decide_eq_true (by kernel_rfl)) (by kernel_rfl) rfl (by kernel_rfl) (by kernel_rfl) Tryd.underlying3
  m3 := by kernel_rfl
  m4 := by kernel_rfl }
end Go.Proofs
end
section
/- What the rows of this seat share: what the listed variables give the walks; the way from a contract to a row that lists variables and keeps the world's shape. No conditions. -/
namespace Go.Proofs.YtgkjoodlcojkkaaDoor
open Go.ChangeShapes Go.WideShapes Go.ChangeAt Go.RowKit
open Go.ChangeMaps (open_string shut_string)
set_option linter.unusedVariables false

theorem ownK : ownKnob Tryd.prog.godebug = none := by kernel_rfl

theorem returnsInHanded_both {H : Type} {enc : TypeId × Value → H} {a : Assume} {C : Checked} {os : Os} {f : FuncId} {fn : Func} {s : ChangeSpec} {conds : List PathCond} {apart fresh handsOn again : Bool} {X : World → Array Value → Prop}
    (hX : ∀ (w w' : World) (args : Array Value), w.heap = w'.heap → X w args → X w' args)
    (own : ownKnob C.prog.godebug = none) (started : os.Started) (noInit : C.prog.inits.idxOf? f = none) (hfn : C.prog.funcs[f]? = some fn)
    (witness : ∃ (w : World) (tape : Tape) (i : Input), w.os = os ∧ (w.forCall tape i).Shaped C.prog ∧ i.vars = [] ∧ Input.okWide C.prog (w.forCall tape i) .any w.heap.size f i ∧
      ((s.pre enc C.prog fn conds apart (w.forCall tape i).memory i.args ∧ X (w.forCall tape i).memory i.args) ∧ sizedMet enc C.prog fn (OpenSpec.ofChange s) apart (w.forCall tape i).memory i.args) ∧ a.holds C.prog (lone (Frame.enter C.prog f i.args .normal) [] (w.forCall tape i)))
    (contract : ∀ (W : World) (base : Nat) (args : Array Value) (ds gs : List (DataW H)) (before : List MemPlace),
      (∀ (j : Nat) t v, fn.params[j]? = some t → args[j]? = some v → Value.okWide C.prog W .any base t v) →
      DataW.Whole enc C.prog fn.params.toList s.vars apart W args.toList ds gs before →
      (DataW.weightsEach C.prog (fn.params.toList ++ s.plain.varTypes C.prog) (ds ++ gs)).all (· ≤ reachBytes) = true → X W args → W.ShapedOpen C.prog →
      Calls C.prog f args W fun e W' => ∃ v, e = .returned v ∧ s.post enc C.prog fn apart fresh handsOn again W args v W') :
    ReturnsInHanded a C os f .any (fun w args => (s.pre enc C.prog fn conds apart w args ∧ X w args) ∧ sizedMet enc C.prog fn (OpenSpec.ofChange s) apart w args) (s.post enc C.prog fn apart fresh handsOn again) := by
  refine returnsInHanded_of_calls own started noInit witness ?_
  intro w tape i _ hsh _ hok hpre hholds
  obtain ⟨_, _, _, fn', hfn', _, _, _, _, hval⟩ := hok
  have e : fn' = fn := Option.some.inj (hfn'.symm.trans hfn)
  subst e
  obtain ⟨⟨⟨ds, gs, before, hw, hc⟩, hx⟩, hz⟩ := hpre
  have hw' := DataW.Whole.of_heap (w' := w.forCall tape i) (by rfl) hw
  refine (contract (w.forCall tape i) w.heap.size i.args ds gs before hval hw' (hz.weights hw) (hX _ _ _ (by rfl) hx) hsh).mono fun e W' ⟨v, he, hp⟩ => ?_
  subst he
  exact ChangeSpec.post_blind hp

abbrev laidL : List (String × DataW Unit) := Rows.wordsTellRow.laid

theorem star : "*errors.errorString" = "*" ++ "errors.errorString" := by decide
theorem row136 (u : TypeId) (h : Tryd.prog.typeName? 3 u = some "*errors.errorString") : u = 136 :=
  typeName_ptr_named (nm := "errors.errorString") (by rw [← star]; kernel_rfl) (by kernel_rfl) (by decide) u (by rw [← star]; exact h)

theorem globAt_of_laid {W : World} (hs : W.ShapedOpen Tryd.prog) (h : laidMetH Tryd.prog laidL W) : GlobAt W := by
  rw [MakeChecks.laidMetH_plain _ _ _ (by kernel_rfl)] at h
  have h : laidMet Tryd.prog [("math/bits.deBruijn32tab", Rows.laid_math_bits_deBruijn32tab), ("math/bits.deBruijn64tab", Rows.laid_math_bits_deBruijn64tab), ("internal/strconv.uint64pow10", Rows.laid_internal_strconv_uint64pow10), ("unicode/utf8.acceptRanges", Rows.laid_unicode_utf8_acceptRanges), ("strconv.ErrRange", Rows.laid_strconv_ErrRange), ("strconv.ErrSyntax", Rows.laid_strconv_ErrSyntax), ("unicode/utf8.first", Rows.laid_unicode_utf8_first)] W := h
  have h3 := h.tail.tail
  have h5 := h3.tail.tail
  obtain ⟨a5, s5, hv5, _⟩ := laid_sentinel h5 (g := 1) (ti := 58) (tp := 136) (te := 138) (ts := 9) (by kernel_rfl) (by kernel_rfl) Tryd.underlying58 row136 Tryd.underlying136 Tryd.underlying138 rfl rfl Tryd.underlying9 (by kernel_rfl) (by kernel_rfl)
  obtain ⟨a6, s6, hv6, _⟩ := laid_sentinel h5.tail (g := 0) (ti := 58) (tp := 136) (te := 138) (ts := 9) (by kernel_rfl) (by kernel_rfl) Tryd.underlying58 row136 Tryd.underlying136 Tryd.underlying138 rfl rfl Tryd.underlying9 (by kernel_rfl) (by kernel_rfl)
  have hp : Lib.TabIs Tryd.prog W "internal/strconv.uint64pow10" .u64 Lib.pow10Tab :=
    Lib.tabIs_of_head (g := 3) (t := 140) (e := 116) (n := 20) (by kernel_rfl) (by kernel_rfl) Tryd.underlying140 Tryd.underlying116 (by kernel_rfl) (by kernel_rfl) h3
  exact ⟨Tryd.laysM146.s1_3 W hs, hp, ⟨_, _, hv6⟩, ⟨_, _, hv5⟩⟩

end Go.Proofs.YtgkjoodlcojkkaaDoor
end
section
-- written by a program of this session (wip/tools): the functions that the laws reach, as plain Lean, and their walks
namespace Go.Proofs.YtgkjoodlcojkkaaDoor.QD
open Go.RowKit Go.Proofs.YtgkjoodlcojkkaaDoorW.PrintWords Go.Proofs.YtgkjoodlcojkkaaDoorW.PrintLast Go.Proofs.YtgkjoodlcojkkaaDoorW.PrintMore
attribute [local go_sem] max2_int min2_int max_two min_two max_three min_three max_four min_four   -- for this text's walks alone
set_option linter.unusedVariables false
set_option linter.unusedSimpArgs false

def bs (n m : Nat) : Array Bool := ((List.range n).map fun i => m.testBit i).toArray
class IsTrue (b : Bool) : Prop where
  out : b = true
instance : IsTrue true := ⟨rfl⟩



def errW : Option Int → Value
  | none => .nilIface
  | some c => .iface 98 (.int .i64 c)
theorem errW_none : errW none = .nilIface := rfl
theorem errW_some (c : Int) : errW (some c) = .iface 98 (.int .i64 c) := rfl

theorem info3 : (Tryd.prog.info? 3).map (fun i => (i.zero, i.size, i.bytes)) = some (some (.int .i64 0), 1, 8) := by kernel_rfl
theorem info5 : (Tryd.prog.info? 5).map (fun i => (i.zero, i.size, i.bytes)) = some (some (.int .u8 0), 1, 1) := by kernel_rfl
theorem info9 : (Tryd.prog.info? 9).map (fun i => (i.zero, i.size, i.bytes)) = some (some (.string ⟨#[]⟩), 1, 16) := by kernel_rfl
theorem info50 : (Tryd.prog.info? 50).map (fun i => (i.zero, i.size, i.bytes)) = some (some (.agg #[(.int .i64 0), (.int .i64 0), (.int .i64 0)]), 3, 24) := by kernel_rfl
theorem info53 : (Tryd.prog.info? 53).map (fun i => (i.zero, i.size, i.bytes)) = some (some (.agg #[(.string ⟨#[]⟩), (.int .i64 0), (.int .i64 0), (.int .i64 0), (.int .i64 0), (.slice none 0 0)]), 6, 72) := by kernel_rfl
theorem info81 : (Tryd.prog.info? 81).map (fun i => (i.zero, i.size, i.bytes)) = some (some (.agg #[(.int .i64 0), (.slice none 0 0)]), 2, 32) := by kernel_rfl
-- the values' own types
/-! #### struct type 50 -/
structure S50 where
  f0 : Int
  f1 : Int
  f2 : Int
def z50 : S50 := ⟨(0 : Int), (0 : Int), (0 : Int)⟩
def k50 : Kd S50 := Kd.iso (Kd.pair (Kd.int .i64) (Kd.pair (Kd.int .i64) (Kd.int .i64))) (fun x : S50 => (x.f0, x.f1, x.f2))
theorem k50_open {w : World} {x : S50} {cs : List Value} (h : k50.K w x cs) : cs = [.int .i64 x.f0, .int .i64 x.f1, .int .i64 x.f2] := by
  obtain ⟨_, _, rfl, rfl, ⟨_, _, rfl, rfl, rfl⟩⟩ := h
  exact rfl
theorem k50_openM {w : World} {base : Nat} {ok : Nat → Prop} {x : S50} {cs : List Value} (h : k50.M w base ok x cs) : cs = [.int .i64 x.f0, .int .i64 x.f1, .int .i64 x.f2] := by
  obtain ⟨_, _, rfl, rfl, ⟨_, _, rfl, rfl, rfl⟩⟩ := h
  exact rfl
theorem k50_mk (w : World) (x : S50)  : k50.K w x [.int .i64 x.f0, .int .i64 x.f1, .int .i64 x.f2] := ⟨[.int .i64 x.f0], [.int .i64 x.f1, .int .i64 x.f2], rfl, rfl, ⟨[.int .i64 x.f1], [.int .i64 x.f2], rfl, rfl, rfl⟩⟩
theorem k50_mkM (w : World) (base : Nat) (ok : Nat → Prop) (x : S50)  : k50.M w base ok x [.int .i64 x.f0, .int .i64 x.f1, .int .i64 x.f2] := ⟨[.int .i64 x.f0], [.int .i64 x.f1, .int .i64 x.f2], rfl, rfl, ⟨[.int .i64 x.f1], [.int .i64 x.f2], rfl, rfl, rfl⟩⟩
theorem k50_mkF (W : World) (ok : Nat → Prop) (x : S50) : Kd.FK k50 W ok x [.int .i64 x.f0, .int .i64 x.f1, .int .i64 x.f2] := fun W2 _ => k50_mk W2 x
def rd_T50 (xs : List S50) (i : Int) : S50 := xs.getD i.toNat z50
theorem at_T50 {w : World} {A : Option Addr} {n : Nat} {xs : List S50} (h : Kd.C k50 w A n xs) (i : Int) (h0 : 0 ≤ i) (h1 : i < n) : ∃ ad , A = some ad ∧ w.cell? (ad.add (i.toNat * 3)) = some (.int .i64 (rd_T50 xs i).f0) ∧ w.cell? ⟨(ad.add (i.toNat * 3)).block, (ad.add (i.toNat * 3)).off + 1, none⟩ = some (.int .i64 (rd_T50 xs i).f1) ∧ w.cell? ⟨(ad.add (i.toNat * 3)).block, (ad.add (i.toNat * 3)).off + 2, none⟩ = some (.int .i64 (rd_T50 xs i).f2) := by
  obtain ⟨ad, c, e, _, hK, hc0⟩ := Kd.C_get h z50 i h0 h1
  have hc : ∀ j u, c[j]? = some u → w.cell? (ad.add (i.toNat * 3 + j)) = some u := hc0
  obtain rfl := k50_open hK
  exact ⟨ad, e, hc 0 _ rfl, by rw [← add_field _ _ 1 (by omega)]; exact hc 1 _ rfl, by rw [← add_field _ _ 2 (by omega)]; exact hc 2 _ rfl⟩

def rd_L4 (xs : List (List S50)) (i : Int) : (List S50) := xs.getD i.toNat ([] : List S50)
theorem at_L4 {w : World} {A : Option Addr} {n : Nat} {xs : List (List S50)} (h : Kd.C (Kd.slice 50 k50) w A n xs) (i : Int) (h0 : 0 ≤ i) (h1 : i < n) : ∃ ad A0 c0, A = some ad ∧ w.cell? (ad.add i.toNat) = some (.slice A0 (rd_L4 xs i).length c0) ∧ (rd_L4 xs i).length ≤ c0 ∧ k50.C w A0 (rd_L4 xs i).length (rd_L4 xs i) := by
  obtain ⟨ad, c, e, _, hK, hc0⟩ := Kd.C_get h ([] : List S50) i h0 h1
  have hc : ∀ j u, c[j]? = some u → w.cell? (ad.add (i.toNat * 1 + j)) = some u := hc0
  obtain ⟨A0, c0, rfl, l0, g0⟩ := hK
  exact ⟨ad, A0, c0, e, by have hq := hc 0 _ rfl; rwa [Nat.mul_one, Nat.add_zero] at hq, l0, g0⟩

/-! #### struct type 53 -/
structure S53 where
  f0 : ByteArray
  f1 : Int
  f2 : Int
  f3 : Int
  f4 : Int
  f5 : (List S50)
def z53 : S53 := ⟨(⟨#[]⟩ : ByteArray), (0 : Int), (0 : Int), (0 : Int), (0 : Int), ([] : List S50)⟩
def k53 : Kd S53 := Kd.iso (Kd.pair Kd.string (Kd.pair (Kd.int .i64) (Kd.pair (Kd.int .i64) (Kd.pair (Kd.int .i64) (Kd.pair (Kd.int .i64) (Kd.slice 50 k50)))))) (fun x : S53 => (x.f0, x.f1, x.f2, x.f3, x.f4, x.f5))
theorem k53_open {w : World} {x : S53} {cs : List Value} (h : k53.K w x cs) : ∃ A5 c5, cs = [.string x.f0, .int .i64 x.f1, .int .i64 x.f2, .int .i64 x.f3, .int .i64 x.f4, .slice A5 x.f5.length c5] ∧ x.f5.length ≤ c5 ∧ k50.C w A5 x.f5.length x.f5 := by
  obtain ⟨_, _, rfl, rfl, ⟨_, _, rfl, rfl, ⟨_, _, rfl, rfl, ⟨_, _, rfl, rfl, ⟨_, _, rfl, rfl, ⟨A5, c5, rfl, l5, g5⟩⟩⟩⟩⟩⟩ := h
  exact ⟨A5, c5, rfl, l5, g5⟩
theorem k53_openM {w : World} {base : Nat} {ok : Nat → Prop} {x : S53} {cs : List Value} (h : k53.M w base ok x cs) : ∃ v5, cs = [.string x.f0, .int .i64 x.f1, .int .i64 x.f2, .int .i64 x.f3, .int .i64 x.f4, v5] ∧ k50.R 50 w base ok v5 x.f5 := by
  obtain ⟨_, _, rfl, rfl, ⟨_, _, rfl, rfl, ⟨_, _, rfl, rfl, ⟨_, _, rfl, rfl, ⟨_, _, rfl, rfl, ⟨v5, rfl, g5⟩⟩⟩⟩⟩⟩ := h
  exact ⟨v5, rfl, g5⟩
theorem k53_mk (w : World) (x : S53) {A5 : Option Addr} {c5 : Nat} (l5 : x.f5.length ≤ c5) (g5 : k50.C w A5 x.f5.length x.f5) : k53.K w x [.string x.f0, .int .i64 x.f1, .int .i64 x.f2, .int .i64 x.f3, .int .i64 x.f4, .slice A5 x.f5.length c5] := ⟨[.string x.f0], [.int .i64 x.f1, .int .i64 x.f2, .int .i64 x.f3, .int .i64 x.f4, .slice A5 x.f5.length c5], rfl, rfl, ⟨[.int .i64 x.f1], [.int .i64 x.f2, .int .i64 x.f3, .int .i64 x.f4, .slice A5 x.f5.length c5], rfl, rfl, ⟨[.int .i64 x.f2], [.int .i64 x.f3, .int .i64 x.f4, .slice A5 x.f5.length c5], rfl, rfl, ⟨[.int .i64 x.f3], [.int .i64 x.f4, .slice A5 x.f5.length c5], rfl, rfl, ⟨[.int .i64 x.f4], [.slice A5 x.f5.length c5], rfl, rfl, ⟨A5, c5, rfl, l5, g5⟩⟩⟩⟩⟩⟩
theorem k53_mkM (w : World) (base : Nat) (ok : Nat → Prop) (x : S53) {v5 : Value} (g5 : k50.R 50 w base ok v5 x.f5) : k53.M w base ok x [.string x.f0, .int .i64 x.f1, .int .i64 x.f2, .int .i64 x.f3, .int .i64 x.f4, v5] := ⟨[.string x.f0], [.int .i64 x.f1, .int .i64 x.f2, .int .i64 x.f3, .int .i64 x.f4, v5], rfl, rfl, ⟨[.int .i64 x.f1], [.int .i64 x.f2, .int .i64 x.f3, .int .i64 x.f4, v5], rfl, rfl, ⟨[.int .i64 x.f2], [.int .i64 x.f3, .int .i64 x.f4, v5], rfl, rfl, ⟨[.int .i64 x.f3], [.int .i64 x.f4, v5], rfl, rfl, ⟨[.int .i64 x.f4], [v5], rfl, rfl, ⟨v5, rfl, g5⟩⟩⟩⟩⟩⟩
theorem k53_openF {W : World} {ok : Nat → Prop} {x : S53} {cs : List Value} (h : Kd.FK k53 W ok x cs) : ∃ A5 c5, cs = [.string x.f0, .int .i64 x.f1, .int .i64 x.f2, .int .i64 x.f3, .int .i64 x.f4, .slice A5 x.f5.length c5] ∧ x.f5.length ≤ c5 ∧ Kd.F k50 W ok A5 x.f5.length x.f5 := by
  obtain ⟨A5, c5, rfl, l5, _⟩ := k53_open (Kd.FK_now h)
  exact ⟨A5, c5, rfl, l5, (fun W' hW => by obtain ⟨A5_, c5_, he, l5_, g5_⟩ := k53_open (h W' hW); injection (Option.some.inj (show some (Value.slice A5 x.f5.length c5) = some (Value.slice A5_ x.f5.length c5_) from congrArg (fun l => l[5]?) he)) with ha_ _ _; rw [ha_]; exact g5_)⟩
theorem k53_mkF (W : World) (ok : Nat → Prop) (x : S53) {A5 : Option Addr} {c5 : Nat} (l5 : x.f5.length ≤ c5) (g5 : Kd.F k50 W ok A5 x.f5.length x.f5) : Kd.FK k53 W ok x [.string x.f0, .int .i64 x.f1, .int .i64 x.f2, .int .i64 x.f3, .int .i64 x.f4, .slice A5 x.f5.length c5] := fun W2 hW => k53_mk W2 x l5 (g5 W2 hW)
def rd_T53 (xs : List S53) (i : Int) : S53 := xs.getD i.toNat z53
theorem at_T53 {w : World} {A : Option Addr} {n : Nat} {xs : List S53} (h : Kd.C k53 w A n xs) (i : Int) (h0 : 0 ≤ i) (h1 : i < n) : ∃ ad A5 c5, A = some ad ∧ w.cell? (ad.add (i.toNat * 6)) = some (.string (rd_T53 xs i).f0) ∧ w.cell? ⟨(ad.add (i.toNat * 6)).block, (ad.add (i.toNat * 6)).off + 1, none⟩ = some (.int .i64 (rd_T53 xs i).f1) ∧ w.cell? ⟨(ad.add (i.toNat * 6)).block, (ad.add (i.toNat * 6)).off + 2, none⟩ = some (.int .i64 (rd_T53 xs i).f2) ∧ w.cell? ⟨(ad.add (i.toNat * 6)).block, (ad.add (i.toNat * 6)).off + 3, none⟩ = some (.int .i64 (rd_T53 xs i).f3) ∧ w.cell? ⟨(ad.add (i.toNat * 6)).block, (ad.add (i.toNat * 6)).off + 4, none⟩ = some (.int .i64 (rd_T53 xs i).f4) ∧ w.cell? ⟨(ad.add (i.toNat * 6)).block, (ad.add (i.toNat * 6)).off + 5, none⟩ = some (.slice A5 (rd_T53 xs i).f5.length c5) ∧ (rd_T53 xs i).f5.length ≤ c5 ∧ k50.C w A5 (rd_T53 xs i).f5.length (rd_T53 xs i).f5 := by
  obtain ⟨ad, c, e, _, hK, hc0⟩ := Kd.C_get h z53 i h0 h1
  have hc : ∀ j u, c[j]? = some u → w.cell? (ad.add (i.toNat * 6 + j)) = some u := hc0
  obtain ⟨A5, c5, rfl, l5, g5⟩ := k53_open hK
  exact ⟨ad, A5, c5, e, hc 0 _ rfl, by rw [← add_field _ _ 1 (by omega)]; exact hc 1 _ rfl, by rw [← add_field _ _ 2 (by omega)]; exact hc 2 _ rfl, by rw [← add_field _ _ 3 (by omega)]; exact hc 3 _ rfl, by rw [← add_field _ _ 4 (by omega)]; exact hc 4 _ rfl, by rw [← add_field _ _ 5 (by omega)]; exact hc 5 _ rfl, l5, g5⟩

def rd_L6 (xs : List (List ByteArray)) (i : Int) : (List ByteArray) := xs.getD i.toNat ([] : List ByteArray)
theorem at_L6 {w : World} {A : Option Addr} {n : Nat} {xs : List (List ByteArray)} (h : Kd.C (Kd.slice 9 Kd.string) w A n xs) (i : Int) (h0 : 0 ≤ i) (h1 : i < n) : ∃ ad A0 c0, A = some ad ∧ w.cell? (ad.add i.toNat) = some (.slice A0 (rd_L6 xs i).length c0) ∧ (rd_L6 xs i).length ≤ c0 ∧ Kd.string.C w A0 (rd_L6 xs i).length (rd_L6 xs i) := by
  obtain ⟨ad, c, e, _, hK, hc0⟩ := Kd.C_get h ([] : List ByteArray) i h0 h1
  have hc : ∀ j u, c[j]? = some u → w.cell? (ad.add (i.toNat * 1 + j)) = some u := hc0
  obtain ⟨A0, c0, rfl, l0, g0⟩ := hK
  exact ⟨ad, A0, c0, e, by have hq := hc 0 _ rfl; rwa [Nat.mul_one, Nat.add_zero] at hq, l0, g0⟩

/-! #### struct type 81 -/
structure S81 where
  f0 : Int
  f1 : (List ByteArray)
def z81 : S81 := ⟨(0 : Int), ([] : List ByteArray)⟩
def k81 : Kd S81 := Kd.iso (Kd.pair (Kd.int .i64) (Kd.slice 9 Kd.string)) (fun x : S81 => (x.f0, x.f1))
theorem k81_open {w : World} {x : S81} {cs : List Value} (h : k81.K w x cs) : ∃ A1 c1, cs = [.int .i64 x.f0, .slice A1 x.f1.length c1] ∧ x.f1.length ≤ c1 ∧ Kd.string.C w A1 x.f1.length x.f1 := by
  obtain ⟨_, _, rfl, rfl, ⟨A1, c1, rfl, l1, g1⟩⟩ := h
  exact ⟨A1, c1, rfl, l1, g1⟩
theorem k81_openM {w : World} {base : Nat} {ok : Nat → Prop} {x : S81} {cs : List Value} (h : k81.M w base ok x cs) : ∃ v1, cs = [.int .i64 x.f0, v1] ∧ Kd.string.R 9 w base ok v1 x.f1 := by
  obtain ⟨_, _, rfl, rfl, ⟨v1, rfl, g1⟩⟩ := h
  exact ⟨v1, rfl, g1⟩
theorem k81_mk (w : World) (x : S81) {A1 : Option Addr} {c1 : Nat} (l1 : x.f1.length ≤ c1) (g1 : Kd.string.C w A1 x.f1.length x.f1) : k81.K w x [.int .i64 x.f0, .slice A1 x.f1.length c1] := ⟨[.int .i64 x.f0], [.slice A1 x.f1.length c1], rfl, rfl, ⟨A1, c1, rfl, l1, g1⟩⟩
theorem k81_mkM (w : World) (base : Nat) (ok : Nat → Prop) (x : S81) {v1 : Value} (g1 : Kd.string.R 9 w base ok v1 x.f1) : k81.M w base ok x [.int .i64 x.f0, v1] := ⟨[.int .i64 x.f0], [v1], rfl, rfl, ⟨v1, rfl, g1⟩⟩
theorem k81_openF {W : World} {ok : Nat → Prop} {x : S81} {cs : List Value} (h : Kd.FK k81 W ok x cs) : ∃ A1 c1, cs = [.int .i64 x.f0, .slice A1 x.f1.length c1] ∧ x.f1.length ≤ c1 ∧ Kd.F Kd.string W ok A1 x.f1.length x.f1 := by
  obtain ⟨A1, c1, rfl, l1, _⟩ := k81_open (Kd.FK_now h)
  exact ⟨A1, c1, rfl, l1, (fun W' hW => by obtain ⟨A1_, c1_, he, l1_, g1_⟩ := k81_open (h W' hW); injection (Option.some.inj (show some (Value.slice A1 x.f1.length c1) = some (Value.slice A1_ x.f1.length c1_) from congrArg (fun l => l[1]?) he)) with ha_ _ _; rw [ha_]; exact g1_)⟩
theorem k81_mkF (W : World) (ok : Nat → Prop) (x : S81) {A1 : Option Addr} {c1 : Nat} (l1 : x.f1.length ≤ c1) (g1 : Kd.F Kd.string W ok A1 x.f1.length x.f1) : Kd.FK k81 W ok x [.int .i64 x.f0, .slice A1 x.f1.length c1] := fun W2 hW => k81_mk W2 x l1 (g1 W2 hW)
def rd_T81 (xs : List S81) (i : Int) : S81 := xs.getD i.toNat z81
theorem at_T81 {w : World} {A : Option Addr} {n : Nat} {xs : List S81} (h : Kd.C k81 w A n xs) (i : Int) (h0 : 0 ≤ i) (h1 : i < n) : ∃ ad A1 c1, A = some ad ∧ w.cell? (ad.add (i.toNat * 2)) = some (.int .i64 (rd_T81 xs i).f0) ∧ w.cell? ⟨(ad.add (i.toNat * 2)).block, (ad.add (i.toNat * 2)).off + 1, none⟩ = some (.slice A1 (rd_T81 xs i).f1.length c1) ∧ (rd_T81 xs i).f1.length ≤ c1 ∧ Kd.string.C w A1 (rd_T81 xs i).f1.length (rd_T81 xs i).f1 := by
  obtain ⟨ad, c, e, _, hK, hc0⟩ := Kd.C_get h z81 i h0 h1
  have hc : ∀ j u, c[j]? = some u → w.cell? (ad.add (i.toNat * 2 + j)) = some u := hc0
  obtain ⟨A1, c1, rfl, l1, g1⟩ := k81_open hK
  exact ⟨ad, A1, c1, e, hc 0 _ rfl, by rw [← add_field _ _ 1 (by omega)]; exact hc 1 _ rfl, l1, g1⟩

end Go.Proofs.YtgkjoodlcojkkaaDoor.QD
end
section
/- Contracts of the library's functions that the program calls (strings.Split, Cut, HasPrefix, Contains, strconv.Itoa) and of words.Num, in the form of the printed ones. Conditions: strings below 4294967281 bytes, a separator that is not empty, else the plain function tells nothing. -/
namespace Go.Proofs.YtgkjoodlcojkkaaDoor.QD
open Go.RowKit Go.Proofs.YtgkjoodlcojkkaaDoorW.PrintWords Go.Proofs.YtgkjoodlcojkkaaDoorW.PrintLast Go.Proofs.YtgkjoodlcojkkaaDoorW.PrintMore
set_option linter.unusedVariables false
set_option linter.unusedSimpArgs false

theorem reps_strings : ∀ l : List ByteArray, Reps (fun x cs => cs = [Value.string x]) 1 l (l.map Value.string) := by
  intro l
  refine ⟨by simp, fun j p hj => ?_⟩
  obtain ⟨hk, rfl⟩ := List.getElem?_eq_some_iff.1 hj
  rw [Nat.mul_one, ← List.map_drop, ← List.map_take, List.drop_eq_getElem_cons hk]
  rfl

theorem R_strings (w : World) (l : List ByteArray) (h : l ≠ []) (hl : l.length ≤ maxLen) :
    Kd.R Kd.string 9 (w.alloc (.cells (l.map Value.string).toArray 9)) w.heap.size (fun _ => True) (.slice (some ⟨w.heap.size, 0, none⟩) l.length l.length) l := by
  have hz : (Kd.string).sz = 1 := rfl
  refine ⟨fun _ _ => trivial, l.map Value.string, ⟨by simp [hz], .inr ⟨w.heap.size, l.length, (l.map Value.string).toArray, rfl, Nat.le_refl _, heap_alloc_new w _, Nat.le_refl _, hl, by simp [hz], ?_⟩⟩, reps_strings l⟩
  rw [hz, Nat.mul_one, List.take_of_length_le (by simp)]

def strings_Split.f (a0 : ByteArray) (a1 : ByteArray) : Option (List ByteArray) :=
  if a0.size < 4294967281 ∧ 1 ≤ a1.size then some (Lib.splitB a1 0 (Lib.countB a0 a1) a0) else none
theorem strings_Split.calls (a0 : ByteArray) (a1 : ByteArray) (r : List ByteArray) (w : World) (hG : Glob w) (h : strings_Split.f a0 a1 = some r) :
    Calls Tryd.prog 29 #[.string a0, .string a1] w fun e w' => ∃ v0_ : Value, e = .returned (v0_) ∧ Kd.R Kd.string 9 w' w.heap.size (fun _ => True) v0_ r ∧ Below w.heap.size w w' := by
  unfold strings_Split.f at h
  by_cases c : a0.size < 4294967281 ∧ 1 ≤ a1.size
  · rw [if_pos c] at h
    obtain rfl := Option.some.inj h
    obtain ⟨m, hm⟩ := hG.at.maxlen
    refine (Tryd.strings_Split a0 a1 m w c.1 hm c.2).mono fun e w' ⟨he, hw⟩ => ?_
    have hlen := Lib.splitB_all a1 c.2 0 _ a0 rfl
    have hle : (Lib.splitB a1 0 (Lib.countB a0 a1) a0).length ≤ maxLen := by
      rw [hlen]
      have : Lib.countB a0 a1 ≤ a0.size := Lib.countB_le a1 c.2 _ a0 (Nat.le_refl _)
      unfold maxLen; omega
    refine ⟨_, he, ?_, ?_⟩
    · have z := R_strings w (Lib.splitB a1 0 (Lib.countB a0 a1) a0) (by intro e; rw [e] at hlen; simp at hlen) hle
      rw [hlen] at z
      rw [hw]
      exact z
    · rw [hw]; exact below_alloc (Below.refl _ _) _
  · rw [if_neg c] at h; cases h

def strings_Cut.f (a0 : ByteArray) (a1 : ByteArray) : Option (ByteArray × ByteArray × Bool) :=
  if a0.size < 4294967281 then some (⟨(Lib.cut a0.data.toList a1.data.toList).1.toArray⟩, ⟨(Lib.cut a0.data.toList a1.data.toList).2.1.toArray⟩, (Lib.cut a0.data.toList a1.data.toList).2.2) else none
theorem strings_Cut.calls (a0 : ByteArray) (a1 : ByteArray) (r1 : ByteArray) (r2 : ByteArray) (r3 : Bool) (w : World) (hG : Glob w) (h : strings_Cut.f a0 a1 = some (r1, r2, r3)) :
    Calls Tryd.prog 31 #[.string a0, .string a1] w fun e w' => e = .returned (.tuple #[.string r1, .string r2, .bool r3]) ∧ Below w.heap.size w w' := by
  unfold strings_Cut.f at h
  by_cases c : a0.size < 4294967281
  · rw [if_pos c] at h
    simp only [Option.some.injEq, Prod.mk.injEq] at h
    obtain ⟨rfl, rfl, rfl⟩ := h
    obtain ⟨m, hm⟩ := hG.at.maxlen
    refine (Tryd.strings_Cut a0 a1 m w c hm).mono fun e w' ⟨he, n, hw⟩ => ⟨he, ?_⟩
    rw [hw]; exact pw_below_drewN (Below.refl _ _) _
  · rw [if_neg c] at h; cases h

def strings_HasPrefix.f (a0 : ByteArray) (a1 : ByteArray) : Option Bool := some (Lib.hasPrefix a0.data.toList a1.data.toList)
theorem strings_HasPrefix.calls (a0 : ByteArray) (a1 : ByteArray) (r : Bool) (w : World) (h : strings_HasPrefix.f a0 a1 = some r) :
    Calls Tryd.prog 77 #[.string a0, .string a1] w fun e w' => e = .returned (.bool r) ∧ Below w.heap.size w w' := by
  unfold strings_HasPrefix.f at h
  obtain rfl := Option.some.inj h
  refine (Tryd.strings_HasPrefix a0 a1 w).mono fun e w' ⟨he, hw⟩ => ⟨he, ?_⟩
  rw [hw]; exact Below.refl _ _

def strings_Contains.f (a0 : ByteArray) (a1 : ByteArray) : Option Bool := if a0.size < 4294967281 then some (Lib.contains a0.data.toList a1.data.toList) else none
theorem strings_Contains.calls (a0 : ByteArray) (a1 : ByteArray) (r : Bool) (w : World) (hG : Glob w) (h : strings_Contains.f a0 a1 = some r) :
    Calls Tryd.prog 78 #[.string a0, .string a1] w fun e w' => e = .returned (.bool r) ∧ Below w.heap.size w w' := by
  unfold strings_Contains.f at h
  by_cases c : a0.size < 4294967281
  · rw [if_pos c] at h
    obtain rfl := Option.some.inj h
    obtain ⟨m, hm⟩ := hG.at.maxlen
    refine (Tryd.strings_Contains a0 a1 m w c hm).mono fun e w' ⟨he, hw⟩ => ⟨he, ?_⟩
    rw [hw]; exact Below.refl _ _
  · rw [if_neg c] at h; cases h

def strconv_Itoa_28.f (a0 : Int) : Option (ByteArray) := if -9223372036854775808 ≤ a0 ∧ a0 ≤ 9223372036854775807 then some ⟨(Lib.itoa a0).toArray⟩ else none
theorem strconv_Itoa_28.calls (a0 : Int) (r : ByteArray) (w : World) (hG : Glob w) (h : strconv_Itoa_28.f a0 = some r) :
    Calls Tryd.prog 28 #[.int .i64 a0] w fun e w' => e = .returned (.string r) ∧ Below w.heap.size w w' := by
  unfold strconv_Itoa_28.f at h
  by_cases c : -9223372036854775808 ≤ a0 ∧ a0 ≤ 9223372036854775807
  · rw [if_pos c] at h
    obtain rfl := Option.some.inj h
    refine (Tryd.strconv_Itoa a0 c.1 c.2 w hG.at.pow).mono fun e w' ⟨he, k, os, hw⟩ => ⟨he, ?_⟩
    rw [hw]; exact Lib.below_grow _ w (Nat.le_refl _) k os
  · rw [if_neg c] at h; cases h

theorem atoi_any (a0 : ByteArray) (w : World) (hG : Glob w) (hs : a0.size ≤ 281474976710656) :
    Calls Tryd.prog 27 #[.string a0] w fun e w' => (match Lib.atoiAll a0.data.toList with
      | .ok v => e = .returned (.tuple #[.int .i64 v, .nilIface])
      | _ => ∃ n t v, e = .returned (.tuple #[.int .i64 n, .iface t v])) ∧ Below w.heap.size w w' := by
  obtain ⟨t3, p3, h3⟩ := hG.at.esyn
  obtain ⟨t4, p4, h4⟩ := hG.at.eran
  have e3 : w.cell? ⟨0, 0, none⟩ = some (.iface t3 p3) := by simpa using World.var?_cell (by kernel_rfl : Tryd.prog.globalNamed "strconv.ErrSyntax" = some 0) h3 0
  have e4 : w.cell? ⟨1, 0, none⟩ = some (.iface t4 p4) := by simpa using World.var?_cell (by kernel_rfl : Tryd.prog.globalNamed "strconv.ErrRange" = some 1) h4 0
  rcases h : Lib.atoiAll a0.data.toList with v | _ | _
  · refine (Tryd.strconv_Atoi_ok a0 (by omega) v h w).mono fun e w' ⟨he, hw⟩ => ⟨he, ?_⟩
    rcases hw with rfl | ⟨t, rfl⟩
    · exact Below.refl _ _
    · exact Lib.bytesWorld_below _ _ _
  · exact (Any.strconv_Atoi_syntax Tryd.laysC172 a0 hs h _ w e3 (.inr ⟨_, _, rfl⟩)).mono fun e w' ⟨N, he, _, _, hb⟩ => ⟨⟨_, _, _, he⟩, hb⟩
  · exact (Tryd.strconv_Atoi_range a0 hs h _ w e4 (.inr ⟨_, _, rfl⟩)).mono fun e w' ⟨N, he, _, _, hb⟩ => ⟨⟨_, _, _, he⟩, hb⟩

def words_Num.f (a0 : ByteArray) : Option (Int × Bool) :=
  if a0.size ≤ 281474976710656 then
    (match Lib.atoiAll a0.data.toList with
      | .ok v => if 7 < a0.size then some (0, false) else if v < 0 then some (0, false) else if Lib.itoa v = a0.toList then some (v, true) else some (0, false)
      | _ => some (0, false))
  else none
set_option maxHeartbeats 8000000 in
set_option maxRecDepth 100000 in
theorem words_Num.calls (a0 : ByteArray) (r1 : Int) (r2 : Bool) (w : World) (hG : Glob w) (h : words_Num.f a0 = some (r1, r2)) :
    Calls Tryd.prog 10 #[.string a0] w fun e w' => e = .returned (.tuple #[.int .i64 r1, .bool r2]) ∧ Below w.heap.size w w' := by
  unfold words_Num.f at h
  by_cases c : a0.size ≤ 281474976710656
  rotate_left
  · rw [if_neg c] at h; cases h
  rw [if_pos c] at h
  have hu59 := Tryd.underlying59
  have hu58 := Tryd.underlying58
  have HG := Aside0.mk hG
  have HC := Aside0.mk c
  have hA := atoi_any a0 w hG c
  clear hG c
  rcases hr : Lib.atoiAll a0.data.toList with v | _ | _
  · skip
    rw [hr] at h hA
    simp only at h hA
    have HA := Aside0.mk hA
    obtain ⟨vb0, vb1⟩ := Lib.atoiAll_bounds hr
    clear hA hr
    by_cases c1 : 7 < a0.size
    · rw [if_pos c1] at h
      simp only [Option.some.injEq, Prod.mk.injEq] at h
      obtain ⟨rfl, rfl⟩ := h
      go_enter Tryd.func10, Tryd.ntmps10
      go_wp2_with (first | (go_at_call 27; (refine HA.out.mono ?_); rintro e w1 ⟨rfl, hb⟩; have HB := Aside0.mk hb; clear hb))
      go_ret2
      exact ⟨rfl, HB.out⟩
    · rw [if_neg c1] at h
      have c1b : decide (7 < a0.size) = false := decide_eq_false c1
      by_cases c2 : v < 0
      · rw [if_pos c2] at h
        simp only [Option.some.injEq, Prod.mk.injEq] at h
        obtain ⟨rfl, rfl⟩ := h
        go_enter Tryd.func10, Tryd.ntmps10
        go_wp2_with (first | (go_at_call 27; (refine HA.out.mono ?_); rintro e w1 ⟨rfl, hb⟩; have HB := Aside0.mk hb; clear hb))
        go_ret2
        exact ⟨rfl, HB.out⟩
      · rw [if_neg c2] at h
        by_cases c3 : Lib.itoa v = a0.toList
        · rw [if_pos c3] at h
          simp only [Option.some.injEq, Prod.mk.injEq] at h
          obtain ⟨rfl, rfl⟩ := h
          have c3b : (Lib.itoa v == a0.toList) = true := beq_iff_eq.2 c3
          clear c3
          go_enter Tryd.func10, Tryd.ntmps10
          go_wp2_with (first | (go_at_call 27; (refine HA.out.mono ?_); rintro e w1 ⟨rfl, hb⟩; have HB := Aside0.mk hb; clear hb) | (go_at_call 28; (refine (strconv_Itoa_28.calls v _ _ (Glob.below HG.out HB.out) (by unfold strconv_Itoa_28.f; rw [if_pos ⟨vb0, vb1⟩])).mono ?_); rintro e w2 ⟨rfl, hb⟩; have HB2 := Aside0.mk (below_step HB.out hb); clear hb))
          go_ret2
          exact ⟨rfl, HB2.out⟩
        · rw [if_neg c3] at h
          simp only [Option.some.injEq, Prod.mk.injEq] at h
          obtain ⟨rfl, rfl⟩ := h
          have c3b : (Lib.itoa v == a0.toList) = false := beq_eq_false_iff_ne.2 c3
          clear c3
          go_enter Tryd.func10, Tryd.ntmps10
          go_wp2_with (first | (go_at_call 27; (refine HA.out.mono ?_); rintro e w1 ⟨rfl, hb⟩; have HB := Aside0.mk hb; clear hb) | (go_at_call 28; (refine (strconv_Itoa_28.calls v _ _ (Glob.below HG.out HB.out) (by unfold strconv_Itoa_28.f; rw [if_pos ⟨vb0, vb1⟩])).mono ?_); rintro e w2 ⟨rfl, hb⟩; have HB2 := Aside0.mk (below_step HB.out hb); clear hb))
          go_ret2
          exact ⟨rfl, HB2.out⟩
  · skip
    rw [hr] at h hA
    simp only [Option.some.injEq, Prod.mk.injEq] at h
    simp only at hA
    obtain ⟨rfl, rfl⟩ := h
    have HA := Aside0.mk hA
    clear hA hr
    go_enter Tryd.func10, Tryd.ntmps10
    go_wp2_with (first | (go_at_call 27; (refine HA.out.mono ?_); rintro e w1 ⟨⟨n9, t9, v9, rfl⟩, hb⟩; have HB := Aside0.mk hb; clear hb))
    go_ret2
    exact ⟨rfl, HB.out⟩
  · skip
    rw [hr] at h hA
    simp only [Option.some.injEq, Prod.mk.injEq] at h
    simp only at hA
    obtain ⟨rfl, rfl⟩ := h
    have HA := Aside0.mk hA
    clear hA hr
    go_enter Tryd.func10, Tryd.ntmps10
    go_wp2_with (first | (go_at_call 27; (refine HA.out.mono ?_); rintro e w1 ⟨⟨n9, t9, v9, rfl⟩, hb⟩; have HB := Aside0.mk hb; clear hb))
    go_ret2
    exact ⟨rfl, HB.out⟩

end Go.Proofs.YtgkjoodlcojkkaaDoor.QD
end
section
-- written by a program of this session (wip/tools): the functions that the laws reach, as plain Lean, and their walks
namespace Go.Proofs.YtgkjoodlcojkkaaDoor.QD
open Go.RowKit Go.Proofs.YtgkjoodlcojkkaaDoorW.PrintWords Go.Proofs.YtgkjoodlcojkkaaDoorW.PrintLast Go.Proofs.YtgkjoodlcojkkaaDoorW.PrintMore
attribute [local go_sem] max2_int min2_int max_two min_two max_three min_three max_four min_four   -- for this text's walks alone
set_option linter.unusedVariables false
set_option linter.unusedSimpArgs false

/-! ### words_Lines: function 13 -/
def words_Lines.f (a0 : ByteArray) : Option (List ByteArray) := (strings_Split.f a0 (⟨#[10]⟩ : ByteArray)).bind fun t139 => (if 0 ≤ (wrap64 ((t139.length : Int) - 1)) then (if (wrap64 ((t139.length : Int) - 1)) < (t139.length : Int) then (if (rdOf ByteArray.empty t139 (wrap64 ((t139.length : Int) - 1))).toList = ([] : List UInt8) then (if (wrap64 ((t139.length : Int) - 1)) ≤ (t139.length : Int) then (some (t139.take ((wrap64 ((t139.length : Int) - 1)) : Int).toNat)) else (none)) else (some t139)) else (none)) else (none))
set_option maxHeartbeats 8000000 in
set_option maxRecDepth 100000 in
theorem words_Lines.calls (a0 : ByteArray) (r : List ByteArray) (w : World) (hG : Glob w) (h : words_Lines.f a0 = some r) :
    Calls Tryd.prog 13 #[.string a0] w fun e w' => ∃ v0_ : Value, e = .returned (v0_) ∧ Kd.R Kd.string 9 w' w.heap.size (fun _ => True) v0_ r ∧ Below w.heap.size w w' := by
  have HG := Aside0.mk hG
  clear hG
  have HB := Aside0.mk (Below.refl w.heap.size w)
  have H : ((strings_Split.f a0 (⟨#[10]⟩ : ByteArray)).bind fun t139 => (if 0 ≤ (wrap64 ((t139.length : Int) - 1)) then (if (wrap64 ((t139.length : Int) - 1)) < (t139.length : Int) then (if (rdOf ByteArray.empty t139 (wrap64 ((t139.length : Int) - 1))).toList = ([] : List UInt8) then (if (wrap64 ((t139.length : Int) - 1)) ≤ (t139.length : Int) then (some (t139.take ((wrap64 ((t139.length : Int) - 1)) : Int).toNat)) else (none)) else (some t139)) else (none)) else (none))) = some r := h
  clear h
  replace H := Option.bind_eq_some_iff.mp H
  obtain ⟨t139, A20, H⟩ := H
  replace H : (if 0 ≤ (wrap64 ((t139.length : Int) - 1)) then (if (wrap64 ((t139.length : Int) - 1)) < (t139.length : Int) then (if (rdOf ByteArray.empty t139 (wrap64 ((t139.length : Int) - 1))).toList = ([] : List UInt8) then (if (wrap64 ((t139.length : Int) - 1)) ≤ (t139.length : Int) then (some (t139.take ((wrap64 ((t139.length : Int) - 1)) : Int).toNat)) else (none)) else (some t139)) else (none)) else (none)) = some r := H
  have A2 := Aside0.mk A20
  clear A20
  obtain ⟨ji3, hji3⟩ : ∃ j_ : Int, (wrap64 ((t139.length : Int) - 1)) = j_ := ⟨_, rfl⟩
  replace H : (if 0 ≤ (ji3) then (if (ji3) < (t139.length : Int) then (if (rdOf ByteArray.empty t139 (ji3)).toList = ([] : List UInt8) then (if (ji3) ≤ (t139.length : Int) then (some (t139.take ((ji3) : Int).toNat)) else (none)) else (some t139)) else (none)) else (none)) = some r := by first | (rw [hji3] at H; exact H) | (simp only [hji3] at H ⊢; exact H)
  (try rw [hji3] at A2)
  have hji3w : (IntKind.i64.wrap ((t139.length : Int) - 1)) = ji3 := (i64_w _).trans hji3
  by_cases c4 : 0 ≤ (ji3)
  rotate_left
  · rw [if_neg c4] at H
    exact absurd H (by simp)
  rw [if_pos c4] at H
  have c4b0 : decide (0 ≤ (ji3)) = true := decide_eq_true c4
  clear c4
  by_cases c5 : (ji3) < (t139.length : Int)
  rotate_left
  · rw [if_neg c5] at H
    exact absurd H (by simp)
  rw [if_pos c5] at H
  have c5b0 : decide ((ji3) < (t139.length : Int)) = true := decide_eq_true c5
  clear c5
  by_cases c6 : (rdOf ByteArray.empty t139 (ji3)).toList = ([] : List UInt8)
  rotate_left
  · rw [if_neg c6] at H
    have c6b0 : ((rdOf ByteArray.empty t139 (ji3)).toList == ([] : List UInt8)) = false := beq_eq_false_iff_ne.mpr c6
    have c6b1 : ((rdOf ByteArray.empty t139 (ji3)).toList != ([] : List UInt8)) = true := bne_iff_ne.mpr c6
    obtain rfl := Option.some.inj H
    go_enter Tryd.func13, Tryd.ntmps13
    go_wp2_with (first | ((with_reducible refine gate_callee (f := 29) rfl ?_); refine goesL_ (some 5) rfl rfl Tryd.func29 (by kernel_rfl) rfl #[.string a0, .string (⟨#[10]⟩ : ByteArray)] rfl (by (try simp only [List.map_toArray, List.map_cons, List.map_nil]); first | done | rfl | (simp only [List.length_drop, List.length_take]; rfl)) ?_; (with_reducible refine (strings_Split.calls a0 (⟨#[10]⟩ : ByteArray) t139 _ ?side1 A2.out).mono ?_); (case side1 => first | exact Glob.below HG.out (HB.out) | (repeat (first | exact Glob.below HG.out HB.out | (with_reducible refine Glob.alloc ?_ _) | (with_reducible refine Glob.drewN ?_ _) | (with_reducible refine Glob.drew ?_)))); rintro e w7 ⟨v140, rfl, ho0, hb⟩; refine ⟨_, rfl, ?_⟩; have n0_ := Aside0.mk (Kd.R_lower ho0 (below_size (HB.out))); have n1_ := Aside0.mk (below_step (HB.out) hb); clear HB; have HO141 := n0_; have HB := n1_; clear n0_ n1_; (try clear hb); (try clear hb2); (try clear hk); (try clear hi); (try clear ho0); obtain ⟨Ao8, co8, eo8⟩ := Kd.R_slice HO141.out; subst eo8; have p142 : 0 ≤ ((ji3) : Int) := of_decide_eq_true (by first | (with_reducible assumption) | assumption); have q142 : (ji3) < (t139.length : Int) := of_decide_eq_true (by first | (with_reducible assumption) | assumption); obtain ⟨ad142, e142, hx142_0⟩ := Kd.at_string (Kd.R_reads' HO141.out).2.2 (ji3) p142 q142; cases e142; replace p142 := eq_true p142; replace q142 := eq_true q142))
    go_ret
    exact ⟨_, by first | rfl | (simp [errW_none, errW_some] <;> rfl) | (simp only [← hji3]; first | rfl | (simp [errW_none, errW_some] <;> rfl)) | (simp [*, errW_none, errW_some] <;> rfl), by (with_reducible repeat (first | apply Kd.R_alloc | apply Kd.R_drewN | apply Kd.R_drew)); exact HO141.out, HB.out⟩
  rw [if_pos c6] at H
  have c6b0 : ((rdOf ByteArray.empty t139 (ji3)).toList == ([] : List UInt8)) = true := beq_iff_eq.mpr c6
  have c6b1 : ((rdOf ByteArray.empty t139 (ji3)).toList != ([] : List UInt8)) = false := bne_eq_false_iff_eq.mpr c6
  clear c6
  by_cases c9 : (ji3) ≤ (t139.length : Int)
  rotate_left
  · rw [if_neg c9] at H
    exact absurd H (by simp)
  rw [if_pos c9] at H
  have c9b0 := eq_true c9
  have c9b1 : decide ((ji3) ≤ (t139.length : Int)) = true := decide_eq_true c9
  clear c9
  obtain ⟨y143, hy143⟩ : ∃ y_ : List ByteArray, y_ = (t139.take ((ji3) : Int).toNat) := ⟨_, rfl⟩
  replace H : (some y143) = some r := by first | (rw [hy143]; with_reducible exact H) | (have H2_ := (Option.bind_some _ _).symm.trans H; rw [hy143]; with_reducible exact H2_) | (have H2_ := (Option.bind_some _ _).symm.trans H; with_reducible exact H2_) | with_reducible exact H | (rw [hy143]; exact H) | exact H
  have Ny143 := Aside0.mk hy143
  clear hy143
  obtain rfl := Option.some.inj H
  go_enter Tryd.func13, Tryd.ntmps13
  go_wp2_with (first | ((with_reducible refine gate_callee (f := 29) rfl ?_); refine goesL_ (some 5) rfl rfl Tryd.func29 (by kernel_rfl) rfl #[.string a0, .string (⟨#[10]⟩ : ByteArray)] rfl (by (try simp only [List.map_toArray, List.map_cons, List.map_nil]); first | done | rfl | (simp only [List.length_drop, List.length_take]; rfl)) ?_; (with_reducible refine (strings_Split.calls a0 (⟨#[10]⟩ : ByteArray) t139 _ ?side1 A2.out).mono ?_); (case side1 => first | exact Glob.below HG.out (HB.out) | (repeat (first | exact Glob.below HG.out HB.out | (with_reducible refine Glob.alloc ?_ _) | (with_reducible refine Glob.drewN ?_ _) | (with_reducible refine Glob.drew ?_)))); rintro e w10 ⟨v140, rfl, ho0, hb⟩; refine ⟨_, rfl, ?_⟩; have n0_ := Aside0.mk (Kd.R_lower ho0 (below_size (HB.out))); have n1_ := Aside0.mk (below_step (HB.out) hb); clear HB; have HO141 := n0_; have HB := n1_; clear n0_ n1_; (try clear hb); (try clear hb2); (try clear hk); (try clear hi); (try clear ho0); obtain ⟨Ao11, co11, eo11⟩ := Kd.R_slice HO141.out; subst eo11; have p142 : 0 ≤ ((ji3) : Int) := of_decide_eq_true (by first | (with_reducible assumption) | assumption); have q142 : (ji3) < (t139.length : Int) := of_decide_eq_true (by first | (with_reducible assumption) | assumption); obtain ⟨ad142, e142, hx142_0⟩ := Kd.at_string (Kd.R_reads' HO141.out).2.2 (ji3) p142 q142; cases e142; replace p142 := eq_true p142; replace q142 := eq_true q142; have q12 : ((ji3) : Int) ≤ ((t139.length : Int) : Int) := of_decide_eq_true (by first | (with_reducible assumption) | assumption); obtain ⟨i012, hi012, _, hsz12, _⟩ := info_parts info9; have hcut12 := cut_to (P := Tryd.prog) 26 9 .i64 Tryd.underlying26 hi012 (some ad142) t139.length co11 (ji3) (of_decide_eq_true (by first | (with_reducible assumption) | assumption)) q12 (Kd.R_reads' HO141.out).2.1; have hr12 := Kd.R_take (m := ((ji3) : Int).toNat) HO141.out (by omega); have hy12 : y143.length = ((ji3) : Int).toNat := (by rw [Ny143.out, List.length_take]; omega); rw [← Ny143.out] at hr12; rw [← hy12] at hr12 hcut12; clear hy12 hi012 hsz12 HO141; have HO145 := Aside0.mk hr12; clear hr12; replace q12 := eq_true q12))
  go_ret
  exact ⟨_, by first | rfl | (simp [errW_none, errW_some] <;> rfl) | (simp only [← hji3]; first | rfl | (simp [errW_none, errW_some] <;> rfl)) | (simp [*, errW_none, errW_some] <;> rfl), by (with_reducible repeat (first | apply Kd.R_alloc | apply Kd.R_drewN | apply Kd.R_drew)); exact HO145.out, HB.out⟩

end Go.Proofs.YtgkjoodlcojkkaaDoor.QD
end
section
-- written by a program of this session (wip/tools): the functions that the laws reach, as plain Lean, and their walks
namespace Go.Proofs.YtgkjoodlcojkkaaDoor.QD
open Go.RowKit Go.Proofs.YtgkjoodlcojkkaaDoorW.PrintWords Go.Proofs.YtgkjoodlcojkkaaDoorW.PrintLast Go.Proofs.YtgkjoodlcojkkaaDoorW.PrintMore
attribute [local go_sem] max2_int min2_int max_two min_two max_three min_three max_four min_four   -- for this text's walks alone
set_option linter.unusedVariables false
set_option linter.unusedSimpArgs false

/-! ### swingbridgeref7_cut: function 30 -/
def swingbridgeref7_cut.l0 : Nat → ByteArray → Int → List ByteArray → Int → Int → Option (List ByteArray)
  | 0, _, _, _, _, _ => none
  | k + 1, x0, x1, x5, x6, x7 => if x7 < (x0.size : Int) then (if 0 ≤ x7 then (if (bt x0 x7) = x1 then (if 0 ≤ x6 then (if x6 ≤ x7 then (if x7 ≤ (x0.size : Int) then (if x5.length < 8796093022208 then (swingbridgeref7_cut.l0 k x0 x1 (x5 ++ [x0.extract (x6 : Int).toNat (x7 : Int).toNat]) (wrap64 (x7 + 1)) (wrap64 (x7 + 1))) else (none)) else (none)) else (none)) else (none)) else (swingbridgeref7_cut.l0 k x0 x1 x5 x6 (wrap64 (x7 + 1)))) else (none)) else (if x6 < (x0.size : Int) then (if 0 ≤ x6 then (if x6 ≤ (x0.size : Int) then (if x5.length < 8796093022208 then (some (x5 ++ [x0.extract (x6 : Int).toNat x0.size])) else (none)) else (none)) else (none)) else (some x5))
def swingbridgeref7_cut.f (k : Nat) (a0 : ByteArray) (a1 : Int) : Option (List ByteArray) := swingbridgeref7_cut.l0 k a0 a1 ([] : List ByteArray) 0 0
theorem swingbridgeref7_cut.mono_l : ∀ k, (∀ y0 y1 y2 y3 y4, LeO (swingbridgeref7_cut.l0 k y0 y1 y2 y3 y4) (swingbridgeref7_cut.l0 (k + 1) y0 y1 y2 y3 y4))
  | 0 => fun _ _ _ _ _ r h => by simp [swingbridgeref7_cut.l0] at h
  | k + 1 => by
    have ih0 := swingbridgeref7_cut.mono_l k
    · intro y0 y1 y2 y3 y4
      unfold swingbridgeref7_cut.l0
      repeat' first
      | (with_reducible exact ih0 _ _ _ _ _)
      | (with_reducible exact LeO.refl _)
      | (with_reducible exact LeO.none _)
      | (with_reducible refine LeO.ite ?_ ?_)
      | (with_reducible refine LeO.bind ?_ (fun _ => ?_))
      | exact ih0 _ _ _ _ _
      | exact LeO.none _
      | refine LeO.ite ?_ ?_
      | refine LeO.bind ?_ (fun _ => ?_)
theorem swingbridgeref7_cut.mono : ∀ a0 a1 k, LeO (swingbridgeref7_cut.f k a0 a1) (swingbridgeref7_cut.f (k + 1) a0 a1) := by
  intro a0 a1 k
  have ih0 := swingbridgeref7_cut.mono_l k
  unfold swingbridgeref7_cut.f
  repeat' first
      | (with_reducible exact ih0 _ _ _ _ _)
      | (with_reducible exact LeO.refl _)
      | (with_reducible exact LeO.none _)
      | (with_reducible refine LeO.ite ?_ ?_)
      | (with_reducible refine LeO.bind ?_ (fun _ => ?_))
      | exact ih0 _ _ _ _ _
      | exact LeO.none _
      | refine LeO.ite ?_ ?_
      | refine LeO.bind ?_ (fun _ => ?_)
set_option maxHeartbeats 8000000 in
set_option maxRecDepth 100000 in
theorem swingbridgeref7_cut.calls (k : Nat) (a0 : ByteArray) (a1 : Int) (r : List ByteArray) (w : World) (h : swingbridgeref7_cut.f k a0 a1 = some r) :
    Calls Tryd.prog 30 #[.string a0, .int .u8 a1] w fun e w' => ∃ v0_ : Value, e = .returned (v0_) ∧ Kd.R Kd.string 9 w' w.heap.size (fun _ => True) v0_ r ∧ Below w.heap.size w w' := by
  have HB := Aside0.mk (Below.refl w.heap.size w)
  have H : (swingbridgeref7_cut.l0 k a0 a1 ([] : List ByteArray) 0 0) = some r := h
  clear h
  have H' := Aside0.mk H
  clear H
  go_enter Tryd.func30, Tryd.ntmps30
  go_wp2
  go_loopg [5, 6, 7] k (fun kq v5 v6 v7 w' => ∃ (x5_1 : List ByteArray) (x6_1 : Int) (x7_1 : Int), v6 = .int .i64 x6_1 ∧ v7 = .int .i64 x7_1 ∧ Aside0 (swingbridgeref7_cut.l0 kq a0 a1 x5_1 x6_1 x7_1 = some r) ∧ Aside0 (kq ≤ k) ∧ Aside0 (Kd.R Kd.string 9 w' w.heap.size (fun _ => True) v5 x5_1) ∧ Aside0 (Below w.heap.size w w'))
  case atStart => exact ⟨(([] : List ByteArray)), (0), (0), (by first | rfl | (simp; done) | (simp [*]; done)), (by first | rfl | (simp; done) | (simp [*]; done)), H', ⟨Nat.le_refl _⟩, ⟨by first | exact Kd.R_nil _ _ _ _ _ | exact Kd.N_nil _ _ _ _ _ | exact Kd.V_nil _ _ _ _ _ | exact Kd.Q_nil _ _ _ _ _ | exact Kd.S_nil _ _ _ _ _⟩, ⟨HB.out⟩⟩
  clear H'
  (try clear p2)
  obtain ⟨x5_1, x6_1, x7_1, rfl, rfl, HA, HK1, HO_5, HB⟩ := hrel
  cases gk with
  | zero => exact absurd HA.out (by simp [swingbridgeref7_cut.l0])
  | succ k1 => ?_
  have H := HA.out
  clear HA
  simp only [swingbridgeref7_cut.l0] at H
  by_cases c3 : x7_1 < (a0.size : Int)
  rotate_left
  · rw [if_neg c3] at H
    have c3b0 : decide (x7_1 < (a0.size : Int)) = false := decide_eq_false c3
    clear c3
    by_cases c4 : x6_1 < (a0.size : Int)
    rotate_left
    · rw [if_neg c4] at H
      have c4b0 : decide (x6_1 < (a0.size : Int)) = false := decide_eq_false c4
      clear c4
      obtain rfl := Option.some.inj H
      go_wp2
      go_ret
      exact ⟨_, by first | rfl | (simp [errW_none, errW_some] <;> rfl) | (simp [*, errW_none, errW_some] <;> rfl), by (with_reducible repeat (first | apply Kd.R_alloc | apply Kd.R_drewN | apply Kd.R_drew)); exact HO_5.out, HB.out⟩
    rw [if_pos c4] at H
    have c4b0 : decide (x6_1 < (a0.size : Int)) = true := decide_eq_true c4
    clear c4
    by_cases c5 : 0 ≤ x6_1
    rotate_left
    · rw [if_neg c5] at H
      exact absurd H (by simp)
    rw [if_pos c5] at H
    have c5b0 := eq_true c5
    have c5b1 : decide (0 ≤ x6_1) = true := decide_eq_true c5
    clear c5
    by_cases c6 : x6_1 ≤ (a0.size : Int)
    rotate_left
    · rw [if_neg c6] at H
      exact absurd H (by simp)
    rw [if_pos c6] at H
    have c6b0 := eq_true c6
    have c6b1 : decide (x6_1 ≤ (a0.size : Int)) = true := decide_eq_true c6
    clear c6
    by_cases c7 : x5_1.length < 8796093022208
    rotate_left
    · rw [if_neg c7] at H
      exact absurd H (by simp)
    rw [if_pos c7] at H
    have LMc7 := Aside0.mk c7
    clear c7
    obtain ⟨y182, hy182⟩ : ∃ y_ : List ByteArray, y_ = (x5_1 ++ [a0.extract (x6_1 : Int).toNat a0.size]) := ⟨_, rfl⟩
    replace H : (some y182) = some r := by first | (rw [hy182]; with_reducible exact H) | (have H2_ := (Option.bind_some _ _).symm.trans H; rw [hy182]; with_reducible exact H2_) | (have H2_ := (Option.bind_some _ _).symm.trans H; with_reducible exact H2_) | with_reducible exact H | (rw [hy182]; exact H) | exact H
    have Ny182 := Aside0.mk hy182
    clear hy182
    obtain rfl := Option.some.inj H
    go_wp2_with (first | ((with_reducible refine gate_builtin (b := .append) (xs := #[.tmp 32, .tmp 36]) rfl ?_); at_builtin; refine Kd.R_append Kd.string (w0 := w) w.heap.size rfl (.tmp 32) (.tmp 36) 26 9 (.string ⟨#[]⟩) 16 rfl Tryd.underlying26 info9 rfl (by decide) (by omega) u5 x5_1 (a0.extract (x6_1 : Int).toNat a0.size) [.string (a0.extract (x6_1 : Int).toNat a0.size)] (fun _ => True) (fun _ => False) rfl rfl ?aP (fun _ hk => hk.elim) ?aF ?aO ?aB ?aS ?aL ?_; (case aP => exact rfl); (case aB => exact (HB.out)); (case aF => exact (fun _ _ => trivial)); (case aO => exact (by (with_reducible repeat (first | apply Kd.R_alloc | apply Kd.R_drewN | apply Kd.R_drew)); exact HO_5.out)); (case aS => exact (below_size (HB.out))); (case aL => have := LMc7.out; omega); intro v183 w8 ho hb hg hat; rw [← Ny182.out] at ho; have n0_ := Aside0.mk (hb); have n1_ := Aside0.mk (ho); clear HB; clear HO_5; have HB := n0_; have HO184 := n1_; clear n0_ n1_; clear ho hb hg hat))
    go_ret
    exact ⟨_, by first | rfl | (simp [errW_none, errW_some] <;> rfl) | (simp [*, errW_none, errW_some] <;> rfl), by (with_reducible repeat (first | apply Kd.R_alloc | apply Kd.R_drewN | apply Kd.R_drew)); exact HO184.out, HB.out⟩
  rw [if_pos c3] at H
  have c3b0 : decide (x7_1 < (a0.size : Int)) = true := decide_eq_true c3
  clear c3
  by_cases c9 : 0 ≤ x7_1
  rotate_left
  · rw [if_neg c9] at H
    exact absurd H (by simp)
  rw [if_pos c9] at H
  have c9b0 : decide (0 ≤ x7_1) = true := decide_eq_true c9
  clear c9
  by_cases c11 : (bt a0 x7_1) = a1
  rotate_left
  · rw [if_neg c11] at H
    have c11b0 : ((bt a0 x7_1) == a1) = false := beq_eq_false_iff_ne.mpr c11
    have c11b1 : ((bt a0 x7_1) != a1) = true := bne_iff_ne.mpr c11
    have H' := Aside0.mk H
    clear H
    have p10 : 0 ≤ (x7_1 : Int) := of_decide_eq_true (by first | (with_reducible assumption) | assumption)
    have q10 : x7_1 < (a0.size : Int) := of_decide_eq_true (by first | (with_reducible assumption) | assumption)
    have hx10 := bt_at a0 x7_1
    replace p10 := eq_true p10
    replace q10 := eq_true q10
    go_wp2
    go_roundg k1
    case measure => have := HK1.out; omega
    case rel => exact ⟨(x5_1), (x6_1), (wrap64 (x7_1 + 1)), (by first | rfl | (simp; done) | (simp [*]; done)), (by first | rfl | (simp; done) | (simp [*]; done)), H', ⟨by have := HK1.out; omega⟩, ⟨by (with_reducible repeat (first | apply Kd.R_alloc | apply Kd.R_drewN | apply Kd.R_drew)); exact HO_5.out⟩, ⟨HB.out⟩⟩
  rw [if_pos c11] at H
  have c11b0 : ((bt a0 x7_1) == a1) = true := beq_iff_eq.mpr c11
  have c11b1 : ((bt a0 x7_1) != a1) = false := bne_eq_false_iff_eq.mpr c11
  clear c11
  by_cases c12 : 0 ≤ x6_1
  rotate_left
  · rw [if_neg c12] at H
    exact absurd H (by simp)
  rw [if_pos c12] at H
  have c12b0 := eq_true c12
  have c12b1 : decide (0 ≤ x6_1) = true := decide_eq_true c12
  clear c12
  by_cases c13 : x6_1 ≤ x7_1
  rotate_left
  · rw [if_neg c13] at H
    exact absurd H (by simp)
  rw [if_pos c13] at H
  have c13b0 := eq_true c13
  have c13b1 : decide (x6_1 ≤ x7_1) = true := decide_eq_true c13
  clear c13
  by_cases c14 : x7_1 ≤ (a0.size : Int)
  rotate_left
  · rw [if_neg c14] at H
    exact absurd H (by simp)
  rw [if_pos c14] at H
  have c14b0 := eq_true c14
  have c14b1 : decide (x7_1 ≤ (a0.size : Int)) = true := decide_eq_true c14
  clear c14
  by_cases c15 : x5_1.length < 8796093022208
  rotate_left
  · rw [if_neg c15] at H
    exact absurd H (by simp)
  rw [if_pos c15] at H
  have LMc15 := Aside0.mk c15
  clear c15
  obtain ⟨y179, hy179⟩ : ∃ y_ : List ByteArray, y_ = (x5_1 ++ [a0.extract (x6_1 : Int).toNat (x7_1 : Int).toNat]) := ⟨_, rfl⟩
  replace H : (swingbridgeref7_cut.l0 k1 a0 a1 y179 (wrap64 (x7_1 + 1)) (wrap64 (x7_1 + 1))) = some r := by first | (rw [hy179]; with_reducible exact H) | (have H2_ := (Option.bind_some _ _).symm.trans H; rw [hy179]; with_reducible exact H2_) | (have H2_ := (Option.bind_some _ _).symm.trans H; with_reducible exact H2_) | with_reducible exact H | (rw [hy179]; exact H) | exact H
  have Ny179 := Aside0.mk hy179
  clear hy179
  have H' := Aside0.mk H
  clear H
  have p10 : 0 ≤ (x7_1 : Int) := of_decide_eq_true (by first | (with_reducible assumption) | assumption)
  have q10 : x7_1 < (a0.size : Int) := of_decide_eq_true (by first | (with_reducible assumption) | assumption)
  have hx10 := bt_at a0 x7_1
  replace p10 := eq_true p10
  replace q10 := eq_true q10
  go_wp2_with (first | ((with_reducible refine gate_builtin (b := .append) (xs := #[.tmp 19, .tmp 24]) rfl ?_); at_builtin; refine Kd.R_append Kd.string (w0 := w) w.heap.size rfl (.tmp 19) (.tmp 24) 26 9 (.string ⟨#[]⟩) 16 rfl Tryd.underlying26 info9 rfl (by decide) (by omega) u5 x5_1 (a0.extract (x6_1 : Int).toNat (x7_1 : Int).toNat) [.string (a0.extract (x6_1 : Int).toNat (x7_1 : Int).toNat)] (fun _ => True) (fun _ => False) rfl rfl ?aP (fun _ hk => hk.elim) ?aF ?aO ?aB ?aS ?aL ?_; (case aP => exact rfl); (case aB => exact (HB.out)); (case aF => exact (fun _ _ => trivial)); (case aO => exact (by (with_reducible repeat (first | apply Kd.R_alloc | apply Kd.R_drewN | apply Kd.R_drew)); exact HO_5.out)); (case aS => exact (below_size (HB.out))); (case aL => have := LMc15.out; omega); intro v180 w16 ho hb hg hat; rw [← Ny179.out] at ho; have n0_ := Aside0.mk (hb); have n1_ := Aside0.mk (ho); clear HB; clear HO_5; have HB := n0_; have HO181 := n1_; clear n0_ n1_; clear ho hb hg hat))
  go_roundg k1
  case measure => have := HK1.out; omega
  case rel => exact ⟨(y179), (wrap64 (x7_1 + 1)), (wrap64 (x7_1 + 1)), (by first | rfl | (simp; done) | (simp [*]; done)), (by first | rfl | (simp; done) | (simp [*]; done)), H', ⟨by have := HK1.out; omega⟩, ⟨by (with_reducible repeat (first | apply Kd.R_alloc | apply Kd.R_drewN | apply Kd.R_drew)); exact HO181.out⟩, ⟨HB.out⟩⟩

end Go.Proofs.YtgkjoodlcojkkaaDoor.QD
end
section
/- Texts as lists of bytes: cutting at a byte (what strings.Split does at one byte, what the reference's cut does), as plain functions, and that the printed functions compute them. Conditions: lengths within the bounds that each statement names. -/
namespace Go.Proofs.YtgkjoodlcojkkaaDoor.Y
open Go.RowKit Go.Proofs.YtgkjoodlcojkkaaDoorW.PrintWords Go.Proofs.YtgkjoodlcojkkaaDoorW.PrintLast Go.Proofs.YtgkjoodlcojkkaaDoorW.PrintMore Go.Proofs.YtgkjoodlcojkkaaDoor.QD
set_option linter.unusedVariables false
set_option linter.unusedSimpArgs false

/-! ### bytes -/
abbrev Bs := List UInt8
def B (l : Bs) : ByteArray := ⟨l.toArray⟩
theorem B_data (s : ByteArray) : B s.data.toList = s := by cases s; simp [B]
theorem data_B (l : Bs) : (B l).data.toList = l := by simp [B]
theorem toList_B (l : Bs) : (B l).toList = l := by rw [ByteArray.toList_eq, data_B]
theorem size_B (l : Bs) : (B l).size = l.length := by simp [B, ByteArray.size]
theorem append_B (a b : Bs) : B a ++ B b = B (a ++ b) := by
  apply Go.WideShapes.bytes_inj
  rw [data_B]
  simp [B]
theorem B_inj {a b : Bs} : B a = B b ↔ a = b := ⟨fun h => by rw [← data_B a, h, data_B], fun h => by rw [h]⟩
theorem extract_B (l : Bs) (a b : Nat) : (B l).extract a b = B ((l.take b).drop a) := by
  apply Go.WideShapes.bytes_inj
  rw [data_B, Lib.extract_data, data_B]
  rw [List.drop_take]
theorem bt_B (l : Bs) (i : Nat) : bt (B l) (i : Int) = ((l.getD i 0).toNat : Int) := by
  unfold bt
  by_cases h : i < l.length
  · rw [dif_pos (by rw [size_B]; simpa using h)]
    have : (B l)[(i : Int).toNat]'(by rw [size_B]; simpa using h) = l[i] := by
      show (B l).data[(i : Int).toNat] = _
      simp [B]
    rw [this]
    simp [h]
  · rw [dif_neg (by rw [size_B]; simpa using h)]
    simp [h]
theorem rdOf_B (xs : List Bs) (i : Nat) : rdOf ByteArray.empty (xs.map B) (i : Int) = B (xs.getD i []) := by
  unfold rdOf
  simp only [Int.toNat_natCast, List.getD_eq_getElem?_getD, List.getElem?_map]
  cases xs[i]? <;> simp [B] <;> rfl
theorem w64 {n : Int} (h : -9223372036854775808 ≤ n ∧ n ≤ 9223372036854775807) : wrap64 n = n := by unfold wrap64; omega
theorem w64s (n : Nat) (h : n < 9223372036854775807) : wrap64 ((n : Int) + 1) = ((n + 1 : Nat) : Int) := by rw [w64 (by omega)]; omega

/-! ### cut at a byte -/
def splitL (c : UInt8) : Bs → List Bs
  | [] => [[]]
  | x :: xs => if x = c then [] :: splitL c xs else match splitL c xs with
    | [] => [[x]]
    | p :: ps => (x :: p) :: ps
theorem splitL_ne (c : UInt8) : ∀ l, splitL c l ≠ []
  | [] => by simp [splitL]
  | x :: xs => by
    unfold splitL
    split
    · simp
    · split <;> simp
theorem splitL_len (c : UInt8) : ∀ l, (splitL c l).length ≤ l.length + 1
  | [] => by simp [splitL]
  | x :: xs => by
    have := splitL_len c xs
    unfold splitL
    split
    · simp; omega
    · split
      · simp
      · rename_i h; rw [h] at this; simp at this ⊢; omega
theorem splitL_no (c : UInt8) : ∀ {l : Bs}, c ∉ l → splitL c l = [l]
  | [], _ => rfl
  | x :: xs, h => by
    have h1 : x ≠ c := fun e => h (by simp [e])
    have h2 : c ∉ xs := fun e => h (by simp [e])
    unfold splitL
    rw [if_neg h1, splitL_no c h2]
theorem splitL_hit (c : UInt8) : ∀ {pre : Bs} (post : Bs), c ∉ pre → splitL c (pre ++ c :: post) = pre :: splitL c post
  | [], post, _ => by simp [splitL]
  | x :: xs, post, h => by
    have h1 : x ≠ c := fun e => h (by simp [e])
    have h2 : c ∉ xs := fun e => h (by simp [e])
    rw [List.cons_append]
    conv => lhs; unfold splitL
    rw [if_neg h1, splitL_hit c post h2]

theorem indexByte_split {l : Bs} {c : UInt8} {o : Nat} (h : Lib.indexByte l c = o) : ∃ post, l = l.take o ++ c :: post ∧ c ∉ l.take o ∧ o < l.length ∧ post = l.drop (o + 1) := by
  obtain ⟨h1, h2⟩ := Lib.indexByte_some h
  obtain ⟨hlt, he⟩ := List.getElem?_eq_some_iff.1 h1
  refine ⟨l.drop (o + 1), ?_, ?_, hlt, rfl⟩
  · conv => lhs; rw [← List.take_append_drop o l]
    rw [List.drop_eq_getElem_cons hlt, he]
  · intro hm
    obtain ⟨k, hk⟩ := List.getElem?_of_mem hm
    rw [List.getElem?_take] at hk
    split at hk
    · exact h2 k (by assumption) hk
    · cases hk
theorem split_eq (c : UInt8) : ∀ (n : Nat) (l : Bs), l.length ≤ n → Lib.splitB (B [c]) 0 (Lib.countB (B l) (B [c])) (B l) = (splitL c l).map B
  | n, l, hn => by
    have hone : ∀ l : Bs, Lib.indexB (B l) (B [c]) = Lib.indexByte l c := fun l => by unfold Lib.indexB; rw [data_B, data_B, Lib.index_one]
    rcases Lib.indexB_cases (B l) (B [c]) with h | ⟨o, h, hle⟩
    · rw [Lib.splitB_miss _ _ _ _ h, splitL_no c]
      · rfl
      · rw [hone] at h
        intro hm
        obtain ⟨k, hk⟩ := List.getElem?_of_mem hm
        exact Lib.indexByte_none h k hk
    · have h' := h
      rw [hone] at h
      obtain ⟨post, hl, hnot, hlt, hpost⟩ := indexByte_split h
      rw [Lib.countB_hit _ _ o (by rw [size_B]; simp) h', Nat.add_comm, Lib.splitB_hit _ _ _ _ o h']
      have e1 : (B l).extract 0 (o + 0) = B (l.take o) := by rw [extract_B]; simp
      have e2 : (B l).extract (o + (B [c]).size) (B l).size = B post := by
        rw [extract_B, size_B, size_B, hpost]; simp
      rw [e1, e2]
      cases n with
      | zero => omega
      | succ n =>
        rw [split_eq c n post (by rw [hpost, List.length_drop]; omega)]
        conv => rhs; rw [hl, splitL_hit c post hnot]
        rfl
theorem Split_eq (c : UInt8) (l : Bs) (h : l.length < 4294967281) : strings_Split.f (B l) (B [c]) = some ((splitL c l).map B) := by
  unfold strings_Split.f
  rw [if_pos ⟨by rw [size_B]; exact h, by rw [size_B]; simp⟩, split_eq c _ l (Nat.le_refl _)]

/-- Without a last piece that is empty. -/
def dropLastE (ps : List Bs) : List Bs := if ps.getLast? = some [] then ps.dropLast else ps
def cutL (c : UInt8) (l : Bs) : List Bs := dropLastE (splitL c l)

theorem words_Lines_eq (l : Bs) (h : l.length < 4294967281) : words_Lines.f (B l) = some ((cutL 10 l).map B) := by
  unfold words_Lines.f
  rw [show (⟨#[10]⟩ : ByteArray) = B [10] from rfl, Split_eq 10 l h, Option.bind_some]
  have hne := splitL_ne 10 l
  have hle : (splitL 10 l).length ≤ l.length + 1 := splitL_len 10 l
  unfold cutL dropLastE
  generalize splitL 10 l = ps at hne hle ⊢
  have hlen : 0 < ps.length := List.length_pos_iff.2 hne
  have e1 : wrap64 (((ps.map B).length : Int) - 1) = ((ps.length - 1 : Nat) : Int) := by rw [List.length_map, w64 (by omega)]; omega
  rw [e1, rdOf_B, toList_B, List.length_map, if_pos (by omega), if_pos (by omega), Int.toNat_natCast]
  have e2 : ps.getD (ps.length - 1) [] = ps.getLast hne := by
    rw [List.getLast_eq_getElem, List.getD_eq_getElem?_getD, List.getElem?_eq_getElem (by omega)]; rfl
  rw [e2, List.getLast?_eq_some_getLast hne]
  by_cases c : ps.getLast hne = []
  · rw [if_pos c, if_pos (by omega), if_pos (by rw [c]), List.dropLast_eq_take, List.map_take]
  · rw [if_neg c, if_neg (fun e => c (Option.some.inj e))]

/-! ### the reference's cut -/
def cutGo (c : UInt8) : Bs → Bs → List Bs
  | cur, [] => if cur = [] then [] else [cur]
  | cur, x :: xs => if x = c then cur :: cutGo c [] xs else cutGo c (cur ++ [x]) xs
theorem cutGo_eq (c : UInt8) : ∀ (l cur : Bs), cutGo c cur l = dropLastE (match splitL c l with | [] => [cur] | p :: ps => (cur ++ p) :: ps)
  | [], cur => by
    unfold cutGo splitL dropLastE
    by_cases h : cur = [] <;> simp [h]
  | x :: xs, cur => by
    unfold cutGo splitL
    by_cases h : x = c
    · rw [if_pos h, if_pos h, cutGo_eq c xs []]
      have hne := splitL_ne c xs
      generalize splitL c xs = ps at hne ⊢
      cases ps with
      | nil => exact absurd rfl hne
      | cons p ps => simp only [List.nil_append, List.append_nil]; unfold dropLastE; simp only [List.getLast?_cons_cons]; split <;> rfl
    · rw [if_neg h, if_neg h, cutGo_eq c xs (cur ++ [x])]
      have hne := splitL_ne c xs
      generalize splitL c xs = ps at hne ⊢
      cases ps with
      | nil => exact absurd rfl hne
      | cons p ps => simp only [List.append_assoc, List.singleton_append]
theorem cutL_eq (c : UInt8) (l : Bs) : cutGo c [] l = cutL c l := by
  rw [cutGo_eq]
  unfold cutL
  have hne := splitL_ne c l
  generalize splitL c l = ps at hne ⊢
  cases ps with
  | nil => exact absurd rfl hne
  | cons p ps => rfl
theorem cut_loop (c : Nat) (hc : c < 256) (l : Bs) (hl : l.length < 8796093022208) : ∀ (n : Nat) (out : List Bs) (a i k : Nat), i + n = l.length → a ≤ i → n < k → out.length ≤ i →
    swingbridgeref7_cut.l0 k (B l) (c : Int) (out.map B) (a : Int) (i : Int) = some ((out ++ cutGo (UInt8.ofNat c) ((l.take i).drop a) (l.drop i)).map B)
  | n, out, a, i, 0, hn, ha, hk, ho => by omega
  | 0, out, a, i, k + 1, hn, ha, hk, ho => by
    unfold swingbridgeref7_cut.l0
    rw [size_B, if_neg (by omega)]
    have hi : i = l.length := by omega
    subst hi
    rw [List.drop_length, List.take_length]
    unfold cutGo
    by_cases h : a < l.length
    · rw [if_pos (by omega), if_pos (by omega), if_pos (by omega), List.length_map, if_pos (by omega), if_neg (by intro e; have := congrArg List.length e; simp at this; omega), Int.toNat_natCast, extract_B, List.take_length]
      simp
    · rw [if_neg (by omega), if_pos (by have : a = l.length := by omega
                                        simp [this])]
      simp
  | n + 1, out, a, i, k + 1, hn, ha, hk, ho => by
    unfold swingbridgeref7_cut.l0
    have hi : i < l.length := by omega
    rw [size_B, if_pos (by omega), if_pos (by omega), bt_B, w64s i (by omega), List.drop_eq_getElem_cons hi]
    have e0 : l.getD i 0 = l[i] := by simp [hi]
    rw [e0]
    conv => rhs; unfold cutGo
    have hiff : ((l[i].toNat : Int) = (c : Int)) ↔ l[i] = UInt8.ofNat c := by
      constructor
      · intro h
        apply UInt8.toNat_inj.1
        rw [UInt8.toNat_ofNat_of_lt' hc]; omega
      · intro h; rw [h, UInt8.toNat_ofNat_of_lt' hc]
    by_cases h : l[i] = UInt8.ofNat c
    · rw [if_pos (hiff.2 h), if_pos h, if_pos (by omega), if_pos (by omega), if_pos (by omega), List.length_map, if_pos (by omega), Int.toNat_natCast, Int.toNat_natCast, extract_B]
      have := cut_loop c hc l hl n (out ++ [(l.take i).drop a]) (i + 1) (i + 1) k (by omega) (Nat.le_refl _) (by omega) (by simp; omega)
      rw [List.map_append] at this
      rw [show List.map B [List.drop a (List.take i l)] = [B ((l.take i).drop a)] from rfl] at this
      rw [this]
      have e3 : List.drop (i + 1) (List.take (i + 1) l) = [] := by simp
      rw [e3, List.append_assoc]
      rfl
    · rw [if_neg (fun e => h (hiff.1 e)), if_neg h]
      have := cut_loop c hc l hl n out a (i + 1) k (by omega) (by omega) (by omega) (by omega)
      rw [this]
      have e3 : List.drop a (List.take (i + 1) l) = List.drop a (List.take i l) ++ [l[i]] := by
        rw [List.take_succ_eq_append_getElem hi, List.drop_append_of_le_length (by simp; omega)]
      rw [e3]
theorem ref_cut_eq (c : Nat) (hc : c < 256) (l : Bs) (hl : l.length < 8796093022208) (k : Nat) (hk : l.length < k) : swingbridgeref7_cut.f k (B l) (c : Int) = some ((cutL (UInt8.ofNat c) l).map B) := by
  unfold swingbridgeref7_cut.f
  have := cut_loop c hc l hl l.length [] 0 0 k (by omega) (Nat.le_refl _) hk (Nat.zero_le _)
  simpa [cutL_eq] using this

end Go.Proofs.YtgkjoodlcojkkaaDoor.Y
end
section
-- written by a program of this session (wip/tools): the functions that the laws reach, as plain Lean, and their walks
namespace Go.Proofs.YtgkjoodlcojkkaaDoor.QD
open Go.RowKit Go.Proofs.YtgkjoodlcojkkaaDoorW.PrintWords Go.Proofs.YtgkjoodlcojkkaaDoorW.PrintLast Go.Proofs.YtgkjoodlcojkkaaDoorW.PrintMore
attribute [local go_sem] max2_int min2_int max_two min_two max_three min_three max_four min_four   -- for this text's walks alone
set_option linter.unusedVariables false
set_option linter.unusedSimpArgs false

/-! ### words_Words: function 15 -/
def words_Words.l0 : Nat → List ByteArray → List ByteArray → Int → Int → Option (List ByteArray)
  | 0, _, _, _, _ => none
  | k + 1, x3, x13, x14, x15 => if x15 < x14 then (if 0 ≤ x15 then (if x15 < (x13.length : Int) then (if (rdOf ByteArray.empty x13 x15).toList = ([] : List UInt8) then (words_Words.l0 k x3 x13 x14 (wrap64 (x15 + 1))) else (if x3.length < 8796093022208 then (words_Words.l0 k (x3 ++ [rdOf ByteArray.empty x13 x15]) x13 x14 (wrap64 (x15 + 1))) else (none))) else (none)) else (none)) else (some x3)
def words_Words.f (k : Nat) (a0 : ByteArray) : Option (List ByteArray) := (strings_Cut.f a0 (⟨#[35]⟩ : ByteArray)).bind fun bt146 => ((strings_Split.f bt146.1 (⟨#[32]⟩ : ByteArray)).bind fun t149 => (words_Words.l0 k ([] : List ByteArray) t149 (t149.length : Int) 0))
theorem words_Words.mono_l : ∀ k, (∀ y0 y1 y2 y3, LeO (words_Words.l0 k y0 y1 y2 y3) (words_Words.l0 (k + 1) y0 y1 y2 y3))
  | 0 => fun _ _ _ _ r h => by simp [words_Words.l0] at h
  | k + 1 => by
    have ih0 := words_Words.mono_l k
    · intro y0 y1 y2 y3
      unfold words_Words.l0
      repeat' first
      | (with_reducible exact ih0 _ _ _ _)
      | (with_reducible exact LeO.refl _)
      | (with_reducible exact LeO.none _)
      | (with_reducible refine LeO.ite ?_ ?_)
      | (with_reducible refine LeO.bind ?_ (fun _ => ?_))
      | exact ih0 _ _ _ _
      | exact LeO.none _
      | refine LeO.ite ?_ ?_
      | refine LeO.bind ?_ (fun _ => ?_)
theorem words_Words.mono : ∀ a0 k, LeO (words_Words.f k a0) (words_Words.f (k + 1) a0) := by
  intro a0 k
  have ih0 := words_Words.mono_l k
  unfold words_Words.f
  repeat' first
      | (with_reducible exact ih0 _ _ _ _)
      | (with_reducible exact LeO.refl _)
      | (with_reducible exact LeO.none _)
      | (with_reducible refine LeO.ite ?_ ?_)
      | (with_reducible refine LeO.bind ?_ (fun _ => ?_))
      | exact ih0 _ _ _ _
      | exact LeO.none _
      | refine LeO.ite ?_ ?_
      | refine LeO.bind ?_ (fun _ => ?_)
set_option maxHeartbeats 8000000 in
set_option maxRecDepth 100000 in
theorem words_Words.calls (k : Nat) (a0 : ByteArray) (r : List ByteArray) (w : World) (hG : Glob w) (h : words_Words.f k a0 = some r) :
    Calls Tryd.prog 15 #[.string a0] w fun e w' => ∃ v0_ : Value, e = .returned (v0_) ∧ Kd.R Kd.string 9 w' w.heap.size (fun _ => True) v0_ r ∧ Below w.heap.size w w' := by
  have HG := Aside0.mk hG
  clear hG
  have HB := Aside0.mk (Below.refl w.heap.size w)
  have H : ((strings_Cut.f a0 (⟨#[35]⟩ : ByteArray)).bind fun bt146 => ((strings_Split.f bt146.1 (⟨#[32]⟩ : ByteArray)).bind fun t149 => (words_Words.l0 k ([] : List ByteArray) t149 (t149.length : Int) 0))) = some r := h
  clear h
  replace H := Option.bind_eq_some_iff.mp H
  obtain ⟨⟨t146, t147, t148⟩, A20, H⟩ := H
  replace H : ((strings_Split.f t146 (⟨#[32]⟩ : ByteArray)).bind fun t149 => (words_Words.l0 k ([] : List ByteArray) t149 (t149.length : Int) 0)) = some r := H
  have A2 := Aside0.mk A20
  clear A20
  replace H := Option.bind_eq_some_iff.mp H
  obtain ⟨t149, A30, H⟩ := H
  replace H : (words_Words.l0 k ([] : List ByteArray) t149 (t149.length : Int) 0) = some r := H
  have A3 := Aside0.mk A30
  clear A30
  have H' := Aside0.mk H
  clear H
  go_enter Tryd.func15, Tryd.ntmps15
  go_wp2_with (first | ((with_reducible refine gate_callee (f := 31) rfl ?_); refine goesL_ (some 8) rfl rfl Tryd.func31 (by kernel_rfl) rfl #[.string a0, .string (⟨#[35]⟩ : ByteArray)] rfl (by (try simp only [List.map_toArray, List.map_cons, List.map_nil]); first | done | rfl | (simp only [List.length_drop, List.length_take]; rfl)) ?_; (with_reducible refine (strings_Cut.calls a0 (⟨#[35]⟩ : ByteArray) t146 t147 t148 _ ?side1 A2.out).mono ?_); (case side1 => first | exact Glob.below HG.out (HB.out) | (repeat (first | exact Glob.below HG.out HB.out | (with_reducible refine Glob.alloc ?_ _) | (with_reducible refine Glob.drewN ?_ _) | (with_reducible refine Glob.drew ?_)))); rintro e w4 ⟨rfl, hb⟩; refine ⟨_, rfl, ?_⟩; have n0_ := Aside0.mk (below_step (HB.out) hb); clear HB; have HB := n0_; clear n0_; (try clear hb); (try clear hb2); (try clear hk); (try clear hi)) | ((with_reducible refine gate_callee (f := 29) rfl ?_); refine goesL_ (some 13) rfl rfl Tryd.func29 (by kernel_rfl) rfl #[.string t146, .string (⟨#[32]⟩ : ByteArray)] rfl (by (try simp only [List.map_toArray, List.map_cons, List.map_nil]); first | done | rfl | (simp only [List.length_drop, List.length_take]; rfl)) ?_; (with_reducible refine (strings_Split.calls t146 (⟨#[32]⟩ : ByteArray) t149 _ ?side1 A3.out).mono ?_); (case side1 => first | exact Glob.below HG.out (HB.out) | (repeat (first | exact Glob.below HG.out HB.out | (with_reducible refine Glob.alloc ?_ _) | (with_reducible refine Glob.drewN ?_ _) | (with_reducible refine Glob.drew ?_)))); rintro e w5 ⟨v150, rfl, ho0, hb⟩; refine ⟨_, rfl, ?_⟩; have n0_ := Aside0.mk (Kd.R_lower ho0 (below_size (HB.out))); have n1_ := Aside0.mk (below_step (HB.out) hb); clear HB; have HO151 := n0_; have HB := n1_; clear n0_ n1_; (try clear hb); (try clear hb2); (try clear hk); (try clear hi); (try clear ho0); obtain ⟨Ao6, co6, eo6⟩ := Kd.R_slice HO151.out; subst eo6))
  repeat (go_step3; try go_wp2_with (first | ((with_reducible refine gate_callee (f := 31) rfl ?_); refine goesL_ (some 8) rfl rfl Tryd.func31 (by kernel_rfl) rfl #[.string a0, .string (⟨#[35]⟩ : ByteArray)] rfl (by (try simp only [List.map_toArray, List.map_cons, List.map_nil]); first | done | rfl | (simp only [List.length_drop, List.length_take]; rfl)) ?_; (with_reducible refine (strings_Cut.calls a0 (⟨#[35]⟩ : ByteArray) t146 t147 t148 _ ?side1 A2.out).mono ?_); (case side1 => first | exact Glob.below HG.out (HB.out) | (repeat (first | exact Glob.below HG.out HB.out | (with_reducible refine Glob.alloc ?_ _) | (with_reducible refine Glob.drewN ?_ _) | (with_reducible refine Glob.drew ?_)))); rintro e w4 ⟨rfl, hb⟩; refine ⟨_, rfl, ?_⟩; have n0_ := Aside0.mk (below_step (HB.out) hb); clear HB; have HB := n0_; clear n0_; (try clear hb); (try clear hb2); (try clear hk); (try clear hi)) | ((with_reducible refine gate_callee (f := 29) rfl ?_); refine goesL_ (some 13) rfl rfl Tryd.func29 (by kernel_rfl) rfl #[.string t146, .string (⟨#[32]⟩ : ByteArray)] rfl (by (try simp only [List.map_toArray, List.map_cons, List.map_nil]); first | done | rfl | (simp only [List.length_drop, List.length_take]; rfl)) ?_; (with_reducible refine (strings_Split.calls t146 (⟨#[32]⟩ : ByteArray) t149 _ ?side1 A3.out).mono ?_); (case side1 => first | exact Glob.below HG.out (HB.out) | (repeat (first | exact Glob.below HG.out HB.out | (with_reducible refine Glob.alloc ?_ _) | (with_reducible refine Glob.drewN ?_ _) | (with_reducible refine Glob.drew ?_)))); rintro e w5 ⟨v150, rfl, ho0, hb⟩; refine ⟨_, rfl, ?_⟩; have n0_ := Aside0.mk (Kd.R_lower ho0 (below_size (HB.out))); have n1_ := Aside0.mk (below_step (HB.out) hb); clear HB; have HO151 := n0_; have HB := n1_; clear n0_ n1_; (try clear hb); (try clear hb2); (try clear hk); (try clear hi); (try clear ho0); obtain ⟨Ao6, co6, eo6⟩ := Kd.R_slice HO151.out; subst eo6)))
  go_loopg [3, 15] k (fun kq v3 v15 w' => ∃ (x3_1 : List ByteArray) (x15_1 : Int), v15 = .int .i64 x15_1 ∧ Aside0 (words_Words.l0 kq x3_1 t149 (t149.length : Int) x15_1 = some r) ∧ Aside0 (kq ≤ k) ∧ Aside0 (Kd.R Kd.string 9 w' w.heap.size (fun k_ => some k_ ≠ ((.slice Ao6 t149.length co6) : Value).ownBlock) v3 x3_1) ∧ Aside0 (Kd.R Kd.string 9 w' w.heap.size (fun k_ => some k_ ≠ (v3 : Value).ownBlock) (.slice Ao6 t149.length co6) t149) ∧ Aside0 (Below w.heap.size w w'))
  case atStart => exact ⟨(([] : List ByteArray)), (0), (by first | rfl | (simp; done) | (simp [*]; done)), H', ⟨Nat.le_refl _⟩, ⟨by first | exact Kd.R_nil _ _ _ _ _ | exact Kd.N_nil _ _ _ _ _ | exact Kd.V_nil _ _ _ _ _ | exact Kd.Q_nil _ _ _ _ _ | exact Kd.S_nil _ _ _ _ _⟩, ⟨by (with_reducible repeat (first | apply Kd.R_alloc | apply Kd.R_drewN | apply Kd.R_drew)); exact Kd.R_mono HO151.out (fun _ hk => (by simp [Value.ownBlock]))⟩, ⟨HB.out⟩⟩
  clear H'
  (try clear c1); (try clear c2); (try clear p2); (try clear c3); (try clear p3)
  obtain ⟨x3_1, x15_1, rfl, HA, HK1, HO_3, HO_13, HB⟩ := hrel
  cases gk with
  | zero => exact absurd HA.out (by simp [words_Words.l0])
  | succ k1 => ?_
  have H := HA.out
  clear HA
  simp only [words_Words.l0] at H
  by_cases c7 : x15_1 < (t149.length : Int)
  rotate_left
  · rw [if_neg c7] at H
    have c7b0 : decide (x15_1 < (t149.length : Int)) = false := decide_eq_false c7
    clear c7
    obtain rfl := Option.some.inj H
    go_wp2
    repeat (go_step3; try go_wp2)
    go_ret
    exact ⟨_, by first | rfl | (simp [errW_none, errW_some] <;> rfl) | (simp [*, errW_none, errW_some] <;> rfl), by (with_reducible repeat (first | apply Kd.R_alloc | apply Kd.R_drewN | apply Kd.R_drew)); exact Kd.R_mono HO_3.out (fun _ hk => trivial), HB.out⟩
  rw [if_pos c7] at H
  have c7b0 : decide (x15_1 < (t149.length : Int)) = true := decide_eq_true c7
  clear c7
  by_cases c8 : 0 ≤ x15_1
  rotate_left
  · rw [if_neg c8] at H
    exact absurd H (by simp)
  rw [if_pos c8] at H
  have c8b0 : decide (0 ≤ x15_1) = true := decide_eq_true c8
  clear c8
  by_cases c9 : x15_1 < (t149.length : Int)
  rotate_left
  · rw [if_neg c9] at H
    exact absurd H (by simp)
  rw [if_pos c9] at H
  have c9b0 : decide (x15_1 < (t149.length : Int)) = true := decide_eq_true c9
  clear c9
  by_cases c10 : (rdOf ByteArray.empty t149 x15_1).toList = ([] : List UInt8)
  · rw [if_pos c10] at H
    have c10b0 : ((rdOf ByteArray.empty t149 x15_1).toList == ([] : List UInt8)) = true := beq_iff_eq.mpr c10
    have c10b1 : ((rdOf ByteArray.empty t149 x15_1).toList != ([] : List UInt8)) = false := bne_eq_false_iff_eq.mpr c10
    clear c10
    have H' := Aside0.mk H
    clear H
    have p152 : 0 ≤ (x15_1 : Int) := of_decide_eq_true (by first | (with_reducible assumption) | assumption)
    have q152 : x15_1 < (t149.length : Int) := of_decide_eq_true (by first | (with_reducible assumption) | assumption)
    obtain ⟨ad152, e152, hx152_0⟩ := Kd.at_string (Kd.R_reads' HO_13.out).2.2 x15_1 p152 q152
    cases e152
    replace p152 := eq_true p152
    replace q152 := eq_true q152
    go_wp2
    repeat (go_step3; try go_wp2)
    go_roundg k1
    case measure => have := HK1.out; omega
    case rel => exact ⟨(x3_1), (wrap64 (x15_1 + 1)), (by first | rfl | (simp; done) | (simp [*]; done)), H', ⟨by have := HK1.out; omega⟩, ⟨by (with_reducible repeat (first | apply Kd.R_alloc | apply Kd.R_drewN | apply Kd.R_drew)); exact HO_3.out⟩, ⟨by (with_reducible repeat (first | apply Kd.R_alloc | apply Kd.R_drewN | apply Kd.R_drew)); exact HO_13.out⟩, ⟨HB.out⟩⟩
  rw [if_neg c10] at H
  have c10b0 : ((rdOf ByteArray.empty t149 x15_1).toList == ([] : List UInt8)) = false := beq_eq_false_iff_ne.mpr c10
  have c10b1 : ((rdOf ByteArray.empty t149 x15_1).toList != ([] : List UInt8)) = true := bne_iff_ne.mpr c10
  by_cases c11 : x3_1.length < 8796093022208
  rotate_left
  · rw [if_neg c11] at H
    exact absurd H (by simp)
  rw [if_pos c11] at H
  have LMc11 := Aside0.mk c11
  clear c11
  obtain ⟨y153, hy153⟩ : ∃ y_ : List ByteArray, y_ = (x3_1 ++ [rdOf ByteArray.empty t149 x15_1]) := ⟨_, rfl⟩
  replace H : (words_Words.l0 k1 y153 t149 (t149.length : Int) (wrap64 (x15_1 + 1))) = some r := by first | (rw [hy153]; with_reducible exact H) | (have H2_ := (Option.bind_some _ _).symm.trans H; rw [hy153]; with_reducible exact H2_) | (have H2_ := (Option.bind_some _ _).symm.trans H; with_reducible exact H2_) | with_reducible exact H | (rw [hy153]; exact H) | exact H
  have Ny153 := Aside0.mk hy153
  clear hy153
  have H' := Aside0.mk H
  clear H
  have p152 : 0 ≤ (x15_1 : Int) := of_decide_eq_true (by first | (with_reducible assumption) | assumption)
  have q152 : x15_1 < (t149.length : Int) := of_decide_eq_true (by first | (with_reducible assumption) | assumption)
  obtain ⟨ad152, e152, hx152_0⟩ := Kd.at_string (Kd.R_reads' HO_13.out).2.2 x15_1 p152 q152
  cases e152
  replace p152 := eq_true p152
  replace q152 := eq_true q152
  go_wp2_with (first | ((with_reducible refine gate_builtin (b := .append) (xs := #[.tmp 21, .tmp 23]) rfl ?_); at_builtin; refine Kd.R_append Kd.string (w0 := w) w.heap.size rfl (.tmp 21) (.tmp 23) 26 9 (.string ⟨#[]⟩) 16 rfl Tryd.underlying26 info9 rfl (by decide) (by omega) u3 x3_1 (rdOf ByteArray.empty t149 x15_1) [.string (rdOf ByteArray.empty t149 x15_1)] (fun k_ => some k_ ≠ (.slice (some ad152) t149.length co6 : Value).ownBlock) (fun _ => False) rfl rfl ?aP (fun _ hk => hk.elim) ?aF ?aO ?aB ?aS ?aL ?_; (case aP => exact rfl); (case aB => exact (HB.out)); (case aF => exact (fun k_ hk => Kd.fresh' (Kd.R_lt (by (with_reducible repeat (first | apply Kd.R_alloc | apply Kd.R_drewN | apply Kd.R_drew)); exact HO_13.out)) k_ hk)); (case aO => exact (by (with_reducible repeat (first | apply Kd.R_alloc | apply Kd.R_drewN | apply Kd.R_drew)); exact HO_3.out)); (case aS => exact (below_size (HB.out))); (case aL => have := LMc11.out; omega); intro v154 w12 ho hb hg hat; rw [← Ny153.out] at ho; have n0_ := Aside0.mk (Kd.R_after (ok := (fun _ => True)) (by (with_reducible repeat (first | apply Kd.R_alloc | apply Kd.R_drewN | apply Kd.R_drew)); exact Kd.R_mono HO_13.out (fun _ hk => ⟨trivial, hk⟩)) hg hat); have n1_ := Aside0.mk (hb); have n2_ := Aside0.mk (ho); clear HO_13; clear HB; clear HO_3; have HO_13 := n0_; have HB := n1_; have HO155 := n2_; clear n0_ n1_ n2_; clear ho hb hg hat))
  repeat (go_step3; try go_wp2_with (first | ((with_reducible refine gate_builtin (b := .append) (xs := #[.tmp 21, .tmp 23]) rfl ?_); at_builtin; refine Kd.R_append Kd.string (w0 := w) w.heap.size rfl (.tmp 21) (.tmp 23) 26 9 (.string ⟨#[]⟩) 16 rfl Tryd.underlying26 info9 rfl (by decide) (by omega) u3 x3_1 (rdOf ByteArray.empty t149 x15_1) [.string (rdOf ByteArray.empty t149 x15_1)] (fun k_ => some k_ ≠ (.slice (some ad152) t149.length co6 : Value).ownBlock) (fun _ => False) rfl rfl ?aP (fun _ hk => hk.elim) ?aF ?aO ?aB ?aS ?aL ?_; (case aP => exact rfl); (case aB => exact (HB.out)); (case aF => exact (fun k_ hk => Kd.fresh' (Kd.R_lt (by (with_reducible repeat (first | apply Kd.R_alloc | apply Kd.R_drewN | apply Kd.R_drew)); exact HO_13.out)) k_ hk)); (case aO => exact (by (with_reducible repeat (first | apply Kd.R_alloc | apply Kd.R_drewN | apply Kd.R_drew)); exact HO_3.out)); (case aS => exact (below_size (HB.out))); (case aL => have := LMc11.out; omega); intro v154 w12 ho hb hg hat; rw [← Ny153.out] at ho; have n0_ := Aside0.mk (Kd.R_after (ok := (fun _ => True)) (by (with_reducible repeat (first | apply Kd.R_alloc | apply Kd.R_drewN | apply Kd.R_drew)); exact Kd.R_mono HO_13.out (fun _ hk => ⟨trivial, hk⟩)) hg hat); have n1_ := Aside0.mk (hb); have n2_ := Aside0.mk (ho); clear HO_13; clear HB; clear HO_3; have HO_13 := n0_; have HB := n1_; have HO155 := n2_; clear n0_ n1_ n2_; clear ho hb hg hat)))
  go_roundg k1
  case measure => have := HK1.out; omega
  case rel => exact ⟨(y153), (wrap64 (x15_1 + 1)), (by first | rfl | (simp; done) | (simp [*]; done)), H', ⟨by have := HK1.out; omega⟩, ⟨by (with_reducible repeat (first | apply Kd.R_alloc | apply Kd.R_drewN | apply Kd.R_drew)); exact HO155.out⟩, ⟨by (with_reducible repeat (first | apply Kd.R_alloc | apply Kd.R_drewN | apply Kd.R_drew)); exact Kd.R_mono HO_13.out (fun _ hk => hk.2)⟩, ⟨HB.out⟩⟩

end Go.Proofs.YtgkjoodlcojkkaaDoor.QD
end
section
-- written by a program of this session (wip/tools): the functions that the laws reach, as plain Lean, and their walks
namespace Go.Proofs.YtgkjoodlcojkkaaDoor.QD
open Go.RowKit Go.Proofs.YtgkjoodlcojkkaaDoorW.PrintWords Go.Proofs.YtgkjoodlcojkkaaDoorW.PrintLast Go.Proofs.YtgkjoodlcojkkaaDoorW.PrintMore
attribute [local go_sem] max2_int min2_int max_two min_two max_three min_three max_four min_four   -- for this text's walks alone
set_option linter.unusedVariables false
set_option linter.unusedSimpArgs false

/-! ### swingbridgeref7_Words: function 16 -/
mutual
def swingbridgeref7_Words.j1 : Nat → ByteArray → Int → Option (List ByteArray)
  | 0, _, _ => none
  | k + 1, x0, x3 => if 0 ≤ x3 then (if x3 ≤ (x0.size : Int) then ((swingbridgeref7_cut.f k (x0.extract 0 (x3 : Int).toNat) 32).bind fun t188 => (swingbridgeref7_Words.l1 k t188 ([] : List ByteArray) 0)) else (none)) else (none)
def swingbridgeref7_Words.l1 : Nat → List ByteArray → List ByteArray → Int → Option (List ByteArray)
  | 0, _, _, _ => none
  | k + 1, x4, x5, x6 => if x6 < (x4.length : Int) then (if 0 ≤ x6 then (if (rdOf ByteArray.empty x4 x6).toList = ([] : List UInt8) then (swingbridgeref7_Words.l1 k x4 x5 (wrap64 (x6 + 1))) else (if x5.length < 8796093022208 then (swingbridgeref7_Words.l1 k x4 (x5 ++ [rdOf ByteArray.empty x4 x6]) (wrap64 (x6 + 1))) else (none))) else (none)) else (some x5)
def swingbridgeref7_Words.l0 : Nat → ByteArray → Int → Option (List ByteArray)
  | 0, _, _ => none
  | k + 1, x0, x3 => if x3 < (x0.size : Int) then (if 0 ≤ x3 then (if (bt x0 x3) = 35 then (swingbridgeref7_Words.j1 k x0 x3) else (swingbridgeref7_Words.l0 k x0 (wrap64 (x3 + 1)))) else (none)) else (swingbridgeref7_Words.j1 k x0 x3)
end
def swingbridgeref7_Words.f (k : Nat) (a0 : ByteArray) : Option (List ByteArray) := swingbridgeref7_Words.l0 k a0 0
theorem swingbridgeref7_Words.mono_l : ∀ k, (∀ y0 y1, LeO (swingbridgeref7_Words.j1 k y0 y1) (swingbridgeref7_Words.j1 (k + 1) y0 y1)) ∧ (∀ y0 y1 y2, LeO (swingbridgeref7_Words.l1 k y0 y1 y2) (swingbridgeref7_Words.l1 (k + 1) y0 y1 y2)) ∧ (∀ y0 y1, LeO (swingbridgeref7_Words.l0 k y0 y1) (swingbridgeref7_Words.l0 (k + 1) y0 y1))
  | 0 => ⟨fun _ _ r h => by simp [swingbridgeref7_Words.j1] at h, fun _ _ _ r h => by simp [swingbridgeref7_Words.l1] at h, fun _ _ r h => by simp [swingbridgeref7_Words.l0] at h⟩
  | k + 1 => by
    obtain ⟨ih0, ih1, ih2⟩ := swingbridgeref7_Words.mono_l k
    refine ⟨?_, ?_, ?_⟩
    · intro y0 y1
      unfold swingbridgeref7_Words.j1
      repeat' first
      | (with_reducible exact ih0 _ _)
      | (with_reducible exact ih1 _ _ _)
      | (with_reducible exact ih2 _ _)
      | (with_reducible exact swingbridgeref7_cut.mono _ _ _)
      | (with_reducible exact LeO.refl _)
      | (with_reducible exact LeO.none _)
      | (with_reducible refine LeO.ite ?_ ?_)
      | (with_reducible refine LeO.bind ?_ (fun _ => ?_))
      | exact ih0 _ _
      | exact ih1 _ _ _
      | exact ih2 _ _
      | exact swingbridgeref7_cut.mono _ _ _
      | exact LeO.none _
      | refine LeO.ite ?_ ?_
      | refine LeO.bind ?_ (fun _ => ?_)
    · intro y0 y1 y2
      unfold swingbridgeref7_Words.l1
      repeat' first
      | (with_reducible exact ih0 _ _)
      | (with_reducible exact ih1 _ _ _)
      | (with_reducible exact ih2 _ _)
      | (with_reducible exact swingbridgeref7_cut.mono _ _ _)
      | (with_reducible exact LeO.refl _)
      | (with_reducible exact LeO.none _)
      | (with_reducible refine LeO.ite ?_ ?_)
      | (with_reducible refine LeO.bind ?_ (fun _ => ?_))
      | exact ih0 _ _
      | exact ih1 _ _ _
      | exact ih2 _ _
      | exact swingbridgeref7_cut.mono _ _ _
      | exact LeO.none _
      | refine LeO.ite ?_ ?_
      | refine LeO.bind ?_ (fun _ => ?_)
    · intro y0 y1
      unfold swingbridgeref7_Words.l0
      repeat' first
      | (with_reducible exact ih0 _ _)
      | (with_reducible exact ih1 _ _ _)
      | (with_reducible exact ih2 _ _)
      | (with_reducible exact swingbridgeref7_cut.mono _ _ _)
      | (with_reducible exact LeO.refl _)
      | (with_reducible exact LeO.none _)
      | (with_reducible refine LeO.ite ?_ ?_)
      | (with_reducible refine LeO.bind ?_ (fun _ => ?_))
      | exact ih0 _ _
      | exact ih1 _ _ _
      | exact ih2 _ _
      | exact swingbridgeref7_cut.mono _ _ _
      | exact LeO.none _
      | refine LeO.ite ?_ ?_
      | refine LeO.bind ?_ (fun _ => ?_)
theorem swingbridgeref7_Words.mono : ∀ a0 k, LeO (swingbridgeref7_Words.f k a0) (swingbridgeref7_Words.f (k + 1) a0) := by
  intro a0 k
  obtain ⟨ih0, ih1, ih2⟩ := swingbridgeref7_Words.mono_l k
  unfold swingbridgeref7_Words.f
  repeat' first
      | (with_reducible exact ih0 _ _)
      | (with_reducible exact ih1 _ _ _)
      | (with_reducible exact ih2 _ _)
      | (with_reducible exact swingbridgeref7_cut.mono _ _ _)
      | (with_reducible exact LeO.refl _)
      | (with_reducible exact LeO.none _)
      | (with_reducible refine LeO.ite ?_ ?_)
      | (with_reducible refine LeO.bind ?_ (fun _ => ?_))
      | exact ih0 _ _
      | exact ih1 _ _ _
      | exact ih2 _ _
      | exact swingbridgeref7_cut.mono _ _ _
      | exact LeO.none _
      | refine LeO.ite ?_ ?_
      | refine LeO.bind ?_ (fun _ => ?_)
set_option maxHeartbeats 8000000 in
set_option maxRecDepth 100000 in
theorem swingbridgeref7_Words.calls (k : Nat) (a0 : ByteArray) (r : List ByteArray) (w : World) (h : swingbridgeref7_Words.f k a0 = some r) :
    Calls Tryd.prog 16 #[.string a0] w fun e w' => ∃ v0_ : Value, e = .returned (v0_) ∧ Kd.R Kd.string 9 w' w.heap.size (fun _ => True) v0_ r ∧ Below w.heap.size w w' := by
  have HB := Aside0.mk (Below.refl w.heap.size w)
  have H : (swingbridgeref7_Words.l0 k a0 0) = some r := h
  clear h
  have HC2 := Aside0.mk H
  clear H
  go_enter Tryd.func16, Tryd.ntmps16
  go_upto_block 0 with (fail)
  go_cut [3] (fun v3 wc => ∃ (kq : Nat) (x3_1 : Int), v3 = .int .i64 x3_1 ∧ Aside0 (swingbridgeref7_Words.j1 kq a0 x3_1 = some r) ∧ Aside0 (kq ≤ k) ∧ Aside0 (Below w.heap.size w wc))
  case first =>
    have H := HC2.out
    clear HC2
    have H' := Aside0.mk H
    clear H
    go_wp2
    go_loopg [3] k (fun kq v3 w' => ∃ (x3_1 : Int), v3 = .int .i64 x3_1 ∧ Aside0 (swingbridgeref7_Words.l0 kq a0 x3_1 = some r) ∧ Aside0 (kq ≤ k) ∧ Aside0 (Below w.heap.size w w'))
    case atStart => exact ⟨(0), (by first | rfl | (simp; done) | (simp [*]; done)), H', ⟨Nat.le_refl _⟩, ⟨HB.out⟩⟩
    clear H'
    (try clear c1); (try clear p2)
    obtain ⟨x3_1, rfl, HA, HK1, HB⟩ := hrel
    cases gk with
    | zero => exact absurd HA.out (by simp [swingbridgeref7_Words.l0])
    | succ k1 => ?_
    have H := HA.out
    clear HA
    simp only [swingbridgeref7_Words.l0] at H
    by_cases c3 : x3_1 < (a0.size : Int)
    rotate_left
    · rw [if_neg c3] at H
      have c3b0 : decide (x3_1 < (a0.size : Int)) = false := decide_eq_false c3
      clear c3
      (first | rw [c3b0] | (simp only [i64_w, i32_w]; rw [c3b0]) | skip)
      have H' := Aside0.mk H
      clear H
      go_wp2
      go_meet
      case rel => exact ⟨_, (x3_1), (by first | rfl | (simp; done) | (simp [*]; done)), H', ⟨by have := HK1.out; first | omega | exact Nat.le_refl _⟩, ⟨HB.out⟩⟩
    rw [if_pos c3] at H
    have c3b0 : decide (x3_1 < (a0.size : Int)) = true := decide_eq_true c3
    clear c3
    (first | rw [c3b0] | (simp only [i64_w, i32_w]; rw [c3b0]) | skip)
    by_cases c4 : 0 ≤ x3_1
    rotate_left
    · rw [if_neg c4] at H
      exact absurd H (by simp)
    rw [if_pos c4] at H
    have c4b0 : decide (0 ≤ x3_1) = true := decide_eq_true c4
    clear c4
    by_cases c6 : (bt a0 x3_1) = 35
    rotate_left
    · rw [if_neg c6] at H
      have c6b0 : ((bt a0 x3_1) == 35) = false := beq_eq_false_iff_ne.mpr c6
      have c6b1 : ((bt a0 x3_1) != 35) = true := bne_iff_ne.mpr c6
      have H' := Aside0.mk H
      clear H
      have p5 : 0 ≤ (x3_1 : Int) := of_decide_eq_true (by first | (with_reducible assumption) | assumption)
      have q5 : x3_1 < (a0.size : Int) := of_decide_eq_true (by first | (with_reducible assumption) | assumption)
      have hx5 := bt_at a0 x3_1
      replace p5 := eq_true p5
      replace q5 := eq_true q5
      go_wp2
      go_roundg k1
      case measure => have := HK1.out; omega
      case rel => exact ⟨(wrap64 (x3_1 + 1)), (by first | rfl | (simp; done) | (simp [*]; done)), H', ⟨by have := HK1.out; omega⟩, ⟨HB.out⟩⟩
    rw [if_pos c6] at H
    have c6b0 : ((bt a0 x3_1) == 35) = true := beq_iff_eq.mpr c6
    have c6b1 : ((bt a0 x3_1) != 35) = false := bne_eq_false_iff_eq.mpr c6
    clear c6
    have H' := Aside0.mk H
    clear H
    have p5 : 0 ≤ (x3_1 : Int) := of_decide_eq_true (by first | (with_reducible assumption) | assumption)
    have q5 : x3_1 < (a0.size : Int) := of_decide_eq_true (by first | (with_reducible assumption) | assumption)
    have hx5 := bt_at a0 x3_1
    replace p5 := eq_true p5
    replace q5 := eq_true q5
    go_wp2
    go_meet
    case rel => exact ⟨_, (x3_1), (by first | rfl | (simp; done) | (simp [*]; done)), H', ⟨by have := HK1.out; first | omega | exact Nat.le_refl _⟩, ⟨HB.out⟩⟩
  clear HC2
  (try clear c1); (try clear p2); (try clear c3); (try clear c3b0); (try clear c4); (try clear c4b0); (try clear p5); (try clear q5); (try clear hx5); (try clear c6); (try clear c6b0); (try clear c6b1); (try clear p6); (try clear p2); (try clear p5); (try clear q5)
  obtain ⟨kq, x3_1, rfl, HA, HJ1, HB⟩ := hcut
  cases kq with
  | zero => exact absurd HA.out (by simp [swingbridgeref7_Words.j1])
  | succ kj1 => ?_
  have H := HA.out
  clear HA
  simp only [swingbridgeref7_Words.j1] at H
  by_cases c7 : 0 ≤ x3_1
  rotate_left
  · rw [if_neg c7] at H
    exact absurd H (by simp)
  rw [if_pos c7] at H
  have c7b0 := eq_true c7
  have c7b1 : decide (0 ≤ x3_1) = true := decide_eq_true c7
  clear c7
  by_cases c8 : x3_1 ≤ (a0.size : Int)
  rotate_left
  · rw [if_neg c8] at H
    exact absurd H (by simp)
  rw [if_pos c8] at H
  have c8b0 := eq_true c8
  have c8b1 : decide (x3_1 ≤ (a0.size : Int)) = true := decide_eq_true c8
  clear c8
  replace H := Option.bind_eq_some_iff.mp H
  obtain ⟨t188, A90, H⟩ := H
  replace H : (swingbridgeref7_Words.l1 kj1 t188 ([] : List ByteArray) 0) = some r := H
  have A9 := Aside0.mk A90
  clear A90
  have H' := Aside0.mk H
  clear H
  go_wp2_with (first | ((with_reducible refine gate_callee (f := 30) rfl ?_); refine goesL_ (some 22) rfl rfl Tryd.func30 (by kernel_rfl) rfl #[.string (a0.extract 0 (x3_1 : Int).toNat), .int .u8 32] rfl (by (try simp only [List.map_toArray, List.map_cons, List.map_nil]); first | done | rfl | (simp only [List.length_drop, List.length_take]; rfl)) ?_; (with_reducible refine (swingbridgeref7_cut.calls kj1 (a0.extract 0 (x3_1 : Int).toNat) 32 t188 _ A9.out).mono ?_); rintro e w10 ⟨v189, rfl, ho0, hb⟩; refine ⟨_, rfl, ?_⟩; have n0_ := Aside0.mk (Kd.R_lower ho0 (below_size (HB.out))); have n1_ := Aside0.mk (below_step (HB.out) hb); clear HB; have HO190 := n0_; have HB := n1_; clear n0_ n1_; (try clear hb); (try clear hb2); (try clear hk); (try clear hi); (try clear ho0)))
  go_loopg [5, 6] kj1 (fun kq v5 v6 w' => ∃ (x5_2 : List ByteArray) (x6_2 : Int), v6 = .int .i64 x6_2 ∧ Aside0 (swingbridgeref7_Words.l1 kq t188 x5_2 x6_2 = some r) ∧ Aside0 (kq ≤ kj1) ∧ Aside0 (Kd.R Kd.string 9 w' w.heap.size (fun k_ => some k_ ≠ (v5 : Value).ownBlock) v189 t188) ∧ Aside0 (Kd.R Kd.string 9 w' w.heap.size (fun k_ => some k_ ≠ (v189 : Value).ownBlock) v5 x5_2) ∧ Aside0 (Below w.heap.size w w'))
  case atStart => exact ⟨(([] : List ByteArray)), (0), (by first | rfl | (simp; done) | (simp [*]; done)), H', ⟨Nat.le_refl _⟩, ⟨by (with_reducible repeat (first | apply Kd.R_alloc | apply Kd.R_drewN | apply Kd.R_drew)); exact Kd.R_mono HO190.out (fun _ hk => (by simp [Value.ownBlock]))⟩, ⟨by first | exact Kd.R_nil _ _ _ _ _ | exact Kd.N_nil _ _ _ _ _ | exact Kd.V_nil _ _ _ _ _ | exact Kd.Q_nil _ _ _ _ _ | exact Kd.S_nil _ _ _ _ _⟩, ⟨HB.out⟩⟩
  clear H'
  (try clear c1); (try clear p2); (try clear c3); (try clear c3b0); (try clear c4); (try clear c4b0); (try clear p5); (try clear q5); (try clear hx5); (try clear c6); (try clear c6b0); (try clear c6b1); (try clear p6); (try clear c7); (try clear c7b0); (try clear c7b1); (try clear c8); (try clear c8b0); (try clear c8b1); (try clear p2); (try clear p5); (try clear p6); (try clear q5)
  obtain ⟨x5_2, x6_2, rfl, HA, HK2, HO_4, HO_5, HB⟩ := hrel
  cases gk with
  | zero => exact absurd HA.out (by simp [swingbridgeref7_Words.l1])
  | succ k2 => ?_
  have H := HA.out
  clear HA
  simp only [swingbridgeref7_Words.l1] at H
  by_cases c11 : x6_2 < (t188.length : Int)
  rotate_left
  · rw [if_neg c11] at H
    have c11b0 : decide (x6_2 < (t188.length : Int)) = false := decide_eq_false c11
    clear c11
    obtain rfl := Option.some.inj H
    obtain ⟨Ao12, co12, eo12⟩ := Kd.R_slice HO_4.out
    subst eo12
    go_wp2
    go_ret
    exact ⟨_, by first | rfl | (simp [errW_none, errW_some] <;> rfl) | (simp [*, errW_none, errW_some] <;> rfl), by (with_reducible repeat (first | apply Kd.R_alloc | apply Kd.R_drewN | apply Kd.R_drew)); exact Kd.R_mono HO_5.out (fun _ hk => trivial), HB.out⟩
  rw [if_pos c11] at H
  have c11b0 : decide (x6_2 < (t188.length : Int)) = true := decide_eq_true c11
  clear c11
  by_cases c13 : 0 ≤ x6_2
  rotate_left
  · rw [if_neg c13] at H
    exact absurd H (by simp)
  rw [if_pos c13] at H
  have c13b0 : decide (0 ≤ x6_2) = true := decide_eq_true c13
  clear c13
  by_cases c14 : (rdOf ByteArray.empty t188 x6_2).toList = ([] : List UInt8)
  · rw [if_pos c14] at H
    have c14b0 : ((rdOf ByteArray.empty t188 x6_2).toList == ([] : List UInt8)) = true := beq_iff_eq.mpr c14
    have c14b1 : ((rdOf ByteArray.empty t188 x6_2).toList != ([] : List UInt8)) = false := bne_eq_false_iff_eq.mpr c14
    clear c14
    have H' := Aside0.mk H
    clear H
    obtain ⟨Ao15, co15, eo15⟩ := Kd.R_slice HO_4.out
    subst eo15
    have p191 : 0 ≤ (x6_2 : Int) := of_decide_eq_true (by first | (with_reducible assumption) | assumption)
    have q191 : x6_2 < (t188.length : Int) := of_decide_eq_true (by first | (with_reducible assumption) | assumption)
    obtain ⟨ad191, e191, hx191_0⟩ := Kd.at_string (Kd.R_reads' HO_4.out).2.2 x6_2 p191 q191
    cases e191
    replace p191 := eq_true p191
    replace q191 := eq_true q191
    go_wp2
    go_roundg k2
    case measure => have := HJ1.out; have := HK2.out; omega
    case rel => exact ⟨(x5_2), (wrap64 (x6_2 + 1)), (by first | rfl | (simp; done) | (simp [*]; done)), H', ⟨by have := HJ1.out; have := HK2.out; omega⟩, ⟨by (with_reducible repeat (first | apply Kd.R_alloc | apply Kd.R_drewN | apply Kd.R_drew)); exact HO_4.out⟩, ⟨by (with_reducible repeat (first | apply Kd.R_alloc | apply Kd.R_drewN | apply Kd.R_drew)); exact HO_5.out⟩, ⟨HB.out⟩⟩
  rw [if_neg c14] at H
  have c14b0 : ((rdOf ByteArray.empty t188 x6_2).toList == ([] : List UInt8)) = false := beq_eq_false_iff_ne.mpr c14
  have c14b1 : ((rdOf ByteArray.empty t188 x6_2).toList != ([] : List UInt8)) = true := bne_iff_ne.mpr c14
  by_cases c16 : x5_2.length < 8796093022208
  rotate_left
  · rw [if_neg c16] at H
    exact absurd H (by simp)
  rw [if_pos c16] at H
  have LMc16 := Aside0.mk c16
  clear c16
  obtain ⟨y193, hy193⟩ : ∃ y_ : List ByteArray, y_ = (x5_2 ++ [rdOf ByteArray.empty t188 x6_2]) := ⟨_, rfl⟩
  replace H : (swingbridgeref7_Words.l1 k2 t188 y193 (wrap64 (x6_2 + 1))) = some r := by first | (rw [hy193]; with_reducible exact H) | (have H2_ := (Option.bind_some _ _).symm.trans H; rw [hy193]; with_reducible exact H2_) | (have H2_ := (Option.bind_some _ _).symm.trans H; with_reducible exact H2_) | with_reducible exact H | (rw [hy193]; exact H) | exact H
  have Ny193 := Aside0.mk hy193
  clear hy193
  have H' := Aside0.mk H
  clear H
  obtain ⟨Ao17, co17, eo17⟩ := Kd.R_slice HO_4.out
  subst eo17
  have p191 : 0 ≤ (x6_2 : Int) := of_decide_eq_true (by first | (with_reducible assumption) | assumption)
  have q191 : x6_2 < (t188.length : Int) := of_decide_eq_true (by first | (with_reducible assumption) | assumption)
  obtain ⟨ad191, e191, hx191_0⟩ := Kd.at_string (Kd.R_reads' HO_4.out).2.2 x6_2 p191 q191
  cases e191
  replace p191 := eq_true p191
  replace q191 := eq_true q191
  have p192 : 0 ≤ (x6_2 : Int) := of_decide_eq_true (by first | (with_reducible assumption) | assumption)
  have q192 : x6_2 < (t188.length : Int) := of_decide_eq_true (by first | (with_reducible assumption) | assumption)
  obtain ⟨ad192, e192, hx192_0⟩ := Kd.at_string (Kd.R_reads' HO_4.out).2.2 x6_2 p192 q192
  obtain rfl : ad191 = ad192 := (by injection e192)
  replace p192 := eq_true p192
  replace q192 := eq_true q192
  go_wp2_with (first | ((with_reducible refine gate_builtin (b := .append) (xs := #[.tmp 34, .tmp 39]) rfl ?_); at_builtin; refine Kd.R_append Kd.string (w0 := w) w.heap.size rfl (.tmp 34) (.tmp 39) 26 9 (.string ⟨#[]⟩) 16 rfl Tryd.underlying26 info9 rfl (by decide) (by omega) u5 x5_2 (rdOf ByteArray.empty t188 x6_2) [.string (rdOf ByteArray.empty t188 x6_2)] (fun k_ => some k_ ≠ (.slice (some ad191) t188.length co17 : Value).ownBlock) (fun _ => False) rfl rfl ?aP (fun _ hk => hk.elim) ?aF ?aO ?aB ?aS ?aL ?_; (case aP => exact rfl); (case aB => exact (HB.out)); (case aF => exact (fun k_ hk => Kd.fresh' (Kd.R_lt (by (with_reducible repeat (first | apply Kd.R_alloc | apply Kd.R_drewN | apply Kd.R_drew)); exact HO_4.out)) k_ hk)); (case aO => exact (by (with_reducible repeat (first | apply Kd.R_alloc | apply Kd.R_drewN | apply Kd.R_drew)); exact HO_5.out)); (case aS => exact (below_size (HB.out))); (case aL => have := LMc16.out; omega); intro v194 w18 ho hb hg hat; rw [← Ny193.out] at ho; have n0_ := Aside0.mk (Kd.R_after (ok := (fun _ => True)) (by (with_reducible repeat (first | apply Kd.R_alloc | apply Kd.R_drewN | apply Kd.R_drew)); exact Kd.R_mono HO_4.out (fun _ hk => ⟨trivial, hk⟩)) hg hat); have n1_ := Aside0.mk (hb); have n2_ := Aside0.mk (ho); clear HO_4; clear HB; clear HO_5; have HO_4 := n0_; have HB := n1_; have HO195 := n2_; clear n0_ n1_ n2_; clear ho hb hg hat))
  go_roundg k2
  case measure => have := HJ1.out; have := HK2.out; omega
  case rel => exact ⟨(y193), (wrap64 (x6_2 + 1)), (by first | rfl | (simp; done) | (simp [*]; done)), H', ⟨by have := HJ1.out; have := HK2.out; omega⟩, ⟨by (with_reducible repeat (first | apply Kd.R_alloc | apply Kd.R_drewN | apply Kd.R_drew)); exact Kd.R_mono HO_4.out (fun _ hk => hk.2)⟩, ⟨by (with_reducible repeat (first | apply Kd.R_alloc | apply Kd.R_drewN | apply Kd.R_drew)); exact HO195.out⟩, ⟨HB.out⟩⟩

end Go.Proofs.YtgkjoodlcojkkaaDoor.QD
end
section
-- written by a program of this session (wip/tools): the functions that the laws reach, as plain Lean, and their walks
namespace Go.Proofs.YtgkjoodlcojkkaaDoor.QD
open Go.RowKit Go.Proofs.YtgkjoodlcojkkaaDoorW.PrintWords Go.Proofs.YtgkjoodlcojkkaaDoorW.PrintLast Go.Proofs.YtgkjoodlcojkkaaDoorW.PrintMore
attribute [local go_sem] max2_int min2_int max_two min_two max_three min_three max_four min_four   -- for this text's walks alone
set_option linter.unusedVariables false
set_option linter.unusedSimpArgs false

/-! ### words_Name: function 17 -/
def words_Name.l0 : Nat → ByteArray → Int → Int → Option (Bool)
  | 0, _, _, _ => none
  | k + 1, x0, x7, x8 => if x8 < x7 then (if 0 ≤ x8 then (if x8 < (x0.size : Int) then (if (bt x0 x8) ≥ 48 then (if (bt x0 x8) < 97 then (if x8 = 0 then (some false) else (if ((bt x0 x8) ≤ 57) then (words_Name.l0 k x0 x7 (wrap64 (x8 + 1))) else (some false))) else (if (bt x0 x8) > 122 then (if x8 = 0 then (some false) else (if ((bt x0 x8) ≤ 57) then (words_Name.l0 k x0 x7 (wrap64 (x8 + 1))) else (some false))) else (words_Name.l0 k x0 x7 (wrap64 (x8 + 1))))) else (if (bt x0 x8) < 97 then (if x8 = 0 then (some false) else (some false)) else (if (bt x0 x8) > 122 then (if x8 = 0 then (some false) else (some false)) else (words_Name.l0 k x0 x7 (wrap64 (x8 + 1)))))) else (none)) else (none)) else (if x0.toList = ([] : List UInt8) then (some false) else (some (decide ((x0.size : Int) ≤ 8))))
def words_Name.f (k : Nat) (a0 : ByteArray) : Option (Bool) := words_Name.l0 k a0 (a0.size : Int) 0
theorem words_Name.mono_l : ∀ k, (∀ y0 y1 y2, LeO (words_Name.l0 k y0 y1 y2) (words_Name.l0 (k + 1) y0 y1 y2))
  | 0 => fun _ _ _ r h => by simp [words_Name.l0] at h
  | k + 1 => by
    have ih0 := words_Name.mono_l k
    · intro y0 y1 y2
      unfold words_Name.l0
      repeat' first
      | (with_reducible exact ih0 _ _ _)
      | (with_reducible exact LeO.refl _)
      | (with_reducible exact LeO.none _)
      | (with_reducible refine LeO.ite ?_ ?_)
      | (with_reducible refine LeO.bind ?_ (fun _ => ?_))
      | exact ih0 _ _ _
      | exact LeO.none _
      | refine LeO.ite ?_ ?_
      | refine LeO.bind ?_ (fun _ => ?_)
theorem words_Name.mono : ∀ a0 k, LeO (words_Name.f k a0) (words_Name.f (k + 1) a0) := by
  intro a0 k
  have ih0 := words_Name.mono_l k
  unfold words_Name.f
  repeat' first
      | (with_reducible exact ih0 _ _ _)
      | (with_reducible exact LeO.refl _)
      | (with_reducible exact LeO.none _)
      | (with_reducible refine LeO.ite ?_ ?_)
      | (with_reducible refine LeO.bind ?_ (fun _ => ?_))
      | exact ih0 _ _ _
      | exact LeO.none _
      | refine LeO.ite ?_ ?_
      | refine LeO.bind ?_ (fun _ => ?_)
set_option maxHeartbeats 8000000 in
set_option maxRecDepth 100000 in
theorem words_Name.calls (k : Nat) (a0 : ByteArray) (r : Bool) (w : World) (h : words_Name.f k a0 = some r) :
    Calls Tryd.prog 17 #[.string a0] w fun e w' => e = .returned (.bool r) ∧ Drawn0 w w' := by
  have H : (words_Name.l0 k a0 (a0.size : Int) 0) = some r := h
  clear h
  have H' := Aside0.mk H
  clear H
  go_enter Tryd.func17, Tryd.ntmps17
  go_wp2
  go_loopg [8] k (fun kq v8 w' => ∃ (x8_1 : Int), v8 = .int .i64 x8_1 ∧ Aside0 (words_Name.l0 kq a0 (a0.size : Int) x8_1 = some r) ∧ Aside0 (kq ≤ k) ∧ Drawn0 w w')
  case atStart => exact ⟨(0), (by first | rfl | (simp; done) | (simp [*]; done)), H', ⟨Nat.le_refl _⟩, by repeat (first | exact Drawn0.refl _ | apply Drawn0.step)⟩
  clear H'
  (try clear c1)
  obtain ⟨x8_1, rfl, HA, HK1, ⟨m1, rfl⟩⟩ := hrel
  cases gk with
  | zero => exact absurd HA.out (by simp [words_Name.l0])
  | succ k1 => ?_
  have H := HA.out
  clear HA
  simp only [words_Name.l0] at H
  by_cases c2 : x8_1 < (a0.size : Int)
  rotate_left
  · rw [if_neg c2] at H
    have c2b0 : decide (x8_1 < (a0.size : Int)) = false := decide_eq_false c2
    clear c2
    by_cases c3 : a0.toList = ([] : List UInt8)
    rotate_left
    · rw [if_neg c3] at H
      have c3b0 : (a0.toList == ([] : List UInt8)) = false := beq_eq_false_iff_ne.mpr c3
      have c3b1 : (a0.toList != ([] : List UInt8)) = true := bne_iff_ne.mpr c3
      obtain rfl := Option.some.inj H
      go_wp2
      go_ret
      exact ⟨by first | rfl | (simp; done) | (simp [*]; done), by repeat (first | exact Drawn0.refl _ | apply Drawn0.step)⟩
    rw [if_pos c3] at H
    have c3b0 : (a0.toList == ([] : List UInt8)) = true := beq_iff_eq.mpr c3
    have c3b1 : (a0.toList != ([] : List UInt8)) = false := bne_eq_false_iff_eq.mpr c3
    clear c3
    obtain rfl := Option.some.inj H
    go_wp2
    go_ret
    exact ⟨by first | rfl | (simp; done) | (simp [*]; done), by repeat (first | exact Drawn0.refl _ | apply Drawn0.step)⟩
  rw [if_pos c2] at H
  have c2b0 : decide (x8_1 < (a0.size : Int)) = true := decide_eq_true c2
  clear c2
  by_cases c4 : 0 ≤ x8_1
  rotate_left
  · rw [if_neg c4] at H
    exact absurd H (by simp)
  rw [if_pos c4] at H
  have c4b0 : decide (0 ≤ x8_1) = true := decide_eq_true c4
  clear c4
  by_cases c5 : x8_1 < (a0.size : Int)
  rotate_left
  · rw [if_neg c5] at H
    exact absurd H (by simp)
  rw [if_pos c5] at H
  have c5b0 : decide (x8_1 < (a0.size : Int)) = true := decide_eq_true c5
  clear c5
  by_cases c7 : (bt a0 x8_1) ≥ 48
  rotate_left
  · rw [if_neg c7] at H
    have c7b0 : decide (48 ≤ (bt a0 x8_1)) = false := decide_eq_false c7
    clear c7
    by_cases c8 : (bt a0 x8_1) < 97
    · rw [if_pos c8] at H
      have c8b0 : decide ((bt a0 x8_1) < 97) = true := decide_eq_true c8
      clear c8
      by_cases c9 : x8_1 = 0
      rotate_left
      · rw [if_neg c9] at H
        have c9b0 : (x8_1 == 0) = false := beq_eq_false_iff_ne.mpr c9
        have c9b1 : (x8_1 != 0) = true := bne_iff_ne.mpr c9
        obtain rfl := Option.some.inj H
        have p6 : 0 ≤ (x8_1 : Int) := of_decide_eq_true (by first | (with_reducible assumption) | assumption)
        have q6 : x8_1 < (a0.size : Int) := of_decide_eq_true (by first | (with_reducible assumption) | assumption)
        have hx6 := bt_at a0 x8_1
        replace p6 := eq_true p6
        replace q6 := eq_true q6
        go_wp2
        go_ret
        exact ⟨by first | rfl | (simp; done) | (simp [*]; done), by repeat (first | exact Drawn0.refl _ | apply Drawn0.step)⟩
      rw [if_pos c9] at H
      have c9b0 : (x8_1 == 0) = true := beq_iff_eq.mpr c9
      have c9b1 : (x8_1 != 0) = false := bne_eq_false_iff_eq.mpr c9
      clear c9
      obtain rfl := Option.some.inj H
      have p6 : 0 ≤ (x8_1 : Int) := of_decide_eq_true (by first | (with_reducible assumption) | assumption)
      have q6 : x8_1 < (a0.size : Int) := of_decide_eq_true (by first | (with_reducible assumption) | assumption)
      have hx6 := bt_at a0 x8_1
      replace p6 := eq_true p6
      replace q6 := eq_true q6
      go_wp2
      go_ret
      exact ⟨by first | rfl | (simp; done) | (simp [*]; done), by repeat (first | exact Drawn0.refl _ | apply Drawn0.step)⟩
    rw [if_neg c8] at H
    have c8b0 : decide ((bt a0 x8_1) < 97) = false := decide_eq_false c8
    clear c8
    by_cases c10 : (bt a0 x8_1) > 122
    rotate_left
    · rw [if_neg c10] at H
      have c10b0 : decide (122 < (bt a0 x8_1)) = false := decide_eq_false c10
      clear c10
      have H' := Aside0.mk H
      clear H
      have p6 : 0 ≤ (x8_1 : Int) := of_decide_eq_true (by first | (with_reducible assumption) | assumption)
      have q6 : x8_1 < (a0.size : Int) := of_decide_eq_true (by first | (with_reducible assumption) | assumption)
      have hx6 := bt_at a0 x8_1
      replace p6 := eq_true p6
      replace q6 := eq_true q6
      go_wp2
      go_roundg k1
      case measure => have := HK1.out; omega
      case rel => exact ⟨(wrap64 (x8_1 + 1)), (by first | rfl | (simp; done) | (simp [*]; done)), H', ⟨by have := HK1.out; omega⟩, by repeat (first | exact Drawn0.refl _ | apply Drawn0.step)⟩
    rw [if_pos c10] at H
    have c10b0 : decide (122 < (bt a0 x8_1)) = true := decide_eq_true c10
    clear c10
    by_cases c11 : x8_1 = 0
    rotate_left
    · rw [if_neg c11] at H
      have c11b0 : (x8_1 == 0) = false := beq_eq_false_iff_ne.mpr c11
      have c11b1 : (x8_1 != 0) = true := bne_iff_ne.mpr c11
      obtain rfl := Option.some.inj H
      have p6 : 0 ≤ (x8_1 : Int) := of_decide_eq_true (by first | (with_reducible assumption) | assumption)
      have q6 : x8_1 < (a0.size : Int) := of_decide_eq_true (by first | (with_reducible assumption) | assumption)
      have hx6 := bt_at a0 x8_1
      replace p6 := eq_true p6
      replace q6 := eq_true q6
      go_wp2
      go_ret
      exact ⟨by first | rfl | (simp; done) | (simp [*]; done), by repeat (first | exact Drawn0.refl _ | apply Drawn0.step)⟩
    rw [if_pos c11] at H
    have c11b0 : (x8_1 == 0) = true := beq_iff_eq.mpr c11
    have c11b1 : (x8_1 != 0) = false := bne_eq_false_iff_eq.mpr c11
    clear c11
    obtain rfl := Option.some.inj H
    have p6 : 0 ≤ (x8_1 : Int) := of_decide_eq_true (by first | (with_reducible assumption) | assumption)
    have q6 : x8_1 < (a0.size : Int) := of_decide_eq_true (by first | (with_reducible assumption) | assumption)
    have hx6 := bt_at a0 x8_1
    replace p6 := eq_true p6
    replace q6 := eq_true q6
    go_wp2
    go_ret
    exact ⟨by first | rfl | (simp; done) | (simp [*]; done), by repeat (first | exact Drawn0.refl _ | apply Drawn0.step)⟩
  rw [if_pos c7] at H
  have c7b0 : decide (48 ≤ (bt a0 x8_1)) = true := decide_eq_true c7
  clear c7
  by_cases c12 : (bt a0 x8_1) < 97
  · rw [if_pos c12] at H
    have c12b0 : decide ((bt a0 x8_1) < 97) = true := decide_eq_true c12
    clear c12
    by_cases c13 : x8_1 = 0
    · rw [if_pos c13] at H
      have c13b0 : (x8_1 == 0) = true := beq_iff_eq.mpr c13
      have c13b1 : (x8_1 != 0) = false := bne_eq_false_iff_eq.mpr c13
      clear c13
      obtain rfl := Option.some.inj H
      have p6 : 0 ≤ (x8_1 : Int) := of_decide_eq_true (by first | (with_reducible assumption) | assumption)
      have q6 : x8_1 < (a0.size : Int) := of_decide_eq_true (by first | (with_reducible assumption) | assumption)
      have hx6 := bt_at a0 x8_1
      replace p6 := eq_true p6
      replace q6 := eq_true q6
      go_wp2
      go_ret
      exact ⟨by first | rfl | (simp; done) | (simp [*]; done), by repeat (first | exact Drawn0.refl _ | apply Drawn0.step)⟩
    rw [if_neg c13] at H
    have c13b0 : (x8_1 == 0) = false := beq_eq_false_iff_ne.mpr c13
    have c13b1 : (x8_1 != 0) = true := bne_iff_ne.mpr c13
    by_cases c14 : ((bt a0 x8_1) ≤ 57)
    rotate_left
    · rw [if_neg c14] at H
      have c14b0 : decide ((bt a0 x8_1) ≤ 57) = false := decide_eq_false c14
      clear c14
      obtain rfl := Option.some.inj H
      have p6 : 0 ≤ (x8_1 : Int) := of_decide_eq_true (by first | (with_reducible assumption) | assumption)
      have q6 : x8_1 < (a0.size : Int) := of_decide_eq_true (by first | (with_reducible assumption) | assumption)
      have hx6 := bt_at a0 x8_1
      replace p6 := eq_true p6
      replace q6 := eq_true q6
      go_wp2
      go_ret
      exact ⟨by first | rfl | (simp; done) | (simp [*]; done), by repeat (first | exact Drawn0.refl _ | apply Drawn0.step)⟩
    rw [if_pos c14] at H
    have c14b0 : decide ((bt a0 x8_1) ≤ 57) = true := decide_eq_true c14
    clear c14
    have H' := Aside0.mk H
    clear H
    have p6 : 0 ≤ (x8_1 : Int) := of_decide_eq_true (by first | (with_reducible assumption) | assumption)
    have q6 : x8_1 < (a0.size : Int) := of_decide_eq_true (by first | (with_reducible assumption) | assumption)
    have hx6 := bt_at a0 x8_1
    replace p6 := eq_true p6
    replace q6 := eq_true q6
    go_wp2
    go_roundg k1
    case measure => have := HK1.out; omega
    case rel => exact ⟨(wrap64 (x8_1 + 1)), (by first | rfl | (simp; done) | (simp [*]; done)), H', ⟨by have := HK1.out; omega⟩, by repeat (first | exact Drawn0.refl _ | apply Drawn0.step)⟩
  rw [if_neg c12] at H
  have c12b0 : decide ((bt a0 x8_1) < 97) = false := decide_eq_false c12
  clear c12
  by_cases c15 : (bt a0 x8_1) > 122
  rotate_left
  · rw [if_neg c15] at H
    have c15b0 : decide (122 < (bt a0 x8_1)) = false := decide_eq_false c15
    clear c15
    have H' := Aside0.mk H
    clear H
    have p6 : 0 ≤ (x8_1 : Int) := of_decide_eq_true (by first | (with_reducible assumption) | assumption)
    have q6 : x8_1 < (a0.size : Int) := of_decide_eq_true (by first | (with_reducible assumption) | assumption)
    have hx6 := bt_at a0 x8_1
    replace p6 := eq_true p6
    replace q6 := eq_true q6
    go_wp2
    go_roundg k1
    case measure => have := HK1.out; omega
    case rel => exact ⟨(wrap64 (x8_1 + 1)), (by first | rfl | (simp; done) | (simp [*]; done)), H', ⟨by have := HK1.out; omega⟩, by repeat (first | exact Drawn0.refl _ | apply Drawn0.step)⟩
  rw [if_pos c15] at H
  have c15b0 : decide (122 < (bt a0 x8_1)) = true := decide_eq_true c15
  clear c15
  by_cases c16 : x8_1 = 0
  · rw [if_pos c16] at H
    have c16b0 : (x8_1 == 0) = true := beq_iff_eq.mpr c16
    have c16b1 : (x8_1 != 0) = false := bne_eq_false_iff_eq.mpr c16
    clear c16
    obtain rfl := Option.some.inj H
    have p6 : 0 ≤ (x8_1 : Int) := of_decide_eq_true (by first | (with_reducible assumption) | assumption)
    have q6 : x8_1 < (a0.size : Int) := of_decide_eq_true (by first | (with_reducible assumption) | assumption)
    have hx6 := bt_at a0 x8_1
    replace p6 := eq_true p6
    replace q6 := eq_true q6
    go_wp2
    go_ret
    exact ⟨by first | rfl | (simp; done) | (simp [*]; done), by repeat (first | exact Drawn0.refl _ | apply Drawn0.step)⟩
  rw [if_neg c16] at H
  have c16b0 : (x8_1 == 0) = false := beq_eq_false_iff_ne.mpr c16
  have c16b1 : (x8_1 != 0) = true := bne_iff_ne.mpr c16
  by_cases c17 : ((bt a0 x8_1) ≤ 57)
  rotate_left
  · rw [if_neg c17] at H
    have c17b0 : decide ((bt a0 x8_1) ≤ 57) = false := decide_eq_false c17
    clear c17
    obtain rfl := Option.some.inj H
    have p6 : 0 ≤ (x8_1 : Int) := of_decide_eq_true (by first | (with_reducible assumption) | assumption)
    have q6 : x8_1 < (a0.size : Int) := of_decide_eq_true (by first | (with_reducible assumption) | assumption)
    have hx6 := bt_at a0 x8_1
    replace p6 := eq_true p6
    replace q6 := eq_true q6
    go_wp2
    go_ret
    exact ⟨by first | rfl | (simp; done) | (simp [*]; done), by repeat (first | exact Drawn0.refl _ | apply Drawn0.step)⟩
  rw [if_pos c17] at H
  have c17b0 : decide ((bt a0 x8_1) ≤ 57) = true := decide_eq_true c17
  clear c17
  have H' := Aside0.mk H
  clear H
  have p6 : 0 ≤ (x8_1 : Int) := of_decide_eq_true (by first | (with_reducible assumption) | assumption)
  have q6 : x8_1 < (a0.size : Int) := of_decide_eq_true (by first | (with_reducible assumption) | assumption)
  have hx6 := bt_at a0 x8_1
  replace p6 := eq_true p6
  replace q6 := eq_true q6
  go_wp2
  go_roundg k1
  case measure => have := HK1.out; omega
  case rel => exact ⟨(wrap64 (x8_1 + 1)), (by first | rfl | (simp; done) | (simp [*]; done)), H', ⟨by have := HK1.out; omega⟩, by repeat (first | exact Drawn0.refl _ | apply Drawn0.step)⟩

end Go.Proofs.YtgkjoodlcojkkaaDoor.QD
end
section
-- written by a program of this session (wip/tools): the functions that the laws reach, as plain Lean, and their walks
namespace Go.Proofs.YtgkjoodlcojkkaaDoor.QD
open Go.RowKit Go.Proofs.YtgkjoodlcojkkaaDoorW.PrintWords Go.Proofs.YtgkjoodlcojkkaaDoorW.PrintLast Go.Proofs.YtgkjoodlcojkkaaDoorW.PrintMore
attribute [local go_sem] max2_int min2_int max_two min_two max_three min_three max_four min_four   -- for this text's walks alone
set_option linter.unusedVariables false
set_option linter.unusedSimpArgs false

/-! ### swingbridgeref7_Name: function 18 -/
def swingbridgeref7_Name.l0 : Nat → ByteArray → Int → Option (Bool)
  | 0, _, _ => none
  | k + 1, x0, x3 => if x3 < (x0.size : Int) then (if 0 ≤ x3 then (if (bt x0 x3) < 97 then (if (bt x0 x3) < 48 then (some false) else (if (bt x0 x3) > 57 then (some false) else (if x3 = 0 then (some false) else (swingbridgeref7_Name.l0 k x0 (wrap64 (x3 + 1)))))) else (if (bt x0 x3) > 122 then (if (bt x0 x3) < 48 then (some false) else (if (bt x0 x3) > 57 then (some false) else (if x3 = 0 then (some false) else (swingbridgeref7_Name.l0 k x0 (wrap64 (x3 + 1)))))) else (swingbridgeref7_Name.l0 k x0 (wrap64 (x3 + 1))))) else (none)) else (if (x0.size : Int) ≥ 1 then (some (decide ((x0.size : Int) ≤ 8))) else (some false))
def swingbridgeref7_Name.f (k : Nat) (a0 : ByteArray) : Option (Bool) := swingbridgeref7_Name.l0 k a0 0
theorem swingbridgeref7_Name.mono_l : ∀ k, (∀ y0 y1, LeO (swingbridgeref7_Name.l0 k y0 y1) (swingbridgeref7_Name.l0 (k + 1) y0 y1))
  | 0 => fun _ _ r h => by simp [swingbridgeref7_Name.l0] at h
  | k + 1 => by
    have ih0 := swingbridgeref7_Name.mono_l k
    · intro y0 y1
      unfold swingbridgeref7_Name.l0
      repeat' first
      | (with_reducible exact ih0 _ _)
      | (with_reducible exact LeO.refl _)
      | (with_reducible exact LeO.none _)
      | (with_reducible refine LeO.ite ?_ ?_)
      | (with_reducible refine LeO.bind ?_ (fun _ => ?_))
      | exact ih0 _ _
      | exact LeO.none _
      | refine LeO.ite ?_ ?_
      | refine LeO.bind ?_ (fun _ => ?_)
theorem swingbridgeref7_Name.mono : ∀ a0 k, LeO (swingbridgeref7_Name.f k a0) (swingbridgeref7_Name.f (k + 1) a0) := by
  intro a0 k
  have ih0 := swingbridgeref7_Name.mono_l k
  unfold swingbridgeref7_Name.f
  repeat' first
      | (with_reducible exact ih0 _ _)
      | (with_reducible exact LeO.refl _)
      | (with_reducible exact LeO.none _)
      | (with_reducible refine LeO.ite ?_ ?_)
      | (with_reducible refine LeO.bind ?_ (fun _ => ?_))
      | exact ih0 _ _
      | exact LeO.none _
      | refine LeO.ite ?_ ?_
      | refine LeO.bind ?_ (fun _ => ?_)
set_option maxHeartbeats 8000000 in
set_option maxRecDepth 100000 in
theorem swingbridgeref7_Name.calls (k : Nat) (a0 : ByteArray) (r : Bool) (w : World) (h : swingbridgeref7_Name.f k a0 = some r) :
    Calls Tryd.prog 18 #[.string a0] w fun e w' => e = .returned (.bool r) ∧ Drawn0 w w' := by
  have H : (swingbridgeref7_Name.l0 k a0 0) = some r := h
  clear h
  have H' := Aside0.mk H
  clear H
  go_enter Tryd.func18, Tryd.ntmps18
  go_wp2
  go_loopg [3] k (fun kq v3 w' => ∃ (x3_1 : Int), v3 = .int .i64 x3_1 ∧ Aside0 (swingbridgeref7_Name.l0 kq a0 x3_1 = some r) ∧ Aside0 (kq ≤ k) ∧ Drawn0 w w')
  case atStart => exact ⟨(0), (by first | rfl | (simp; done) | (simp [*]; done)), H', ⟨Nat.le_refl _⟩, by repeat (first | exact Drawn0.refl _ | apply Drawn0.step)⟩
  clear H'
  (try clear c1)
  obtain ⟨x3_1, rfl, HA, HK1, ⟨m1, rfl⟩⟩ := hrel
  cases gk with
  | zero => exact absurd HA.out (by simp [swingbridgeref7_Name.l0])
  | succ k1 => ?_
  have H := HA.out
  clear HA
  simp only [swingbridgeref7_Name.l0] at H
  by_cases c2 : x3_1 < (a0.size : Int)
  rotate_left
  · rw [if_neg c2] at H
    have c2b0 : decide (x3_1 < (a0.size : Int)) = false := decide_eq_false c2
    clear c2
    by_cases c3 : (a0.size : Int) ≥ 1
    rotate_left
    · rw [if_neg c3] at H
      have c3b0 : decide (1 ≤ (a0.size : Int)) = false := decide_eq_false c3
      have c3b1 : decide (1 ≤ a0.size) = false := decide_eq_false (by omega)
      clear c3
      obtain rfl := Option.some.inj H
      go_wp2
      go_ret
      exact ⟨by first | rfl | (simp; done) | (simp [*]; done), by repeat (first | exact Drawn0.refl _ | apply Drawn0.step)⟩
    rw [if_pos c3] at H
    have c3b0 : decide (1 ≤ (a0.size : Int)) = true := decide_eq_true c3
    have c3b1 : decide (1 ≤ a0.size) = true := decide_eq_true (by omega)
    clear c3
    obtain rfl := Option.some.inj H
    go_wp2
    go_ret
    exact ⟨by first | rfl | (simp; done) | (simp [*]; done), by repeat (first | exact Drawn0.refl _ | apply Drawn0.step)⟩
  rw [if_pos c2] at H
  have c2b0 : decide (x3_1 < (a0.size : Int)) = true := decide_eq_true c2
  clear c2
  by_cases c4 : 0 ≤ x3_1
  rotate_left
  · rw [if_neg c4] at H
    exact absurd H (by simp)
  rw [if_pos c4] at H
  have c4b0 : decide (0 ≤ x3_1) = true := decide_eq_true c4
  clear c4
  by_cases c6 : (bt a0 x3_1) < 97
  · rw [if_pos c6] at H
    have c6b0 : decide ((bt a0 x3_1) < 97) = true := decide_eq_true c6
    clear c6
    by_cases c7 : (bt a0 x3_1) < 48
    · rw [if_pos c7] at H
      have c7b0 : decide ((bt a0 x3_1) < 48) = true := decide_eq_true c7
      clear c7
      obtain rfl := Option.some.inj H
      have p5 : 0 ≤ (x3_1 : Int) := of_decide_eq_true (by first | (with_reducible assumption) | assumption)
      have q5 : x3_1 < (a0.size : Int) := of_decide_eq_true (by first | (with_reducible assumption) | assumption)
      have hx5 := bt_at a0 x3_1
      replace p5 := eq_true p5
      replace q5 := eq_true q5
      go_wp2
      go_ret
      exact ⟨by first | rfl | (simp; done) | (simp [*]; done), by repeat (first | exact Drawn0.refl _ | apply Drawn0.step)⟩
    rw [if_neg c7] at H
    have c7b0 : decide ((bt a0 x3_1) < 48) = false := decide_eq_false c7
    clear c7
    by_cases c8 : (bt a0 x3_1) > 57
    · rw [if_pos c8] at H
      have c8b0 : decide (57 < (bt a0 x3_1)) = true := decide_eq_true c8
      clear c8
      obtain rfl := Option.some.inj H
      have p5 : 0 ≤ (x3_1 : Int) := of_decide_eq_true (by first | (with_reducible assumption) | assumption)
      have q5 : x3_1 < (a0.size : Int) := of_decide_eq_true (by first | (with_reducible assumption) | assumption)
      have hx5 := bt_at a0 x3_1
      replace p5 := eq_true p5
      replace q5 := eq_true q5
      go_wp2
      go_ret
      exact ⟨by first | rfl | (simp; done) | (simp [*]; done), by repeat (first | exact Drawn0.refl _ | apply Drawn0.step)⟩
    rw [if_neg c8] at H
    have c8b0 : decide (57 < (bt a0 x3_1)) = false := decide_eq_false c8
    clear c8
    by_cases c9 : x3_1 = 0
    rotate_left
    · rw [if_neg c9] at H
      have c9b0 : (x3_1 == 0) = false := beq_eq_false_iff_ne.mpr c9
      have c9b1 : (x3_1 != 0) = true := bne_iff_ne.mpr c9
      have H' := Aside0.mk H
      clear H
      have p5 : 0 ≤ (x3_1 : Int) := of_decide_eq_true (by first | (with_reducible assumption) | assumption)
      have q5 : x3_1 < (a0.size : Int) := of_decide_eq_true (by first | (with_reducible assumption) | assumption)
      have hx5 := bt_at a0 x3_1
      replace p5 := eq_true p5
      replace q5 := eq_true q5
      go_wp2
      go_roundg k1
      case measure => have := HK1.out; omega
      case rel => exact ⟨(wrap64 (x3_1 + 1)), (by first | rfl | (simp; done) | (simp [*]; done)), H', ⟨by have := HK1.out; omega⟩, by repeat (first | exact Drawn0.refl _ | apply Drawn0.step)⟩
    rw [if_pos c9] at H
    have c9b0 : (x3_1 == 0) = true := beq_iff_eq.mpr c9
    have c9b1 : (x3_1 != 0) = false := bne_eq_false_iff_eq.mpr c9
    clear c9
    obtain rfl := Option.some.inj H
    have p5 : 0 ≤ (x3_1 : Int) := of_decide_eq_true (by first | (with_reducible assumption) | assumption)
    have q5 : x3_1 < (a0.size : Int) := of_decide_eq_true (by first | (with_reducible assumption) | assumption)
    have hx5 := bt_at a0 x3_1
    replace p5 := eq_true p5
    replace q5 := eq_true q5
    go_wp2
    go_ret
    exact ⟨by first | rfl | (simp; done) | (simp [*]; done), by repeat (first | exact Drawn0.refl _ | apply Drawn0.step)⟩
  rw [if_neg c6] at H
  have c6b0 : decide ((bt a0 x3_1) < 97) = false := decide_eq_false c6
  clear c6
  by_cases c10 : (bt a0 x3_1) > 122
  rotate_left
  · rw [if_neg c10] at H
    have c10b0 : decide (122 < (bt a0 x3_1)) = false := decide_eq_false c10
    clear c10
    have H' := Aside0.mk H
    clear H
    have p5 : 0 ≤ (x3_1 : Int) := of_decide_eq_true (by first | (with_reducible assumption) | assumption)
    have q5 : x3_1 < (a0.size : Int) := of_decide_eq_true (by first | (with_reducible assumption) | assumption)
    have hx5 := bt_at a0 x3_1
    replace p5 := eq_true p5
    replace q5 := eq_true q5
    go_wp2
    go_roundg k1
    case measure => have := HK1.out; omega
    case rel => exact ⟨(wrap64 (x3_1 + 1)), (by first | rfl | (simp; done) | (simp [*]; done)), H', ⟨by have := HK1.out; omega⟩, by repeat (first | exact Drawn0.refl _ | apply Drawn0.step)⟩
  rw [if_pos c10] at H
  have c10b0 : decide (122 < (bt a0 x3_1)) = true := decide_eq_true c10
  clear c10
  by_cases c11 : (bt a0 x3_1) < 48
  · rw [if_pos c11] at H
    have c11b0 : decide ((bt a0 x3_1) < 48) = true := decide_eq_true c11
    clear c11
    obtain rfl := Option.some.inj H
    have p5 : 0 ≤ (x3_1 : Int) := of_decide_eq_true (by first | (with_reducible assumption) | assumption)
    have q5 : x3_1 < (a0.size : Int) := of_decide_eq_true (by first | (with_reducible assumption) | assumption)
    have hx5 := bt_at a0 x3_1
    replace p5 := eq_true p5
    replace q5 := eq_true q5
    go_wp2
    go_ret
    exact ⟨by first | rfl | (simp; done) | (simp [*]; done), by repeat (first | exact Drawn0.refl _ | apply Drawn0.step)⟩
  rw [if_neg c11] at H
  have c11b0 : decide ((bt a0 x3_1) < 48) = false := decide_eq_false c11
  clear c11
  by_cases c12 : (bt a0 x3_1) > 57
  · rw [if_pos c12] at H
    have c12b0 : decide (57 < (bt a0 x3_1)) = true := decide_eq_true c12
    clear c12
    obtain rfl := Option.some.inj H
    have p5 : 0 ≤ (x3_1 : Int) := of_decide_eq_true (by first | (with_reducible assumption) | assumption)
    have q5 : x3_1 < (a0.size : Int) := of_decide_eq_true (by first | (with_reducible assumption) | assumption)
    have hx5 := bt_at a0 x3_1
    replace p5 := eq_true p5
    replace q5 := eq_true q5
    go_wp2
    go_ret
    exact ⟨by first | rfl | (simp; done) | (simp [*]; done), by repeat (first | exact Drawn0.refl _ | apply Drawn0.step)⟩
  rw [if_neg c12] at H
  have c12b0 : decide (57 < (bt a0 x3_1)) = false := decide_eq_false c12
  clear c12
  by_cases c13 : x3_1 = 0
  rotate_left
  · rw [if_neg c13] at H
    have c13b0 : (x3_1 == 0) = false := beq_eq_false_iff_ne.mpr c13
    have c13b1 : (x3_1 != 0) = true := bne_iff_ne.mpr c13
    have H' := Aside0.mk H
    clear H
    have p5 : 0 ≤ (x3_1 : Int) := of_decide_eq_true (by first | (with_reducible assumption) | assumption)
    have q5 : x3_1 < (a0.size : Int) := of_decide_eq_true (by first | (with_reducible assumption) | assumption)
    have hx5 := bt_at a0 x3_1
    replace p5 := eq_true p5
    replace q5 := eq_true q5
    go_wp2
    go_roundg k1
    case measure => have := HK1.out; omega
    case rel => exact ⟨(wrap64 (x3_1 + 1)), (by first | rfl | (simp; done) | (simp [*]; done)), H', ⟨by have := HK1.out; omega⟩, by repeat (first | exact Drawn0.refl _ | apply Drawn0.step)⟩
  rw [if_pos c13] at H
  have c13b0 : (x3_1 == 0) = true := beq_iff_eq.mpr c13
  have c13b1 : (x3_1 != 0) = false := bne_eq_false_iff_eq.mpr c13
  clear c13
  obtain rfl := Option.some.inj H
  have p5 : 0 ≤ (x3_1 : Int) := of_decide_eq_true (by first | (with_reducible assumption) | assumption)
  have q5 : x3_1 < (a0.size : Int) := of_decide_eq_true (by first | (with_reducible assumption) | assumption)
  have hx5 := bt_at a0 x3_1
  replace p5 := eq_true p5
  replace q5 := eq_true q5
  go_wp2
  go_ret
  exact ⟨by first | rfl | (simp; done) | (simp [*]; done), by repeat (first | exact Drawn0.refl _ | apply Drawn0.step)⟩

end Go.Proofs.YtgkjoodlcojkkaaDoor.QD
end
section
-- written by a program of this session (wip/tools): the functions that the laws reach, as plain Lean, and their walks
namespace Go.Proofs.YtgkjoodlcojkkaaDoor.QD
open Go.RowKit Go.Proofs.YtgkjoodlcojkkaaDoorW.PrintWords Go.Proofs.YtgkjoodlcojkkaaDoorW.PrintLast Go.Proofs.YtgkjoodlcojkkaaDoorW.PrintMore
attribute [local go_sem] max2_int min2_int max_two min_two max_three min_three max_four min_four   -- for this text's walks alone
set_option linter.unusedVariables false
set_option linter.unusedSimpArgs false

/-! ### words_Text: function 19 -/
def words_Text.f (a0 : Int) : Option (ByteArray) := if a0 < 0 then (some (⟨#[]⟩ : ByteArray)) else (if a0 > 9999999 then (some (⟨#[]⟩ : ByteArray)) else ((strconv_Itoa_28.f a0).bind fun t156 => (some t156)))
set_option maxHeartbeats 8000000 in
set_option maxRecDepth 100000 in
theorem words_Text.calls (a0 : Int) (r : ByteArray) (w : World) (hG : Glob w) (h : words_Text.f a0 = some r) :
    Calls Tryd.prog 19 #[.int .i64 a0] w fun e w' => e = .returned (.string r) ∧ Below w.heap.size w w' := by
  have HG := Aside0.mk hG
  clear hG
  have HB := Aside0.mk (Below.refl w.heap.size w)
  have H : (if a0 < 0 then (some (⟨#[]⟩ : ByteArray)) else (if a0 > 9999999 then (some (⟨#[]⟩ : ByteArray)) else ((strconv_Itoa_28.f a0).bind fun t156 => (some t156)))) = some r := h
  clear h
  by_cases c2 : a0 < 0
  · rw [if_pos c2] at H
    have c2b0 : decide (a0 < 0) = true := decide_eq_true c2
    clear c2
    obtain rfl := Option.some.inj H
    go_enter Tryd.func19, Tryd.ntmps19
    go_wp2
    go_ret
    exact ⟨by first | rfl | (simp [errW_none, errW_some] <;> rfl) | (simp [*, errW_none, errW_some] <;> rfl), HB.out⟩
  rw [if_neg c2] at H
  have c2b0 : decide (a0 < 0) = false := decide_eq_false c2
  clear c2
  by_cases c3 : a0 > 9999999
  · rw [if_pos c3] at H
    have c3b0 : decide (9999999 < a0) = true := decide_eq_true c3
    clear c3
    obtain rfl := Option.some.inj H
    go_enter Tryd.func19, Tryd.ntmps19
    go_wp2
    go_ret
    exact ⟨by first | rfl | (simp [errW_none, errW_some] <;> rfl) | (simp [*, errW_none, errW_some] <;> rfl), HB.out⟩
  rw [if_neg c3] at H
  have c3b0 : decide (9999999 < a0) = false := decide_eq_false c3
  clear c3
  replace H := Option.bind_eq_some_iff.mp H
  obtain ⟨t156, A40, H⟩ := H
  replace H : (some t156) = some r := H
  have A4 := Aside0.mk A40
  clear A40
  obtain rfl := Option.some.inj H
  go_enter Tryd.func19, Tryd.ntmps19
  go_wp2_with (first | ((with_reducible refine gate_callee (f := 28) rfl ?_); refine goesL_ (some 10) rfl rfl Tryd.func28 (by kernel_rfl) rfl #[.int .i64 a0] rfl (by (try simp only [List.map_toArray, List.map_cons, List.map_nil]); first | done | rfl | (simp only [List.length_drop, List.length_take]; rfl)) ?_; (with_reducible refine (strconv_Itoa_28.calls a0 t156 _ ?side1 A4.out).mono ?_); (case side1 => first | exact Glob.below HG.out (HB.out) | (repeat (first | exact Glob.below HG.out HB.out | (with_reducible refine Glob.alloc ?_ _) | (with_reducible refine Glob.drewN ?_ _) | (with_reducible refine Glob.drew ?_)))); rintro e w5 ⟨rfl, hb⟩; refine ⟨_, rfl, ?_⟩; have n0_ := Aside0.mk (below_step (HB.out) hb); clear HB; have HB := n0_; clear n0_; (try clear hb); (try clear hb2); (try clear hk); (try clear hi)))
  go_ret
  exact ⟨by first | rfl | (simp [errW_none, errW_some] <;> rfl) | (simp [*, errW_none, errW_some] <;> rfl), HB.out⟩

end Go.Proofs.YtgkjoodlcojkkaaDoor.QD
end
section
-- written by a program of this session (wip/tools): the functions that the laws reach, as plain Lean, and their walks
namespace Go.Proofs.YtgkjoodlcojkkaaDoor.QD
open Go.RowKit Go.Proofs.YtgkjoodlcojkkaaDoorW.PrintWords Go.Proofs.YtgkjoodlcojkkaaDoorW.PrintLast Go.Proofs.YtgkjoodlcojkkaaDoorW.PrintMore
attribute [local go_sem] max2_int min2_int max_two min_two max_three min_three max_four min_four   -- for this text's walks alone
set_option linter.unusedVariables false
set_option linter.unusedSimpArgs false

/-! ### swingbridgeref7_Text: function 20 -/
mutual
def swingbridgeref7_Text.j0 : Nat → Int → Bool → Option (ByteArray)
  | 0, _, _ => none
  | k + 1, x0, x8 => if x8 = true then (some (⟨#[]⟩ : ByteArray)) else (if x0 < 10 then (some (strOfNums (([(wrap64 (48 + x0)) % 256] : List Int)))) else ((swingbridgeref7_Text.f k (wrap64 (Int.tdiv x0 10))).bind fun t199 => ((some (([(wrap64 (48 + (Int.tmod x0 10))) % 256] : List Int) : List Int)).bind fun y200 => (if t199.size + (strOfNums y200).size ≤ 9223372036854775807 then (some (t199 ++ (strOfNums y200))) else (none)))))
def swingbridgeref7_Text.f : Nat → Int → Option (ByteArray)
  | 0, _ => none
  | k + 1, a0 => if a0 < 0 then (swingbridgeref7_Text.j0 k a0 true) else (swingbridgeref7_Text.j0 k a0 (decide (a0 > 9999999)))
end
theorem swingbridgeref7_Text.mono_l : ∀ k, (∀ y0, LeO (swingbridgeref7_Text.f k y0) (swingbridgeref7_Text.f (k + 1) y0)) ∧ (∀ y0 y1, LeO (swingbridgeref7_Text.j0 k y0 y1) (swingbridgeref7_Text.j0 (k + 1) y0 y1))
  | 0 => ⟨fun _ r h => by simp [swingbridgeref7_Text.f] at h, fun _ _ r h => by simp [swingbridgeref7_Text.j0] at h⟩
  | k + 1 => by
    obtain ⟨ih0, ih1⟩ := swingbridgeref7_Text.mono_l k
    refine ⟨?_, ?_⟩
    · intro y0
      unfold swingbridgeref7_Text.f
      repeat' first
      | (with_reducible exact ih0 _)
      | (with_reducible exact ih1 _ _)
      | (with_reducible exact LeO.refl _)
      | (with_reducible exact LeO.none _)
      | (with_reducible refine LeO.ite ?_ ?_)
      | (with_reducible refine LeO.bind ?_ (fun _ => ?_))
      | exact ih0 _
      | exact ih1 _ _
      | exact LeO.none _
      | refine LeO.ite ?_ ?_
      | refine LeO.bind ?_ (fun _ => ?_)
    · intro y0 y1
      unfold swingbridgeref7_Text.j0
      repeat' first
      | (with_reducible exact ih0 _)
      | (with_reducible exact ih1 _ _)
      | (with_reducible exact LeO.refl _)
      | (with_reducible exact LeO.none _)
      | (with_reducible refine LeO.ite ?_ ?_)
      | (with_reducible refine LeO.bind ?_ (fun _ => ?_))
      | exact ih0 _
      | exact ih1 _ _
      | exact LeO.none _
      | refine LeO.ite ?_ ?_
      | refine LeO.bind ?_ (fun _ => ?_)
theorem swingbridgeref7_Text.mono : ∀ a0 k, LeO (swingbridgeref7_Text.f k a0) (swingbridgeref7_Text.f (k + 1) a0) := by
  intro a0 k
  obtain ⟨ih0, ih1⟩ := swingbridgeref7_Text.mono_l k
  exact ih0 a0
def swingbridgeref7_Text.T5 : Bool × List (List Nat × List Nat) := (true, [([], []), ([0], [0]), ([1], [1]), ([], []), ([3], [3]), ([4], [4]), ([5], [5]), ([6], [6]), ([7], [7]), ([2, 8], [2, 8]), ([9, 2, 0, 1, 2, 3, 4, 5, 6, 7, 8, 9], [9])])
def swingbridgeref7_Text.B5 : List Nat := [0, 1, 3, 0, 8, 24, 56, 120, 248, 511, 1023]
theorem swingbridgeref7_Text.tab5 : rtab .any (opsOf Tryd.f20 5) = swingbridgeref7_Text.T5 := by kernel_rfl
theorem swingbridgeref7_Text.bits5 : waitsOk swingbridgeref7_Text.T5.2 swingbridgeref7_Text.B5 = true := by kernel_rfl
set_option maxHeartbeats 8000000 in
set_option maxRecDepth 100000 in
theorem swingbridgeref7_Text.calls (k : Nat) : ∀ (a0 : Int) (r : ByteArray) (w : World) (h : swingbridgeref7_Text.f k a0 = some r),
    Calls Tryd.prog 20 #[.int .i64 a0] w fun e w' => e = .returned (.string r) ∧ Below w.heap.size w w' := by
  induction k using Nat.strongRecOn with
  | _ k ih =>
  intro a0 r w h
  cases k with
  | zero => exact absurd h (by simp [swingbridgeref7_Text.f])
  | succ k =>
  simp only [swingbridgeref7_Text.f] at h
  have HB := Aside0.mk (Below.refl w.heap.size w)
  have H : (if a0 < 0 then (swingbridgeref7_Text.j0 k a0 true) else (swingbridgeref7_Text.j0 k a0 (decide (a0 > 9999999)))) = some r := h
  clear h
  have HC2 := Aside0.mk H
  clear H
  go_enter Tryd.func20, Tryd.ntmps20
  go_upto_region 1 with (fail)
  go_cut [8] (fun v8 wc => ∃ (kq : Nat) (x8_1 : Bool), v8 = .bool x8_1 ∧ Aside0 (swingbridgeref7_Text.j0 kq a0 x8_1 = some r) ∧ Aside0 (kq ≤ k) ∧ Aside0 (Below w.heap.size w wc))
  case first =>
    have H := HC2.out
    clear HC2
    by_cases c3 : a0 < 0
    rotate_left
    · rw [if_neg c3] at H
      have c3b0 : decide (a0 < 0) = false := decide_eq_false c3
      clear c3
      (first | rw [c3b0] | (simp only [i64_w, i32_w]; rw [c3b0]) | skip)
      have H' := Aside0.mk H
      clear H
      go_wp2
      go_meet
      case rel => exact ⟨_, (decide (a0 > 9999999)), (by first | rfl | (simp; done) | (simp [*]; done)), H', ⟨by first | omega | exact Nat.le_refl _⟩, ⟨HB.out⟩⟩
    rw [if_pos c3] at H
    have c3b0 : decide (a0 < 0) = true := decide_eq_true c3
    clear c3
    (first | rw [c3b0] | (simp only [i64_w, i32_w]; rw [c3b0]) | skip)
    have H' := Aside0.mk H
    clear H
    go_wp2
    go_meet
    case rel => exact ⟨_, (true), (by first | rfl | (simp; done) | (simp [*]; done)), H', ⟨by first | omega | exact Nat.le_refl _⟩, ⟨HB.out⟩⟩
  clear HC2
  (try clear c2); (try clear p2); (try clear c3); (try clear c3b0)
  obtain ⟨kq, x8_1, rfl, HA, HJ1, HB⟩ := hcut
  cases kq with
  | zero => exact absurd HA.out (by simp [swingbridgeref7_Text.j0])
  | succ kj1 => ?_
  have H := HA.out
  clear HA
  simp only [swingbridgeref7_Text.j0] at H
  by_cases c4 : x8_1 = true
  · subst c4
    have H1 : (some (⟨#[]⟩ : ByteArray)) = some r := by rw [if_pos rfl] at H; exact H
    clear H
    have H := H1
    clear H1
    obtain rfl := Option.some.inj H
    go_wp2
    go_ret
    exact ⟨by first | rfl | (simp [errW_none, errW_some] <;> rfl) | (simp [*, errW_none, errW_some] <;> rfl), HB.out⟩
  replace c4 := Bool.eq_false_iff.mpr c4
  subst c4
  have H1 : (if a0 < 10 then (some (strOfNums (([(wrap64 (48 + a0)) % 256] : List Int)))) else ((swingbridgeref7_Text.f kj1 (wrap64 (Int.tdiv a0 10))).bind fun t199 => ((some (([(wrap64 (48 + (Int.tmod a0 10))) % 256] : List Int) : List Int)).bind fun y200 => (if t199.size + (strOfNums y200).size ≤ 9223372036854775807 then (some (t199 ++ (strOfNums y200))) else (none))))) = some r := by rw [if_neg (show ¬ (false = true) by decide)] at H; exact H
  clear H
  have H := H1
  clear H1
  by_cases c5 : a0 < 10
  · rw [if_pos c5] at H
    have c5b0 : decide (a0 < 10) = true := decide_eq_true c5
    clear c5
    obtain ⟨y196, hy196⟩ : ∃ y_ : List Int, y_ = (([(wrap64 (48 + a0)) % 256] : List Int)) := ⟨_, rfl⟩
    replace H : (some (strOfNums y196)) = some r := by first | (rw [hy196]; with_reducible exact H) | (have H2_ := (Option.bind_some _ _).symm.trans H; rw [hy196]; with_reducible exact H2_) | (have H2_ := (Option.bind_some _ _).symm.trans H; with_reducible exact H2_) | with_reducible exact H | (rw [hy196]; exact H) | exact H
    have Ny196 := Aside0.mk hy196
    clear hy196
    obtain rfl := Option.some.inj H
    go_wp2_with (first | ((with_reducible refine gate_dst (N := 14) rfl ?_); refine Kd.R_lit (Kd.int .u8) _ 5 ?hg (N := 14) ?hd (xs := ([(wrap64 (48 + a0)) % 256] : List Int)) (inner := [.int .u8 ((wrap64 (48 + a0)) % 256)]) (ok := fun _ => True) (okp := fun _ => True) ?hr ?hp (fun _ hk => hk) trivial (Below.refl _ _) (Nat.le_refl _) (by simp) ?_; (case hd => rfl); (case hg => rfl); (case hr => first | (go_simp; done) | (go_simp; rfl)); (case hp => exact (Reps.one (show Kd.M (Kd.int .u8) _ _ _ ((wrap64 (48 + a0)) % 256) [.int .u8 ((wrap64 (48 + a0)) % 256)] from rfl) (Reps.none _ _))); intro v197 w6 ho7 hb hg_ hnew_; clear hg_ hnew_; (first | rw [← Ny196.out] at ho7 | (simp only [Int.reduceToNat] at ho7; rw [← Ny196.out] at ho7)); have n0_ := Aside0.mk (Kd.R_lower ho7 (below_size (HB.out))); have n1_ := Aside0.mk (below_step (HB.out) hb); clear HB; have HO198 := n0_; have HB := n1_; clear n0_ n1_; clear hb ho7; have hcv8 := own_string (P := Tryd.prog) Tryd.underlying55 Tryd.underlying5 Tryd.underlying9 (Kd.own_of_R HO198.out)))
    go_ret
    exact ⟨by first | rfl | (simp [errW_none, errW_some] <;> rfl) | (simp [*, errW_none, errW_some] <;> rfl), HB.out⟩
  rw [if_neg c5] at H
  have c5b0 : decide (a0 < 10) = false := decide_eq_false c5
  clear c5
  replace H := Option.bind_eq_some_iff.mp H
  obtain ⟨t199, A90, H⟩ := H
  replace H : ((some (([(wrap64 (48 + (Int.tmod a0 10))) % 256] : List Int) : List Int)).bind fun y200 => (if t199.size + (strOfNums y200).size ≤ 9223372036854775807 then (some (t199 ++ (strOfNums y200))) else (none))) = some r := H
  have A9 := Aside0.mk A90
  clear A90
  obtain ⟨y200, hy200⟩ : ∃ y_ : List Int, y_ = (([(wrap64 (48 + (Int.tmod a0 10))) % 256] : List Int)) := ⟨_, rfl⟩
  replace H : (if t199.size + (strOfNums y200).size ≤ 9223372036854775807 then (some (t199 ++ (strOfNums y200))) else (none)) = some r := by first | (rw [hy200]; with_reducible exact H) | (have H2_ := (Option.bind_some _ _).symm.trans H; rw [hy200]; with_reducible exact H2_) | (have H2_ := (Option.bind_some _ _).symm.trans H; with_reducible exact H2_) | with_reducible exact H | (rw [hy200]; exact H) | exact H
  have Ny200 := Aside0.mk hy200
  clear hy200
  by_cases c10 : t199.size + (strOfNums y200).size ≤ 9223372036854775807
  rotate_left
  · rw [if_neg c10] at H
    exact absurd H (by simp)
  rw [if_pos c10] at H
  have c10b0 := eq_true c10
  have c10b1 : decide (t199.size + (strOfNums y200).size ≤ 9223372036854775807) = true := decide_eq_true c10
  try have c10b2 : (9223372036854775807 < t199.size + (strOfNums y200).size) = False := eq_false (Nat.not_lt.2 c10)
  obtain rfl := Option.some.inj H
  try go_wp2
  have n0_ := Aside0.mk (below_drew1 HB.out)
  clear HB
  have HB := n0_
  clear n0_
  refine start_ (n := 11) (S := fun w' => True) (ds := []) (bs 11 0) (by kernel_rfl) rfl rfl trivial (fun hHeld => ?_); refine with_tabW swingbridgeref7_Text.tab5 swingbridgeref7_Text.bits5 (fun HT_ HW_ => ?_)
  generalize wc.drew = w11 at HB hHeld ⊢
  refine pure_ (i := 0) (N := some 16) (v := ?_) (a' := ?_) (bs 11 1) rfl rfl (any_of HT_.out (by kernel_rfl)) (fun _ _ _ h => h) (Or.inl ⟨by rfl, ?_⟩) ?_ ?_
  rotate_left
  · intro w'
    go_simp
    with_reducible rfl
  rotate_left
  · simp only [Act.put, List.setIfInBounds_toArray, List.set_cons_zero, List.set_cons_succ, i64_w, i32_w]
    rfl
  refine pure_ (i := 1) (N := some 17) (v := ?_) (a' := ?_) (bs 11 3) rfl rfl (any_of HT_.out (by kernel_rfl)) (fun _ _ _ h => h) (Or.inl ⟨by rfl, ?_⟩) ?_ ?_
  rotate_left
  · intro w'
    go_simp
    with_reducible rfl
  rotate_left
  · simp only [Act.put, List.setIfInBounds_toArray, List.set_cons_zero, List.set_cons_succ, i64_w, i32_w]
    rfl
  refine pure_ (i := 3) (N := some 19) (v := ?_) (a' := ?_) (bs 11 11) rfl rfl (any_of HT_.out (by kernel_rfl)) (fun _ _ _ h => h) (Or.inl ⟨by rfl, ?_⟩) ?_ ?_
  rotate_left
  · intro w'
    go_simp
    with_reducible rfl
  rotate_left
  · simp only [Act.put, List.setIfInBounds_toArray, List.set_cons_zero, List.set_cons_succ, i64_w, i32_w]
    rfl
  refine pure_ (i := 4) (N := some 20) (v := ?_) (a' := ?_) (bs 11 27) rfl rfl (any_of HT_.out (by kernel_rfl)) (fun _ _ _ h => h) (Or.inl ⟨by rfl, ?_⟩) ?_ ?_
  rotate_left
  · intro w'
    go_simp
    with_reducible rfl
  rotate_left
  · simp only [Act.put, List.setIfInBounds_toArray, List.set_cons_zero, List.set_cons_succ, i64_w, i32_w]
    rfl
  refine pure_ (i := 5) (N := some 21) (v := ?_) (a' := ?_) (bs 11 59) rfl rfl (any_of HT_.out (by kernel_rfl)) (fun _ _ _ h => h) (Or.inl ⟨by rfl, ?_⟩) ?_ ?_
  rotate_left
  · intro w'
    go_simp
    with_reducible rfl
  rotate_left
  · simp only [Act.put, List.setIfInBounds_toArray, List.set_cons_zero, List.set_cons_succ, i64_w, i32_w]
    rfl
  refine pure_ (i := 6) (N := some 22) (v := ?_) (a' := ?_) (bs 11 123) rfl rfl (any_of HT_.out (by kernel_rfl)) (fun _ _ _ h => h) (Or.inl ⟨by rfl, ?_⟩) ?_ ?_
  rotate_left
  · intro w'
    go_simp
    with_reducible rfl
  rotate_left
  · simp only [Act.put, List.setIfInBounds_toArray, List.set_cons_zero, List.set_cons_succ, i64_w, i32_w]
    rfl
  refine join_ (σ := Value) 2 (bs 11 511) (fun s_ => [(18, .string t199), (23, s_), (24, .string (strOfNums y200))]) (fun s_ w' => (Kd.R (Kd.int .u8) 5 w' w.heap.size (fun _ => True) s_ y200) ∧ (Below w.heap.size w w')) ?_ ?_
  rotate_left
  · intro hCont
    refine two_ (i := 2) (j := 7) (Ni := some 18) (Nj := some 23) (bs 11 127) (bs 11 251) rfl rfl rfl rfl (two_of HT_.out (by kernel_rfl)) (by decide) (by decide) (fun K hK => ?_) (fun K hK => ?_)
    · skip
      refine goes_ Tryd.func20 (by kernel_rfl) rfl #[.int .i64 (wrap64 (Int.tdiv a0 10))] (by rfl) rfl rfl (by (try simp only [List.map_toArray, List.map_cons, List.map_nil]); first | done | rfl | (simp only [List.length_drop, List.length_take]; rfl)) ?_
      with_reducible refine (ih kj1 (by have := HJ1.out; omega) (wrap64 (Int.tdiv a0 10)) t199 _ A9.out).mono ?_
      rintro e w12 ⟨rfl, hb⟩
      refine ⟨_, rfl, ?_⟩
      have n0_ := Aside0.mk (below_step (HB.out) hb)
      clear HB
      have HB := n0_
      clear n0_
      (try clear hb)
      (try clear hb2)
      (try clear hk)
      (try clear hi)
      refine hK.out _ _ trivial (fun hHeld => ?_)
      clear hK K
      refine norm_ (a' := ?_) ?_ ?_
      rotate_left
      · show Act.put _ (some 18) _ = _
        simp only [Act.put, List.setIfInBounds_toArray, List.set_cons_zero, List.set_cons_succ, i64_w, i32_w]
        rfl
      refine one_ (i := 7) (N := some 23) (bs 11 255) rfl rfl (one_of HT_.out (by kernel_rfl)) (by decide) (fun K hK => ?_)
      refine Kd.R_lit_step (Kd.int .u8) _ 5 ?hg (N := 23) ?hd (xs := ([(wrap64 (48 + (Int.tmod a0 10))) % 256] : List Int)) (inner := [.int .u8 ((wrap64 (48 + (Int.tmod a0 10))) % 256)]) (ok := fun _ => True) (okp := fun _ => True) ?hr ?hp (fun _ hk => hk) trivial (Below.refl _ _) (Nat.le_refl _) (by simp) ?_; (case hd => rfl); (case hg => rfl); (case hr => first | (go_simp; done) | (go_simp; rfl)); (case hp => exact (Reps.one (show Kd.M (Kd.int .u8) _ _ _ ((wrap64 (48 + (Int.tmod a0 10))) % 256) [.int .u8 ((wrap64 (48 + (Int.tmod a0 10))) % 256)] from rfl) (Reps.none _ _)))
      intro v201 w13 ho14 hb hg_ hnew_
      clear hg_ hnew_
      (first | rw [← Ny200.out] at ho14 | (simp only [Int.reduceToNat] at ho14; rw [← Ny200.out] at ho14))
      have n0_ := Aside0.mk (Kd.R_lower ho14 (below_size (HB.out)))
      have n1_ := Aside0.mk (below_step (HB.out) hb)
      clear HB
      have HO202 := n0_
      have HB := n1_
      clear n0_ n1_
      clear hb ho14
      refine hK.out _ _ trivial (fun hHeld => ?_)
      clear hK K
      refine norm_ (a' := ?_) ?_ ?_
      rotate_left
      · show Act.put _ (some 23) _ = _
        simp only [Act.put, List.setIfInBounds_toArray, List.set_cons_zero, List.set_cons_succ, i64_w, i32_w]
        rfl
      refine one_ (i := 8) (N := some 24) (bs 11 511) rfl rfl (one_of HT_.out (by kernel_rfl)) (by decide) (fun K hK => ?_)
      have hcv15 := own_string (P := Tryd.prog) Tryd.underlying55 Tryd.underlying5 Tryd.underlying9 (Kd.own_of_R HO202.out)
      refine value_ (w1 := ?_) (v := ?_) (by rfl) rfl ?_ ?_
      rotate_left 2
      · go_simp
        constructor
        · rfl
        · rfl
      clear hcv15
      refine hK.out _ _ trivial (fun hHeld => ?_)
      clear hK K
      refine norm_ (a' := ?_) ?_ ?_
      rotate_left
      · show Act.put _ (some 24) _ = _
        simp only [Act.put, List.setIfInBounds_toArray, List.set_cons_zero, List.set_cons_succ, i64_w, i32_w]
        rfl
      exact norm_ (by simp only [putAll, Act.put, List.setIfInBounds_toArray, List.set_cons_zero, List.set_cons_succ]) (hCont (v201) _ ⟨(by (with_reducible repeat (first | apply Kd.R_alloc | apply Kd.R_drewN | apply Kd.R_drew)); exact HO202.out), (HB.out)⟩)
    · skip
      refine Kd.R_lit_step (Kd.int .u8) _ 5 ?hg (N := 23) ?hd (xs := ([(wrap64 (48 + (Int.tmod a0 10))) % 256] : List Int)) (inner := [.int .u8 ((wrap64 (48 + (Int.tmod a0 10))) % 256)]) (ok := fun _ => True) (okp := fun _ => True) ?hr ?hp (fun _ hk => hk) trivial (Below.refl _ _) (Nat.le_refl _) (by simp) ?_; (case hd => rfl); (case hg => rfl); (case hr => first | (go_simp; done) | (go_simp; rfl)); (case hp => exact (Reps.one (show Kd.M (Kd.int .u8) _ _ _ ((wrap64 (48 + (Int.tmod a0 10))) % 256) [.int .u8 ((wrap64 (48 + (Int.tmod a0 10))) % 256)] from rfl) (Reps.none _ _)))
      intro v201 w12 ho13 hb hg_ hnew_
      clear hg_ hnew_
      (first | rw [← Ny200.out] at ho13 | (simp only [Int.reduceToNat] at ho13; rw [← Ny200.out] at ho13))
      have n0_ := Aside0.mk (Kd.R_lower ho13 (below_size (HB.out)))
      have n1_ := Aside0.mk (below_step (HB.out) hb)
      clear HB
      have HO202 := n0_
      have HB := n1_
      clear n0_ n1_
      clear hb ho13
      refine hK.out _ _ trivial (fun hHeld => ?_)
      clear hK K
      refine norm_ (a' := ?_) ?_ ?_
      rotate_left
      · show Act.put _ (some 23) _ = _
        simp only [Act.put, List.setIfInBounds_toArray, List.set_cons_zero, List.set_cons_succ, i64_w, i32_w]
        rfl
      refine two_ (i := 2) (j := 8) (Ni := some 18) (Nj := some 24) (bs 11 255) (bs 11 507) rfl rfl rfl rfl (two_of HT_.out (by kernel_rfl)) (by decide) (by decide) (fun K hK => ?_) (fun K hK => ?_)
      · skip
        refine goes_ Tryd.func20 (by kernel_rfl) rfl #[.int .i64 (wrap64 (Int.tdiv a0 10))] (by rfl) rfl rfl (by (try simp only [List.map_toArray, List.map_cons, List.map_nil]); first | done | rfl | (simp only [List.length_drop, List.length_take]; rfl)) ?_
        with_reducible refine (ih kj1 (by have := HJ1.out; omega) (wrap64 (Int.tdiv a0 10)) t199 _ A9.out).mono ?_
        rintro e w14 ⟨rfl, hb⟩
        refine ⟨_, rfl, ?_⟩
        have n0_ := Aside0.mk (Kd.R_below (by (with_reducible repeat (first | apply Kd.R_alloc | apply Kd.R_drewN | apply Kd.R_drew)); exact HO202.out) hb)
        have n1_ := Aside0.mk (below_step (HB.out) hb)
        clear HO202
        clear HB
        have HO202 := n0_
        have HB := n1_
        clear n0_ n1_
        (try clear hb)
        (try clear hb2)
        (try clear hk)
        (try clear hi)
        refine hK.out _ _ trivial (fun hHeld => ?_)
        clear hK K
        refine norm_ (a' := ?_) ?_ ?_
        rotate_left
        · show Act.put _ (some 18) _ = _
          simp only [Act.put, List.setIfInBounds_toArray, List.set_cons_zero, List.set_cons_succ, i64_w, i32_w]
          rfl
        refine one_ (i := 8) (N := some 24) (bs 11 511) rfl rfl (one_of HT_.out (by kernel_rfl)) (by decide) (fun K hK => ?_)
        have hcv15 := own_string (P := Tryd.prog) Tryd.underlying55 Tryd.underlying5 Tryd.underlying9 (Kd.own_of_R HO202.out)
        refine value_ (w1 := ?_) (v := ?_) (by rfl) rfl ?_ ?_
        rotate_left 2
        · go_simp
          constructor
          · rfl
          · rfl
        clear hcv15
        refine hK.out _ _ trivial (fun hHeld => ?_)
        clear hK K
        refine norm_ (a' := ?_) ?_ ?_
        rotate_left
        · show Act.put _ (some 24) _ = _
          simp only [Act.put, List.setIfInBounds_toArray, List.set_cons_zero, List.set_cons_succ, i64_w, i32_w]
          rfl
        exact norm_ (by simp only [putAll, Act.put, List.setIfInBounds_toArray, List.set_cons_zero, List.set_cons_succ]) (hCont (v201) _ ⟨(by (with_reducible repeat (first | apply Kd.R_alloc | apply Kd.R_drewN | apply Kd.R_drew)); exact HO202.out), (HB.out)⟩)
      · skip
        have hcv14 := own_string (P := Tryd.prog) Tryd.underlying55 Tryd.underlying5 Tryd.underlying9 (Kd.own_of_R HO202.out)
        refine value_ (w1 := ?_) (v := ?_) (by rfl) rfl ?_ ?_
        rotate_left 2
        · go_simp
          constructor
          · rfl
          · rfl
        clear hcv14
        refine hK.out _ _ trivial (fun hHeld => ?_)
        clear hK K
        refine norm_ (a' := ?_) ?_ ?_
        rotate_left
        · show Act.put _ (some 24) _ = _
          simp only [Act.put, List.setIfInBounds_toArray, List.set_cons_zero, List.set_cons_succ, i64_w, i32_w]
          rfl
        refine one_ (i := 2) (N := some 18) (bs 11 511) rfl rfl (one_of HT_.out (by kernel_rfl)) (by decide) (fun K hK => ?_)
        refine goes_ Tryd.func20 (by kernel_rfl) rfl #[.int .i64 (wrap64 (Int.tdiv a0 10))] (by rfl) rfl rfl (by (try simp only [List.map_toArray, List.map_cons, List.map_nil]); first | done | rfl | (simp only [List.length_drop, List.length_take]; rfl)) ?_
        with_reducible refine (ih kj1 (by have := HJ1.out; omega) (wrap64 (Int.tdiv a0 10)) t199 _ A9.out).mono ?_
        rintro e w15 ⟨rfl, hb⟩
        refine ⟨_, rfl, ?_⟩
        have n0_ := Aside0.mk (Kd.R_below (by (with_reducible repeat (first | apply Kd.R_alloc | apply Kd.R_drewN | apply Kd.R_drew)); exact HO202.out) hb)
        have n1_ := Aside0.mk (below_step (HB.out) hb)
        clear HO202
        clear HB
        have HO202 := n0_
        have HB := n1_
        clear n0_ n1_
        (try clear hb)
        (try clear hb2)
        (try clear hk)
        (try clear hi)
        refine hK.out _ _ trivial (fun hHeld => ?_)
        clear hK K
        refine norm_ (a' := ?_) ?_ ?_
        rotate_left
        · show Act.put _ (some 18) _ = _
          simp only [Act.put, List.setIfInBounds_toArray, List.set_cons_zero, List.set_cons_succ, i64_w, i32_w]
          rfl
        exact norm_ (by simp only [putAll, Act.put, List.setIfInBounds_toArray, List.set_cons_zero, List.set_cons_succ]) (hCont (v201) _ ⟨(by (with_reducible repeat (first | apply Kd.R_alloc | apply Kd.R_drewN | apply Kd.R_drew)); exact HO202.out), (HB.out)⟩)
  rintro v201 w16 ⟨h0_, h1_⟩
  have n0_ : Aside0 (Kd.R (Kd.int .u8) 5 w16 w.heap.size (fun _ => True) v201 y200) := ⟨h0_⟩
  have n1_ : Aside0 (Below w.heap.size w w16) := ⟨h1_⟩
  clear HB
  clear h0_ h1_
  have HO202 := n0_
  have HB := n1_
  clear n0_ n1_
  have hHeld := trivial
  refine norm_ (a' := ?_) ?_ ?_
  rotate_left
  · simp only [putAll, Act.put, List.setIfInBounds_toArray, List.set_cons_zero, List.set_cons_succ]
    rfl
  refine pure_ (i := 9) (N := some 25) (v := ?_) (a' := ?_) (bs 11 1023) rfl rfl (any_of HT_.out (by kernel_rfl)) (fun _ _ _ h => h) (Or.inl ⟨by rfl, ?_⟩) ?_ ?_
  rotate_left
  · intro w'
    go_simp
    with_reducible rfl
  rotate_left
  · simp only [Act.put, List.setIfInBounds_toArray, List.set_cons_zero, List.set_cons_succ, i64_w, i32_w]
    rfl
  refine pure_ (i := 10) (N := some 2) (v := ?_) (a' := ?_) (bs 11 2047) rfl rfl (any_of HT_.out (by kernel_rfl)) (fun _ _ _ h => h) (Or.inl ⟨by rfl, ?_⟩) ?_ ?_
  rotate_left
  · intro w'
    go_simp
    with_reducible rfl
  rotate_left
  · simp only [Act.put, List.setIfInBounds_toArray, List.set_cons_zero, List.set_cons_succ, i64_w, i32_w]
    rfl
  refine done_ (done_of HT_.out (by kernel_rfl)) ?_
  try go_wp2
  go_ret
  exact ⟨by first | rfl | (simp [errW_none, errW_some] <;> rfl) | (simp [*, errW_none, errW_some] <;> rfl), HB.out⟩

end Go.Proofs.YtgkjoodlcojkkaaDoor.QD
end
section
-- written by a program of this session (wip/tools): the functions that the laws reach, as plain Lean, and their walks
namespace Go.Proofs.YtgkjoodlcojkkaaDoor.QD
open Go.RowKit Go.Proofs.YtgkjoodlcojkkaaDoorW.PrintWords Go.Proofs.YtgkjoodlcojkkaaDoorW.PrintLast Go.Proofs.YtgkjoodlcojkkaaDoorW.PrintMore
attribute [local go_sem] max2_int min2_int max_two min_two max_three min_three max_four min_four   -- for this text's walks alone
set_option linter.unusedVariables false
set_option linter.unusedSimpArgs false

/-! ### swingbridgeref7_Num: function 11 -/
mutual
def swingbridgeref7_Num.j0 : Nat → ByteArray → Bool → Option (Int × Bool)
  | 0, _, _ => none
  | k + 1, x0, x23 => if x23 = true then (some (0, false)) else (swingbridgeref7_Num.l0 k x0 0 0)
def swingbridgeref7_Num.l0 : Nat → ByteArray → Int → Int → Option (Int × Bool)
  | 0, _, _, _ => none
  | k + 1, x0, x4, x5 => if x5 < (x0.size : Int) then (if 0 ≤ x5 then (if (bt x0 x5) < 48 then (some (0, false)) else (if (bt x0 x5) > 57 then (some (0, false)) else (swingbridgeref7_Num.l0 k x0 (wrap64 ((wrap64 (10 * x4)) + (((bt x0 x5) - 48) % 256))) (wrap64 (x5 + 1))))) else (none)) else (some (x4, true))
end
def swingbridgeref7_Num.f (k : Nat) (a0 : ByteArray) : Option (Int × Bool) := if (a0.size : Int) < 1 then (swingbridgeref7_Num.j0 k a0 true) else (if (a0.size : Int) > 7 then (swingbridgeref7_Num.j0 k a0 true) else (if 0 < (a0.size : Int) then (if (bt a0 0) = 48 then (swingbridgeref7_Num.j0 k a0 (decide ((a0.size : Int) > 1))) else (swingbridgeref7_Num.j0 k a0 false)) else (none)))
theorem swingbridgeref7_Num.mono_l : ∀ k, (∀ y0 y1, LeO (swingbridgeref7_Num.j0 k y0 y1) (swingbridgeref7_Num.j0 (k + 1) y0 y1)) ∧ (∀ y0 y1 y2, LeO (swingbridgeref7_Num.l0 k y0 y1 y2) (swingbridgeref7_Num.l0 (k + 1) y0 y1 y2))
  | 0 => ⟨fun _ _ r h => by simp [swingbridgeref7_Num.j0] at h, fun _ _ _ r h => by simp [swingbridgeref7_Num.l0] at h⟩
  | k + 1 => by
    obtain ⟨ih0, ih1⟩ := swingbridgeref7_Num.mono_l k
    refine ⟨?_, ?_⟩
    · intro y0 y1
      unfold swingbridgeref7_Num.j0
      repeat' first
      | (with_reducible exact ih0 _ _)
      | (with_reducible exact ih1 _ _ _)
      | (with_reducible exact LeO.refl _)
      | (with_reducible exact LeO.none _)
      | (with_reducible refine LeO.ite ?_ ?_)
      | (with_reducible refine LeO.bind ?_ (fun _ => ?_))
      | exact ih0 _ _
      | exact ih1 _ _ _
      | exact LeO.none _
      | refine LeO.ite ?_ ?_
      | refine LeO.bind ?_ (fun _ => ?_)
    · intro y0 y1 y2
      unfold swingbridgeref7_Num.l0
      repeat' first
      | (with_reducible exact ih0 _ _)
      | (with_reducible exact ih1 _ _ _)
      | (with_reducible exact LeO.refl _)
      | (with_reducible exact LeO.none _)
      | (with_reducible refine LeO.ite ?_ ?_)
      | (with_reducible refine LeO.bind ?_ (fun _ => ?_))
      | exact ih0 _ _
      | exact ih1 _ _ _
      | exact LeO.none _
      | refine LeO.ite ?_ ?_
      | refine LeO.bind ?_ (fun _ => ?_)
theorem swingbridgeref7_Num.mono : ∀ a0 k, LeO (swingbridgeref7_Num.f k a0) (swingbridgeref7_Num.f (k + 1) a0) := by
  intro a0 k
  obtain ⟨ih0, ih1⟩ := swingbridgeref7_Num.mono_l k
  unfold swingbridgeref7_Num.f
  repeat' first
      | (with_reducible exact ih0 _ _)
      | (with_reducible exact ih1 _ _ _)
      | (with_reducible exact LeO.refl _)
      | (with_reducible exact LeO.none _)
      | (with_reducible refine LeO.ite ?_ ?_)
      | (with_reducible refine LeO.bind ?_ (fun _ => ?_))
      | exact ih0 _ _
      | exact ih1 _ _ _
      | exact LeO.none _
      | refine LeO.ite ?_ ?_
      | refine LeO.bind ?_ (fun _ => ?_)
set_option maxHeartbeats 8000000 in
set_option maxRecDepth 100000 in
theorem swingbridgeref7_Num.calls (k : Nat) (a0 : ByteArray) (r1 : Int) (r2 : Bool) (w : World) (h : swingbridgeref7_Num.f k a0 = some (r1, r2)) :
    Calls Tryd.prog 11 #[.string a0] w fun e w' => e = .returned (.tuple #[.int .i64 r1, .bool r2]) ∧ Drawn0 w w' := by
  have H : (if (a0.size : Int) < 1 then (swingbridgeref7_Num.j0 k a0 true) else (if (a0.size : Int) > 7 then (swingbridgeref7_Num.j0 k a0 true) else (if 0 < (a0.size : Int) then (if (bt a0 0) = 48 then (swingbridgeref7_Num.j0 k a0 (decide ((a0.size : Int) > 1))) else (swingbridgeref7_Num.j0 k a0 false)) else (none)))) = some (r1, r2) := h
  clear h
  have HC2 := Aside0.mk H
  clear H
  go_enter Tryd.func11, Tryd.ntmps11
  go_upto_region 1 with (fail)
  go_cut [23] (fun v23 wc => ∃ (kq : Nat) (x23_1 : Bool), v23 = .bool x23_1 ∧ Aside0 (swingbridgeref7_Num.j0 kq a0 x23_1 = some (r1, r2)) ∧ Aside0 (kq ≤ k) ∧ Drawn0 w wc)
  case first =>
    have H := HC2.out
    clear HC2
    by_cases c3 : (a0.size : Int) < 1
    · rw [if_pos c3] at H
      have c3b0 : decide ((a0.size : Int) < 1) = true := decide_eq_true c3
      have c3b1 : decide (a0.size < 1) = true := decide_eq_true (by omega)
      clear c3
      (first | rw [c3b0] | (simp only [i64_w, i32_w]; rw [c3b0]) | skip)
      have H' := Aside0.mk H
      clear H
      go_wp2
      go_meet
      case rel => exact ⟨_, (true), (by first | rfl | (simp; done) | (simp [*]; done)), H', ⟨by first | omega | exact Nat.le_refl _⟩, by repeat (first | exact Drawn0.refl _ | apply Drawn0.step)⟩
    rw [if_neg c3] at H
    have c3b0 : decide ((a0.size : Int) < 1) = false := decide_eq_false c3
    have c3b1 : decide (a0.size < 1) = false := decide_eq_false (by omega)
    clear c3
    (first | rw [c3b0] | (simp only [i64_w, i32_w]; rw [c3b0]) | skip)
    by_cases c4 : (a0.size : Int) > 7
    · rw [if_pos c4] at H
      have c4b0 : decide (7 < (a0.size : Int)) = true := decide_eq_true c4
      have c4b1 : decide (7 < a0.size) = true := decide_eq_true (by omega)
      clear c4
      have H' := Aside0.mk H
      clear H
      go_wp2
      go_meet
      case rel => exact ⟨_, (true), (by first | rfl | (simp; done) | (simp [*]; done)), H', ⟨by first | omega | exact Nat.le_refl _⟩, by repeat (first | exact Drawn0.refl _ | apply Drawn0.step)⟩
    rw [if_neg c4] at H
    have c4b0 : decide (7 < (a0.size : Int)) = false := decide_eq_false c4
    have c4b1 : decide (7 < a0.size) = false := decide_eq_false (by omega)
    clear c4
    by_cases c5 : 0 < (a0.size : Int)
    rotate_left
    · rw [if_neg c5] at H
      exact absurd H (by simp)
    rw [if_pos c5] at H
    have c5b0 : decide (0 < (a0.size : Int)) = true := decide_eq_true c5
    have c5b1 : decide (0 < a0.size) = true := decide_eq_true (by omega)
    clear c5
    by_cases c7 : (bt a0 0) = 48
    rotate_left
    · rw [if_neg c7] at H
      have c7b0 : ((bt a0 0) == 48) = false := beq_eq_false_iff_ne.mpr c7
      have c7b1 : ((bt a0 0) != 48) = true := bne_iff_ne.mpr c7
      have H' := Aside0.mk H
      clear H
      have p6 : 0 ≤ (0 : Int) := (by omega)
      have q6 : 0 < a0.size := (by have : (0 : Int) < (a0.size : Int) := of_decide_eq_true (by first | (with_reducible assumption) | assumption); omega)
      have hx6 : ∀ h : 0 < a0.size, ((a0[0]'h).toNat : Int) = bt a0 0 := bt_at a0 0
      clear p6
      have qi6 : (0 < (a0.size : Int)) = True := eq_true (of_decide_eq_true (by first | (with_reducible assumption) | assumption))
      replace q6 := eq_true q6
      go_wp2
      go_meet
      case rel => exact ⟨_, (false), (by first | rfl | (simp; done) | (simp [*]; done)), H', ⟨by first | omega | exact Nat.le_refl _⟩, by repeat (first | exact Drawn0.refl _ | apply Drawn0.step)⟩
    rw [if_pos c7] at H
    have c7b0 : ((bt a0 0) == 48) = true := beq_iff_eq.mpr c7
    have c7b1 : ((bt a0 0) != 48) = false := bne_eq_false_iff_eq.mpr c7
    clear c7
    have H' := Aside0.mk H
    clear H
    have p6 : 0 ≤ (0 : Int) := (by omega)
    have q6 : 0 < a0.size := (by have : (0 : Int) < (a0.size : Int) := of_decide_eq_true (by first | (with_reducible assumption) | assumption); omega)
    have hx6 : ∀ h : 0 < a0.size, ((a0[0]'h).toNat : Int) = bt a0 0 := bt_at a0 0
    clear p6
    have qi6 : (0 < (a0.size : Int)) = True := eq_true (of_decide_eq_true (by first | (with_reducible assumption) | assumption))
    replace q6 := eq_true q6
    go_wp2
    go_meet
    case rel => exact ⟨_, (decide ((a0.size : Int) > 1)), (by first | rfl | (simp; done) | (simp [*]; done)), H', ⟨by first | omega | exact Nat.le_refl _⟩, by repeat (first | exact Drawn0.refl _ | apply Drawn0.step)⟩
  clear HC2
  (try clear c1); (try clear p2); (try clear c3); (try clear c3b0); (try clear c3b1); (try clear c4); (try clear c4b0); (try clear c4b1); (try clear c5); (try clear c5b0); (try clear c5b1); (try clear p6); (try clear q6); (try clear hx6); (try clear qi6); (try clear c7); (try clear c7b0); (try clear c7b1); (try clear p6); (try clear q6)
  obtain ⟨kq, x23_1, rfl, HA, HJ1, ⟨mc1, rfl⟩⟩ := hcut
  cases kq with
  | zero => exact absurd HA.out (by simp [swingbridgeref7_Num.j0])
  | succ kj1 => ?_
  have H := HA.out
  clear HA
  simp only [swingbridgeref7_Num.j0] at H
  by_cases c8 : x23_1 = true
  · subst c8
    have H1 : (some (0, false)) = some (r1, r2) := by rw [if_pos rfl] at H; exact H
    clear H
    have H := H1
    clear H1
    simp only [Option.some.injEq, Prod.mk.injEq] at H
    obtain ⟨rfl, rfl⟩ := H
    go_wp2
    go_ret2
    exact ⟨by first | rfl | (simp; done) | (simp [*]; done), by repeat (first | exact Drawn0.refl _ | apply Drawn0.step)⟩
  replace c8 := Bool.eq_false_iff.mpr c8
  subst c8
  have H1 : (swingbridgeref7_Num.l0 kj1 a0 0 0) = some (r1, r2) := by rw [if_neg (show ¬ (false = true) by decide)] at H; exact H
  clear H
  have H := H1
  clear H1
  have H' := Aside0.mk H
  clear H
  go_wp2
  go_loopg [4, 5] kj1 (fun kq v4 v5 w' => ∃ (x4_2 : Int) (x5_2 : Int), v4 = .int .i64 x4_2 ∧ v5 = .int .i64 x5_2 ∧ Aside0 (swingbridgeref7_Num.l0 kq a0 x4_2 x5_2 = some (r1, r2)) ∧ Aside0 (kq ≤ kj1) ∧ Drawn0 w w')
  case atStart => exact ⟨(0), (0), (by first | rfl | (simp; done) | (simp [*]; done)), (by first | rfl | (simp; done) | (simp [*]; done)), H', ⟨Nat.le_refl _⟩, by repeat (first | exact Drawn0.refl _ | apply Drawn0.step)⟩
  clear H'
  (try clear c1); (try clear p2); (try clear c3); (try clear c3b0); (try clear c3b1); (try clear c4); (try clear c4b0); (try clear c4b1); (try clear c5); (try clear c5b0); (try clear c5b1); (try clear p6); (try clear q6); (try clear hx6); (try clear qi6); (try clear c7); (try clear c7b0); (try clear c7b1); (try clear c8); (try clear p2); (try clear p6); (try clear q6)
  obtain ⟨x4_2, x5_2, rfl, rfl, HA, HK2, ⟨m2, rfl⟩⟩ := hrel
  cases gk with
  | zero => exact absurd HA.out (by simp [swingbridgeref7_Num.l0])
  | succ k2 => ?_
  have H := HA.out
  clear HA
  simp only [swingbridgeref7_Num.l0] at H
  by_cases c9 : x5_2 < (a0.size : Int)
  rotate_left
  · rw [if_neg c9] at H
    have c9b0 : decide (x5_2 < (a0.size : Int)) = false := decide_eq_false c9
    clear c9
    simp only [Option.some.injEq, Prod.mk.injEq] at H
    obtain ⟨rfl, rfl⟩ := H
    go_wp2
    go_ret2
    exact ⟨by first | rfl | (simp; done) | (simp [*]; done), by repeat (first | exact Drawn0.refl _ | apply Drawn0.step)⟩
  rw [if_pos c9] at H
  have c9b0 : decide (x5_2 < (a0.size : Int)) = true := decide_eq_true c9
  clear c9
  by_cases c10 : 0 ≤ x5_2
  rotate_left
  · rw [if_neg c10] at H
    exact absurd H (by simp)
  rw [if_pos c10] at H
  have c10b0 : decide (0 ≤ x5_2) = true := decide_eq_true c10
  clear c10
  by_cases c12 : (bt a0 x5_2) < 48
  · rw [if_pos c12] at H
    have c12b0 : decide ((bt a0 x5_2) < 48) = true := decide_eq_true c12
    clear c12
    simp only [Option.some.injEq, Prod.mk.injEq] at H
    obtain ⟨rfl, rfl⟩ := H
    have p11 : 0 ≤ (x5_2 : Int) := of_decide_eq_true (by first | (with_reducible assumption) | assumption)
    have q11 : x5_2 < (a0.size : Int) := of_decide_eq_true (by first | (with_reducible assumption) | assumption)
    have hx11 := bt_at a0 x5_2
    replace p11 := eq_true p11
    replace q11 := eq_true q11
    go_wp2
    go_ret2
    exact ⟨by first | rfl | (simp; done) | (simp [*]; done), by repeat (first | exact Drawn0.refl _ | apply Drawn0.step)⟩
  rw [if_neg c12] at H
  have c12b0 : decide ((bt a0 x5_2) < 48) = false := decide_eq_false c12
  clear c12
  by_cases c14 : (bt a0 x5_2) > 57
  · rw [if_pos c14] at H
    have c14b0 : decide (57 < (bt a0 x5_2)) = true := decide_eq_true c14
    clear c14
    simp only [Option.some.injEq, Prod.mk.injEq] at H
    obtain ⟨rfl, rfl⟩ := H
    have p11 : 0 ≤ (x5_2 : Int) := of_decide_eq_true (by first | (with_reducible assumption) | assumption)
    have q11 : x5_2 < (a0.size : Int) := of_decide_eq_true (by first | (with_reducible assumption) | assumption)
    have hx11 := bt_at a0 x5_2
    replace p11 := eq_true p11
    replace q11 := eq_true q11
    have p13 : 0 ≤ (x5_2 : Int) := of_decide_eq_true (by first | (with_reducible assumption) | assumption)
    have q13 : x5_2 < (a0.size : Int) := of_decide_eq_true (by first | (with_reducible assumption) | assumption)
    have hx13 := bt_at a0 x5_2
    replace p13 := eq_true p13
    replace q13 := eq_true q13
    go_wp2
    go_ret2
    exact ⟨by first | rfl | (simp; done) | (simp [*]; done), by repeat (first | exact Drawn0.refl _ | apply Drawn0.step)⟩
  rw [if_neg c14] at H
  have c14b0 : decide (57 < (bt a0 x5_2)) = false := decide_eq_false c14
  clear c14
  have H' := Aside0.mk H
  clear H
  have p11 : 0 ≤ (x5_2 : Int) := of_decide_eq_true (by first | (with_reducible assumption) | assumption)
  have q11 : x5_2 < (a0.size : Int) := of_decide_eq_true (by first | (with_reducible assumption) | assumption)
  have hx11 := bt_at a0 x5_2
  replace p11 := eq_true p11
  replace q11 := eq_true q11
  have p13 : 0 ≤ (x5_2 : Int) := of_decide_eq_true (by first | (with_reducible assumption) | assumption)
  have q13 : x5_2 < (a0.size : Int) := of_decide_eq_true (by first | (with_reducible assumption) | assumption)
  have hx13 := bt_at a0 x5_2
  replace p13 := eq_true p13
  replace q13 := eq_true q13
  have p15 : 0 ≤ (x5_2 : Int) := of_decide_eq_true (by first | (with_reducible assumption) | assumption)
  have q15 : x5_2 < (a0.size : Int) := of_decide_eq_true (by first | (with_reducible assumption) | assumption)
  have hx15 := bt_at a0 x5_2
  replace p15 := eq_true p15
  replace q15 := eq_true q15
  go_wp2
  go_roundg k2
  case measure => have := HJ1.out; have := HK2.out; omega
  case rel => exact ⟨(wrap64 ((wrap64 (10 * x4_2)) + (((bt a0 x5_2) - 48) % 256))), (wrap64 (x5_2 + 1)), (by first | rfl | (simp; done) | (simp [*]; done)), (by first | rfl | (simp; done) | (simp [*]; done)), H', ⟨by have := HJ1.out; have := HK2.out; omega⟩, by repeat (first | exact Drawn0.refl _ | apply Drawn0.step)⟩

end Go.Proofs.YtgkjoodlcojkkaaDoor.QD
end
section
-- written by a program of this session (wip/tools): the functions that the laws reach, as plain Lean, and their walks
namespace Go.Proofs.YtgkjoodlcojkkaaDoor.QD
open Go.RowKit Go.Proofs.YtgkjoodlcojkkaaDoorW.PrintWords Go.Proofs.YtgkjoodlcojkkaaDoorW.PrintLast Go.Proofs.YtgkjoodlcojkkaaDoorW.PrintMore
attribute [local go_sem] max2_int min2_int max_two min_two max_three min_three max_four min_four   -- for this text's walks alone
set_option linter.unusedVariables false
set_option linter.unusedSimpArgs false

/-! ### swingbridgelaw7_same: function 12 -/
def swingbridgelaw7_same.l0 : Nat → List ByteArray → List ByteArray → Int → Option (Bool)
  | 0, _, _, _ => none
  | k + 1, x0, x1, x5 => if x5 < (x0.length : Int) then (if 0 ≤ x5 then (if x5 < (x1.length : Int) then (if (rdOf ByteArray.empty x0 x5).toList = (rdOf ByteArray.empty x1 x5).toList then (swingbridgelaw7_same.l0 k x0 x1 (wrap64 (x5 + 1))) else (some false)) else (none)) else (none)) else (some true)
def swingbridgelaw7_same.f (k : Nat) (l0 : List ByteArray) (l1 : List ByteArray) : Option (Bool) := if (l0.length : Int) = (l1.length : Int) then (swingbridgelaw7_same.l0 k l0 l1 0) else (some false)
theorem swingbridgelaw7_same.mono_l : ∀ k, (∀ y0 y1 y2, LeO (swingbridgelaw7_same.l0 k y0 y1 y2) (swingbridgelaw7_same.l0 (k + 1) y0 y1 y2))
  | 0 => fun _ _ _ r h => by simp [swingbridgelaw7_same.l0] at h
  | k + 1 => by
    have ih0 := swingbridgelaw7_same.mono_l k
    · intro y0 y1 y2
      unfold swingbridgelaw7_same.l0
      repeat' first
      | (with_reducible exact ih0 _ _ _)
      | (with_reducible exact LeO.refl _)
      | (with_reducible exact LeO.none _)
      | (with_reducible refine LeO.ite ?_ ?_)
      | (with_reducible refine LeO.bind ?_ (fun _ => ?_))
      | exact ih0 _ _ _
      | exact LeO.none _
      | refine LeO.ite ?_ ?_
      | refine LeO.bind ?_ (fun _ => ?_)
theorem swingbridgelaw7_same.mono : ∀ a0 a1 k, LeO (swingbridgelaw7_same.f k a0 a1) (swingbridgelaw7_same.f (k + 1) a0 a1) := by
  intro a0 a1 k
  have ih0 := swingbridgelaw7_same.mono_l k
  unfold swingbridgelaw7_same.f
  repeat' first
      | (with_reducible exact ih0 _ _ _)
      | (with_reducible exact LeO.refl _)
      | (with_reducible exact LeO.none _)
      | (with_reducible refine LeO.ite ?_ ?_)
      | (with_reducible refine LeO.bind ?_ (fun _ => ?_))
      | exact ih0 _ _ _
      | exact LeO.none _
      | refine LeO.ite ?_ ?_
      | refine LeO.bind ?_ (fun _ => ?_)
set_option maxHeartbeats 8000000 in
set_option maxRecDepth 100000 in
theorem swingbridgelaw7_same.calls (k : Nat) (A0 : Option Addr) (c0 : Nat) (l0 : List ByteArray) (A1 : Option Addr) (c1 : Nat) (l1 : List ByteArray) (r : Bool) (w : World) (hr0 : Kd.C Kd.string w A0 l0.length l0) (hc0 : l0.length ≤ c0) (hr1 : Kd.C Kd.string w A1 l1.length l1) (hc1 : l1.length ≤ c1) (h : swingbridgelaw7_same.f k l0 l1 = some r) :
    Calls Tryd.prog 12 #[.slice A0 l0.length c0, .slice A1 l1.length c1] w fun e w' => e = .returned (.bool r) ∧ Drawn0 w w' := by
  have HR0 := Aside0.mk hr0
  have HC0 := Aside0.mk hc0
  clear hr0 hc0
  have HR1 := Aside0.mk hr1
  have HC1 := Aside0.mk hc1
  clear hr1 hc1
  have H : (if (l0.length : Int) = (l1.length : Int) then (swingbridgelaw7_same.l0 k l0 l1 0) else (some false)) = some r := h
  clear h
  by_cases c3 : (l0.length : Int) = (l1.length : Int)
  rotate_left
  · rw [if_neg c3] at H
    have c3b0 : ((l0.length : Int) == (l1.length : Int)) = false := beq_eq_false_iff_ne.mpr c3
    have c3b1 : ((l0.length : Int) != (l1.length : Int)) = true := bne_iff_ne.mpr c3
    have c3b2 : (l0.length == l1.length) = false := by first | simpa using c3 | (simp at c3 ⊢; omega)
    obtain rfl := Option.some.inj H
    go_enter Tryd.func12, Tryd.ntmps12
    go_wp2
    repeat (go_quiet (fail); try go_wp2)
    go_ret
    exact ⟨by first | rfl | (simp; done) | (simp [*]; done), by repeat (first | exact Drawn0.refl _ | apply Drawn0.step)⟩
  rw [if_pos c3] at H
  have c3b0 : ((l0.length : Int) == (l1.length : Int)) = true := beq_iff_eq.mpr c3
  have c3b1 : ((l0.length : Int) != (l1.length : Int)) = false := bne_eq_false_iff_eq.mpr c3
  have c3b2 : (l0.length == l1.length) = true := by first | simpa using c3 | (simp at c3 ⊢; omega)
  clear c3
  have H' := Aside0.mk H
  clear H
  go_enter Tryd.func12, Tryd.ntmps12
  go_wp2
  repeat (go_quiet (fail); try go_wp2)
  go_loopg [5] k (fun kq v5 w' => ∃ (x5_1 : Int), v5 = .int .i64 x5_1 ∧ Aside0 (swingbridgelaw7_same.l0 kq l0 l1 x5_1 = some r) ∧ Aside0 (kq ≤ k) ∧ Drawn0 w w')
  case atStart => exact ⟨(0), (by first | rfl | (simp; done) | (simp [*]; done)), H', ⟨Nat.le_refl _⟩, by repeat (first | exact Drawn0.refl _ | apply Drawn0.step)⟩
  clear H'
  (try clear c1); (try clear p2); (try clear c3); (try clear c3b0); (try clear c3b1); (try clear c3b2)
  obtain ⟨x5_1, rfl, HA, HK1, ⟨m1, rfl⟩⟩ := hrel
  cases gk with
  | zero => exact absurd HA.out (by simp [swingbridgelaw7_same.l0])
  | succ k1 => ?_
  have H := HA.out
  clear HA
  simp only [swingbridgelaw7_same.l0] at H
  by_cases c4 : x5_1 < (l0.length : Int)
  rotate_left
  · rw [if_neg c4] at H
    have c4b0 : decide (x5_1 < (l0.length : Int)) = false := decide_eq_false c4
    clear c4
    obtain rfl := Option.some.inj H
    go_wp2
    repeat (go_quiet (fail); try go_wp2)
    go_ret
    exact ⟨by first | rfl | (simp; done) | (simp [*]; done), by repeat (first | exact Drawn0.refl _ | apply Drawn0.step)⟩
  rw [if_pos c4] at H
  have c4b0 : decide (x5_1 < (l0.length : Int)) = true := decide_eq_true c4
  clear c4
  by_cases c5 : 0 ≤ x5_1
  rotate_left
  · rw [if_neg c5] at H
    exact absurd H (by simp)
  rw [if_pos c5] at H
  have c5b0 : decide (0 ≤ x5_1) = true := decide_eq_true c5
  clear c5
  by_cases c6 : x5_1 < (l1.length : Int)
  rotate_left
  · rw [if_neg c6] at H
    exact absurd H (by simp)
  rw [if_pos c6] at H
  have c6b0 : decide (x5_1 < (l1.length : Int)) = true := decide_eq_true c6
  clear c6
  by_cases c7 : (rdOf ByteArray.empty l0 x5_1).toList = (rdOf ByteArray.empty l1 x5_1).toList
  rotate_left
  · rw [if_neg c7] at H
    have c7b0 : ((rdOf ByteArray.empty l0 x5_1).toList == (rdOf ByteArray.empty l1 x5_1).toList) = false := beq_eq_false_iff_ne.mpr c7
    have c7b1 : ((rdOf ByteArray.empty l0 x5_1).toList != (rdOf ByteArray.empty l1 x5_1).toList) = true := bne_iff_ne.mpr c7
    obtain rfl := Option.some.inj H
    have p135 : 0 ≤ (x5_1 : Int) := of_decide_eq_true (by first | (with_reducible assumption) | assumption)
    have q135 : x5_1 < (l0.length : Int) := of_decide_eq_true (by first | (with_reducible assumption) | assumption)
    obtain ⟨ad135, e135, hx135_0⟩ := Kd.at_string HR0.out x5_1 p135 q135
    cases e135
    replace p135 := eq_true p135
    replace q135 := eq_true q135
    have p136 : 0 ≤ (x5_1 : Int) := of_decide_eq_true (by first | (with_reducible assumption) | assumption)
    have q136 : x5_1 < (l1.length : Int) := of_decide_eq_true (by first | (with_reducible assumption) | assumption)
    obtain ⟨ad136, e136, hx136_0⟩ := Kd.at_string HR1.out x5_1 p136 q136
    cases e136
    replace p136 := eq_true p136
    replace q136 := eq_true q136
    go_wp2
    repeat (go_quiet (fail); try go_wp2)
    go_ret
    exact ⟨by first | rfl | (simp; done) | (simp [*]; done), by repeat (first | exact Drawn0.refl _ | apply Drawn0.step)⟩
  rw [if_pos c7] at H
  have c7b0 : ((rdOf ByteArray.empty l0 x5_1).toList == (rdOf ByteArray.empty l1 x5_1).toList) = true := beq_iff_eq.mpr c7
  have c7b1 : ((rdOf ByteArray.empty l0 x5_1).toList != (rdOf ByteArray.empty l1 x5_1).toList) = false := bne_eq_false_iff_eq.mpr c7
  clear c7
  have H' := Aside0.mk H
  clear H
  have p135 : 0 ≤ (x5_1 : Int) := of_decide_eq_true (by first | (with_reducible assumption) | assumption)
  have q135 : x5_1 < (l0.length : Int) := of_decide_eq_true (by first | (with_reducible assumption) | assumption)
  obtain ⟨ad135, e135, hx135_0⟩ := Kd.at_string HR0.out x5_1 p135 q135
  cases e135
  replace p135 := eq_true p135
  replace q135 := eq_true q135
  have p136 : 0 ≤ (x5_1 : Int) := of_decide_eq_true (by first | (with_reducible assumption) | assumption)
  have q136 : x5_1 < (l1.length : Int) := of_decide_eq_true (by first | (with_reducible assumption) | assumption)
  obtain ⟨ad136, e136, hx136_0⟩ := Kd.at_string HR1.out x5_1 p136 q136
  cases e136
  replace p136 := eq_true p136
  replace q136 := eq_true q136
  go_wp2
  repeat (go_quiet (fail); try go_wp2)
  go_roundg k1
  case measure => have := HK1.out; omega
  case rel => exact ⟨(wrap64 (x5_1 + 1)), (by first | rfl | (simp; done) | (simp [*]; done)), H', ⟨by have := HK1.out; omega⟩, by repeat (first | exact Drawn0.refl _ | apply Drawn0.step)⟩

end Go.Proofs.YtgkjoodlcojkkaaDoor.QD
end
section
-- written by a program of this session (wip/tools): the functions that the laws reach, as plain Lean, and their walks
namespace Go.Proofs.YtgkjoodlcojkkaaDoor.QD
open Go.RowKit Go.Proofs.YtgkjoodlcojkkaaDoorW.PrintWords Go.Proofs.YtgkjoodlcojkkaaDoorW.PrintLast Go.Proofs.YtgkjoodlcojkkaaDoorW.PrintMore
attribute [local go_sem] max2_int min2_int max_two min_two max_three min_three max_four min_four   -- for this text's walks alone
set_option linter.unusedVariables false
set_option linter.unusedSimpArgs false

/-! ### swingbridgeref7_Lines: function 14 -/
def swingbridgeref7_Lines.f (k : Nat) (a0 : ByteArray) : Option (List ByteArray) := (swingbridgeref7_cut.f k a0 10).bind fun t185 => (some t185)
theorem swingbridgeref7_Lines.mono : ∀ a0 k, LeO (swingbridgeref7_Lines.f k a0) (swingbridgeref7_Lines.f (k + 1) a0) := by
  intro a0 k
  unfold swingbridgeref7_Lines.f
  repeat' first
      | (with_reducible exact swingbridgeref7_cut.mono _ _ _)
      | (with_reducible exact LeO.refl _)
      | (with_reducible exact LeO.none _)
      | (with_reducible refine LeO.ite ?_ ?_)
      | (with_reducible refine LeO.bind ?_ (fun _ => ?_))
      | exact swingbridgeref7_cut.mono _ _ _
      | exact LeO.none _
      | refine LeO.ite ?_ ?_
      | refine LeO.bind ?_ (fun _ => ?_)
set_option maxHeartbeats 8000000 in
set_option maxRecDepth 100000 in
theorem swingbridgeref7_Lines.calls (k : Nat) (a0 : ByteArray) (r : List ByteArray) (w : World) (h : swingbridgeref7_Lines.f k a0 = some r) :
    Calls Tryd.prog 14 #[.string a0] w fun e w' => ∃ v0_ : Value, e = .returned (v0_) ∧ Kd.R Kd.string 9 w' w.heap.size (fun _ => True) v0_ r ∧ Below w.heap.size w w' := by
  have HB := Aside0.mk (Below.refl w.heap.size w)
  have H : ((swingbridgeref7_cut.f k a0 10).bind fun t185 => (some t185)) = some r := h
  clear h
  replace H := Option.bind_eq_some_iff.mp H
  obtain ⟨t185, A20, H⟩ := H
  replace H : (some t185) = some r := H
  have A2 := Aside0.mk A20
  clear A20
  obtain rfl := Option.some.inj H
  go_enter Tryd.func14, Tryd.ntmps14
  go_wp2_with (first | ((with_reducible refine gate_callee (f := 30) rfl ?_); refine goesL_ (some 4) rfl rfl Tryd.func30 (by kernel_rfl) rfl #[.string a0, .int .u8 10] rfl (by (try simp only [List.map_toArray, List.map_cons, List.map_nil]); first | done | rfl | (simp only [List.length_drop, List.length_take]; rfl)) ?_; (with_reducible refine (swingbridgeref7_cut.calls k a0 10 t185 _ A2.out).mono ?_); rintro e w3 ⟨v186, rfl, ho0, hb⟩; refine ⟨_, rfl, ?_⟩; have n0_ := Aside0.mk (Kd.R_lower ho0 (below_size (HB.out))); have n1_ := Aside0.mk (below_step (HB.out) hb); clear HB; have HO187 := n0_; have HB := n1_; clear n0_ n1_; (try clear hb); (try clear hb2); (try clear hk); (try clear hi); (try clear ho0)))
  go_ret
  exact ⟨_, by first | rfl | (simp [errW_none, errW_some] <;> rfl) | (simp [*, errW_none, errW_some] <;> rfl), by (with_reducible repeat (first | apply Kd.R_alloc | apply Kd.R_drewN | apply Kd.R_drew)); exact HO187.out, HB.out⟩

end Go.Proofs.YtgkjoodlcojkkaaDoor.QD
end
section
/- What words and its reference compute of a text: words, names, numbers, numbers' texts, as plain functions of lists of bytes. Conditions: lengths within the bounds that each statement names. -/
namespace Go.Proofs.YtgkjoodlcojkkaaDoor.Y
open Go.RowKit Go.Proofs.YtgkjoodlcojkkaaDoorW.PrintWords Go.Proofs.YtgkjoodlcojkkaaDoorW.PrintLast Go.Proofs.YtgkjoodlcojkkaaDoorW.PrintMore Go.Proofs.YtgkjoodlcojkkaaDoor.QD
set_option linter.unusedVariables false
set_option linter.unusedSimpArgs false

/-! ### words -/
def ne (p : Bs) : Bool := !p.isEmpty
def upto (l : Bs) : Bs := l.takeWhile (· != 35)
def wordsL (l : Bs) : List Bs := (splitL 32 (upto l)).filter ne
theorem upto_len (l : Bs) : (upto l).length ≤ l.length := List.takeWhile_sublist _ |>.length_le
theorem takeWhile_hit {l : Bs} {o : Nat} {post : Bs} (c : UInt8) (h : l = l.take o ++ c :: post) (hn : c ∉ l.take o) : l.takeWhile (· != c) = l.take o := by
  conv => lhs; rw [h]
  rw [List.takeWhile_append_of_pos (by intro x hx; simp; intro e; exact hn (e ▸ hx))]
  simp
theorem takeWhile_none {l : Bs} (c : UInt8) (hn : c ∉ l) : l.takeWhile (· != c) = l := by
  have := List.takeWhile_append_of_pos (p := (· != c)) (l₁ := l) (l₂ := []) (by intro x hx; simp; intro e; exact hn (e ▸ hx))
  simpa using this
theorem Cut_eq (l : Bs) (h : l.length < 4294967281) : ∃ x y, strings_Cut.f (B l) (B [35]) = some (B (upto l), x, y) := by
  unfold strings_Cut.f
  rw [if_pos (by rw [size_B]; exact h), data_B, data_B]
  refine ⟨⟨(Lib.cut l [35]).2.1.toArray⟩, (Lib.cut l [35]).2.2, ?_⟩
  rw [show (⟨(Lib.cut l [35]).1.toArray⟩ : ByteArray) = B (upto l) from ?_]
  show B _ = B _
  congr 1
  unfold Lib.cut
  rw [Lib.index_one]
  by_cases c : 0 ≤ Lib.indexByte l 35
  · rw [if_pos c]
    obtain ⟨o, ho⟩ := Int.eq_ofNat_of_zero_le c
    obtain ⟨post, h1, h2, _⟩ := indexByte_split ho
    rw [ho]
    exact (takeWhile_hit 35 h1 h2).symm
  · rw [if_neg c]
    refine (takeWhile_none (l := l) 35 ?_).symm
    intro hm
    obtain ⟨k, hk⟩ := List.getElem?_of_mem hm
    exact Lib.indexByte_none (by have := Lib.indexByte_ge l 35; omega) k hk
theorem words_loop (ps : List Bs) (hl : ps.length < 8796093022208) : ∀ (n : Nat) (out : List Bs) (i k : Nat), i + n = ps.length → n < k → out.length ≤ i →
    words_Words.l0 k (out.map B) (ps.map B) (ps.length : Int) (i : Int) = some ((out ++ (ps.drop i).filter ne).map B)
  | n, out, i, 0, hn, hk, ho => by omega
  | 0, out, i, k + 1, hn, hk, ho => by
    unfold words_Words.l0
    rw [if_neg (by omega), List.drop_eq_nil_of_le (by omega)]
    simp
  | n + 1, out, i, k + 1, hn, hk, ho => by
    unfold words_Words.l0
    have hi : i < ps.length := by omega
    rw [if_pos (by omega), if_pos (by omega), List.length_map, if_pos (by omega), rdOf_B, toList_B, w64s i (by omega), List.drop_eq_getElem_cons hi]
    have e0 : ps.getD i [] = ps[i] := by simp [hi]
    rw [e0]
    by_cases h : ps[i] = []
    · rw [if_pos h, words_loop ps hl n out (i + 1) k (by omega) (by omega) (by omega)]
      rw [List.filter_cons_of_neg (by simp [ne, h])]
    · rw [if_neg h, List.length_map, if_pos (by omega)]
      have := words_loop ps hl n (out ++ [ps[i]]) (i + 1) k (by omega) (by omega) (by simp; omega)
      rw [List.map_append] at this
      rw [show List.map B [ps[i]] = [B ps[i]] from rfl] at this
      rw [this, List.filter_cons_of_pos (by simp [ne, h]), List.append_assoc]
      rfl
theorem words_Words_eq (l : Bs) (h : l.length < 4294967281) (k : Nat) (hk : l.length + 1 < k) : words_Words.f k (B l) = some ((wordsL l).map B) := by
  unfold words_Words.f
  obtain ⟨x, y, hc⟩ := Cut_eq l h
  have hu := upto_len l
  rw [show (⟨#[35]⟩ : ByteArray) = B [35] from rfl, hc, Option.bind_some, show (⟨#[32]⟩ : ByteArray) = B [32] from rfl, Split_eq 32 _ (by omega), Option.bind_some, List.length_map]
  have hle := splitL_len 32 (upto l)
  have := words_loop (splitL 32 (upto l)) (by omega) (splitL 32 (upto l)).length [] 0 k (by omega) (by omega) (Nat.zero_le _)
  simpa [wordsL] using this
theorem filter_dropLastE (ps : List Bs) : (dropLastE ps).filter ne = ps.filter ne := by
  unfold dropLastE
  split
  · rename_i h
    have hne : ps ≠ [] := by intro e; rw [e] at h; cases h
    have := List.dropLast_concat_getLast hne
    conv => rhs; rw [← this]
    rw [List.getLast?_eq_some_getLast hne] at h
    rw [Option.some.inj h]
    simp [ne]
  · rfl
theorem refWords_loop1 (ps : List Bs) (hl : ps.length < 8796093022208) : ∀ (n : Nat) (out : List Bs) (i k : Nat), i + n = ps.length → n < k → out.length ≤ i →
    swingbridgeref7_Words.l1 k (ps.map B) (out.map B) (i : Int) = some ((out ++ (ps.drop i).filter ne).map B)
  | n, out, i, 0, hn, hk, ho => by omega
  | 0, out, i, k + 1, hn, hk, ho => by
    unfold swingbridgeref7_Words.l1
    rw [List.length_map, if_neg (by omega), List.drop_eq_nil_of_le (by omega)]
    simp
  | n + 1, out, i, k + 1, hn, hk, ho => by
    unfold swingbridgeref7_Words.l1
    have hi : i < ps.length := by omega
    rw [List.length_map, if_pos (by omega), if_pos (by omega), rdOf_B, toList_B, w64s i (by omega), List.drop_eq_getElem_cons hi]
    have e0 : ps.getD i [] = ps[i] := by simp [hi]
    rw [e0]
    by_cases h : ps[i] = []
    · rw [if_pos h, refWords_loop1 ps hl n out (i + 1) k (by omega) (by omega) (by omega)]
      rw [List.filter_cons_of_neg (by simp [ne, h])]
    · rw [if_neg h, List.length_map, if_pos (by omega)]
      have := refWords_loop1 ps hl n (out ++ [ps[i]]) (i + 1) k (by omega) (by omega) (by simp; omega)
      rw [List.map_append] at this
      rw [show List.map B [ps[i]] = [B ps[i]] from rfl] at this
      rw [this, List.filter_cons_of_pos (by simp [ne, h]), List.append_assoc]
      rfl
theorem refWords_j1 (l : Bs) (hl : l.length < 8796093022207) (i k : Nat) (hi : i ≤ l.length) (hk : l.length + 3 < k) :
    swingbridgeref7_Words.j1 k (B l) (i : Int) = some (((splitL 32 (l.take i)).filter ne).map B) := by
  cases k with
  | zero => omega
  | succ k =>
    rw [swingbridgeref7_Words.j1]
    have hlt : (l.take i).length ≤ l.length := by simp; omega
    rw [size_B, if_pos (by omega), if_pos (by omega), Int.toNat_natCast, extract_B, List.drop_zero]
    have hcut := ref_cut_eq 32 (by omega) (l.take i) (by omega) k (by omega)
    rw [show ((32 : Nat) : Int) = (32 : Int) from rfl] at hcut
    rw [hcut, Option.bind_some]
    have hle := splitL_len 32 (l.take i)
    have hle2 : (cutL 32 (l.take i)).length ≤ (splitL 32 (l.take i)).length := by
      unfold cutL dropLastE; split
      · simp
      · exact Nat.le_refl _
    have := refWords_loop1 (cutL 32 (l.take i)) (by omega) _ [] 0 k (Nat.zero_add _) (by omega) (Nat.zero_le _)
    rw [show UInt8.ofNat 32 = 32 from rfl]
    simp only [List.map_nil, List.nil_append, List.drop_zero] at this
    rw [show ((0 : Nat) : Int) = 0 from rfl] at this
    rw [this]
    unfold cutL
    rw [filter_dropLastE]
theorem refWords_loop0 (l : Bs) (hl : l.length < 8796093022207) : ∀ (n : Nat) (i k : Nat), i + n = l.length → n + l.length + 4 < k → 35 ∉ l.take i →
    swingbridgeref7_Words.l0 k (B l) (i : Int) = some ((wordsL l).map B)
  | n, i, 0, hn, hk, hno => by omega
  | 0, i, k + 1, hn, hk, hno => by
    unfold swingbridgeref7_Words.l0
    rw [size_B, if_neg (by omega), refWords_j1 l hl i k (by omega) (by omega)]
    unfold wordsL upto
    have : i = l.length := by omega
    subst this
    rw [List.take_length] at hno ⊢
    rw [takeWhile_none 35 hno]
  | n + 1, i, k + 1, hn, hk, hno => by
    unfold swingbridgeref7_Words.l0
    have hi : i < l.length := by omega
    have e0 : l.getD i 0 = l[i] := by simp [hi]
    rw [size_B, if_pos (by omega), if_pos (by omega), bt_B, e0, w64s i (by omega)]
    by_cases h : l[i] = 35
    · rw [if_pos (by rw [h]; rfl), refWords_j1 l hl i k (by omega) (by omega)]
      unfold wordsL upto
      rw [takeWhile_hit 35 (post := l.drop (i + 1)) _ hno]
      conv => lhs; rw [← List.take_append_drop i l]
      rw [List.drop_eq_getElem_cons hi, h]
    · have h2 : ¬ ((l[i].toNat : Int) = 35) := by
        intro e
        apply h
        apply UInt8.toNat_inj.1
        show l[i].toNat = 35
        omega
      rw [if_neg h2]
      refine refWords_loop0 l hl n (i + 1) k (by omega) (by omega) ?_
      rw [List.take_succ_eq_append_getElem hi]
      intro hm
      rcases List.mem_append.1 hm with hm | hm
      · exact hno hm
      · exact h (List.mem_singleton.1 hm).symm
theorem refWords_eq (l : Bs) (hl : l.length < 8796093022207) (k : Nat) (hk : 2 * l.length + 4 < k) : swingbridgeref7_Words.f k (B l) = some ((wordsL l).map B) := by
  unfold swingbridgeref7_Words.f
  exact refWords_loop0 l hl l.length 0 k (by omega) (by omega) (by simp)
theorem refLines_eq (l : Bs) (hl : l.length < 8796093022208) (k : Nat) (hk : l.length < k) : swingbridgeref7_Lines.f k (B l) = some ((cutL 10 l).map B) := by
  unfold swingbridgeref7_Lines.f
  have := ref_cut_eq 10 (by omega) l hl k hk
  rw [show ((10 : Nat) : Int) = (10 : Int) from rfl] at this
  rw [this]
  rfl

/-! ### the same -/
theorem same_loop (xs ys : List Bs) (hxy : xs.length = ys.length) (hl : xs.length < 9223372036854775807) : ∀ (n i k : Nat), i + n = xs.length → n < k → swingbridgelaw7_same.l0 k (xs.map B) (ys.map B) (i : Int) = some (decide (xs.drop i = ys.drop i))
  | n, i, 0, hn, hk => by omega
  | 0, i, k + 1, hn, hk => by
    unfold swingbridgelaw7_same.l0
    rw [List.length_map, if_neg (by omega), List.drop_eq_nil_of_le (by omega), List.drop_eq_nil_of_le (by omega)]
    rfl
  | n + 1, i, k + 1, hn, hk => by
    unfold swingbridgelaw7_same.l0
    have hi : i < xs.length := by omega
    have hj : i < ys.length := by omega
    rw [List.length_map, if_pos (by omega), if_pos (by omega), List.length_map, if_pos (by omega), rdOf_B, rdOf_B, toList_B, toList_B, w64s i (by omega), List.drop_eq_getElem_cons hi, List.drop_eq_getElem_cons hj]
    have e0 : xs.getD i [] = xs[i] := by simp [hi]
    have e1 : ys.getD i [] = ys[i] := by simp [hj]
    rw [e0, e1]
    by_cases h : xs[i] = ys[i]
    · rw [if_pos h, same_loop xs ys hxy hl n (i + 1) k (by omega) (by omega)]
      congr 1
      rw [h]
      simp only [List.cons.injEq, true_and]
    · rw [if_neg h]
      have : ¬ (xs[i] :: xs.drop (i + 1) = ys[i] :: ys.drop (i + 1)) := fun e => h (List.cons.inj e).1
      rw [decide_eq_false this]
theorem same_eq (xs ys : List Bs) (hl : xs.length < 9223372036854775807) (k : Nat) (hk : xs.length < k) : swingbridgelaw7_same.f k (xs.map B) (ys.map B) = some (decide (xs = ys)) := by
  unfold swingbridgelaw7_same.f
  rw [List.length_map, List.length_map]
  by_cases h : xs.length = ys.length
  · rw [if_pos (by omega)]
    have := same_loop xs ys h hl xs.length 0 k (by omega) hk
    simpa using this
  · rw [if_neg (by omega)]
    have : xs ≠ ys := fun e => h (by rw [e])
    simp [this]

end Go.Proofs.YtgkjoodlcojkkaaDoor.Y
end
section
/- Names, numbers, numbers' texts: what words and its reference compute, as plain functions of lists of bytes. Conditions: lengths within the bounds that each statement names. -/
namespace Go.Proofs.YtgkjoodlcojkkaaDoor.Y
open Go.RowKit Go.Proofs.YtgkjoodlcojkkaaDoorW.PrintWords Go.Proofs.YtgkjoodlcojkkaaDoorW.PrintLast Go.Proofs.YtgkjoodlcojkkaaDoorW.PrintMore Go.Proofs.YtgkjoodlcojkkaaDoor.QD
set_option linter.unusedVariables false
set_option linter.unusedSimpArgs false

/-! ### names -/
def letter (x : UInt8) : Bool := decide (97 ≤ x.toNat) && decide (x.toNat ≤ 122)
def digit (x : UInt8) : Bool := decide (48 ≤ x.toNat) && decide (x.toNat ≤ 57)
def nameGo : Bool → Bs → Bool
  | _, [] => true
  | first, x :: xs => (letter x || (!first && digit x)) && nameGo false xs
theorem nameGo_cons (b : Bool) (x : UInt8) (xs : Bs) : nameGo b (x :: xs) = ((letter x || (!b && digit x)) && nameGo false xs) := rfl
def nameS (l : Bs) : Bool := nameGo true l && (!l.isEmpty && decide (l.length ≤ 8))
theorem name_loop (l : Bs) (hl : l.length < 9223372036854775807) : ∀ (n i k : Nat), i + n = l.length → n < k → words_Name.l0 k (B l) (l.length : Int) (i : Int) = some (nameGo (i == 0) (l.drop i) && (!l.isEmpty && decide (l.length ≤ 8)))
  | n, i, 0, hn, hk => by omega
  | 0, i, k + 1, hn, hk => by
    unfold words_Name.l0
    rw [if_neg (by omega), toList_B, size_B, List.drop_eq_nil_of_le (by omega)]
    by_cases h : l = []
    · rw [if_pos h]; simp [h]
    · have he : l.isEmpty = false := by simp [h]
      rw [if_neg h, he]
      simp only [nameGo, Bool.true_and, Bool.not_false]
      rw [decide_eq_decide.2 (show ((l.length : Nat) : Int) ≤ 8 ↔ l.length ≤ 8 by omega)]
  | n + 1, i, k + 1, hn, hk => by
    unfold words_Name.l0
    have hi : i < l.length := by omega
    have e0 : l.getD i 0 = l[i] := by simp [hi]
    have ih := name_loop l hl n (i + 1) k (by omega) (by omega)
    rw [if_pos (by omega), if_pos (by omega), size_B, if_pos (by omega), bt_B, e0, w64s i (by omega), ih, List.drop_eq_getElem_cons hi]
    have hz : ((i + 1 == 0) : Bool) = false := by simp
    rw [hz, nameGo_cons]
    generalize nameGo false (List.drop (i + 1) l) = R
    generalize (!l.isEmpty && decide (l.length ≤ 8)) = R2
    unfold letter digit
    generalize l[i].toNat = v
    have hii : ((i : Int) = 0) = (i = 0) := propext ⟨fun h => by omega, fun h => by omega⟩
    have hbe : (i == 0) = decide (i = 0) := by by_cases h : i = 0 <;> simp [h]
    simp only [hii, hbe]
    have k1 : ((v : Int) ≥ 48) = (48 ≤ v) := propext ⟨fun h => by omega, fun h => by omega⟩
    have k2 : ((v : Int) < 97) = ¬ (97 ≤ v) := propext ⟨fun h => by omega, fun h => by omega⟩
    have k3 : ((v : Int) > 122) = ¬ (v ≤ 122) := propext ⟨fun h => by omega, fun h => by omega⟩
    have k4 : ((v : Int) ≤ 57) = (v ≤ 57) := propext ⟨fun h => by omega, fun h => by omega⟩
    simp only [k1, k2, k3, k4]
    by_cases a1 : 48 ≤ v <;> by_cases a2 : 97 ≤ v <;> by_cases a3 : v ≤ 122 <;> by_cases a4 : v ≤ 57 <;> by_cases a5 : i = 0 <;> simp [a1, a2, a3, a4, a5] <;> (try omega)
theorem words_Name_eq (l : Bs) (hl : l.length < 9223372036854775807) (k : Nat) (hk : l.length < k) : words_Name.f k (B l) = some (nameS l) := by
  unfold words_Name.f
  rw [size_B]
  have := name_loop l hl l.length 0 k (by omega) hk
  simpa [nameS] using this
theorem refName_loop (l : Bs) (hl : l.length < 9223372036854775807) : ∀ (n i k : Nat), i + n = l.length → n < k → swingbridgeref7_Name.l0 k (B l) (i : Int) = some (nameGo (i == 0) (l.drop i) && (!l.isEmpty && decide (l.length ≤ 8)))
  | n, i, 0, hn, hk => by omega
  | 0, i, k + 1, hn, hk => by
    unfold swingbridgeref7_Name.l0
    rw [size_B, if_neg (by omega), List.drop_eq_nil_of_le (by omega)]
    by_cases h : l = []
    · subst h; rfl
    · have : 0 < l.length := List.length_pos_iff.2 h
      have he : l.isEmpty = false := by simp [h]
      rw [if_pos (by omega), he]
      simp only [nameGo, Bool.true_and, Bool.not_false]
      rw [decide_eq_decide.2 (show ((l.length : Nat) : Int) ≤ 8 ↔ l.length ≤ 8 by omega)]
  | n + 1, i, k + 1, hn, hk => by
    unfold swingbridgeref7_Name.l0
    have hi : i < l.length := by omega
    have e0 : l.getD i 0 = l[i] := by simp [hi]
    have ih := refName_loop l hl n (i + 1) k (by omega) (by omega)
    rw [size_B, if_pos (by omega), if_pos (by omega), bt_B, e0, w64s i (by omega), ih, List.drop_eq_getElem_cons hi]
    have hz : ((i + 1 == 0) : Bool) = false := by simp
    rw [hz, nameGo_cons]
    generalize nameGo false (List.drop (i + 1) l) = R
    generalize (!l.isEmpty && decide (l.length ≤ 8)) = R2
    unfold letter digit
    generalize l[i].toNat = v
    have hii : ((i : Int) = 0) = (i = 0) := propext ⟨fun h => by omega, fun h => by omega⟩
    have hbe : (i == 0) = decide (i = 0) := by by_cases h : i = 0 <;> simp [h]
    simp only [hii, hbe]
    have k1 : ((v : Int) < 48) = ¬ (48 ≤ v) := propext ⟨fun h => by omega, fun h => by omega⟩
    have k2 : ((v : Int) < 97) = ¬ (97 ≤ v) := propext ⟨fun h => by omega, fun h => by omega⟩
    have k3 : ((v : Int) > 122) = ¬ (v ≤ 122) := propext ⟨fun h => by omega, fun h => by omega⟩
    have k4 : ((v : Int) > 57) = ¬ (v ≤ 57) := propext ⟨fun h => by omega, fun h => by omega⟩
    simp only [k1, k2, k3, k4]
    by_cases a1 : 48 ≤ v <;> by_cases a2 : 97 ≤ v <;> by_cases a3 : v ≤ 122 <;> by_cases a4 : v ≤ 57 <;> by_cases a5 : i = 0 <;> simp [a1, a2, a3, a4, a5] <;> (try omega)
theorem refName_eq (l : Bs) (hl : l.length < 9223372036854775807) (k : Nat) (hk : l.length < k) : swingbridgeref7_Name.f k (B l) = some (nameS l) := by
  unfold swingbridgeref7_Name.f
  have := refName_loop l hl l.length 0 k (by omega) hk
  simpa [nameS] using this

/-! ### numbers -/
def val (n : Nat) (l : Bs) : Nat := l.foldl (fun n x => 10 * n + (x.toNat - 48)) n
def good (l : Bs) : Bool := (!l.isEmpty && l.all digit) && (decide (l.length ≤ 1) || l.headD 0 != 48)
def numS (l : Bs) : Int × Bool := if good l && decide (l.length ≤ 7) then (((val 0 l : Nat) : Int), true) else (0, false)
theorem digit_iff (x : UInt8) : digit x = true ↔ 48 ≤ x.toNat ∧ x.toNat ≤ 57 := by unfold digit; simp
theorem val_lt : ∀ (l : Bs) (n b : Nat), l.all digit = true → n < 10 ^ b → val n l < 10 ^ (b + l.length)
  | [], n, b, _, h => h
  | x :: xs, n, b, hd, h => by
    rw [List.all_cons, Bool.and_eq_true, digit_iff] at hd
    have := val_lt xs (10 * n + (x.toNat - 48)) (b + 1) hd.2 (by rw [Nat.pow_succ]; omega)
    rw [List.length_cons, show b + (xs.length + 1) = b + 1 + xs.length by omega]
    exact this
theorem val_snoc (l : Bs) (n : Nat) (x : UInt8) : val n (l ++ [x]) = 10 * val n l + (x.toNat - 48) := by unfold val; simp
theorem num_loop (l : Bs) (hl : l.length ≤ 7) : ∀ (n i m k : Nat), i + n = l.length → n < k → m < 10 ^ i → swingbridgeref7_Num.l0 k (B l) (m : Int) (i : Int) = some (if (l.drop i).all digit = true then ((val m (l.drop i) : Nat) : Int) else 0, (l.drop i).all digit)
  | n, i, m, 0, hn, hk, hm => by omega
  | 0, i, m, k + 1, hn, hk, hm => by
    rw [swingbridgeref7_Num.l0, size_B, if_neg (by omega), List.drop_eq_nil_of_le (by omega)]
    rfl
  | n + 1, i, m, k + 1, hn, hk, hm => by
    have hi : i < l.length := by omega
    have e0 : l.getD i 0 = l[i] := by simp [hi]
    have hp : 10 ^ i ≤ 10 ^ 6 := Nat.pow_le_pow_right (by omega) (by omega)
    rw [swingbridgeref7_Num.l0, size_B, if_pos (by omega), if_pos (by omega), bt_B, e0, w64s i (by omega), List.drop_eq_getElem_cons hi, List.all_cons]
    by_cases h1 : l[i].toNat < 48
    · have : digit l[i] = false := by rw [← Bool.not_eq_true, digit_iff]; omega
      rw [if_pos (by omega), this]; rfl
    · rw [if_neg (by omega)]
      by_cases h2 : 57 < l[i].toNat
      · have : digit l[i] = false := by rw [← Bool.not_eq_true, digit_iff]; omega
        rw [if_pos (by omega), this]; rfl
      · rw [if_neg (by omega)]
        have hd : digit l[i] = true := (digit_iff _).2 (by omega)
        rw [hd, Bool.true_and]
        have e1 : wrap64 (wrap64 (10 * (m : Int)) + (((l[i].toNat : Nat) : Int) - 48) % 256) = ((10 * m + (l[i].toNat - 48) : Nat) : Int) := by
          rw [w64 (n := 10 * (m : Int)) (by omega), w64 (by omega)]; omega
        rw [e1, num_loop l hl n (i + 1) _ k (by omega) (by omega) (by rw [Nat.pow_succ]; omega)]
        rfl
theorem refNum_eq (l : Bs) (k : Nat) (hk : l.length + 2 < k) : swingbridgeref7_Num.f k (B l) = some (numS l) := by
  unfold swingbridgeref7_Num.f
  have hj : ∀ b k, 0 < k → swingbridgeref7_Num.j0 k (B l) b = if b = true then some (0, false) else swingbridgeref7_Num.l0 (k - 1) (B l) 0 0 := by
    intro b k hk
    cases k with
    | zero => omega
    | succ k => rw [swingbridgeref7_Num.j0]; rfl
  rw [size_B]
  unfold numS good
  cases l with
  | nil => rw [if_pos (by simp), hj _ _ (by omega)]; rfl
  | cons x xs =>
    rw [if_neg (by rw [List.length_cons]; omega)]
    by_cases h7 : (x :: xs).length ≤ 7
    · rw [if_neg (by omega), if_pos (by rw [List.length_cons]; omega)]
      have hb : bt (B (x :: xs)) 0 = (x.toNat : Int) := by have := bt_B (x :: xs) 0; simpa using this
      have hx : ((x.toNat : Int) = 48) ↔ x = 48 := ⟨fun h => UInt8.toNat_inj.1 (by show x.toNat = 48; omega), fun h => by rw [h]; rfl⟩
      have hloop := num_loop (x :: xs) h7 (x :: xs).length 0 0 (k - 1) (by omega) (by omega) (by omega)
      rw [List.drop_zero] at hloop
      simp only [Int.natCast_zero, Int.ofNat_zero, Int.cast_ofNat_Int] at hloop
      rw [hb, hj _ _ (by omega), hj _ _ (by omega), hloop]
      have hlt : decide ((x :: xs).length ≤ 7) = true := decide_eq_true h7
      have hne : (x :: xs).isEmpty = false := rfl
      rw [hlt, hne, Bool.and_true]
      show (if (x.toNat : Int) = 48 then _ else _) = some (if ((!false && (x :: xs).all digit) && (decide ((x :: xs).length ≤ 1) || x != 48)) = true then _ else _)
      rw [Bool.not_false, Bool.true_and]
      by_cases c : x = 48
      · rw [if_pos (hx.2 c)]
        by_cases c2 : (x :: xs).length ≤ 1
        · rw [if_neg (by rw [decide_eq_true_eq]; omega), decide_eq_true c2, Bool.true_or, Bool.and_true]
          cases (x :: xs).all digit <;> rfl
        · rw [if_pos (by rw [decide_eq_true_eq]; omega), decide_eq_false c2, c]
          have : ((48 : UInt8) != 48) = false := by decide
          rw [this, Bool.or_false, Bool.and_false]
          rfl
      · have hb2 : (x != 48) = true := bne_iff_ne.2 c
        rw [if_neg (fun e => c (hx.1 e)), if_neg Bool.false_ne_true, hb2, Bool.or_true, Bool.and_true]
        cases (x :: xs).all digit <;> rfl
    · rw [if_pos (by omega), hj _ _ (by omega), if_pos rfl, decide_eq_false h7, Bool.and_false]
      rfl

end Go.Proofs.YtgkjoodlcojkkaaDoor.Y
end
section
/- words.Num, words.Text and their references: the same numbers, the same texts. Conditions: texts of at most 400 bytes. -/
namespace Go.Proofs.YtgkjoodlcojkkaaDoor.Y
open Go.RowKit Go.Proofs.YtgkjoodlcojkkaaDoorW.PrintWords Go.Proofs.YtgkjoodlcojkkaaDoorW.PrintLast Go.Proofs.YtgkjoodlcojkkaaDoorW.PrintMore Go.Proofs.YtgkjoodlcojkkaaDoor.QD
set_option linter.unusedVariables false
set_option linter.unusedSimpArgs false

/-! ### the decimal digits of a number -/
theorem dec_small {n : Nat} (h : n < 10) : Lib.decDigits n = [UInt8.ofNat (48 + n)] := Lib.decDigits_one h
theorem dec_big {n : Nat} (h : ¬ n < 10) : Lib.decDigits n = Lib.decDigits (n / 10) ++ [UInt8.ofNat (48 + n % 10)] := by rw [Lib.decDigits, dif_neg h]
theorem toNat_dig {n : Nat} (h : n < 10) : (UInt8.ofNat (48 + n)).toNat = 48 + n := UInt8.toNat_ofNat_of_lt' (by show 48 + n < 256; omega)
theorem digit_dig {n : Nat} (h : n < 10) : digit (UInt8.ofNat (48 + n)) = true := (digit_iff _).2 (by rw [toNat_dig h]; omega)
theorem dec_facts : ∀ n : Nat, (Lib.decDigits n).all digit = true ∧ val 0 (Lib.decDigits n) = n ∧ Lib.decDigits n ≠ [] ∧ (n ≠ 0 → (Lib.decDigits n).headD 0 ≠ 48) := by
  intro n
  induction n using Nat.strongRecOn with
  | _ n ih =>
    by_cases h : n < 10
    · rw [dec_small h]
      refine ⟨by rw [List.all_cons, digit_dig h]; rfl, by show 10 * 0 + _ = _; rw [toNat_dig h]; omega, by simp, fun h0 => ?_⟩
      show UInt8.ofNat (48 + n) ≠ 48
      intro e
      have := congrArg UInt8.toNat e
      rw [toNat_dig h] at this
      have h48 : (48 : UInt8).toNat = 48 := rfl
      omega
    · obtain ⟨h1, h2, h3, h4⟩ := ih (n / 10) (by omega)
      rw [dec_big h]
      refine ⟨by rw [List.all_append, h1, List.all_cons, digit_dig (Nat.mod_lt n (by omega : 10 > 0))]; rfl, ?_, by simp, fun _ => ?_⟩
      · rw [val_snoc, h2, toNat_dig (Nat.mod_lt n (by omega))]; omega
      · cases hd : Lib.decDigits (n / 10) with
        | nil => exact absurd hd h3
        | cons x xs =>
          have := h4 (by omega)
          rw [hd] at this
          exact this
theorem good_dec (n : Nat) : good (Lib.decDigits n) = true := by
  obtain ⟨h1, h2, h3, h4⟩ := dec_facts n
  unfold good
  have he : (Lib.decDigits n).isEmpty = false := by cases h : Lib.decDigits n with
    | nil => exact absurd h h3
    | cons x xs => rfl
  rw [h1, he, Bool.and_true, Bool.not_false, Bool.true_and]
  by_cases h : n = 0
  · subst h; rw [dec_small (by omega)]; rfl
  · have : ((Lib.decDigits n).headD 0 != 48) = true := bne_iff_ne.2 (h4 h)
    rw [this, Bool.or_true]
theorem val_pos : ∀ {l : Bs} {n : Nat}, 0 < n → 0 < val n l
  | [], n, h => h
  | x :: xs, n, h => val_pos (l := xs) (n := 10 * n + (x.toNat - 48)) (by omega)
theorem dec_val_aux : ∀ (m : Nat) (l : Bs), l.length = m → good l = true → Lib.decDigits (val 0 l) = l
  | 0, l, hm, hg => by
    rw [List.length_eq_zero_iff.1 hm] at hg; cases hg
  | m + 1, l, hm, hg => by
    have hne : l ≠ [] := by intro e; rw [e] at hm; cases hm
    have hsp := List.dropLast_concat_getLast hne
    generalize hx : l.getLast hne = x at hsp
    generalize hi : l.dropLast = ini at hsp
    subst hsp
    unfold good at hg
    simp only [Bool.and_eq_true, List.all_append, List.all_cons, List.all_nil, Bool.and_true] at hg
    obtain ⟨⟨_, hd1, hd2⟩, hz⟩ := hg
    have hxd := (digit_iff x).1 hd2
    have hxe : UInt8.ofNat (48 + (x.toNat - 48)) = x := by
      apply UInt8.toNat_inj.1
      rw [toNat_dig (by omega)]; omega
    rw [val_snoc]
    cases ini with
    | nil =>
      show Lib.decDigits (10 * 0 + (x.toNat - 48)) = [x]
      rw [Nat.mul_zero, Nat.zero_add, dec_small (by omega), hxe]
    | cons y ys =>
      have hy : y ≠ 48 := by
        simp only [List.cons_append, List.length_cons, List.length_append, List.headD_cons] at hz
        rw [Bool.or_eq_true] at hz
        rcases hz with hz | hz
        · rw [decide_eq_true_eq] at hz
          simp at hz
        · simpa using hz
      have hg2 : good (y :: ys) = true := by
        unfold good
        rw [hd1]
        simp [hy]
      have ih := dec_val_aux m (y :: ys) (by simpa using hm) hg2
      have hyd := (digit_iff y).1 (by rw [List.all_cons, Bool.and_eq_true] at hd1; exact hd1.1)
      have hv : 0 < val 0 (y :: ys) := by
        show 0 < val (10 * 0 + (y.toNat - 48)) ys
        apply val_pos
        have : y.toNat ≠ 48 := fun e => hy (UInt8.toNat_inj.1 (by rw [e]; rfl))
        omega
      rw [dec_big (by omega)]
      have e1 : (10 * val 0 (y :: ys) + (x.toNat - 48)) / 10 = val 0 (y :: ys) := by omega
      have e2 : (10 * val 0 (y :: ys) + (x.toNat - 48)) % 10 = x.toNat - 48 := by omega
      rw [e1, e2, ih, hxe]
theorem dec_val {l : Bs} (hg : good l = true) : Lib.decDigits (val 0 l) = l := dec_val_aux _ l rfl hg

/-! ### words.Num -/
theorem parse_ok : ∀ (l : Bs) (acc b : Nat), l.all digit = true → acc < 10 ^ b → b + l.length ≤ 7 → Lib.parseUint10 acc l = .ok (val acc l)
  | [], acc, b, _, _, _ => rfl
  | x :: xs, acc, b, hd, ha, hb => by
    rw [List.all_cons, Bool.and_eq_true, digit_iff] at hd
    rw [List.length_cons] at hb
    have hp : 10 ^ b ≤ 10 ^ 6 := Nat.pow_le_pow_right (by omega) (by omega)
    unfold Lib.parseUint10
    rw [if_pos hd.1, if_neg (by omega), if_neg (by omega), parse_ok xs _ (b + 1) hd.2 (by rw [Nat.pow_succ]; omega) (by omega)]
    show _ = Lib.NumEnd.ok (val (10 * acc + _) xs)
    rw [Nat.mul_comm]
theorem atoi_good {l : Bs} (hg : good l = true) (h7 : l.length ≤ 7) : Lib.atoiAll l = .ok ((val 0 l : Nat) : Int) := by
  have hg' := hg
  unfold good at hg
  rw [Bool.and_eq_true, Bool.and_eq_true] at hg
  cases l with
  | nil => cases hg.1.1
  | cons c r =>
    have hc := (digit_iff c).1 (by have := hg.1.2; rw [List.all_cons, Bool.and_eq_true] at this; exact this.1)
    unfold Lib.atoiAll
    have h1 : ¬ (c.toNat = 43 ∨ c.toNat = 45) := by omega
    have hv := val_lt (c :: r) 0 0 hg.1.2 (by omega)
    have hp : 10 ^ (0 + (c :: r).length) ≤ 10 ^ 7 := Nat.pow_le_pow_right (by omega) (by omega)
    have hpm : Lib.parseMag (c :: r) = .ok (val 0 (c :: r)) := by
      unfold Lib.parseMag
      rw [if_neg (by simp), parse_ok (c :: r) 0 0 hg.1.2 (by omega) (by omega)]
    simp only [if_neg h1, hpm]
    rw [if_neg (by omega), if_neg (by omega), if_neg (by omega)]
theorem words_Num_eq (l : Bs) (hl : l.length ≤ 281474976710656) : words_Num.f (B l) = some (numS l) := by
  unfold words_Num.f
  rw [size_B, if_pos hl, data_B]
  by_cases hg : good l = true
  · by_cases h7 : l.length ≤ 7
    · rw [atoi_good hg h7]
      simp only
      rw [if_neg (by omega), if_neg (by omega), toList_B]
      have : Lib.itoa ((val 0 l : Nat) : Int) = l := by
        unfold Lib.itoa
        rw [if_neg (by omega), Int.toNat_natCast, dec_val hg]
      rw [if_pos this]
      unfold numS
      rw [hg, decide_eq_true h7]
      rfl
    · have hn : numS l = (0, false) := by unfold numS; rw [decide_eq_false h7, Bool.and_false]; rfl
      rw [hn]
      rcases Lib.atoiAll l with v | _ | _
      · simp only; rw [if_pos (by omega)]
      · rfl
      · rfl
  · have hn : numS l = (0, false) := by unfold numS; rw [Bool.not_eq_true] at hg; rw [hg]; rfl
    rw [hn]
    rcases Lib.atoiAll l with v | _ | _
    · simp only
      split
      · rfl
      · split
        · rfl
        · rename_i h2
          rw [toList_B, if_neg]
          intro e
          apply hg
          rw [← e]
          unfold Lib.itoa
          rw [if_neg h2]
          exact good_dec _
    · rfl
    · rfl

/-! ### numbers' texts -/
def textS (n : Int) : Bs := if n < 0 then [] else if n > 9999999 then [] else Lib.decDigits n.toNat
theorem words_Text_eq (n : Int) : words_Text.f n = some (B (textS n)) := by
  unfold words_Text.f textS
  split
  · rfl
  · split
    · rfl
    · unfold strconv_Itoa_28.f
      rw [if_pos (by omega), Option.bind_some]
      unfold Lib.itoa
      rw [if_neg (by omega)]
      rfl
theorem nDig_le : ∀ (j n : Nat), n < 10 ^ j → Lib.nDigits n ≤ j + 1
  | 0, n, h => by rw [Lib.nDigits_small (by omega)]; exact Nat.le_refl _
  | j + 1, n, h => by
    by_cases h10 : n < 10
    · rw [Lib.nDigits_small h10]; omega
    · rw [Lib.nDigits_big h10]
      have := nDig_le j (n / 10) (by rw [Nat.pow_succ] at h; omega)
      omega
theorem refText_nat : ∀ (j n k : Nat), n < 10 ^ (j + 1) → n ≤ 9999999 → 2 * j + 2 < k → swingbridgeref7_Text.f k ((n : Nat) : Int) = some (B (Lib.decDigits n))
  | j, n, 0, h, h2, hk => by omega
  | j, n, 1, h, h2, hk => by omega
  | j, n, k + 2, h, h2, hk => by
    rw [swingbridgeref7_Text.f, if_neg (by omega), swingbridgeref7_Text.j0, if_neg (by rw [decide_eq_true_eq]; omega)]
    by_cases hn : n < 10
    · rw [if_pos (by omega), dec_small hn]
      have : wrap64 (48 + (n : Int)) % 256 = ((48 + n : Nat) : Int) := by rw [w64 (by omega)]; omega
      rw [this]
      rfl
    · rw [if_neg (by omega)]
      have e1 : wrap64 (Int.tdiv (n : Int) 10) = ((n / 10 : Nat) : Int) := by
        rw [Int.tdiv_eq_ediv_of_nonneg (by omega), w64 (by omega)]; omega
      cases j with
      | zero => omega
      | succ j =>
        rw [e1, refText_nat j (n / 10) k (by rw [Nat.pow_succ] at h; omega) (by omega) (by omega), Option.bind_some]
        have e2 : wrap64 (48 + Int.tmod (n : Int) 10) % 256 = ((48 + n % 10 : Nat) : Int) := by
          rw [Int.tmod_eq_emod_of_nonneg (by omega), w64 (by omega)]; omega
        rw [e2, Option.bind_some, dec_big hn]
        have e3 : strOfNums [((48 + n % 10 : Nat) : Int)] = B [UInt8.ofNat (48 + n % 10)] := rfl
        have hlen : (Lib.decDigits (n / 10)).length ≤ 20 := by
          have h7 : n / 10 < 10 ^ 6 := by omega
          rw [Lib.decDigits_length]
          by_cases h0 : Lib.nDigits (n / 10) ≤ 20
          · exact h0
          · exact absurd (nDig_le 6 _ h7) (by omega)
        rw [e3, size_B, size_B, if_pos (by simp only [List.length_cons, List.length_nil]; omega), append_B]
theorem refText_eq (n : Int) (k : Nat) (hk : 20 < k) : swingbridgeref7_Text.f k n = some (B (textS n)) := by
  unfold textS
  by_cases h : n < 0
  · rw [if_pos h]
    obtain ⟨k, rfl⟩ : ∃ j, k = j + 2 := ⟨k - 2, by omega⟩
    rw [swingbridgeref7_Text.f, if_pos h, swingbridgeref7_Text.j0, if_pos rfl]
    rfl
  · rw [if_neg h]
    by_cases h2 : n > 9999999
    · rw [if_pos h2]
      obtain ⟨k, rfl⟩ : ∃ j, k = j + 2 := ⟨k - 2, by omega⟩
      rw [swingbridgeref7_Text.f, if_neg h, swingbridgeref7_Text.j0, if_pos (decide_eq_true h2)]
      rfl
    · rw [if_neg h2]
      have := refText_nat 6 n.toNat k (by omega) (by omega) (by omega)
      rwa [Int.toNat_of_nonneg (by omega)] at this

end Go.Proofs.YtgkjoodlcojkkaaDoor.Y
end
section
/- The contract of text.protocol (an array literal, indexed), in the form of the printed ones. Condition: the number is one of 0 to 3, else the plain function tells nothing. -/
namespace Go.Proofs.YtgkjoodlcojkkaaDoor.QD
open Go.RowKit Go.Proofs.YtgkjoodlcojkkaaDoorW.PrintWords Go.Proofs.YtgkjoodlcojkkaaDoorW.PrintLast Go.Proofs.YtgkjoodlcojkkaaDoorW.PrintMore
set_option linter.unusedVariables false
set_option linter.unusedSimpArgs false
def text_protocol.f (a0 : Int) : Option (ByteArray) :=
  if a0 = 0 then some ⟨#[]⟩ else if a0 = 1 then some ⟨#[102, 97, 105, 114]⟩ else if a0 = 2 then some ⟨#[97, 103, 101, 110, 116]⟩ else if a0 = 3 then some ⟨#[116, 111, 107, 101, 110]⟩ else none
set_option maxHeartbeats 8000000 in
set_option maxRecDepth 100000 in
theorem text_protocol.calls (a0 : Int) (r : ByteArray) (w : World) (h : text_protocol.f a0 = some r) :
    Calls Tryd.prog 35 #[.int .i64 a0] w fun e w' => e = .returned (.string r) ∧ Below w.heap.size w w' := by
  have hu91 := Tryd.underlying91
  unfold text_protocol.f at h
  by_cases c0 : a0 = 0
  · subst c0
    have hix : ∀ w, (Instr.index 91 (.agg #[.string { data := #[] }, .string { data := #[102, 97, 105, 114] }, .string { data := #[97, 103, 101, 110, 116] }, .string { data := #[116, 111, 107, 101, 110] }]) (.int .i64 0)).run Tryd.prog w = .ok (.string { data := #[] }) w := fun w => by kernel_rfl
    obtain rfl := Option.some.inj ((if_pos rfl).symm.trans h)
    go_enter Tryd.func35, Tryd.ntmps35
    go_wp2
    go_ret
    exact ⟨rfl, Below.refl _ _⟩
  rw [if_neg c0] at h
  by_cases c1 : a0 = 1
  · subst c1
    have hix : ∀ w, (Instr.index 91 (.agg #[.string { data := #[] }, .string { data := #[102, 97, 105, 114] }, .string { data := #[97, 103, 101, 110, 116] }, .string { data := #[116, 111, 107, 101, 110] }]) (.int .i64 1)).run Tryd.prog w = .ok (.string { data := #[102, 97, 105, 114] }) w := fun w => by kernel_rfl
    obtain rfl := Option.some.inj ((if_pos rfl).symm.trans h)
    go_enter Tryd.func35, Tryd.ntmps35
    go_wp2
    go_ret
    exact ⟨rfl, Below.refl _ _⟩
  rw [if_neg c1] at h
  by_cases c2 : a0 = 2
  · subst c2
    have hix : ∀ w, (Instr.index 91 (.agg #[.string { data := #[] }, .string { data := #[102, 97, 105, 114] }, .string { data := #[97, 103, 101, 110, 116] }, .string { data := #[116, 111, 107, 101, 110] }]) (.int .i64 2)).run Tryd.prog w = .ok (.string { data := #[97, 103, 101, 110, 116] }) w := fun w => by kernel_rfl
    obtain rfl := Option.some.inj ((if_pos rfl).symm.trans h)
    go_enter Tryd.func35, Tryd.ntmps35
    go_wp2
    go_ret
    exact ⟨rfl, Below.refl _ _⟩
  rw [if_neg c2] at h
  by_cases c3 : a0 = 3
  · subst c3
    have hix : ∀ w, (Instr.index 91 (.agg #[.string { data := #[] }, .string { data := #[102, 97, 105, 114] }, .string { data := #[97, 103, 101, 110, 116] }, .string { data := #[116, 111, 107, 101, 110] }]) (.int .i64 3)).run Tryd.prog w = .ok (.string { data := #[116, 111, 107, 101, 110] }) w := fun w => by kernel_rfl
    obtain rfl := Option.some.inj ((if_pos rfl).symm.trans h)
    go_enter Tryd.func35, Tryd.ntmps35
    go_wp2
    go_ret
    exact ⟨rfl, Below.refl _ _⟩
  rw [if_neg c3] at h
  cases h
end Go.Proofs.YtgkjoodlcojkkaaDoor.QD
end
section
-- written by a program of this session (wip/tools): the functions that the laws reach, as plain Lean, and their walks
namespace Go.Proofs.YtgkjoodlcojkkaaDoor.QD
open Go.RowKit Go.Proofs.YtgkjoodlcojkkaaDoorW.PrintWords Go.Proofs.YtgkjoodlcojkkaaDoorW.PrintLast Go.Proofs.YtgkjoodlcojkkaaDoorW.PrintMore
attribute [local go_sem] max2_int min2_int max_two min_two max_three min_three max_four min_four   -- for this text's walks alone
set_option linter.unusedVariables false
set_option linter.unusedSimpArgs false

/-! ### task_between: function 52 -/
def task_between.f (a0 : Int) (a1 : Int) (a2 : Int) : Option (Bool) := if a0 ≥ a1 then (some (decide (a0 ≤ a2))) else (some false)
set_option maxHeartbeats 8000000 in
set_option maxRecDepth 100000 in
theorem task_between.calls (a0 : Int) (a1 : Int) (a2 : Int) (r : Bool) (w : World) (h : task_between.f a0 a1 a2 = some r) :
    Calls Tryd.prog 52 #[.int .i64 a0, .int .i64 a1, .int .i64 a2] w fun e w' => e = .returned (.bool r) ∧ Drawn0 w w' := by
  have H : (if a0 ≥ a1 then (some (decide (a0 ≤ a2))) else (some false)) = some r := h
  clear h
  by_cases c4 : a0 ≥ a1
  rotate_left
  · rw [if_neg c4] at H
    have c4b0 : decide (a1 ≤ a0) = false := decide_eq_false c4
    clear c4
    obtain rfl := Option.some.inj H
    go_enter Tryd.func52, Tryd.ntmps52
    go_wp2
    go_ret
    exact ⟨by first | rfl | (simp; done) | (simp [*]; done), by repeat (first | exact Drawn0.refl _ | apply Drawn0.step)⟩
  rw [if_pos c4] at H
  have c4b0 : decide (a1 ≤ a0) = true := decide_eq_true c4
  clear c4
  obtain rfl := Option.some.inj H
  go_enter Tryd.func52, Tryd.ntmps52
  go_wp2
  go_ret
  exact ⟨by first | rfl | (simp; done) | (simp [*]; done), by repeat (first | exact Drawn0.refl _ | apply Drawn0.step)⟩

end Go.Proofs.YtgkjoodlcojkkaaDoor.QD
end
