import Derived.Test.YtgkjoodlcojkkaaDoorProg
import Derived.WalkSmall
import Derived.Lib.LaidTab
import Derived.Shelf.Strconv.AtoiAll
import Derived.Shelf.Strconv.Itoa3
import Derived.Shelf.Strings.Builder1
import Derived.Shelf.Utf8.RuneCount
import Derived.Shelf.Strconv.Atoi
import Derived.Shelf.Strconv.Itoa0
import Derived.Shelf.Strconv.Itoa1
import Derived.Shelf.LaysM
import Derived.Shelf.Strconv.Itoa2
import Derived.Shelf.Strconv.AtoiErrFast
import Derived.Shelf.Strconv.ParseIntEmpty
import Derived.Shelf.Strconv.AtoiFail
import Derived.Shelf.Strconv.Clone
import Derived.Shelf.Strconv.SyntaxError
import Derived.Shelf.LaysC
import Derived.Shelf.Strconv.ToError
import Derived.Shelf.Strconv.Lower
import Derived.Shelf.Strconv.ParseUint10
import Derived.Shelf.Strconv.ParseUint10Empty
import Derived.Shelf.Strconv.ParseUint10Any
import Derived.Shelf.Strconv.ParseInt10
import Derived.Shelf.Strconv.AtoiLong
import Derived.Shelf.Strconv.AtoiInnerAll
import Derived.Shelf.Strconv.RangeError
import Derived.Shelf.Strconv.ToErrorRange
import Derived.Shelf.Strings.Search1
import Derived.Shelf.Strings.Search2
import Derived.Shelf.Strings.Search3
import Derived.Shelf.Strings.Cut
import Derived.Shelf.Strings.Count
import Derived.Shelf.Strings.Shaped
import Derived.Shelf.Strings.Prefix
import Derived.Shelf.Strings.Split
import Derived.Shelf.Strings.SplitShaped
import Derived.Shelf.Unicode.Decode
import Derived.Shelf.Strings.RuneCount
import Derived.Shelf.Strings.Explode
import Derived.Shelf.Unicode.DecodeSlow
import Derived.Shelf.Unicode.DecodeAny
import Derived.Test.YtgkjoodlcojkkaaDoorRows
import Derived.WalkKit
import Derived.ProofKit
import Derived.OpenShut
import Derived.ShutString
import Derived.ChangeOld
import Derived.Below
import Derived.SizedLaws
import Derived.LaidMore
import Derived.Lay
import Derived.Stop.Joined
import Derived.Stop.LaidErr
import Derived.Deep.Draws
import Derived.Deep.AppendLies
import Derived.Maps.AppendAt
import Derived.OwnWalk
import Derived.Laws.BytesArg
import Derived.Laws.MakeOwn
import Derived.Laws.OwnMore
import Derived.Deep.OwnRows
import Derived.Tactics
import Derived.Lib.ConvBytes
import Derived.Laws.Slices
import Derived.KernelRfl
import Derived.RowKit3
import Derived.Deep.LoopGhost
import Derived.Deep.QuietTactic
import Derived.BigQuiet
import Derived.WideLaws
import Derived.Deep.DeepCutAuto
import Derived.Deep.CutBlock
import Derived.Deep.RegionHeld3
import Derived.Laws.Rows
import Derived.Lib.AppendStr
import Derived.ArgAppend
import Derived.Laws.IdiomCopy
import Derived.OrdersHeld
import Derived.Laws.BitsLemmas
import Derived.RowKit
import Derived.WalkMore
import Derived.Test.YtgkjoodlcojkkaaDoorMU1
import Derived.Lib.SplitLaws
import Derived.Lib.AppendIntMem
import Derived.Lib.AtoiErrMem
import Derived.Lib.CutLaws
import Derived.Lib.IndexLaws
section
namespace Go.Proofs.YtgkjoodlcojkkaaDoor
open Go Go.RowKit
structure GlobAt (w : World) : Prop where
  maxlen : ∃ m : Int, w.cell? ⟨2, 0, none⟩ = some (.int .i64 m)
  pow : Lib.TabIs Tryd.prog w "internal/strconv.uint64pow10" .u64 Lib.pow10Tab
  esyn : ∃ t p, w.var? Tryd.prog "strconv.ErrSyntax" = some #[.iface t p]
  eran : ∃ t p, w.var? Tryd.prog "strconv.ErrRange" = some #[.iface t p]
def Glob (w : World) : Prop := ∃ u, GlobAt u ∧ Below u.heap.size u w
theorem Glob.below {w w' : World} (h : Glob w) (hb : Below w.heap.size w w') : Glob w' := by
  obtain ⟨u, hu, h⟩ := h
  exact ⟨u, hu, h.trans (hb.mono h.size)⟩
theorem Glob.alloc {w : World} (h : Glob w) (o : Obj) : Glob (w.alloc o) := h.below ((Below.refl _ _).alloc (Nat.le_refl _) o)
theorem Glob.drew {w : World} (h : Glob w) : Glob w.drew := h.below (Below.refl _ _).drew
theorem Glob.drewN {w : World} (h : Glob w) (n : Nat) : Glob (w.drewN n) := h.below ⟨rfl, rfl, rfl, Nat.le_refl _, fun _ _ => rfl⟩
theorem var_kept {u w : World} {n : String} {cs : Array Value} (hv : u.var? Tryd.prog n = some cs) (hb : Below u.heap.size u w) : w.var? Tryd.prog n = some cs := by
  have hv' := hv
  unfold World.var? at hv
  obtain ⟨g, hg, hv⟩ := Option.bind_eq_some_iff.1 hv
  have hlt : g < u.heap.size := by
    by_cases h : g < u.heap.size
    · exact h
    · have : u.heap[g]? = none := Array.getElem?_eq_none_iff.2 (by omega)
      rw [this] at hv; cases hv
  exact var?_below hb hg hlt hv'
theorem Glob.at {w : World} (h : Glob w) : GlobAt w := by
  obtain ⟨u, ⟨⟨m, h1⟩, h2, ⟨t3, p3, h3⟩, ⟨t4, p4, h4⟩⟩, hb⟩ := h
  exact ⟨⟨m, (hb.cell (World.block_lt_of_cell? u _ h1)).trans h1⟩, var_kept h2 hb, ⟨t3, p3, var_kept h3 hb⟩, ⟨t4, p4, var_kept h4 hb⟩⟩
end Go.Proofs.YtgkjoodlcojkkaaDoor
end
section
namespace Go.Proofs
open Go.Shelf
def Tryd.laysM171_ren : Go.Shelf.Ren := ⟨fun | 171 => 28 | 243 => 47 | 246 => 64 | 283 => 82 | 284 => 83 | 285 => 84 | 286 => 85 | 129 => 99 | 317 => 98 | 318 => 100 | 319 => 101 | 320 => 102 | 337 => 106 | 338 => 107 | n => n, fun | 3 => 3 | 9 => 9 | 2 => 2 | 4 => 4 | 171 => 123 | 0 => 0 | 53 => 116 | 37 => 55 | 5 => 5 | 173 => 126 | 212 => 140 | 51 => 141 | 20 => 20 | 213 => 142 | 46 => 32 | 232 => 151 | 233 => 152 | n => n, fun | 17 => 3 | 18 => 6 | 19 => 7 | n => n⟩
theorem Tryd.laysM171 : Go.Proofs.LaysM.n171 Tryd.prog Tryd.laysM171_ren := {
  mixed := by kernel_rfl
  f129 := Tryd.func99.trans (congrArg some (by kernel_rfl))
  f171 := Tryd.func28.trans (congrArg some (by kernel_rfl))
  f243 := Tryd.func47.trans (congrArg some (by kernel_rfl))
  f246 := Tryd.func64.trans (congrArg some (by kernel_rfl))
  f283 := Tryd.func82.trans (congrArg some (by kernel_rfl))
  f284 := Tryd.func83.trans (congrArg some (by kernel_rfl))
  f285 := Tryd.func84.trans (congrArg some (by kernel_rfl))
  f286 := Tryd.func85.trans (congrArg some (by kernel_rfl))
  f317 := Tryd.func98.trans (congrArg some (by kernel_rfl))
  f318 := Tryd.func100.trans (congrArg some (by kernel_rfl))
  f319 := Tryd.func101.trans (congrArg some (by kernel_rfl))
  f320 := Tryd.func102.trans (congrArg some (by kernel_rfl))
  f337 := Tryd.func106.trans (congrArg some (by kernel_rfl))
  f338 := Tryd.func107.trans (congrArg some (by kernel_rfl))
  t0 := Tryd.underlying0
  a0 := Tryd.isAgg0
  z0 := Tryd.sizeOf0
  v0 := Tryd.zeroValue0
  t2 := Tryd.underlying2
  a2 := Tryd.isAgg2
  z2 := Tryd.sizeOf2
  v2 := Tryd.zeroValue2
  t3 := Tryd.underlying3
  a3 := Tryd.isAgg3
  z3 := Tryd.sizeOf3
  v3 := Tryd.zeroValue3
  t4 := Tryd.underlying4
  a4 := Tryd.isAgg4
  z4 := Tryd.sizeOf4
  v4 := Tryd.zeroValue4
  t5 := Tryd.underlying5
  a5 := Tryd.isAgg5
  z5 := Tryd.sizeOf5
  v5 := Tryd.zeroValue5
  t9 := Tryd.underlying9
  a9 := Tryd.isAgg9
  z9 := Tryd.sizeOf9
  v9 := Tryd.zeroValue9
  t20 := Tryd.underlying20
  a20 := Tryd.isAgg20
  z20 := Tryd.sizeOf20
  v20 := Tryd.zeroValue20
  t37 := Tryd.underlying55
  a37 := Tryd.isAgg55
  z37 := Tryd.sizeOf55
  v37 := Tryd.zeroValue55
  t46 := Tryd.underlying32
  a46 := Tryd.isAgg32
  z46 := Tryd.sizeOf32
  v46 := Tryd.zeroValue32
  t51 := Tryd.underlying141
  a51 := Tryd.isAgg141
  z51 := Tryd.sizeOf141
  v51 := Tryd.zeroValue141
  t53 := Tryd.underlying116
  a53 := Tryd.isAgg116
  z53 := Tryd.sizeOf116
  v53 := Tryd.zeroValue116
  t171 := Tryd.underlying123
  a171 := Tryd.isAgg123
  z171 := Tryd.sizeOf123
  v171 := Tryd.zeroValue123
  t173 := Tryd.underlying126
  a173 := Tryd.isAgg126
  z173 := Tryd.sizeOf126
  v173 := Tryd.zeroValue126
  t212 := Tryd.underlying140
  a212 := Tryd.isAgg140
  z212 := Tryd.sizeOf140
  v212 := Tryd.zeroValue140
  t213 := Tryd.underlying142
  a213 := Tryd.isAgg142
  z213 := Tryd.sizeOf142
  t232 := Tryd.underlying151
  a232 := Tryd.isAgg151
  z232 := Tryd.sizeOf151
  v232 := Tryd.zeroValue151
  t233 := Tryd.underlying152
  a233 := Tryd.isAgg152
  z233 := Tryd.sizeOf152
  v233 := Tryd.zeroValue152
  g17 := by kernel_rfl
  g18 := by kernel_rfl
  g19 := by kernel_rfl
  i0 := by kernel_rfl
  i2 := by kernel_rfl
  i3 := by kernel_rfl
  i4 := by kernel_rfl
  i5 := by kernel_rfl
  i9 := by kernel_rfl
  i20 := by kernel_rfl
  i37 := by kernel_rfl
  i46 := by kernel_rfl
  i51 := by kernel_rfl
  i53 := by kernel_rfl
  i171 := by kernel_rfl
  i173 := by kernel_rfl
  i212 := by kernel_rfl
  i232 := by kernel_rfl
  i233 := by kernel_rfl
  m17 := by kernel_rfl
  m18 := by kernel_rfl
  m19 := by kernel_rfl }
open Go.RowKit Go.Sort Go.Lib in
theorem Tryd.strconv_Itoa (n : Int) (h0 : -9223372036854775808 ≤ n) (h1 : n ≤ 9223372036854775807) (w : World) (htab : Lib.TabIs Tryd.prog w "internal/strconv.uint64pow10" .u64 Lib.pow10Tab) :
    Calls Tryd.prog 28 #[.int .i64 n] w fun e w' => e = .returned (.string ⟨(Lib.itoa n).toArray⟩) ∧ ∃ k os, w' = grow (w.drewN k) os := Any.strconv_Itoa Tryd.laysM171 n h0 h1 w htab
def Tryd.laysC172_ren : Go.Shelf.Ren := ⟨fun | 172 => 27 | 244 => 45 | 245 => 46 | 247 => 59 | 279 => 60 | 280 => 61 | 281 => 62 | 282 => 63 | 287 => 79 | 316 => 80 | 171 => 28 | 205 => 81 | 321 => 96 | 322 => 97 | 243 => 47 | 246 => 64 | 283 => 82 | 284 => 83 | 285 => 84 | 286 => 85 | 129 => 99 | 317 => 98 | 318 => 100 | 319 => 101 | 320 => 102 | 337 => 106 | 338 => 107 | n => n, fun | 9 => 9 | 3 => 3 | 75 => 58 | 76 => 59 | 4 => 4 | 5 => 5 | 167 => 98 | 37 => 55 | 0 => 0 | 85 => 99 | 2 => 2 | 168 => 101 | 53 => 116 | 175 => 117 | 46 => 32 | 210 => 121 | 127 => 92 | 145 => 138 | 143 => 136 | 21 => 21 | 171 => 123 | 173 => 126 | 212 => 140 | 51 => 141 | 20 => 20 | 213 => 142 | 232 => 151 | 233 => 152 | 80 => 74 | n => n, fun | 15 => 0 | 16 => 1 | 17 => 3 | 18 => 6 | 19 => 7 | n => n⟩
theorem Tryd.laysC172 : Go.Proofs.LaysC.n172 Tryd.prog Tryd.laysC172_ren := {
  mixed := by kernel_rfl
  f129 := Tryd.func99.trans (congrArg some (by kernel_rfl))
  f171 := Tryd.func28.trans (congrArg some (by kernel_rfl))
  f172 := Tryd.func27.trans (congrArg some (by kernel_rfl))
  f205 := Tryd.func81.trans (congrArg some (by kernel_rfl))
  f243 := Tryd.func47.trans (congrArg some (by kernel_rfl))
  f244 := Tryd.func45.trans (congrArg some (by kernel_rfl))
  f245 := Tryd.func46.trans (congrArg some (by kernel_rfl))
  f246 := Tryd.func64.trans (congrArg some (by kernel_rfl))
  f247 := Tryd.func59.trans (congrArg some (by kernel_rfl))
  f279 := Tryd.func60.trans (congrArg some (by kernel_rfl))
  f280 := Tryd.func61.trans (congrArg some (by kernel_rfl))
  f281 := Tryd.func62.trans (congrArg some (by kernel_rfl))
  f282 := Tryd.func63.trans (congrArg some (by kernel_rfl))
  f283 := Tryd.func82.trans (congrArg some (by kernel_rfl))
  f284 := Tryd.func83.trans (congrArg some (by kernel_rfl))
  f285 := Tryd.func84.trans (congrArg some (by kernel_rfl))
  f286 := Tryd.func85.trans (congrArg some (by kernel_rfl))
  f287 := Tryd.func79.trans (congrArg some (by kernel_rfl))
  f316 := Tryd.func80.trans (congrArg some (by kernel_rfl))
  f317 := Tryd.func98.trans (congrArg some (by kernel_rfl))
  f318 := Tryd.func100.trans (congrArg some (by kernel_rfl))
  f319 := Tryd.func101.trans (congrArg some (by kernel_rfl))
  f320 := Tryd.func102.trans (congrArg some (by kernel_rfl))
  f321 := Tryd.func96.trans (congrArg some (by kernel_rfl))
  f322 := Tryd.func97.trans (congrArg some (by kernel_rfl))
  f337 := Tryd.func106.trans (congrArg some (by kernel_rfl))
  f338 := Tryd.func107.trans (congrArg some (by kernel_rfl))
  t0 := Tryd.underlying0
  a0 := Tryd.isAgg0
  z0 := Tryd.sizeOf0
  v0 := Tryd.zeroValue0
  t2 := Tryd.underlying2
  a2 := Tryd.isAgg2
  z2 := Tryd.sizeOf2
  v2 := Tryd.zeroValue2
  t3 := Tryd.underlying3
  a3 := Tryd.isAgg3
  z3 := Tryd.sizeOf3
  v3 := Tryd.zeroValue3
  t4 := Tryd.underlying4
  a4 := Tryd.isAgg4
  z4 := Tryd.sizeOf4
  v4 := Tryd.zeroValue4
  t5 := Tryd.underlying5
  a5 := Tryd.isAgg5
  z5 := Tryd.sizeOf5
  v5 := Tryd.zeroValue5
  t9 := Tryd.underlying9
  a9 := Tryd.isAgg9
  z9 := Tryd.sizeOf9
  v9 := Tryd.zeroValue9
  t20 := Tryd.underlying20
  a20 := Tryd.isAgg20
  z20 := Tryd.sizeOf20
  v20 := Tryd.zeroValue20
  t21 := Tryd.underlying21
  a21 := Tryd.isAgg21
  z21 := Tryd.sizeOf21
  v21 := Tryd.zeroValue21
  t37 := Tryd.underlying55
  a37 := Tryd.isAgg55
  z37 := Tryd.sizeOf55
  v37 := Tryd.zeroValue55
  t46 := Tryd.underlying32
  a46 := Tryd.isAgg32
  z46 := Tryd.sizeOf32
  v46 := Tryd.zeroValue32
  t51 := Tryd.underlying141
  a51 := Tryd.isAgg141
  z51 := Tryd.sizeOf141
  v51 := Tryd.zeroValue141
  t53 := Tryd.underlying116
  a53 := Tryd.isAgg116
  z53 := Tryd.sizeOf116
  v53 := Tryd.zeroValue116
  t75 := Tryd.underlying58
  a75 := Tryd.isAgg58
  z75 := Tryd.sizeOf58
  v75 := Tryd.zeroValue58
  t76 := Tryd.underlying59
  a76 := Tryd.isAgg59
  z76 := Tryd.sizeOf59
  v76 := Tryd.zeroValue59
  t85 := Tryd.underlying99
  a85 := Tryd.isAgg99
  z85 := Tryd.sizeOf99
  v85 := Tryd.zeroValue99
  t127 := Tryd.underlying92
  a127 := Tryd.isAgg92
  z127 := Tryd.sizeOf92
  v127 := Tryd.zeroValue92
  t143 := Tryd.underlying136
  a143 := Tryd.isAgg136
  z143 := Tryd.sizeOf136
  v143 := Tryd.zeroValue136
  t145 := Tryd.underlying138
  a145 := Tryd.isAgg138
  z145 := Tryd.sizeOf138
  v145 := Tryd.zeroValue138
  t167 := Tryd.underlying98
  a167 := Tryd.isAgg98
  z167 := Tryd.sizeOf98
  v167 := Tryd.zeroValue98
  t168 := Tryd.underlying101
  a168 := Tryd.isAgg101
  z168 := Tryd.sizeOf101
  v168 := Tryd.zeroValue101
  t171 := Tryd.underlying123
  a171 := Tryd.isAgg123
  z171 := Tryd.sizeOf123
  v171 := Tryd.zeroValue123
  t173 := Tryd.underlying126
  a173 := Tryd.isAgg126
  z173 := Tryd.sizeOf126
  v173 := Tryd.zeroValue126
  t175 := Tryd.underlying117
  a175 := Tryd.isAgg117
  z175 := Tryd.sizeOf117
  v175 := Tryd.zeroValue117
  t210 := Tryd.underlying121
  a210 := Tryd.isAgg121
  z210 := Tryd.sizeOf121
  v210 := Tryd.zeroValue121
  t212 := Tryd.underlying140
  a212 := Tryd.isAgg140
  z212 := Tryd.sizeOf140
  v212 := Tryd.zeroValue140
  t213 := Tryd.underlying142
  a213 := Tryd.isAgg142
  z213 := Tryd.sizeOf142
  t232 := Tryd.underlying151
  a232 := Tryd.isAgg151
  z232 := Tryd.sizeOf151
  v232 := Tryd.zeroValue151
  t233 := Tryd.underlying152
  a233 := Tryd.isAgg152
  z233 := Tryd.sizeOf152
  v233 := Tryd.zeroValue152
  g15 := by kernel_rfl
  g16 := by kernel_rfl
  g17 := by kernel_rfl
  g18 := by kernel_rfl
  g19 := by kernel_rfl
  t80 := Tryd.underlying74
  a80 := Tryd.isAgg74
  z80 := Tryd.sizeOf74
  v80 := Tryd.zeroValue74
  i0 := by kernel_rfl
  i2 := by kernel_rfl
  i3 := by kernel_rfl
  i4 := by kernel_rfl
  i5 := by kernel_rfl
  i9 := by kernel_rfl
  i20 := by kernel_rfl
  i21 := by kernel_rfl
  i37 := by kernel_rfl
  i46 := by kernel_rfl
  i51 := by kernel_rfl
  i53 := by kernel_rfl
  i75 := by kernel_rfl
  i76 := by kernel_rfl
  i80 := by kernel_rfl
  i85 := by kernel_rfl
  i127 := by kernel_rfl
  i143 := by kernel_rfl
  i145 := by kernel_rfl
  i167 := by kernel_rfl
  i168 := by kernel_rfl
  i171 := by kernel_rfl
  i173 := by kernel_rfl
  i175 := by kernel_rfl
  i210 := by kernel_rfl
  i212 := by kernel_rfl
  i232 := by kernel_rfl
  i233 := by kernel_rfl
  m15 := by kernel_rfl
  m16 := by kernel_rfl
  m17 := by kernel_rfl
  m18 := by kernel_rfl
  m19 := by kernel_rfl
  c0 := by kernel_rfl
  c2 := by kernel_rfl
  c3 := by kernel_rfl
  c4 := by kernel_rfl
  c5 := by kernel_rfl
  c9 := by kernel_rfl
  c20 := by kernel_rfl
  c21 := by kernel_rfl
  c37 := by kernel_rfl
  c46 := by kernel_rfl
  c51 := by kernel_rfl
  c53 := by kernel_rfl
  c75 := by kernel_rfl
  c76 := by kernel_rfl
  c80 := by kernel_rfl
  c85 := by kernel_rfl
  c127 := by kernel_rfl
  c143 := by kernel_rfl
  c145 := by kernel_rfl
  c167 := by kernel_rfl
  c168 := by kernel_rfl
  c171 := by kernel_rfl
  c173 := by kernel_rfl
  c175 := by kernel_rfl
  c210 := by kernel_rfl
  c212 := by kernel_rfl
  c213 := by kernel_rfl
  c232 := by kernel_rfl
  c233 := by kernel_rfl }
open Go.RowKit in
theorem Tryd.strconv_Atoi_ok (s : ByteArray) (hmax : s.size ≤ 9223372036854775806) (v : Int) (h : Lib.atoiAll s.data.toList = .ok v) (w : World) :
    Calls Tryd.prog 27 #[.string s] w fun e w' => e = .returned (.tuple #[.int .i64 v, .nilIface]) ∧ (w' = w ∨ ∃ t, w' = Lib.bytesWorld w 5 t) := Any.strconv_Atoi_ok Tryd.laysC172 s hmax v h w
open Go.RowKit in
theorem Tryd.strconv_Atoi_range (s : ByteArray) (hlim : s.size ≤ 281474976710656) (h : Lib.atoiAll s.data.toList = .range) (ev : Value) (w : World) (hv : w.cell? ⟨1, 0, none⟩ = some ev) (hev : ev = .nilIface ∨ ∃ te pe, ev = .iface te pe) :
    Calls Tryd.prog 27 #[.string s] w fun e w' => ∃ N, e = .returned (.tuple #[.int .i64 (Lib.atoiSat s.data.toList), .iface 101 (.pointer (some ⟨N, 0, none⟩))]) ∧ w.heap.size ≤ N ∧ w'.heap[N]? = some (.cells #[.string ⟨#[65, 116, 111, 105]⟩, .string s, ev] 121 (0, 0)) ∧ Below w.heap.size w w' := Any.strconv_Atoi_range Tryd.laysC172 s hlim h ev w hv hev
def Tryd.lays144_ren : Go.Shelf.Ren := ⟨fun | 144 => 78 | 143 => 67 | 219 => 68 | 217 => 89 | 225 => 90 | 224 => 91 | 267 => 92 | 266 => 104 | 314 => 105 | n => n, fun | 9 => 9 | 4 => 4 | 3 => 3 | 5 => 5 | 46 => 32 | 146 => 144 | 51 => 141 | n => n, fun | 1 => 2 | n => n⟩
theorem Tryd.lays144 : Go.Proofs.Lays.n144 Tryd.prog Tryd.lays144_ren := {
  mixed := by kernel_rfl
  f143 := Tryd.func67.trans (congrArg some (by kernel_rfl))
  f144 := Tryd.func78.trans (congrArg some (by kernel_rfl))
  f217 := Tryd.func89.trans (congrArg some (by kernel_rfl))
  f219 := Tryd.func68.trans (congrArg some (by kernel_rfl))
  f224 := Tryd.func91.trans (congrArg some (by kernel_rfl))
  f225 := Tryd.func90.trans (congrArg some (by kernel_rfl))
  f266 := Tryd.func104.trans (congrArg some (by kernel_rfl))
  f267 := Tryd.func92.trans (congrArg some (by kernel_rfl))
  f314 := Tryd.func105.trans (congrArg some (by kernel_rfl))
  t3 := Tryd.underlying3
  a3 := Tryd.isAgg3
  z3 := Tryd.sizeOf3
  v3 := Tryd.zeroValue3
  t4 := Tryd.underlying4
  a4 := Tryd.isAgg4
  z4 := Tryd.sizeOf4
  v4 := Tryd.zeroValue4
  t5 := Tryd.underlying5
  a5 := Tryd.isAgg5
  z5 := Tryd.sizeOf5
  v5 := Tryd.zeroValue5
  t9 := Tryd.underlying9
  a9 := Tryd.isAgg9
  z9 := Tryd.sizeOf9
  v9 := Tryd.zeroValue9
  t46 := Tryd.underlying32
  a46 := Tryd.isAgg32
  z46 := Tryd.sizeOf32
  v46 := Tryd.zeroValue32
  t51 := Tryd.underlying141
  a51 := Tryd.isAgg141
  z51 := Tryd.sizeOf141
  v51 := Tryd.zeroValue141
  t146 := Tryd.underlying144
  a146 := Tryd.isAgg144
  z146 := Tryd.sizeOf144
  v146 := Tryd.zeroValue144
  g1 := by kernel_rfl }
open Go.RowKit Go.Lib in
theorem Tryd.strings_Contains (s sub : ByteArray) (m : Int) (w : World) (hs : s.size < 4294967281) (hm : w.cell? ⟨2, 0, none⟩ = some (.int .i64 m)) :
    Calls Tryd.prog 78 #[.string s, .string sub] w fun e w' => e = .returned (.bool (Lib.contains s.data.toList sub.data.toList)) ∧ w' = w := Any.strings_Contains Tryd.lays144 s sub m w hs hm
def Tryd.lays145_ren : Go.Shelf.Ren := ⟨fun | 145 => 31 | 220 => 49 | 219 => 68 | 217 => 89 | 225 => 90 | 224 => 91 | 267 => 92 | 266 => 104 | 314 => 105 | n => n, fun | 9 => 9 | 4 => 4 | 59 => 63 | 3 => 3 | 5 => 5 | 46 => 32 | 146 => 144 | 51 => 141 | n => n, fun | 1 => 2 | n => n⟩
theorem Tryd.lays145 : Go.Proofs.Lays.n145 Tryd.prog Tryd.lays145_ren := {
  mixed := by kernel_rfl
  f145 := Tryd.func31.trans (congrArg some (by kernel_rfl))
  f217 := Tryd.func89.trans (congrArg some (by kernel_rfl))
  f219 := Tryd.func68.trans (congrArg some (by kernel_rfl))
  f220 := Tryd.func49.trans (congrArg some (by kernel_rfl))
  f224 := Tryd.func91.trans (congrArg some (by kernel_rfl))
  f225 := Tryd.func90.trans (congrArg some (by kernel_rfl))
  f266 := Tryd.func104.trans (congrArg some (by kernel_rfl))
  f267 := Tryd.func92.trans (congrArg some (by kernel_rfl))
  f314 := Tryd.func105.trans (congrArg some (by kernel_rfl))
  t3 := Tryd.underlying3
  a3 := Tryd.isAgg3
  z3 := Tryd.sizeOf3
  v3 := Tryd.zeroValue3
  t4 := Tryd.underlying4
  a4 := Tryd.isAgg4
  z4 := Tryd.sizeOf4
  v4 := Tryd.zeroValue4
  t5 := Tryd.underlying5
  a5 := Tryd.isAgg5
  z5 := Tryd.sizeOf5
  v5 := Tryd.zeroValue5
  t9 := Tryd.underlying9
  a9 := Tryd.isAgg9
  z9 := Tryd.sizeOf9
  v9 := Tryd.zeroValue9
  t46 := Tryd.underlying32
  a46 := Tryd.isAgg32
  z46 := Tryd.sizeOf32
  v46 := Tryd.zeroValue32
  t51 := Tryd.underlying141
  a51 := Tryd.isAgg141
  z51 := Tryd.sizeOf141
  v51 := Tryd.zeroValue141
  t59 := Tryd.underlying63
  a59 := Tryd.isAgg63
  z59 := Tryd.sizeOf63
  v59 := Tryd.zeroValue63
  t146 := Tryd.underlying144
  a146 := Tryd.isAgg144
  z146 := Tryd.sizeOf144
  v146 := Tryd.zeroValue144
  g1 := by kernel_rfl }
open Go.RowKit Go.Lib in
theorem Tryd.strings_Cut (s sep : ByteArray) (m : Int) (w : World) (hs : s.size < 4294967281) (hm : w.cell? ⟨2, 0, none⟩ = some (.int .i64 m)) :
    Calls Tryd.prog 31 #[.string s, .string sep] w fun e w' => e = .returned (.tuple #[.string ⟨(Lib.cut s.data.toList sep.data.toList).1.toArray⟩, .string ⟨(Lib.cut s.data.toList sep.data.toList).2.1.toArray⟩, .bool (Lib.cut s.data.toList sep.data.toList).2.2]) ∧ ∃ n, w' = w.drewN n := Any.strings_Cut Tryd.lays145 s sep m w hs hm
def Tryd.lays99_ren : Go.Shelf.Ren := ⟨fun | 99 => 77 | 206 => 95 | n => n, fun | 9 => 9 | 4 => 4 | 3 => 3 | n => n, fun | n => n⟩
theorem Tryd.lays99 : Go.Proofs.Lays.n99 Tryd.prog Tryd.lays99_ren := {
  mixed := by kernel_rfl
  f99 := Tryd.func77.trans (congrArg some (by kernel_rfl))
  f206 := Tryd.func95.trans (congrArg some (by kernel_rfl))
  t3 := Tryd.underlying3
  a3 := Tryd.isAgg3
  z3 := Tryd.sizeOf3
  v3 := Tryd.zeroValue3
  t4 := Tryd.underlying4
  a4 := Tryd.isAgg4
  z4 := Tryd.sizeOf4
  v4 := Tryd.zeroValue4
  t9 := Tryd.underlying9
  a9 := Tryd.isAgg9
  z9 := Tryd.sizeOf9
  v9 := Tryd.zeroValue9 }
open Go.RowKit Go.Lib in
theorem Tryd.strings_HasPrefix (s p : ByteArray) (w : World) :
    Calls Tryd.prog 77 #[.string s, .string p] w fun e w' => e = .returned (.bool (Lib.hasPrefix s.data.toList p.data.toList)) ∧ w' = w := Any.strings_HasPrefix Tryd.lays99 s p w
def Tryd.lays146_ren : Go.Shelf.Ren := ⟨fun | 146 => 29 | 221 => 48 | 268 => 65 | 138 => 66 | 143 => 67 | 195 => 86 | 197 => 87 | 218 => 88 | 219 => 68 | 260 => 103 | 217 => 89 | 225 => 90 | 224 => 91 | 267 => 92 | 266 => 104 | 314 => 105 | n => n, fun | 9 => 9 | 31 => 26 | 3 => 3 | 4 => 4 | 0 => 0 | 105 => 129 | 21 => 21 | 5 => 5 | 46 => 32 | 119 => 147 | 139 => 150 | 138 => 149 | 146 => 144 | 51 => 141 | n => n, fun | 1 => 2 | 3 => 4 | 4 => 5 | n => n⟩
theorem Tryd.lays146 : Go.Proofs.Lays.n146 Tryd.prog Tryd.lays146_ren := {
  mixed := by kernel_rfl
  f138 := Tryd.func66.trans (congrArg some (by kernel_rfl))
  f143 := Tryd.func67.trans (congrArg some (by kernel_rfl))
  f146 := Tryd.func29.trans (congrArg some (by kernel_rfl))
  f195 := Tryd.func86.trans (congrArg some (by kernel_rfl))
  f197 := Tryd.func87.trans (congrArg some (by kernel_rfl))
  f217 := Tryd.func89.trans (congrArg some (by kernel_rfl))
  f218 := Tryd.func88.trans (congrArg some (by kernel_rfl))
  f219 := Tryd.func68.trans (congrArg some (by kernel_rfl))
  f221 := Tryd.func48.trans (congrArg some (by kernel_rfl))
  f224 := Tryd.func91.trans (congrArg some (by kernel_rfl))
  f225 := Tryd.func90.trans (congrArg some (by kernel_rfl))
  f260 := Tryd.func103.trans (congrArg some (by kernel_rfl))
  f266 := Tryd.func104.trans (congrArg some (by kernel_rfl))
  f267 := Tryd.func92.trans (congrArg some (by kernel_rfl))
  f268 := Tryd.func65.trans (congrArg some (by kernel_rfl))
  f314 := Tryd.func105.trans (congrArg some (by kernel_rfl))
  t0 := Tryd.underlying0
  a0 := Tryd.isAgg0
  z0 := Tryd.sizeOf0
  v0 := Tryd.zeroValue0
  t3 := Tryd.underlying3
  a3 := Tryd.isAgg3
  z3 := Tryd.sizeOf3
  v3 := Tryd.zeroValue3
  t4 := Tryd.underlying4
  a4 := Tryd.isAgg4
  z4 := Tryd.sizeOf4
  v4 := Tryd.zeroValue4
  t5 := Tryd.underlying5
  a5 := Tryd.isAgg5
  z5 := Tryd.sizeOf5
  v5 := Tryd.zeroValue5
  t9 := Tryd.underlying9
  a9 := Tryd.isAgg9
  z9 := Tryd.sizeOf9
  v9 := Tryd.zeroValue9
  t21 := Tryd.underlying21
  a21 := Tryd.isAgg21
  z21 := Tryd.sizeOf21
  v21 := Tryd.zeroValue21
  t31 := Tryd.underlying26
  a31 := Tryd.isAgg26
  z31 := Tryd.sizeOf26
  v31 := Tryd.zeroValue26
  t46 := Tryd.underlying32
  a46 := Tryd.isAgg32
  z46 := Tryd.sizeOf32
  v46 := Tryd.zeroValue32
  t51 := Tryd.underlying141
  a51 := Tryd.isAgg141
  z51 := Tryd.sizeOf141
  v51 := Tryd.zeroValue141
  t105 := Tryd.underlying129
  a105 := Tryd.isAgg129
  z105 := Tryd.sizeOf129
  v105 := Tryd.zeroValue129
  t119 := Tryd.underlying147
  a119 := Tryd.isAgg147
  z119 := Tryd.sizeOf147
  t138 := Tryd.underlying149
  a138 := Tryd.isAgg149
  z138 := Tryd.sizeOf149
  v138 := Tryd.zeroValue149
  t139 := Tryd.underlying150
  a139 := Tryd.isAgg150
  z139 := Tryd.sizeOf150
  v139 := Tryd.zeroValue150
  t146 := Tryd.underlying144
  a146 := Tryd.isAgg144
  z146 := Tryd.sizeOf144
  v146 := Tryd.zeroValue144
  g1 := by kernel_rfl
  g3 := by kernel_rfl
  g4 := by kernel_rfl }
open Go.RowKit Go.Lib in
theorem Tryd.strings_Split (s sep : ByteArray) (m : Int) (w : World) (hs : s.size < 4294967281) (hm : w.cell? ⟨2, 0, none⟩ = some (.int .i64 m)) (h1 : 1 ≤ sep.size) :
    Calls Tryd.prog 29 #[.string s, .string sep] w fun e w' =>
      e = .returned (.slice (some ⟨w.heap.size, 0, none⟩) (Lib.countB s sep + 1) (Lib.countB s sep + 1)) ∧ w' = w.alloc (.cells ((Lib.splitB sep 0 (Lib.countB s sep) s).map Value.string).toArray 9) := Any.strings_Split Tryd.lays146 (by kernel_rfl) s sep m w hs hm h1
def Tryd.laysM146_ren : Go.Shelf.Ren := ⟨fun | 146 => 29 | 221 => 48 | 268 => 65 | 138 => 66 | 143 => 67 | 195 => 86 | 197 => 87 | 218 => 88 | 219 => 68 | 260 => 103 | 217 => 89 | 225 => 90 | 224 => 91 | 267 => 92 | 266 => 104 | 314 => 105 | n => n, fun | 9 => 9 | 31 => 26 | 3 => 3 | 4 => 4 | 0 => 0 | 105 => 129 | 21 => 21 | 5 => 5 | 46 => 32 | 119 => 147 | 139 => 150 | 138 => 149 | 146 => 144 | 51 => 141 | n => n, fun | 1 => 2 | 3 => 4 | 4 => 5 | n => n⟩
theorem Tryd.laysM146 : Go.Proofs.LaysM.n146 Tryd.prog Tryd.laysM146_ren := {
  mixed := by kernel_rfl
  f138 := Tryd.func66.trans (congrArg some (by kernel_rfl))
  f143 := Tryd.func67.trans (congrArg some (by kernel_rfl))
  f146 := Tryd.func29.trans (congrArg some (by kernel_rfl))
  f195 := Tryd.func86.trans (congrArg some (by kernel_rfl))
  f197 := Tryd.func87.trans (congrArg some (by kernel_rfl))
  f217 := Tryd.func89.trans (congrArg some (by kernel_rfl))
  f218 := Tryd.func88.trans (congrArg some (by kernel_rfl))
  f219 := Tryd.func68.trans (congrArg some (by kernel_rfl))
  f221 := Tryd.func48.trans (congrArg some (by kernel_rfl))
  f224 := Tryd.func91.trans (congrArg some (by kernel_rfl))
  f225 := Tryd.func90.trans (congrArg some (by kernel_rfl))
  f260 := Tryd.func103.trans (congrArg some (by kernel_rfl))
  f266 := Tryd.func104.trans (congrArg some (by kernel_rfl))
  f267 := Tryd.func92.trans (congrArg some (by kernel_rfl))
  f268 := Tryd.func65.trans (congrArg some (by kernel_rfl))
  f314 := Tryd.func105.trans (congrArg some (by kernel_rfl))
  t0 := Tryd.underlying0
  a0 := Tryd.isAgg0
  z0 := Tryd.sizeOf0
  v0 := Tryd.zeroValue0
  t3 := Tryd.underlying3
  a3 := Tryd.isAgg3
  z3 := Tryd.sizeOf3
  v3 := Tryd.zeroValue3
  t4 := Tryd.underlying4
  a4 := Tryd.isAgg4
  z4 := Tryd.sizeOf4
  v4 := Tryd.zeroValue4
  t5 := Tryd.underlying5
  a5 := Tryd.isAgg5
  z5 := Tryd.sizeOf5
  v5 := Tryd.zeroValue5
  t9 := Tryd.underlying9
  a9 := Tryd.isAgg9
  z9 := Tryd.sizeOf9
  v9 := Tryd.zeroValue9
  t21 := Tryd.underlying21
  a21 := Tryd.isAgg21
  z21 := Tryd.sizeOf21
  v21 := Tryd.zeroValue21
  t31 := Tryd.underlying26
  a31 := Tryd.isAgg26
  z31 := Tryd.sizeOf26
  v31 := Tryd.zeroValue26
  t46 := Tryd.underlying32
  a46 := Tryd.isAgg32
  z46 := Tryd.sizeOf32
  v46 := Tryd.zeroValue32
  t51 := Tryd.underlying141
  a51 := Tryd.isAgg141
  z51 := Tryd.sizeOf141
  v51 := Tryd.zeroValue141
  t105 := Tryd.underlying129
  a105 := Tryd.isAgg129
  z105 := Tryd.sizeOf129
  v105 := Tryd.zeroValue129
  t119 := Tryd.underlying147
  a119 := Tryd.isAgg147
  z119 := Tryd.sizeOf147
  t138 := Tryd.underlying149
  a138 := Tryd.isAgg149
  z138 := Tryd.sizeOf149
  v138 := Tryd.zeroValue149
  t139 := Tryd.underlying150
  a139 := Tryd.isAgg150
  z139 := Tryd.sizeOf150
  v139 := Tryd.zeroValue150
  t146 := Tryd.underlying144
  a146 := Tryd.isAgg144
  z146 := Tryd.sizeOf144
  v146 := Tryd.zeroValue144
  g1 := by kernel_rfl
  g3 := by kernel_rfl
  g4 := by kernel_rfl
  i0 := by kernel_rfl
  i3 := by kernel_rfl
  i4 := by kernel_rfl
  i5 := by kernel_rfl
  i9 := by kernel_rfl
  i21 := by kernel_rfl
  i31 := by kernel_rfl
  i46 := by kernel_rfl
  i51 := by kernel_rfl
  i105 := by kernel_rfl
  i138 := by kernel_rfl
  i139 := by kernel_rfl
  i146 := by kernel_rfl
  m1 := by kernel_rfl
  s1_3 := fun w h => Go.Proofs.cell_of_shapedOpen_int (zero := #[.int .i64 0]) (t := 3) h (of_decide_eq_true (by kernel_rfl)) (by kernel_rfl) rfl (by kernel_rfl) (by kernel_rfl) Tryd.underlying3
  m3 := by kernel_rfl
  m4 := by kernel_rfl }
end Go.Proofs
end
section
namespace Go.Proofs.YtgkjoodlcojkkaaDoor
open Go.ChangeShapes Go.WideShapes Go.ChangeAt Go.RowKit
open Go.ChangeMaps (open_string shut_string)
set_option linter.unusedVariables false
theorem ownK : ownKnob Tryd.prog.godebug = none := by kernel_rfl
theorem returnsInHanded_both {H : Type} {enc : TypeId × Value → H} {a : Assume} {C : Checked} {os : Os} {f : FuncId} {fn : Func} {s : ChangeSpec} {conds : List PathCond} {apart fresh handsOn again : Bool} {X : World → Array Value → Prop}
    (hX : ∀ (w w' : World) (args : Array Value), w.heap = w'.heap → X w args → X w' args)
    (own : ownKnob C.prog.godebug = none) (started : os.Started) (noInit : C.prog.inits.idxOf? f = none) (hfn : C.prog.funcs[f]? = some fn)
    (witness : ∃ (w : World) (tape : Tape) (i : Input), w.os = os ∧ (w.forCall tape i).Shaped C.prog ∧ i.vars = [] ∧ Input.okWide C.prog (w.forCall tape i) .any w.heap.size f i ∧
      ((s.pre enc C.prog fn conds apart (w.forCall tape i).memory i.args ∧ X (w.forCall tape i).memory i.args) ∧ sizedMet enc C.prog fn (OpenSpec.ofChange s) apart (w.forCall tape i).memory i.args) ∧ a.holds C.prog (lone (Frame.enter C.prog f i.args .normal) [] (w.forCall tape i)))
    (contract : ∀ (W : World) (base : Nat) (args : Array Value) (ds gs : List (DataW H)) (before : List MemPlace),
      (∀ (j : Nat) t v, fn.params[j]? = some t → args[j]? = some v → Value.okWide C.prog W .any base t v) →
      DataW.Whole enc C.prog fn.params.toList s.vars apart W args.toList ds gs before →
      (DataW.weightsEach C.prog (fn.params.toList ++ s.plain.varTypes C.prog) (ds ++ gs)).all (· ≤ reachBytes) = true → X W args → W.ShapedOpen C.prog →
      Calls C.prog f args W fun e W' => ∃ v, e = .returned v ∧ s.post enc C.prog fn apart fresh handsOn again W args v W') :
    ReturnsInHanded a C os f .any (fun w args => (s.pre enc C.prog fn conds apart w args ∧ X w args) ∧ sizedMet enc C.prog fn (OpenSpec.ofChange s) apart w args) (s.post enc C.prog fn apart fresh handsOn again) := by
  refine returnsInHanded_of_calls own started noInit witness ?_
  intro w tape i _ hsh _ hok hpre hholds
  obtain ⟨_, _, _, fn', hfn', _, _, _, _, hval⟩ := hok
  have e : fn' = fn := Option.some.inj (hfn'.symm.trans hfn)
  subst e
  obtain ⟨⟨⟨ds, gs, before, hw, hc⟩, hx⟩, hz⟩ := hpre
  have hw' := DataW.Whole.of_heap (w' := w.forCall tape i) (by rfl) hw
  refine (contract (w.forCall tape i) w.heap.size i.args ds gs before hval hw' (hz.weights hw) (hX _ _ _ (by rfl) hx) hsh).mono fun e W' ⟨v, he, hp⟩ => ?_
  subst he
  exact ChangeSpec.post_blind hp
abbrev laidL : List (String × DataW Unit) := Rows.wordsTellRow.laid
theorem star : "*errors.errorString" = "*" ++ "errors.errorString" := by decide
theorem row136 (u : TypeId) (h : Tryd.prog.typeName? 3 u = some "*errors.errorString") : u = 136 :=
  typeName_ptr_named (nm := "errors.errorString") (by rw [← star]; kernel_rfl) (by kernel_rfl) (by decide) u (by rw [← star]; exact h)
theorem globAt_of_laid {W : World} (hs : W.ShapedOpen Tryd.prog) (h : laidMetH Tryd.prog laidL W) : GlobAt W := by
  rw [MakeChecks.laidMetH_plain _ _ _ (by kernel_rfl)] at h
  have h : laidMet Tryd.prog [("math/bits.deBruijn32tab", Rows.laid_math_bits_deBruijn32tab), ("math/bits.deBruijn64tab", Rows.laid_math_bits_deBruijn64tab), ("internal/strconv.uint64pow10", Rows.laid_internal_strconv_uint64pow10), ("unicode/utf8.acceptRanges", Rows.laid_unicode_utf8_acceptRanges), ("strconv.ErrRange", Rows.laid_strconv_ErrRange), ("strconv.ErrSyntax", Rows.laid_strconv_ErrSyntax), ("unicode/utf8.first", Rows.laid_unicode_utf8_first)] W := h
  have h3 := h.tail.tail
  have h5 := h3.tail.tail
  obtain ⟨a5, s5, hv5, _⟩ := laid_sentinel h5 (g := 1) (ti := 58) (tp := 136) (te := 138) (ts := 9) (by kernel_rfl) (by kernel_rfl) Tryd.underlying58 row136 Tryd.underlying136 Tryd.underlying138 rfl rfl Tryd.underlying9 (by kernel_rfl) (by kernel_rfl)
  obtain ⟨a6, s6, hv6, _⟩ := laid_sentinel h5.tail (g := 0) (ti := 58) (tp := 136) (te := 138) (ts := 9) (by kernel_rfl) (by kernel_rfl) Tryd.underlying58 row136 Tryd.underlying136 Tryd.underlying138 rfl rfl Tryd.underlying9 (by kernel_rfl) (by kernel_rfl)
  have hp : Lib.TabIs Tryd.prog W "internal/strconv.uint64pow10" .u64 Lib.pow10Tab :=
    Lib.tabIs_of_head (g := 3) (t := 140) (e := 116) (n := 20) (by kernel_rfl) (by kernel_rfl) Tryd.underlying140 Tryd.underlying116 (by kernel_rfl) (by kernel_rfl) h3
  exact ⟨Tryd.laysM146.s1_3 W hs, hp, ⟨_, _, hv6⟩, ⟨_, _, hv5⟩⟩
end Go.Proofs.YtgkjoodlcojkkaaDoor
end
section
namespace Go.Proofs.YtgkjoodlcojkkaaDoor.QD
open Go.RowKit Go.Proofs.YtgkjoodlcojkkaaDoorW.PrintWords Go.Proofs.YtgkjoodlcojkkaaDoorW.PrintLast Go.Proofs.YtgkjoodlcojkkaaDoorW.PrintMore
attribute [local go_sem] max2_int min2_int max_two min_two max_three min_three max_four min_four
set_option linter.unusedVariables false
set_option linter.unusedSimpArgs false
def bs (n m : Nat) : Array Bool := ((List.range n).map fun i => m.testBit i).toArray
class IsTrue (b : Bool) : Prop where
  out : b = true
instance : IsTrue true := ⟨rfl⟩
def errW : Option Int → Value
  | none => .nilIface
  | some c => .iface 98 (.int .i64 c)
theorem errW_none : errW none = .nilIface := rfl
theorem errW_some (c : Int) : errW (some c) = .iface 98 (.int .i64 c) := rfl
theorem info3 : (Tryd.prog.info? 3).map (fun i => (i.zero, i.size, i.bytes)) = some (some (.int .i64 0), 1, 8) := by kernel_rfl
theorem info9 : (Tryd.prog.info? 9).map (fun i => (i.zero, i.size, i.bytes)) = some (some (.string ⟨#[]⟩), 1, 16) := by kernel_rfl
theorem info50 : (Tryd.prog.info? 50).map (fun i => (i.zero, i.size, i.bytes)) = some (some (.agg #[(.int .i64 0), (.int .i64 0), (.int .i64 0)]), 3, 24) := by kernel_rfl
theorem info53 : (Tryd.prog.info? 53).map (fun i => (i.zero, i.size, i.bytes)) = some (some (.agg #[(.string ⟨#[]⟩), (.int .i64 0), (.int .i64 0), (.int .i64 0), (.int .i64 0), (.slice none 0 0)]), 6, 72) := by kernel_rfl
theorem info81 : (Tryd.prog.info? 81).map (fun i => (i.zero, i.size, i.bytes)) = some (some (.agg #[(.int .i64 0), (.slice none 0 0)]), 2, 32) := by kernel_rfl
structure S50 where
  f0 : Int
  f1 : Int
  f2 : Int
def z50 : S50 := ⟨(0 : Int), (0 : Int), (0 : Int)⟩
def k50 : Kd S50 := Kd.iso (Kd.pair (Kd.int .i64) (Kd.pair (Kd.int .i64) (Kd.int .i64))) (fun x : S50 => (x.f0, x.f1, x.f2))
theorem k50_open {w : World} {x : S50} {cs : List Value} (h : k50.K w x cs) : cs = [.int .i64 x.f0, .int .i64 x.f1, .int .i64 x.f2] := by
  obtain ⟨_, _, rfl, rfl, ⟨_, _, rfl, rfl, rfl⟩⟩ := h
  exact rfl
theorem k50_mkM (w : World) (base : Nat) (ok : Nat → Prop) (x : S50)  : k50.M w base ok x [.int .i64 x.f0, .int .i64 x.f1, .int .i64 x.f2] := ⟨[.int .i64 x.f0], [.int .i64 x.f1, .int .i64 x.f2], rfl, rfl, ⟨[.int .i64 x.f1], [.int .i64 x.f2], rfl, rfl, rfl⟩⟩
def rd_T50 (xs : List S50) (i : Int) : S50 := xs.getD i.toNat z50
theorem at_T50 {w : World} {A : Option Addr} {n : Nat} {xs : List S50} (h : Kd.C k50 w A n xs) (i : Int) (h0 : 0 ≤ i) (h1 : i < n) : ∃ ad , A = some ad ∧ w.cell? (ad.add (i.toNat * 3)) = some (.int .i64 (rd_T50 xs i).f0) ∧ w.cell? ⟨(ad.add (i.toNat * 3)).block, (ad.add (i.toNat * 3)).off + 1, none⟩ = some (.int .i64 (rd_T50 xs i).f1) ∧ w.cell? ⟨(ad.add (i.toNat * 3)).block, (ad.add (i.toNat * 3)).off + 2, none⟩ = some (.int .i64 (rd_T50 xs i).f2) := by
  obtain ⟨ad, c, e, _, hK, hc0⟩ := Kd.C_get h z50 i h0 h1
  have hc : ∀ j u, c[j]? = some u → w.cell? (ad.add (i.toNat * 3 + j)) = some u := hc0
  obtain rfl := k50_open hK
  exact ⟨ad, e, hc 0 _ rfl, by rw [← add_field _ _ 1 (by omega)]; exact hc 1 _ rfl, by rw [← add_field _ _ 2 (by omega)]; exact hc 2 _ rfl⟩
structure S53 where
  f0 : ByteArray
  f1 : Int
  f2 : Int
  f3 : Int
  f4 : Int
  f5 : (List S50)
def z53 : S53 := ⟨(⟨#[]⟩ : ByteArray), (0 : Int), (0 : Int), (0 : Int), (0 : Int), ([] : List S50)⟩
def k53 : Kd S53 := Kd.iso (Kd.pair Kd.string (Kd.pair (Kd.int .i64) (Kd.pair (Kd.int .i64) (Kd.pair (Kd.int .i64) (Kd.pair (Kd.int .i64) (Kd.slice 50 k50)))))) (fun x : S53 => (x.f0, x.f1, x.f2, x.f3, x.f4, x.f5))
theorem k53_open {w : World} {x : S53} {cs : List Value} (h : k53.K w x cs) : ∃ A5 c5, cs = [.string x.f0, .int .i64 x.f1, .int .i64 x.f2, .int .i64 x.f3, .int .i64 x.f4, .slice A5 x.f5.length c5] ∧ x.f5.length ≤ c5 ∧ k50.C w A5 x.f5.length x.f5 := by
  obtain ⟨_, _, rfl, rfl, ⟨_, _, rfl, rfl, ⟨_, _, rfl, rfl, ⟨_, _, rfl, rfl, ⟨_, _, rfl, rfl, ⟨A5, c5, rfl, l5, g5⟩⟩⟩⟩⟩⟩ := h
  exact ⟨A5, c5, rfl, l5, g5⟩
theorem k53_openM {w : World} {base : Nat} {ok : Nat → Prop} {x : S53} {cs : List Value} (h : k53.M w base ok x cs) : ∃ v5, cs = [.string x.f0, .int .i64 x.f1, .int .i64 x.f2, .int .i64 x.f3, .int .i64 x.f4, v5] ∧ k50.R 50 w base ok v5 x.f5 := by
  obtain ⟨_, _, rfl, rfl, ⟨_, _, rfl, rfl, ⟨_, _, rfl, rfl, ⟨_, _, rfl, rfl, ⟨_, _, rfl, rfl, ⟨v5, rfl, g5⟩⟩⟩⟩⟩⟩ := h
  exact ⟨v5, rfl, g5⟩
theorem k53_mk (w : World) (x : S53) {A5 : Option Addr} {c5 : Nat} (l5 : x.f5.length ≤ c5) (g5 : k50.C w A5 x.f5.length x.f5) : k53.K w x [.string x.f0, .int .i64 x.f1, .int .i64 x.f2, .int .i64 x.f3, .int .i64 x.f4, .slice A5 x.f5.length c5] := ⟨[.string x.f0], [.int .i64 x.f1, .int .i64 x.f2, .int .i64 x.f3, .int .i64 x.f4, .slice A5 x.f5.length c5], rfl, rfl, ⟨[.int .i64 x.f1], [.int .i64 x.f2, .int .i64 x.f3, .int .i64 x.f4, .slice A5 x.f5.length c5], rfl, rfl, ⟨[.int .i64 x.f2], [.int .i64 x.f3, .int .i64 x.f4, .slice A5 x.f5.length c5], rfl, rfl, ⟨[.int .i64 x.f3], [.int .i64 x.f4, .slice A5 x.f5.length c5], rfl, rfl, ⟨[.int .i64 x.f4], [.slice A5 x.f5.length c5], rfl, rfl, ⟨A5, c5, rfl, l5, g5⟩⟩⟩⟩⟩⟩
theorem k53_mkM (w : World) (base : Nat) (ok : Nat → Prop) (x : S53) {v5 : Value} (g5 : k50.R 50 w base ok v5 x.f5) : k53.M w base ok x [.string x.f0, .int .i64 x.f1, .int .i64 x.f2, .int .i64 x.f3, .int .i64 x.f4, v5] := ⟨[.string x.f0], [.int .i64 x.f1, .int .i64 x.f2, .int .i64 x.f3, .int .i64 x.f4, v5], rfl, rfl, ⟨[.int .i64 x.f1], [.int .i64 x.f2, .int .i64 x.f3, .int .i64 x.f4, v5], rfl, rfl, ⟨[.int .i64 x.f2], [.int .i64 x.f3, .int .i64 x.f4, v5], rfl, rfl, ⟨[.int .i64 x.f3], [.int .i64 x.f4, v5], rfl, rfl, ⟨[.int .i64 x.f4], [v5], rfl, rfl, ⟨v5, rfl, g5⟩⟩⟩⟩⟩⟩
theorem k53_mkF (W : World) (ok : Nat → Prop) (x : S53) {A5 : Option Addr} {c5 : Nat} (l5 : x.f5.length ≤ c5) (g5 : Kd.F k50 W ok A5 x.f5.length x.f5) : Kd.FK k53 W ok x [.string x.f0, .int .i64 x.f1, .int .i64 x.f2, .int .i64 x.f3, .int .i64 x.f4, .slice A5 x.f5.length c5] := fun W2 hW => k53_mk W2 x l5 (g5 W2 hW)
def rd_T53 (xs : List S53) (i : Int) : S53 := xs.getD i.toNat z53
theorem at_T53 {w : World} {A : Option Addr} {n : Nat} {xs : List S53} (h : Kd.C k53 w A n xs) (i : Int) (h0 : 0 ≤ i) (h1 : i < n) : ∃ ad A5 c5, A = some ad ∧ w.cell? (ad.add (i.toNat * 6)) = some (.string (rd_T53 xs i).f0) ∧ w.cell? ⟨(ad.add (i.toNat * 6)).block, (ad.add (i.toNat * 6)).off + 1, none⟩ = some (.int .i64 (rd_T53 xs i).f1) ∧ w.cell? ⟨(ad.add (i.toNat * 6)).block, (ad.add (i.toNat * 6)).off + 2, none⟩ = some (.int .i64 (rd_T53 xs i).f2) ∧ w.cell? ⟨(ad.add (i.toNat * 6)).block, (ad.add (i.toNat * 6)).off + 3, none⟩ = some (.int .i64 (rd_T53 xs i).f3) ∧ w.cell? ⟨(ad.add (i.toNat * 6)).block, (ad.add (i.toNat * 6)).off + 4, none⟩ = some (.int .i64 (rd_T53 xs i).f4) ∧ w.cell? ⟨(ad.add (i.toNat * 6)).block, (ad.add (i.toNat * 6)).off + 5, none⟩ = some (.slice A5 (rd_T53 xs i).f5.length c5) ∧ (rd_T53 xs i).f5.length ≤ c5 ∧ k50.C w A5 (rd_T53 xs i).f5.length (rd_T53 xs i).f5 := by
  obtain ⟨ad, c, e, _, hK, hc0⟩ := Kd.C_get h z53 i h0 h1
  have hc : ∀ j u, c[j]? = some u → w.cell? (ad.add (i.toNat * 6 + j)) = some u := hc0
  obtain ⟨A5, c5, rfl, l5, g5⟩ := k53_open hK
  exact ⟨ad, A5, c5, e, hc 0 _ rfl, by rw [← add_field _ _ 1 (by omega)]; exact hc 1 _ rfl, by rw [← add_field _ _ 2 (by omega)]; exact hc 2 _ rfl, by rw [← add_field _ _ 3 (by omega)]; exact hc 3 _ rfl, by rw [← add_field _ _ 4 (by omega)]; exact hc 4 _ rfl, by rw [← add_field _ _ 5 (by omega)]; exact hc 5 _ rfl, l5, g5⟩
structure S81 where
  f0 : Int
  f1 : (List ByteArray)
def z81 : S81 := ⟨(0 : Int), ([] : List ByteArray)⟩
def k81 : Kd S81 := Kd.iso (Kd.pair (Kd.int .i64) (Kd.slice 9 Kd.string)) (fun x : S81 => (x.f0, x.f1))
theorem k81_open {w : World} {x : S81} {cs : List Value} (h : k81.K w x cs) : ∃ A1 c1, cs = [.int .i64 x.f0, .slice A1 x.f1.length c1] ∧ x.f1.length ≤ c1 ∧ Kd.string.C w A1 x.f1.length x.f1 := by
  obtain ⟨_, _, rfl, rfl, ⟨A1, c1, rfl, l1, g1⟩⟩ := h
  exact ⟨A1, c1, rfl, l1, g1⟩
theorem k81_mkM (w : World) (base : Nat) (ok : Nat → Prop) (x : S81) {v1 : Value} (g1 : Kd.string.R 9 w base ok v1 x.f1) : k81.M w base ok x [.int .i64 x.f0, v1] := ⟨[.int .i64 x.f0], [v1], rfl, rfl, ⟨v1, rfl, g1⟩⟩
def rd_T81 (xs : List S81) (i : Int) : S81 := xs.getD i.toNat z81
theorem at_T81 {w : World} {A : Option Addr} {n : Nat} {xs : List S81} (h : Kd.C k81 w A n xs) (i : Int) (h0 : 0 ≤ i) (h1 : i < n) : ∃ ad A1 c1, A = some ad ∧ w.cell? (ad.add (i.toNat * 2)) = some (.int .i64 (rd_T81 xs i).f0) ∧ w.cell? ⟨(ad.add (i.toNat * 2)).block, (ad.add (i.toNat * 2)).off + 1, none⟩ = some (.slice A1 (rd_T81 xs i).f1.length c1) ∧ (rd_T81 xs i).f1.length ≤ c1 ∧ Kd.string.C w A1 (rd_T81 xs i).f1.length (rd_T81 xs i).f1 := by
  obtain ⟨ad, c, e, _, hK, hc0⟩ := Kd.C_get h z81 i h0 h1
  have hc : ∀ j u, c[j]? = some u → w.cell? (ad.add (i.toNat * 2 + j)) = some u := hc0
  obtain ⟨A1, c1, rfl, l1, g1⟩ := k81_open hK
  exact ⟨ad, A1, c1, e, hc 0 _ rfl, by rw [← add_field _ _ 1 (by omega)]; exact hc 1 _ rfl, l1, g1⟩
end Go.Proofs.YtgkjoodlcojkkaaDoor.QD
end
section
namespace Go.Proofs.YtgkjoodlcojkkaaDoor.QD
open Go.RowKit Go.Proofs.YtgkjoodlcojkkaaDoorW.PrintWords Go.Proofs.YtgkjoodlcojkkaaDoorW.PrintLast Go.Proofs.YtgkjoodlcojkkaaDoorW.PrintMore
set_option linter.unusedVariables false
set_option linter.unusedSimpArgs false
theorem reps_strings : ∀ l : List ByteArray, Reps (fun x cs => cs = [Value.string x]) 1 l (l.map Value.string) := by
  intro l
  refine ⟨by simp, fun j p hj => ?_⟩
  obtain ⟨hk, rfl⟩ := List.getElem?_eq_some_iff.1 hj
  rw [Nat.mul_one, ← List.map_drop, ← List.map_take, List.drop_eq_getElem_cons hk]
  rfl
theorem R_strings (w : World) (l : List ByteArray) (h : l ≠ []) (hl : l.length ≤ maxLen) :
    Kd.R Kd.string 9 (w.alloc (.cells (l.map Value.string).toArray 9)) w.heap.size (fun _ => True) (.slice (some ⟨w.heap.size, 0, none⟩) l.length l.length) l := by
  have hz : (Kd.string).sz = 1 := rfl
  refine ⟨fun _ _ => trivial, l.map Value.string, ⟨by simp [hz], .inr ⟨w.heap.size, l.length, (l.map Value.string).toArray, rfl, Nat.le_refl _, heap_alloc_new w _, Nat.le_refl _, hl, by simp [hz], ?_⟩⟩, reps_strings l⟩
  rw [hz, Nat.mul_one, List.take_of_length_le (by simp)]
def strings_Split.f (a0 : ByteArray) (a1 : ByteArray) : Option (List ByteArray) :=
  if a0.size < 4294967281 ∧ 1 ≤ a1.size then some (Lib.splitB a1 0 (Lib.countB a0 a1) a0) else none
theorem strings_Split.calls (a0 : ByteArray) (a1 : ByteArray) (r : List ByteArray) (w : World) (hG : Glob w) (h : strings_Split.f a0 a1 = some r) :
    Calls Tryd.prog 29 #[.string a0, .string a1] w fun e w' => ∃ v0_ : Value, e = .returned (v0_) ∧ Kd.R Kd.string 9 w' w.heap.size (fun _ => True) v0_ r ∧ Below w.heap.size w w' := by
  unfold strings_Split.f at h
  by_cases c : a0.size < 4294967281 ∧ 1 ≤ a1.size
  · rw [if_pos c] at h
    obtain rfl := Option.some.inj h
    obtain ⟨m, hm⟩ := hG.at.maxlen
    refine (Tryd.strings_Split a0 a1 m w c.1 hm c.2).mono fun e w' ⟨he, hw⟩ => ?_
    have hlen := Lib.splitB_all a1 c.2 0 _ a0 rfl
    have hle : (Lib.splitB a1 0 (Lib.countB a0 a1) a0).length ≤ maxLen := by
      rw [hlen]
      have : Lib.countB a0 a1 ≤ a0.size := Lib.countB_le a1 c.2 _ a0 (Nat.le_refl _)
      unfold maxLen; omega
    refine ⟨_, he, ?_, ?_⟩
    · have z := R_strings w (Lib.splitB a1 0 (Lib.countB a0 a1) a0) (by intro e; rw [e] at hlen; simp at hlen) hle
      rw [hlen] at z
      rw [hw]
      exact z
    · rw [hw]; exact below_alloc (Below.refl _ _) _
  · rw [if_neg c] at h; cases h
def strings_Cut.f (a0 : ByteArray) (a1 : ByteArray) : Option (ByteArray × ByteArray × Bool) :=
  if a0.size < 4294967281 then some (⟨(Lib.cut a0.data.toList a1.data.toList).1.toArray⟩, ⟨(Lib.cut a0.data.toList a1.data.toList).2.1.toArray⟩, (Lib.cut a0.data.toList a1.data.toList).2.2) else none
theorem strings_Cut.calls (a0 : ByteArray) (a1 : ByteArray) (r1 : ByteArray) (r2 : ByteArray) (r3 : Bool) (w : World) (hG : Glob w) (h : strings_Cut.f a0 a1 = some (r1, r2, r3)) :
    Calls Tryd.prog 31 #[.string a0, .string a1] w fun e w' => e = .returned (.tuple #[.string r1, .string r2, .bool r3]) ∧ Below w.heap.size w w' := by
  unfold strings_Cut.f at h
  by_cases c : a0.size < 4294967281
  · rw [if_pos c] at h
    simp only [Option.some.injEq, Prod.mk.injEq] at h
    obtain ⟨rfl, rfl, rfl⟩ := h
    obtain ⟨m, hm⟩ := hG.at.maxlen
    refine (Tryd.strings_Cut a0 a1 m w c hm).mono fun e w' ⟨he, n, hw⟩ => ⟨he, ?_⟩
    rw [hw]; exact pw_below_drewN (Below.refl _ _) _
  · rw [if_neg c] at h; cases h
def strings_HasPrefix.f (a0 : ByteArray) (a1 : ByteArray) : Option Bool := some (Lib.hasPrefix a0.data.toList a1.data.toList)
theorem strings_HasPrefix.calls (a0 : ByteArray) (a1 : ByteArray) (r : Bool) (w : World) (h : strings_HasPrefix.f a0 a1 = some r) :
    Calls Tryd.prog 77 #[.string a0, .string a1] w fun e w' => e = .returned (.bool r) ∧ Below w.heap.size w w' := by
  unfold strings_HasPrefix.f at h
  obtain rfl := Option.some.inj h
  refine (Tryd.strings_HasPrefix a0 a1 w).mono fun e w' ⟨he, hw⟩ => ⟨he, ?_⟩
  rw [hw]; exact Below.refl _ _
def strings_Contains.f (a0 : ByteArray) (a1 : ByteArray) : Option Bool := if a0.size < 4294967281 then some (Lib.contains a0.data.toList a1.data.toList) else none
theorem strings_Contains.calls (a0 : ByteArray) (a1 : ByteArray) (r : Bool) (w : World) (hG : Glob w) (h : strings_Contains.f a0 a1 = some r) :
    Calls Tryd.prog 78 #[.string a0, .string a1] w fun e w' => e = .returned (.bool r) ∧ Below w.heap.size w w' := by
  unfold strings_Contains.f at h
  by_cases c : a0.size < 4294967281
  · rw [if_pos c] at h
    obtain rfl := Option.some.inj h
    obtain ⟨m, hm⟩ := hG.at.maxlen
    refine (Tryd.strings_Contains a0 a1 m w c hm).mono fun e w' ⟨he, hw⟩ => ⟨he, ?_⟩
    rw [hw]; exact Below.refl _ _
  · rw [if_neg c] at h; cases h
def strconv_Itoa_28.f (a0 : Int) : Option (ByteArray) := if -9223372036854775808 ≤ a0 ∧ a0 ≤ 9223372036854775807 then some ⟨(Lib.itoa a0).toArray⟩ else none
theorem strconv_Itoa_28.calls (a0 : Int) (r : ByteArray) (w : World) (hG : Glob w) (h : strconv_Itoa_28.f a0 = some r) :
    Calls Tryd.prog 28 #[.int .i64 a0] w fun e w' => e = .returned (.string r) ∧ Below w.heap.size w w' := by
  unfold strconv_Itoa_28.f at h
  by_cases c : -9223372036854775808 ≤ a0 ∧ a0 ≤ 9223372036854775807
  · rw [if_pos c] at h
    obtain rfl := Option.some.inj h
    refine (Tryd.strconv_Itoa a0 c.1 c.2 w hG.at.pow).mono fun e w' ⟨he, k, os, hw⟩ => ⟨he, ?_⟩
    rw [hw]; exact Lib.below_grow _ w (Nat.le_refl _) k os
  · rw [if_neg c] at h; cases h
theorem atoi_any (a0 : ByteArray) (w : World) (hG : Glob w) (hs : a0.size ≤ 281474976710656) :
    Calls Tryd.prog 27 #[.string a0] w fun e w' => (match Lib.atoiAll a0.data.toList with
      | .ok v => e = .returned (.tuple #[.int .i64 v, .nilIface])
      | _ => ∃ n t v, e = .returned (.tuple #[.int .i64 n, .iface t v])) ∧ Below w.heap.size w w' := by
  obtain ⟨t3, p3, h3⟩ := hG.at.esyn
  obtain ⟨t4, p4, h4⟩ := hG.at.eran
  have e3 : w.cell? ⟨0, 0, none⟩ = some (.iface t3 p3) := by simpa using World.var?_cell (by kernel_rfl : Tryd.prog.globalNamed "strconv.ErrSyntax" = some 0) h3 0
  have e4 : w.cell? ⟨1, 0, none⟩ = some (.iface t4 p4) := by simpa using World.var?_cell (by kernel_rfl : Tryd.prog.globalNamed "strconv.ErrRange" = some 1) h4 0
  rcases h : Lib.atoiAll a0.data.toList with v | _ | _
  · refine (Tryd.strconv_Atoi_ok a0 (by omega) v h w).mono fun e w' ⟨he, hw⟩ => ⟨he, ?_⟩
    rcases hw with rfl | ⟨t, rfl⟩
    · exact Below.refl _ _
    · exact Lib.bytesWorld_below _ _ _
  · exact (Any.strconv_Atoi_syntax Tryd.laysC172 a0 hs h _ w e3 (.inr ⟨_, _, rfl⟩)).mono fun e w' ⟨N, he, _, _, hb⟩ => ⟨⟨_, _, _, he⟩, hb⟩
  · exact (Tryd.strconv_Atoi_range a0 hs h _ w e4 (.inr ⟨_, _, rfl⟩)).mono fun e w' ⟨N, he, _, _, hb⟩ => ⟨⟨_, _, _, he⟩, hb⟩
def words_Num.f (a0 : ByteArray) : Option (Int × Bool) :=
  if a0.size ≤ 281474976710656 then
    (match Lib.atoiAll a0.data.toList with
      | .ok v => if 7 < a0.size then some (0, false) else if v < 0 then some (0, false) else if Lib.itoa v = a0.toList then some (v, true) else some (0, false)
      | _ => some (0, false))
  else none
set_option maxHeartbeats 8000000 in
set_option maxRecDepth 100000 in
theorem words_Num.calls (a0 : ByteArray) (r1 : Int) (r2 : Bool) (w : World) (hG : Glob w) (h : words_Num.f a0 = some (r1, r2)) :
    Calls Tryd.prog 10 #[.string a0] w fun e w' => e = .returned (.tuple #[.int .i64 r1, .bool r2]) ∧ Below w.heap.size w w' := by
  unfold words_Num.f at h
  by_cases c : a0.size ≤ 281474976710656
  rotate_left
  · rw [if_neg c] at h; cases h
  rw [if_pos c] at h
  have hu59 := Tryd.underlying59
  have hu58 := Tryd.underlying58
  have HG := Aside0.mk hG
  have HC := Aside0.mk c
  have hA := atoi_any a0 w hG c
  clear hG c
  rcases hr : Lib.atoiAll a0.data.toList with v | _ | _
  · skip
    rw [hr] at h hA
    simp only at h hA
    have HA := Aside0.mk hA
    obtain ⟨vb0, vb1⟩ := Lib.atoiAll_bounds hr
    clear hA hr
    by_cases c1 : 7 < a0.size
    · rw [if_pos c1] at h
      simp only [Option.some.injEq, Prod.mk.injEq] at h
      obtain ⟨rfl, rfl⟩ := h
      go_enter Tryd.func10, Tryd.ntmps10
      go_wp2_with (first | (go_at_call 27; (refine HA.out.mono ?_); rintro e w1 ⟨rfl, hb⟩; have HB := Aside0.mk hb; clear hb))
      go_ret2
      exact ⟨rfl, HB.out⟩
    · rw [if_neg c1] at h
      have c1b : decide (7 < a0.size) = false := decide_eq_false c1
      by_cases c2 : v < 0
      · rw [if_pos c2] at h
        simp only [Option.some.injEq, Prod.mk.injEq] at h
        obtain ⟨rfl, rfl⟩ := h
        go_enter Tryd.func10, Tryd.ntmps10
        go_wp2_with (first | (go_at_call 27; (refine HA.out.mono ?_); rintro e w1 ⟨rfl, hb⟩; have HB := Aside0.mk hb; clear hb))
        go_ret2
        exact ⟨rfl, HB.out⟩
      · rw [if_neg c2] at h
        by_cases c3 : Lib.itoa v = a0.toList
        · rw [if_pos c3] at h
          simp only [Option.some.injEq, Prod.mk.injEq] at h
          obtain ⟨rfl, rfl⟩ := h
          have c3b : (Lib.itoa v == a0.toList) = true := beq_iff_eq.2 c3
          clear c3
          go_enter Tryd.func10, Tryd.ntmps10
          go_wp2_with (first | (go_at_call 27; (refine HA.out.mono ?_); rintro e w1 ⟨rfl, hb⟩; have HB := Aside0.mk hb; clear hb) | (go_at_call 28; (refine (strconv_Itoa_28.calls v _ _ (Glob.below HG.out HB.out) (by unfold strconv_Itoa_28.f; rw [if_pos ⟨vb0, vb1⟩])).mono ?_); rintro e w2 ⟨rfl, hb⟩; have HB2 := Aside0.mk (below_step HB.out hb); clear hb))
          go_ret2
          exact ⟨rfl, HB2.out⟩
        · rw [if_neg c3] at h
          simp only [Option.some.injEq, Prod.mk.injEq] at h
          obtain ⟨rfl, rfl⟩ := h
          have c3b : (Lib.itoa v == a0.toList) = false := beq_eq_false_iff_ne.2 c3
          clear c3
          go_enter Tryd.func10, Tryd.ntmps10
          go_wp2_with (first | (go_at_call 27; (refine HA.out.mono ?_); rintro e w1 ⟨rfl, hb⟩; have HB := Aside0.mk hb; clear hb) | (go_at_call 28; (refine (strconv_Itoa_28.calls v _ _ (Glob.below HG.out HB.out) (by unfold strconv_Itoa_28.f; rw [if_pos ⟨vb0, vb1⟩])).mono ?_); rintro e w2 ⟨rfl, hb⟩; have HB2 := Aside0.mk (below_step HB.out hb); clear hb))
          go_ret2
          exact ⟨rfl, HB2.out⟩
  · skip
    rw [hr] at h hA
    simp only [Option.some.injEq, Prod.mk.injEq] at h
    simp only at hA
    obtain ⟨rfl, rfl⟩ := h
    have HA := Aside0.mk hA
    clear hA hr
    go_enter Tryd.func10, Tryd.ntmps10
    go_wp2_with (first | (go_at_call 27; (refine HA.out.mono ?_); rintro e w1 ⟨⟨n9, t9, v9, rfl⟩, hb⟩; have HB := Aside0.mk hb; clear hb))
    go_ret2
    exact ⟨rfl, HB.out⟩
  · skip
    rw [hr] at h hA
    simp only [Option.some.injEq, Prod.mk.injEq] at h
    simp only at hA
    obtain ⟨rfl, rfl⟩ := h
    have HA := Aside0.mk hA
    clear hA hr
    go_enter Tryd.func10, Tryd.ntmps10
    go_wp2_with (first | (go_at_call 27; (refine HA.out.mono ?_); rintro e w1 ⟨⟨n9, t9, v9, rfl⟩, hb⟩; have HB := Aside0.mk hb; clear hb))
    go_ret2
    exact ⟨rfl, HB.out⟩
end Go.Proofs.YtgkjoodlcojkkaaDoor.QD
end
section
namespace Go.Proofs.YtgkjoodlcojkkaaDoor.QD
open Go.RowKit Go.Proofs.YtgkjoodlcojkkaaDoorW.PrintWords Go.Proofs.YtgkjoodlcojkkaaDoorW.PrintLast Go.Proofs.YtgkjoodlcojkkaaDoorW.PrintMore
attribute [local go_sem] max2_int min2_int max_two min_two max_three min_three max_four min_four
set_option linter.unusedVariables false
set_option linter.unusedSimpArgs false
def words_Lines.f (a0 : ByteArray) : Option (List ByteArray) := (strings_Split.f a0 (⟨#[10]⟩ : ByteArray)).bind fun t139 => (if 0 ≤ (wrap64 ((t139.length : Int) - 1)) then (if (wrap64 ((t139.length : Int) - 1)) < (t139.length : Int) then (if (rdOf ByteArray.empty t139 (wrap64 ((t139.length : Int) - 1))).toList = ([] : List UInt8) then (if (wrap64 ((t139.length : Int) - 1)) ≤ (t139.length : Int) then (some (t139.take ((wrap64 ((t139.length : Int) - 1)) : Int).toNat)) else (none)) else (some t139)) else (none)) else (none))
set_option maxHeartbeats 8000000 in
set_option maxRecDepth 100000 in
theorem words_Lines.calls (a0 : ByteArray) (r : List ByteArray) (w : World) (hG : Glob w) (h : words_Lines.f a0 = some r) :
    Calls Tryd.prog 13 #[.string a0] w fun e w' => ∃ v0_ : Value, e = .returned (v0_) ∧ Kd.R Kd.string 9 w' w.heap.size (fun _ => True) v0_ r ∧ Below w.heap.size w w' := by
  have HG := Aside0.mk hG
  clear hG
  have HB := Aside0.mk (Below.refl w.heap.size w)
  have H : ((strings_Split.f a0 (⟨#[10]⟩ : ByteArray)).bind fun t139 => (if 0 ≤ (wrap64 ((t139.length : Int) - 1)) then (if (wrap64 ((t139.length : Int) - 1)) < (t139.length : Int) then (if (rdOf ByteArray.empty t139 (wrap64 ((t139.length : Int) - 1))).toList = ([] : List UInt8) then (if (wrap64 ((t139.length : Int) - 1)) ≤ (t139.length : Int) then (some (t139.take ((wrap64 ((t139.length : Int) - 1)) : Int).toNat)) else (none)) else (some t139)) else (none)) else (none))) = some r := h
  clear h
  replace H := Option.bind_eq_some_iff.mp H
  obtain ⟨t139, A20, H⟩ := H
  replace H : (if 0 ≤ (wrap64 ((t139.length : Int) - 1)) then (if (wrap64 ((t139.length : Int) - 1)) < (t139.length : Int) then (if (rdOf ByteArray.empty t139 (wrap64 ((t139.length : Int) - 1))).toList = ([] : List UInt8) then (if (wrap64 ((t139.length : Int) - 1)) ≤ (t139.length : Int) then (some (t139.take ((wrap64 ((t139.length : Int) - 1)) : Int).toNat)) else (none)) else (some t139)) else (none)) else (none)) = some r := H
  have A2 := Aside0.mk A20
  clear A20
  obtain ⟨ji3, hji3⟩ : ∃ j_ : Int, (wrap64 ((t139.length : Int) - 1)) = j_ := ⟨_, rfl⟩
  replace H : (if 0 ≤ (ji3) then (if (ji3) < (t139.length : Int) then (if (rdOf ByteArray.empty t139 (ji3)).toList = ([] : List UInt8) then (if (ji3) ≤ (t139.length : Int) then (some (t139.take ((ji3) : Int).toNat)) else (none)) else (some t139)) else (none)) else (none)) = some r := by first | (rw [hji3] at H; exact H) | (simp only [hji3] at H ⊢; exact H)
  (try rw [hji3] at A2)
  have hji3w : (IntKind.i64.wrap ((t139.length : Int) - 1)) = ji3 := (i64_w _).trans hji3
  by_cases c4 : 0 ≤ (ji3)
  rotate_left
  · rw [if_neg c4] at H
    exact absurd H (by simp)
  rw [if_pos c4] at H
  have c4b0 : decide (0 ≤ (ji3)) = true := decide_eq_true c4
  clear c4
  by_cases c5 : (ji3) < (t139.length : Int)
  rotate_left
  · rw [if_neg c5] at H
    exact absurd H (by simp)
  rw [if_pos c5] at H
  have c5b0 : decide ((ji3) < (t139.length : Int)) = true := decide_eq_true c5
  clear c5
  by_cases c6 : (rdOf ByteArray.empty t139 (ji3)).toList = ([] : List UInt8)
  rotate_left
  · rw [if_neg c6] at H
    have c6b0 : ((rdOf ByteArray.empty t139 (ji3)).toList == ([] : List UInt8)) = false := beq_eq_false_iff_ne.mpr c6
    have c6b1 : ((rdOf ByteArray.empty t139 (ji3)).toList != ([] : List UInt8)) = true := bne_iff_ne.mpr c6
    obtain rfl := Option.some.inj H
    go_enter Tryd.func13, Tryd.ntmps13
    go_wp2_with (first | ((with_reducible refine gate_callee (f := 29) rfl ?_); refine goesL_ (some 5) rfl rfl Tryd.func29 (by kernel_rfl) rfl #[.string a0, .string (⟨#[10]⟩ : ByteArray)] rfl (by (try simp only [List.map_toArray, List.map_cons, List.map_nil]); first | done | rfl | (simp only [List.length_drop, List.length_take]; rfl)) ?_; (with_reducible refine (strings_Split.calls a0 (⟨#[10]⟩ : ByteArray) t139 _ ?side1 A2.out).mono ?_); (case side1 => first | exact Glob.below HG.out (HB.out) | (repeat (first | exact Glob.below HG.out HB.out | (with_reducible refine Glob.alloc ?_ _) | (with_reducible refine Glob.drewN ?_ _) | (with_reducible refine Glob.drew ?_)))); rintro e w7 ⟨v140, rfl, ho0, hb⟩; refine ⟨_, rfl, ?_⟩; have n0_ := Aside0.mk (Kd.R_lower ho0 (below_size (HB.out))); have n1_ := Aside0.mk (below_step (HB.out) hb); clear HB; have HO141 := n0_; have HB := n1_; clear n0_ n1_; (try clear hb); (try clear hb2); (try clear hk); (try clear hi); (try clear ho0); obtain ⟨Ao8, co8, eo8⟩ := Kd.R_slice HO141.out; subst eo8; have p142 : 0 ≤ ((ji3) : Int) := of_decide_eq_true (by first | (with_reducible assumption) | assumption); have q142 : (ji3) < (t139.length : Int) := of_decide_eq_true (by first | (with_reducible assumption) | assumption); obtain ⟨ad142, e142, hx142_0⟩ := Kd.at_string (Kd.R_reads' HO141.out).2.2 (ji3) p142 q142; cases e142; replace p142 := eq_true p142; replace q142 := eq_true q142))
    go_ret
    exact ⟨_, by first | rfl | (simp [errW_none, errW_some] <;> rfl) | (simp only [← hji3]; first | rfl | (simp [errW_none, errW_some] <;> rfl)) | (simp [*, errW_none, errW_some] <;> rfl), by (with_reducible repeat (first | apply Kd.R_alloc | apply Kd.R_drewN | apply Kd.R_drew)); exact HO141.out, HB.out⟩
  rw [if_pos c6] at H
  have c6b0 : ((rdOf ByteArray.empty t139 (ji3)).toList == ([] : List UInt8)) = true := beq_iff_eq.mpr c6
  have c6b1 : ((rdOf ByteArray.empty t139 (ji3)).toList != ([] : List UInt8)) = false := bne_eq_false_iff_eq.mpr c6
  clear c6
  by_cases c9 : (ji3) ≤ (t139.length : Int)
  rotate_left
  · rw [if_neg c9] at H
    exact absurd H (by simp)
  rw [if_pos c9] at H
  have c9b0 := eq_true c9
  have c9b1 : decide ((ji3) ≤ (t139.length : Int)) = true := decide_eq_true c9
  clear c9
  obtain ⟨y143, hy143⟩ : ∃ y_ : List ByteArray, y_ = (t139.take ((ji3) : Int).toNat) := ⟨_, rfl⟩
  replace H : (some y143) = some r := by first | (rw [hy143]; with_reducible exact H) | (have H2_ := (Option.bind_some _ _).symm.trans H; rw [hy143]; with_reducible exact H2_) | (have H2_ := (Option.bind_some _ _).symm.trans H; with_reducible exact H2_) | with_reducible exact H | (rw [hy143]; exact H) | exact H
  have Ny143 := Aside0.mk hy143
  clear hy143
  obtain rfl := Option.some.inj H
  go_enter Tryd.func13, Tryd.ntmps13
  go_wp2_with (first | ((with_reducible refine gate_callee (f := 29) rfl ?_); refine goesL_ (some 5) rfl rfl Tryd.func29 (by kernel_rfl) rfl #[.string a0, .string (⟨#[10]⟩ : ByteArray)] rfl (by (try simp only [List.map_toArray, List.map_cons, List.map_nil]); first | done | rfl | (simp only [List.length_drop, List.length_take]; rfl)) ?_; (with_reducible refine (strings_Split.calls a0 (⟨#[10]⟩ : ByteArray) t139 _ ?side1 A2.out).mono ?_); (case side1 => first | exact Glob.below HG.out (HB.out) | (repeat (first | exact Glob.below HG.out HB.out | (with_reducible refine Glob.alloc ?_ _) | (with_reducible refine Glob.drewN ?_ _) | (with_reducible refine Glob.drew ?_)))); rintro e w10 ⟨v140, rfl, ho0, hb⟩; refine ⟨_, rfl, ?_⟩; have n0_ := Aside0.mk (Kd.R_lower ho0 (below_size (HB.out))); have n1_ := Aside0.mk (below_step (HB.out) hb); clear HB; have HO141 := n0_; have HB := n1_; clear n0_ n1_; (try clear hb); (try clear hb2); (try clear hk); (try clear hi); (try clear ho0); obtain ⟨Ao11, co11, eo11⟩ := Kd.R_slice HO141.out; subst eo11; have p142 : 0 ≤ ((ji3) : Int) := of_decide_eq_true (by first | (with_reducible assumption) | assumption); have q142 : (ji3) < (t139.length : Int) := of_decide_eq_true (by first | (with_reducible assumption) | assumption); obtain ⟨ad142, e142, hx142_0⟩ := Kd.at_string (Kd.R_reads' HO141.out).2.2 (ji3) p142 q142; cases e142; replace p142 := eq_true p142; replace q142 := eq_true q142; have q12 : ((ji3) : Int) ≤ ((t139.length : Int) : Int) := of_decide_eq_true (by first | (with_reducible assumption) | assumption); obtain ⟨i012, hi012, _, hsz12, _⟩ := info_parts info9; have hcut12 := cut_to (P := Tryd.prog) 26 9 .i64 Tryd.underlying26 hi012 (some ad142) t139.length co11 (ji3) (of_decide_eq_true (by first | (with_reducible assumption) | assumption)) q12 (Kd.R_reads' HO141.out).2.1; have hr12 := Kd.R_take (m := ((ji3) : Int).toNat) HO141.out (by omega); have hy12 : y143.length = ((ji3) : Int).toNat := (by rw [Ny143.out, List.length_take]; omega); rw [← Ny143.out] at hr12; rw [← hy12] at hr12 hcut12; clear hy12 hi012 hsz12 HO141; have HO145 := Aside0.mk hr12; clear hr12; replace q12 := eq_true q12))
  go_ret
  exact ⟨_, by first | rfl | (simp [errW_none, errW_some] <;> rfl) | (simp only [← hji3]; first | rfl | (simp [errW_none, errW_some] <;> rfl)) | (simp [*, errW_none, errW_some] <;> rfl), by (with_reducible repeat (first | apply Kd.R_alloc | apply Kd.R_drewN | apply Kd.R_drew)); exact HO145.out, HB.out⟩
end Go.Proofs.YtgkjoodlcojkkaaDoor.QD
end
section
namespace Go.Proofs.YtgkjoodlcojkkaaDoor.QD
open Go.RowKit Go.Proofs.YtgkjoodlcojkkaaDoorW.PrintWords Go.Proofs.YtgkjoodlcojkkaaDoorW.PrintLast Go.Proofs.YtgkjoodlcojkkaaDoorW.PrintMore
attribute [local go_sem] max2_int min2_int max_two min_two max_three min_three max_four min_four
set_option linter.unusedVariables false
set_option linter.unusedSimpArgs false
end Go.Proofs.YtgkjoodlcojkkaaDoor.QD
end
section
namespace Go.Proofs.YtgkjoodlcojkkaaDoor.Y
open Go.RowKit Go.Proofs.YtgkjoodlcojkkaaDoorW.PrintWords Go.Proofs.YtgkjoodlcojkkaaDoorW.PrintLast Go.Proofs.YtgkjoodlcojkkaaDoorW.PrintMore Go.Proofs.YtgkjoodlcojkkaaDoor.QD
set_option linter.unusedVariables false
set_option linter.unusedSimpArgs false
abbrev Bs := List UInt8
def B (l : Bs) : ByteArray := ⟨l.toArray⟩
theorem B_data (s : ByteArray) : B s.data.toList = s := by cases s; simp [B]
theorem data_B (l : Bs) : (B l).data.toList = l := by simp [B]
theorem toList_B (l : Bs) : (B l).toList = l := by rw [ByteArray.toList_eq, data_B]
theorem size_B (l : Bs) : (B l).size = l.length := by simp [B, ByteArray.size]
theorem append_B (a b : Bs) : B a ++ B b = B (a ++ b) := by
  apply Go.WideShapes.bytes_inj
  rw [data_B]
  simp [B]
theorem extract_B (l : Bs) (a b : Nat) : (B l).extract a b = B ((l.take b).drop a) := by
  apply Go.WideShapes.bytes_inj
  rw [data_B, Lib.extract_data, data_B]
  rw [List.drop_take]
theorem bt_B (l : Bs) (i : Nat) : bt (B l) (i : Int) = ((l.getD i 0).toNat : Int) := by
  unfold bt
  by_cases h : i < l.length
  · rw [dif_pos (by rw [size_B]; simpa using h)]
    have : (B l)[(i : Int).toNat]'(by rw [size_B]; simpa using h) = l[i] := by
      show (B l).data[(i : Int).toNat] = _
      simp [B]
    rw [this]
    simp [h]
  · rw [dif_neg (by rw [size_B]; simpa using h)]
    simp [h]
theorem rdOf_B (xs : List Bs) (i : Nat) : rdOf ByteArray.empty (xs.map B) (i : Int) = B (xs.getD i []) := by
  unfold rdOf
  simp only [Int.toNat_natCast, List.getD_eq_getElem?_getD, List.getElem?_map]
  cases xs[i]? <;> simp [B] <;> rfl
theorem w64 {n : Int} (h : -9223372036854775808 ≤ n ∧ n ≤ 9223372036854775807) : wrap64 n = n := by unfold wrap64; omega
theorem w64s (n : Nat) (h : n < 9223372036854775807) : wrap64 ((n : Int) + 1) = ((n + 1 : Nat) : Int) := by rw [w64 (by omega)]; omega
def splitL (c : UInt8) : Bs → List Bs
  | [] => [[]]
  | x :: xs => if x = c then [] :: splitL c xs else match splitL c xs with
    | [] => [[x]]
    | p :: ps => (x :: p) :: ps
theorem splitL_ne (c : UInt8) : ∀ l, splitL c l ≠ []
  | [] => by simp [splitL]
  | x :: xs => by
    unfold splitL
    split
    · simp
    · split <;> simp
theorem splitL_len (c : UInt8) : ∀ l, (splitL c l).length ≤ l.length + 1
  | [] => by simp [splitL]
  | x :: xs => by
    have := splitL_len c xs
    unfold splitL
    split
    · simp; omega
    · split
      · simp
      · rename_i h; rw [h] at this; simp at this ⊢; omega
theorem splitL_no (c : UInt8) : ∀ {l : Bs}, c ∉ l → splitL c l = [l]
  | [], _ => rfl
  | x :: xs, h => by
    have h1 : x ≠ c := fun e => h (by simp [e])
    have h2 : c ∉ xs := fun e => h (by simp [e])
    unfold splitL
    rw [if_neg h1, splitL_no c h2]
theorem splitL_hit (c : UInt8) : ∀ {pre : Bs} (post : Bs), c ∉ pre → splitL c (pre ++ c :: post) = pre :: splitL c post
  | [], post, _ => by simp [splitL]
  | x :: xs, post, h => by
    have h1 : x ≠ c := fun e => h (by simp [e])
    have h2 : c ∉ xs := fun e => h (by simp [e])
    rw [List.cons_append]
    conv => lhs; unfold splitL
    rw [if_neg h1, splitL_hit c post h2]
theorem indexByte_split {l : Bs} {c : UInt8} {o : Nat} (h : Lib.indexByte l c = o) : ∃ post, l = l.take o ++ c :: post ∧ c ∉ l.take o ∧ o < l.length ∧ post = l.drop (o + 1) := by
  obtain ⟨h1, h2⟩ := Lib.indexByte_some h
  obtain ⟨hlt, he⟩ := List.getElem?_eq_some_iff.1 h1
  refine ⟨l.drop (o + 1), ?_, ?_, hlt, rfl⟩
  · conv => lhs; rw [← List.take_append_drop o l]
    rw [List.drop_eq_getElem_cons hlt, he]
  · intro hm
    obtain ⟨k, hk⟩ := List.getElem?_of_mem hm
    rw [List.getElem?_take] at hk
    split at hk
    · exact h2 k (by assumption) hk
    · cases hk
theorem split_eq (c : UInt8) : ∀ (n : Nat) (l : Bs), l.length ≤ n → Lib.splitB (B [c]) 0 (Lib.countB (B l) (B [c])) (B l) = (splitL c l).map B
  | n, l, hn => by
    have hone : ∀ l : Bs, Lib.indexB (B l) (B [c]) = Lib.indexByte l c := fun l => by unfold Lib.indexB; rw [data_B, data_B, Lib.index_one]
    rcases Lib.indexB_cases (B l) (B [c]) with h | ⟨o, h, hle⟩
    · rw [Lib.splitB_miss _ _ _ _ h, splitL_no c]
      · rfl
      · rw [hone] at h
        intro hm
        obtain ⟨k, hk⟩ := List.getElem?_of_mem hm
        exact Lib.indexByte_none h k hk
    · have h' := h
      rw [hone] at h
      obtain ⟨post, hl, hnot, hlt, hpost⟩ := indexByte_split h
      rw [Lib.countB_hit _ _ o (by rw [size_B]; simp) h', Nat.add_comm, Lib.splitB_hit _ _ _ _ o h']
      have e1 : (B l).extract 0 (o + 0) = B (l.take o) := by rw [extract_B]; simp
      have e2 : (B l).extract (o + (B [c]).size) (B l).size = B post := by
        rw [extract_B, size_B, size_B, hpost]; simp
      rw [e1, e2]
      cases n with
      | zero => omega
      | succ n =>
        rw [split_eq c n post (by rw [hpost, List.length_drop]; omega)]
        conv => rhs; rw [hl, splitL_hit c post hnot]
        rfl
theorem Split_eq (c : UInt8) (l : Bs) (h : l.length < 4294967281) : strings_Split.f (B l) (B [c]) = some ((splitL c l).map B) := by
  unfold strings_Split.f
  rw [if_pos ⟨by rw [size_B]; exact h, by rw [size_B]; simp⟩, split_eq c _ l (Nat.le_refl _)]
def dropLastE (ps : List Bs) : List Bs := if ps.getLast? = some [] then ps.dropLast else ps
def cutL (c : UInt8) (l : Bs) : List Bs := dropLastE (splitL c l)
theorem words_Lines_eq (l : Bs) (h : l.length < 4294967281) : words_Lines.f (B l) = some ((cutL 10 l).map B) := by
  unfold words_Lines.f
  rw [show (⟨#[10]⟩ : ByteArray) = B [10] from rfl, Split_eq 10 l h, Option.bind_some]
  have hne := splitL_ne 10 l
  have hle : (splitL 10 l).length ≤ l.length + 1 := splitL_len 10 l
  unfold cutL dropLastE
  generalize splitL 10 l = ps at hne hle ⊢
  have hlen : 0 < ps.length := List.length_pos_iff.2 hne
  have e1 : wrap64 (((ps.map B).length : Int) - 1) = ((ps.length - 1 : Nat) : Int) := by rw [List.length_map, w64 (by omega)]; omega
  rw [e1, rdOf_B, toList_B, List.length_map, if_pos (by omega), if_pos (by omega), Int.toNat_natCast]
  have e2 : ps.getD (ps.length - 1) [] = ps.getLast hne := by
    rw [List.getLast_eq_getElem, List.getD_eq_getElem?_getD, List.getElem?_eq_getElem (by omega)]; rfl
  rw [e2, List.getLast?_eq_some_getLast hne]
  by_cases c : ps.getLast hne = []
  · rw [if_pos c, if_pos (by omega), if_pos (by rw [c]), List.dropLast_eq_take, List.map_take]
  · rw [if_neg c, if_neg (fun e => c (Option.some.inj e))]
end Go.Proofs.YtgkjoodlcojkkaaDoor.Y
end
section
namespace Go.Proofs.YtgkjoodlcojkkaaDoor.QD
open Go.RowKit Go.Proofs.YtgkjoodlcojkkaaDoorW.PrintWords Go.Proofs.YtgkjoodlcojkkaaDoorW.PrintLast Go.Proofs.YtgkjoodlcojkkaaDoorW.PrintMore
attribute [local go_sem] max2_int min2_int max_two min_two max_three min_three max_four min_four
set_option linter.unusedVariables false
set_option linter.unusedSimpArgs false
def words_Words.l0 : Nat → List ByteArray → List ByteArray → Int → Int → Option (List ByteArray)
  | 0, _, _, _, _ => none
  | k + 1, x3, x13, x14, x15 => if x15 < x14 then (if 0 ≤ x15 then (if x15 < (x13.length : Int) then (if (rdOf ByteArray.empty x13 x15).toList = ([] : List UInt8) then (words_Words.l0 k x3 x13 x14 (wrap64 (x15 + 1))) else (if x3.length < 8796093022208 then (words_Words.l0 k (x3 ++ [rdOf ByteArray.empty x13 x15]) x13 x14 (wrap64 (x15 + 1))) else (none))) else (none)) else (none)) else (some x3)
def words_Words.f (k : Nat) (a0 : ByteArray) : Option (List ByteArray) := (strings_Cut.f a0 (⟨#[35]⟩ : ByteArray)).bind fun bt146 => ((strings_Split.f bt146.1 (⟨#[32]⟩ : ByteArray)).bind fun t149 => (words_Words.l0 k ([] : List ByteArray) t149 (t149.length : Int) 0))
theorem words_Words.mono_l : ∀ k, (∀ y0 y1 y2 y3, LeO (words_Words.l0 k y0 y1 y2 y3) (words_Words.l0 (k + 1) y0 y1 y2 y3))
  | 0 => fun _ _ _ _ r h => by simp [words_Words.l0] at h
  | k + 1 => by
    have ih0 := words_Words.mono_l k
    · intro y0 y1 y2 y3
      unfold words_Words.l0
      repeat' first
      | (with_reducible exact ih0 _ _ _ _)
      | (with_reducible exact LeO.refl _)
      | (with_reducible exact LeO.none _)
      | (with_reducible refine LeO.ite ?_ ?_)
      | (with_reducible refine LeO.bind ?_ (fun _ => ?_))
      | exact ih0 _ _ _ _
      | exact LeO.none _
      | refine LeO.ite ?_ ?_
      | refine LeO.bind ?_ (fun _ => ?_)
theorem words_Words.mono : ∀ a0 k, LeO (words_Words.f k a0) (words_Words.f (k + 1) a0) := by
  intro a0 k
  have ih0 := words_Words.mono_l k
  unfold words_Words.f
  repeat' first
      | (with_reducible exact ih0 _ _ _ _)
      | (with_reducible exact LeO.refl _)
      | (with_reducible exact LeO.none _)
      | (with_reducible refine LeO.ite ?_ ?_)
      | (with_reducible refine LeO.bind ?_ (fun _ => ?_))
      | exact ih0 _ _ _ _
      | exact LeO.none _
      | refine LeO.ite ?_ ?_
      | refine LeO.bind ?_ (fun _ => ?_)
set_option maxHeartbeats 8000000 in
set_option maxRecDepth 100000 in
theorem words_Words.calls (k : Nat) (a0 : ByteArray) (r : List ByteArray) (w : World) (hG : Glob w) (h : words_Words.f k a0 = some r) :
    Calls Tryd.prog 15 #[.string a0] w fun e w' => ∃ v0_ : Value, e = .returned (v0_) ∧ Kd.R Kd.string 9 w' w.heap.size (fun _ => True) v0_ r ∧ Below w.heap.size w w' := by
  have HG := Aside0.mk hG
  clear hG
  have HB := Aside0.mk (Below.refl w.heap.size w)
  have H : ((strings_Cut.f a0 (⟨#[35]⟩ : ByteArray)).bind fun bt146 => ((strings_Split.f bt146.1 (⟨#[32]⟩ : ByteArray)).bind fun t149 => (words_Words.l0 k ([] : List ByteArray) t149 (t149.length : Int) 0))) = some r := h
  clear h
  replace H := Option.bind_eq_some_iff.mp H
  obtain ⟨⟨t146, t147, t148⟩, A20, H⟩ := H
  replace H : ((strings_Split.f t146 (⟨#[32]⟩ : ByteArray)).bind fun t149 => (words_Words.l0 k ([] : List ByteArray) t149 (t149.length : Int) 0)) = some r := H
  have A2 := Aside0.mk A20
  clear A20
  replace H := Option.bind_eq_some_iff.mp H
  obtain ⟨t149, A30, H⟩ := H
  replace H : (words_Words.l0 k ([] : List ByteArray) t149 (t149.length : Int) 0) = some r := H
  have A3 := Aside0.mk A30
  clear A30
  have H' := Aside0.mk H
  clear H
  go_enter Tryd.func15, Tryd.ntmps15
  go_wp2_with (first | ((with_reducible refine gate_callee (f := 31) rfl ?_); refine goesL_ (some 8) rfl rfl Tryd.func31 (by kernel_rfl) rfl #[.string a0, .string (⟨#[35]⟩ : ByteArray)] rfl (by (try simp only [List.map_toArray, List.map_cons, List.map_nil]); first | done | rfl | (simp only [List.length_drop, List.length_take]; rfl)) ?_; (with_reducible refine (strings_Cut.calls a0 (⟨#[35]⟩ : ByteArray) t146 t147 t148 _ ?side1 A2.out).mono ?_); (case side1 => first | exact Glob.below HG.out (HB.out) | (repeat (first | exact Glob.below HG.out HB.out | (with_reducible refine Glob.alloc ?_ _) | (with_reducible refine Glob.drewN ?_ _) | (with_reducible refine Glob.drew ?_)))); rintro e w4 ⟨rfl, hb⟩; refine ⟨_, rfl, ?_⟩; have n0_ := Aside0.mk (below_step (HB.out) hb); clear HB; have HB := n0_; clear n0_; (try clear hb); (try clear hb2); (try clear hk); (try clear hi)) | ((with_reducible refine gate_callee (f := 29) rfl ?_); refine goesL_ (some 13) rfl rfl Tryd.func29 (by kernel_rfl) rfl #[.string t146, .string (⟨#[32]⟩ : ByteArray)] rfl (by (try simp only [List.map_toArray, List.map_cons, List.map_nil]); first | done | rfl | (simp only [List.length_drop, List.length_take]; rfl)) ?_; (with_reducible refine (strings_Split.calls t146 (⟨#[32]⟩ : ByteArray) t149 _ ?side1 A3.out).mono ?_); (case side1 => first | exact Glob.below HG.out (HB.out) | (repeat (first | exact Glob.below HG.out HB.out | (with_reducible refine Glob.alloc ?_ _) | (with_reducible refine Glob.drewN ?_ _) | (with_reducible refine Glob.drew ?_)))); rintro e w5 ⟨v150, rfl, ho0, hb⟩; refine ⟨_, rfl, ?_⟩; have n0_ := Aside0.mk (Kd.R_lower ho0 (below_size (HB.out))); have n1_ := Aside0.mk (below_step (HB.out) hb); clear HB; have HO151 := n0_; have HB := n1_; clear n0_ n1_; (try clear hb); (try clear hb2); (try clear hk); (try clear hi); (try clear ho0); obtain ⟨Ao6, co6, eo6⟩ := Kd.R_slice HO151.out; subst eo6))
  repeat (go_step3; try go_wp2_with (first | ((with_reducible refine gate_callee (f := 31) rfl ?_); refine goesL_ (some 8) rfl rfl Tryd.func31 (by kernel_rfl) rfl #[.string a0, .string (⟨#[35]⟩ : ByteArray)] rfl (by (try simp only [List.map_toArray, List.map_cons, List.map_nil]); first | done | rfl | (simp only [List.length_drop, List.length_take]; rfl)) ?_; (with_reducible refine (strings_Cut.calls a0 (⟨#[35]⟩ : ByteArray) t146 t147 t148 _ ?side1 A2.out).mono ?_); (case side1 => first | exact Glob.below HG.out (HB.out) | (repeat (first | exact Glob.below HG.out HB.out | (with_reducible refine Glob.alloc ?_ _) | (with_reducible refine Glob.drewN ?_ _) | (with_reducible refine Glob.drew ?_)))); rintro e w4 ⟨rfl, hb⟩; refine ⟨_, rfl, ?_⟩; have n0_ := Aside0.mk (below_step (HB.out) hb); clear HB; have HB := n0_; clear n0_; (try clear hb); (try clear hb2); (try clear hk); (try clear hi)) | ((with_reducible refine gate_callee (f := 29) rfl ?_); refine goesL_ (some 13) rfl rfl Tryd.func29 (by kernel_rfl) rfl #[.string t146, .string (⟨#[32]⟩ : ByteArray)] rfl (by (try simp only [List.map_toArray, List.map_cons, List.map_nil]); first | done | rfl | (simp only [List.length_drop, List.length_take]; rfl)) ?_; (with_reducible refine (strings_Split.calls t146 (⟨#[32]⟩ : ByteArray) t149 _ ?side1 A3.out).mono ?_); (case side1 => first | exact Glob.below HG.out (HB.out) | (repeat (first | exact Glob.below HG.out HB.out | (with_reducible refine Glob.alloc ?_ _) | (with_reducible refine Glob.drewN ?_ _) | (with_reducible refine Glob.drew ?_)))); rintro e w5 ⟨v150, rfl, ho0, hb⟩; refine ⟨_, rfl, ?_⟩; have n0_ := Aside0.mk (Kd.R_lower ho0 (below_size (HB.out))); have n1_ := Aside0.mk (below_step (HB.out) hb); clear HB; have HO151 := n0_; have HB := n1_; clear n0_ n1_; (try clear hb); (try clear hb2); (try clear hk); (try clear hi); (try clear ho0); obtain ⟨Ao6, co6, eo6⟩ := Kd.R_slice HO151.out; subst eo6)))
  go_loopg [3, 15] k (fun kq v3 v15 w' => ∃ (x3_1 : List ByteArray) (x15_1 : Int), v15 = .int .i64 x15_1 ∧ Aside0 (words_Words.l0 kq x3_1 t149 (t149.length : Int) x15_1 = some r) ∧ Aside0 (kq ≤ k) ∧ Aside0 (Kd.R Kd.string 9 w' w.heap.size (fun k_ => some k_ ≠ ((.slice Ao6 t149.length co6) : Value).ownBlock) v3 x3_1) ∧ Aside0 (Kd.R Kd.string 9 w' w.heap.size (fun k_ => some k_ ≠ (v3 : Value).ownBlock) (.slice Ao6 t149.length co6) t149) ∧ Aside0 (Below w.heap.size w w'))
  case atStart => exact ⟨(([] : List ByteArray)), (0), (by first | rfl | (simp; done) | (simp [*]; done)), H', ⟨Nat.le_refl _⟩, ⟨by first | exact Kd.R_nil _ _ _ _ _ | exact Kd.N_nil _ _ _ _ _ | exact Kd.V_nil _ _ _ _ _ | exact Kd.Q_nil _ _ _ _ _ | exact Kd.S_nil _ _ _ _ _⟩, ⟨by (with_reducible repeat (first | apply Kd.R_alloc | apply Kd.R_drewN | apply Kd.R_drew)); exact Kd.R_mono HO151.out (fun _ hk => (by simp [Value.ownBlock]))⟩, ⟨HB.out⟩⟩
  clear H'
  (try clear c1); (try clear c2); (try clear p2); (try clear c3); (try clear p3)
  obtain ⟨x3_1, x15_1, rfl, HA, HK1, HO_3, HO_13, HB⟩ := hrel
  cases gk with
  | zero => exact absurd HA.out (by simp [words_Words.l0])
  | succ k1 => ?_
  have H := HA.out
  clear HA
  simp only [words_Words.l0] at H
  by_cases c7 : x15_1 < (t149.length : Int)
  rotate_left
  · rw [if_neg c7] at H
    have c7b0 : decide (x15_1 < (t149.length : Int)) = false := decide_eq_false c7
    clear c7
    obtain rfl := Option.some.inj H
    go_wp2
    repeat (go_step3; try go_wp2)
    go_ret
    exact ⟨_, by first | rfl | (simp [errW_none, errW_some] <;> rfl) | (simp [*, errW_none, errW_some] <;> rfl), by (with_reducible repeat (first | apply Kd.R_alloc | apply Kd.R_drewN | apply Kd.R_drew)); exact Kd.R_mono HO_3.out (fun _ hk => trivial), HB.out⟩
  rw [if_pos c7] at H
  have c7b0 : decide (x15_1 < (t149.length : Int)) = true := decide_eq_true c7
  clear c7
  by_cases c8 : 0 ≤ x15_1
  rotate_left
  · rw [if_neg c8] at H
    exact absurd H (by simp)
  rw [if_pos c8] at H
  have c8b0 : decide (0 ≤ x15_1) = true := decide_eq_true c8
  clear c8
  by_cases c9 : x15_1 < (t149.length : Int)
  rotate_left
  · rw [if_neg c9] at H
    exact absurd H (by simp)
  rw [if_pos c9] at H
  have c9b0 : decide (x15_1 < (t149.length : Int)) = true := decide_eq_true c9
  clear c9
  by_cases c10 : (rdOf ByteArray.empty t149 x15_1).toList = ([] : List UInt8)
  · rw [if_pos c10] at H
    have c10b0 : ((rdOf ByteArray.empty t149 x15_1).toList == ([] : List UInt8)) = true := beq_iff_eq.mpr c10
    have c10b1 : ((rdOf ByteArray.empty t149 x15_1).toList != ([] : List UInt8)) = false := bne_eq_false_iff_eq.mpr c10
    clear c10
    have H' := Aside0.mk H
    clear H
    have p152 : 0 ≤ (x15_1 : Int) := of_decide_eq_true (by first | (with_reducible assumption) | assumption)
    have q152 : x15_1 < (t149.length : Int) := of_decide_eq_true (by first | (with_reducible assumption) | assumption)
    obtain ⟨ad152, e152, hx152_0⟩ := Kd.at_string (Kd.R_reads' HO_13.out).2.2 x15_1 p152 q152
    cases e152
    replace p152 := eq_true p152
    replace q152 := eq_true q152
    go_wp2
    repeat (go_step3; try go_wp2)
    go_roundg k1
    case measure => have := HK1.out; omega
    case rel => exact ⟨(x3_1), (wrap64 (x15_1 + 1)), (by first | rfl | (simp; done) | (simp [*]; done)), H', ⟨by have := HK1.out; omega⟩, ⟨by (with_reducible repeat (first | apply Kd.R_alloc | apply Kd.R_drewN | apply Kd.R_drew)); exact HO_3.out⟩, ⟨by (with_reducible repeat (first | apply Kd.R_alloc | apply Kd.R_drewN | apply Kd.R_drew)); exact HO_13.out⟩, ⟨HB.out⟩⟩
  rw [if_neg c10] at H
  have c10b0 : ((rdOf ByteArray.empty t149 x15_1).toList == ([] : List UInt8)) = false := beq_eq_false_iff_ne.mpr c10
  have c10b1 : ((rdOf ByteArray.empty t149 x15_1).toList != ([] : List UInt8)) = true := bne_iff_ne.mpr c10
  by_cases c11 : x3_1.length < 8796093022208
  rotate_left
  · rw [if_neg c11] at H
    exact absurd H (by simp)
  rw [if_pos c11] at H
  have LMc11 := Aside0.mk c11
  clear c11
  obtain ⟨y153, hy153⟩ : ∃ y_ : List ByteArray, y_ = (x3_1 ++ [rdOf ByteArray.empty t149 x15_1]) := ⟨_, rfl⟩
  replace H : (words_Words.l0 k1 y153 t149 (t149.length : Int) (wrap64 (x15_1 + 1))) = some r := by first | (rw [hy153]; with_reducible exact H) | (have H2_ := (Option.bind_some _ _).symm.trans H; rw [hy153]; with_reducible exact H2_) | (have H2_ := (Option.bind_some _ _).symm.trans H; with_reducible exact H2_) | with_reducible exact H | (rw [hy153]; exact H) | exact H
  have Ny153 := Aside0.mk hy153
  clear hy153
  have H' := Aside0.mk H
  clear H
  have p152 : 0 ≤ (x15_1 : Int) := of_decide_eq_true (by first | (with_reducible assumption) | assumption)
  have q152 : x15_1 < (t149.length : Int) := of_decide_eq_true (by first | (with_reducible assumption) | assumption)
  obtain ⟨ad152, e152, hx152_0⟩ := Kd.at_string (Kd.R_reads' HO_13.out).2.2 x15_1 p152 q152
  cases e152
  replace p152 := eq_true p152
  replace q152 := eq_true q152
  go_wp2_with (first | ((with_reducible refine gate_builtin (b := .append) (xs := #[.tmp 21, .tmp 23]) rfl ?_); at_builtin; refine Kd.R_append Kd.string (w0 := w) w.heap.size rfl (.tmp 21) (.tmp 23) 26 9 (.string ⟨#[]⟩) 16 rfl Tryd.underlying26 info9 rfl (by decide) (by omega) u3 x3_1 (rdOf ByteArray.empty t149 x15_1) [.string (rdOf ByteArray.empty t149 x15_1)] (fun k_ => some k_ ≠ (.slice (some ad152) t149.length co6 : Value).ownBlock) (fun _ => False) rfl rfl ?aP (fun _ hk => hk.elim) ?aF ?aO ?aB ?aS ?aL ?_; (case aP => exact rfl); (case aB => exact (HB.out)); (case aF => exact (fun k_ hk => Kd.fresh' (Kd.R_lt (by (with_reducible repeat (first | apply Kd.R_alloc | apply Kd.R_drewN | apply Kd.R_drew)); exact HO_13.out)) k_ hk)); (case aO => exact (by (with_reducible repeat (first | apply Kd.R_alloc | apply Kd.R_drewN | apply Kd.R_drew)); exact HO_3.out)); (case aS => exact (below_size (HB.out))); (case aL => have := LMc11.out; omega); intro v154 w12 ho hb hg hat; rw [← Ny153.out] at ho; have n0_ := Aside0.mk (Kd.R_after (ok := (fun _ => True)) (by (with_reducible repeat (first | apply Kd.R_alloc | apply Kd.R_drewN | apply Kd.R_drew)); exact Kd.R_mono HO_13.out (fun _ hk => ⟨trivial, hk⟩)) hg hat); have n1_ := Aside0.mk (hb); have n2_ := Aside0.mk (ho); clear HO_13; clear HB; clear HO_3; have HO_13 := n0_; have HB := n1_; have HO155 := n2_; clear n0_ n1_ n2_; clear ho hb hg hat))
  repeat (go_step3; try go_wp2_with (first | ((with_reducible refine gate_builtin (b := .append) (xs := #[.tmp 21, .tmp 23]) rfl ?_); at_builtin; refine Kd.R_append Kd.string (w0 := w) w.heap.size rfl (.tmp 21) (.tmp 23) 26 9 (.string ⟨#[]⟩) 16 rfl Tryd.underlying26 info9 rfl (by decide) (by omega) u3 x3_1 (rdOf ByteArray.empty t149 x15_1) [.string (rdOf ByteArray.empty t149 x15_1)] (fun k_ => some k_ ≠ (.slice (some ad152) t149.length co6 : Value).ownBlock) (fun _ => False) rfl rfl ?aP (fun _ hk => hk.elim) ?aF ?aO ?aB ?aS ?aL ?_; (case aP => exact rfl); (case aB => exact (HB.out)); (case aF => exact (fun k_ hk => Kd.fresh' (Kd.R_lt (by (with_reducible repeat (first | apply Kd.R_alloc | apply Kd.R_drewN | apply Kd.R_drew)); exact HO_13.out)) k_ hk)); (case aO => exact (by (with_reducible repeat (first | apply Kd.R_alloc | apply Kd.R_drewN | apply Kd.R_drew)); exact HO_3.out)); (case aS => exact (below_size (HB.out))); (case aL => have := LMc11.out; omega); intro v154 w12 ho hb hg hat; rw [← Ny153.out] at ho; have n0_ := Aside0.mk (Kd.R_after (ok := (fun _ => True)) (by (with_reducible repeat (first | apply Kd.R_alloc | apply Kd.R_drewN | apply Kd.R_drew)); exact Kd.R_mono HO_13.out (fun _ hk => ⟨trivial, hk⟩)) hg hat); have n1_ := Aside0.mk (hb); have n2_ := Aside0.mk (ho); clear HO_13; clear HB; clear HO_3; have HO_13 := n0_; have HB := n1_; have HO155 := n2_; clear n0_ n1_ n2_; clear ho hb hg hat)))
  go_roundg k1
  case measure => have := HK1.out; omega
  case rel => exact ⟨(y153), (wrap64 (x15_1 + 1)), (by first | rfl | (simp; done) | (simp [*]; done)), H', ⟨by have := HK1.out; omega⟩, ⟨by (with_reducible repeat (first | apply Kd.R_alloc | apply Kd.R_drewN | apply Kd.R_drew)); exact HO155.out⟩, ⟨by (with_reducible repeat (first | apply Kd.R_alloc | apply Kd.R_drewN | apply Kd.R_drew)); exact Kd.R_mono HO_13.out (fun _ hk => hk.2)⟩, ⟨HB.out⟩⟩
end Go.Proofs.YtgkjoodlcojkkaaDoor.QD
end
section
namespace Go.Proofs.YtgkjoodlcojkkaaDoor.QD
open Go.RowKit Go.Proofs.YtgkjoodlcojkkaaDoorW.PrintWords Go.Proofs.YtgkjoodlcojkkaaDoorW.PrintLast Go.Proofs.YtgkjoodlcojkkaaDoorW.PrintMore
attribute [local go_sem] max2_int min2_int max_two min_two max_three min_three max_four min_four
set_option linter.unusedVariables false
set_option linter.unusedSimpArgs false
end Go.Proofs.YtgkjoodlcojkkaaDoor.QD
end
section
namespace Go.Proofs.YtgkjoodlcojkkaaDoor.QD
open Go.RowKit Go.Proofs.YtgkjoodlcojkkaaDoorW.PrintWords Go.Proofs.YtgkjoodlcojkkaaDoorW.PrintLast Go.Proofs.YtgkjoodlcojkkaaDoorW.PrintMore
attribute [local go_sem] max2_int min2_int max_two min_two max_three min_three max_four min_four
set_option linter.unusedVariables false
set_option linter.unusedSimpArgs false
def words_Name.l0 : Nat → ByteArray → Int → Int → Option (Bool)
  | 0, _, _, _ => none
  | k + 1, x0, x7, x8 => if x8 < x7 then (if 0 ≤ x8 then (if x8 < (x0.size : Int) then (if (bt x0 x8) ≥ 48 then (if (bt x0 x8) < 97 then (if x8 = 0 then (some false) else (if ((bt x0 x8) ≤ 57) then (words_Name.l0 k x0 x7 (wrap64 (x8 + 1))) else (some false))) else (if (bt x0 x8) > 122 then (if x8 = 0 then (some false) else (if ((bt x0 x8) ≤ 57) then (words_Name.l0 k x0 x7 (wrap64 (x8 + 1))) else (some false))) else (words_Name.l0 k x0 x7 (wrap64 (x8 + 1))))) else (if (bt x0 x8) < 97 then (if x8 = 0 then (some false) else (some false)) else (if (bt x0 x8) > 122 then (if x8 = 0 then (some false) else (some false)) else (words_Name.l0 k x0 x7 (wrap64 (x8 + 1)))))) else (none)) else (none)) else (if x0.toList = ([] : List UInt8) then (some false) else (some (decide ((x0.size : Int) ≤ 8))))
def words_Name.f (k : Nat) (a0 : ByteArray) : Option (Bool) := words_Name.l0 k a0 (a0.size : Int) 0
theorem words_Name.mono_l : ∀ k, (∀ y0 y1 y2, LeO (words_Name.l0 k y0 y1 y2) (words_Name.l0 (k + 1) y0 y1 y2))
  | 0 => fun _ _ _ r h => by simp [words_Name.l0] at h
  | k + 1 => by
    have ih0 := words_Name.mono_l k
    · intro y0 y1 y2
      unfold words_Name.l0
      repeat' first
      | (with_reducible exact ih0 _ _ _)
      | (with_reducible exact LeO.refl _)
      | (with_reducible exact LeO.none _)
      | (with_reducible refine LeO.ite ?_ ?_)
      | (with_reducible refine LeO.bind ?_ (fun _ => ?_))
      | exact ih0 _ _ _
      | exact LeO.none _
      | refine LeO.ite ?_ ?_
      | refine LeO.bind ?_ (fun _ => ?_)
theorem words_Name.mono : ∀ a0 k, LeO (words_Name.f k a0) (words_Name.f (k + 1) a0) := by
  intro a0 k
  have ih0 := words_Name.mono_l k
  unfold words_Name.f
  repeat' first
      | (with_reducible exact ih0 _ _ _)
      | (with_reducible exact LeO.refl _)
      | (with_reducible exact LeO.none _)
      | (with_reducible refine LeO.ite ?_ ?_)
      | (with_reducible refine LeO.bind ?_ (fun _ => ?_))
      | exact ih0 _ _ _
      | exact LeO.none _
      | refine LeO.ite ?_ ?_
      | refine LeO.bind ?_ (fun _ => ?_)
set_option maxHeartbeats 8000000 in
set_option maxRecDepth 100000 in
theorem words_Name.calls (k : Nat) (a0 : ByteArray) (r : Bool) (w : World) (h : words_Name.f k a0 = some r) :
    Calls Tryd.prog 17 #[.string a0] w fun e w' => e = .returned (.bool r) ∧ Drawn0 w w' := by
  have H : (words_Name.l0 k a0 (a0.size : Int) 0) = some r := h
  clear h
  have H' := Aside0.mk H
  clear H
  go_enter Tryd.func17, Tryd.ntmps17
  go_wp2
  go_loopg [8] k (fun kq v8 w' => ∃ (x8_1 : Int), v8 = .int .i64 x8_1 ∧ Aside0 (words_Name.l0 kq a0 (a0.size : Int) x8_1 = some r) ∧ Aside0 (kq ≤ k) ∧ Drawn0 w w')
  case atStart => exact ⟨(0), (by first | rfl | (simp; done) | (simp [*]; done)), H', ⟨Nat.le_refl _⟩, by repeat (first | exact Drawn0.refl _ | apply Drawn0.step)⟩
  clear H'
  (try clear c1)
  obtain ⟨x8_1, rfl, HA, HK1, ⟨m1, rfl⟩⟩ := hrel
  cases gk with
  | zero => exact absurd HA.out (by simp [words_Name.l0])
  | succ k1 => ?_
  have H := HA.out
  clear HA
  simp only [words_Name.l0] at H
  by_cases c2 : x8_1 < (a0.size : Int)
  rotate_left
  · rw [if_neg c2] at H
    have c2b0 : decide (x8_1 < (a0.size : Int)) = false := decide_eq_false c2
    clear c2
    by_cases c3 : a0.toList = ([] : List UInt8)
    rotate_left
    · rw [if_neg c3] at H
      have c3b0 : (a0.toList == ([] : List UInt8)) = false := beq_eq_false_iff_ne.mpr c3
      have c3b1 : (a0.toList != ([] : List UInt8)) = true := bne_iff_ne.mpr c3
      obtain rfl := Option.some.inj H
      go_wp2
      go_ret
      exact ⟨by first | rfl | (simp; done) | (simp [*]; done), by repeat (first | exact Drawn0.refl _ | apply Drawn0.step)⟩
    rw [if_pos c3] at H
    have c3b0 : (a0.toList == ([] : List UInt8)) = true := beq_iff_eq.mpr c3
    have c3b1 : (a0.toList != ([] : List UInt8)) = false := bne_eq_false_iff_eq.mpr c3
    clear c3
    obtain rfl := Option.some.inj H
    go_wp2
    go_ret
    exact ⟨by first | rfl | (simp; done) | (simp [*]; done), by repeat (first | exact Drawn0.refl _ | apply Drawn0.step)⟩
  rw [if_pos c2] at H
  have c2b0 : decide (x8_1 < (a0.size : Int)) = true := decide_eq_true c2
  clear c2
  by_cases c4 : 0 ≤ x8_1
  rotate_left
  · rw [if_neg c4] at H
    exact absurd H (by simp)
  rw [if_pos c4] at H
  have c4b0 : decide (0 ≤ x8_1) = true := decide_eq_true c4
  clear c4
  by_cases c5 : x8_1 < (a0.size : Int)
  rotate_left
  · rw [if_neg c5] at H
    exact absurd H (by simp)
  rw [if_pos c5] at H
  have c5b0 : decide (x8_1 < (a0.size : Int)) = true := decide_eq_true c5
  clear c5
  by_cases c7 : (bt a0 x8_1) ≥ 48
  rotate_left
  · rw [if_neg c7] at H
    have c7b0 : decide (48 ≤ (bt a0 x8_1)) = false := decide_eq_false c7
    clear c7
    by_cases c8 : (bt a0 x8_1) < 97
    · rw [if_pos c8] at H
      have c8b0 : decide ((bt a0 x8_1) < 97) = true := decide_eq_true c8
      clear c8
      by_cases c9 : x8_1 = 0
      rotate_left
      · rw [if_neg c9] at H
        have c9b0 : (x8_1 == 0) = false := beq_eq_false_iff_ne.mpr c9
        have c9b1 : (x8_1 != 0) = true := bne_iff_ne.mpr c9
        obtain rfl := Option.some.inj H
        have p6 : 0 ≤ (x8_1 : Int) := of_decide_eq_true (by first | (with_reducible assumption) | assumption)
        have q6 : x8_1 < (a0.size : Int) := of_decide_eq_true (by first | (with_reducible assumption) | assumption)
        have hx6 := bt_at a0 x8_1
        replace p6 := eq_true p6
        replace q6 := eq_true q6
        go_wp2
        go_ret
        exact ⟨by first | rfl | (simp; done) | (simp [*]; done), by repeat (first | exact Drawn0.refl _ | apply Drawn0.step)⟩
      rw [if_pos c9] at H
      have c9b0 : (x8_1 == 0) = true := beq_iff_eq.mpr c9
      have c9b1 : (x8_1 != 0) = false := bne_eq_false_iff_eq.mpr c9
      clear c9
      obtain rfl := Option.some.inj H
      have p6 : 0 ≤ (x8_1 : Int) := of_decide_eq_true (by first | (with_reducible assumption) | assumption)
      have q6 : x8_1 < (a0.size : Int) := of_decide_eq_true (by first | (with_reducible assumption) | assumption)
      have hx6 := bt_at a0 x8_1
      replace p6 := eq_true p6
      replace q6 := eq_true q6
      go_wp2
      go_ret
      exact ⟨by first | rfl | (simp; done) | (simp [*]; done), by repeat (first | exact Drawn0.refl _ | apply Drawn0.step)⟩
    rw [if_neg c8] at H
    have c8b0 : decide ((bt a0 x8_1) < 97) = false := decide_eq_false c8
    clear c8
    by_cases c10 : (bt a0 x8_1) > 122
    rotate_left
    · rw [if_neg c10] at H
      have c10b0 : decide (122 < (bt a0 x8_1)) = false := decide_eq_false c10
      clear c10
      have H' := Aside0.mk H
      clear H
      have p6 : 0 ≤ (x8_1 : Int) := of_decide_eq_true (by first | (with_reducible assumption) | assumption)
      have q6 : x8_1 < (a0.size : Int) := of_decide_eq_true (by first | (with_reducible assumption) | assumption)
      have hx6 := bt_at a0 x8_1
      replace p6 := eq_true p6
      replace q6 := eq_true q6
      go_wp2
      go_roundg k1
      case measure => have := HK1.out; omega
      case rel => exact ⟨(wrap64 (x8_1 + 1)), (by first | rfl | (simp; done) | (simp [*]; done)), H', ⟨by have := HK1.out; omega⟩, by repeat (first | exact Drawn0.refl _ | apply Drawn0.step)⟩
    rw [if_pos c10] at H
    have c10b0 : decide (122 < (bt a0 x8_1)) = true := decide_eq_true c10
    clear c10
    by_cases c11 : x8_1 = 0
    rotate_left
    · rw [if_neg c11] at H
      have c11b0 : (x8_1 == 0) = false := beq_eq_false_iff_ne.mpr c11
      have c11b1 : (x8_1 != 0) = true := bne_iff_ne.mpr c11
      obtain rfl := Option.some.inj H
      have p6 : 0 ≤ (x8_1 : Int) := of_decide_eq_true (by first | (with_reducible assumption) | assumption)
      have q6 : x8_1 < (a0.size : Int) := of_decide_eq_true (by first | (with_reducible assumption) | assumption)
      have hx6 := bt_at a0 x8_1
      replace p6 := eq_true p6
      replace q6 := eq_true q6
      go_wp2
      go_ret
      exact ⟨by first | rfl | (simp; done) | (simp [*]; done), by repeat (first | exact Drawn0.refl _ | apply Drawn0.step)⟩
    rw [if_pos c11] at H
    have c11b0 : (x8_1 == 0) = true := beq_iff_eq.mpr c11
    have c11b1 : (x8_1 != 0) = false := bne_eq_false_iff_eq.mpr c11
    clear c11
    obtain rfl := Option.some.inj H
    have p6 : 0 ≤ (x8_1 : Int) := of_decide_eq_true (by first | (with_reducible assumption) | assumption)
    have q6 : x8_1 < (a0.size : Int) := of_decide_eq_true (by first | (with_reducible assumption) | assumption)
    have hx6 := bt_at a0 x8_1
    replace p6 := eq_true p6
    replace q6 := eq_true q6
    go_wp2
    go_ret
    exact ⟨by first | rfl | (simp; done) | (simp [*]; done), by repeat (first | exact Drawn0.refl _ | apply Drawn0.step)⟩
  rw [if_pos c7] at H
  have c7b0 : decide (48 ≤ (bt a0 x8_1)) = true := decide_eq_true c7
  clear c7
  by_cases c12 : (bt a0 x8_1) < 97
  · rw [if_pos c12] at H
    have c12b0 : decide ((bt a0 x8_1) < 97) = true := decide_eq_true c12
    clear c12
    by_cases c13 : x8_1 = 0
    · rw [if_pos c13] at H
      have c13b0 : (x8_1 == 0) = true := beq_iff_eq.mpr c13
      have c13b1 : (x8_1 != 0) = false := bne_eq_false_iff_eq.mpr c13
      clear c13
      obtain rfl := Option.some.inj H
      have p6 : 0 ≤ (x8_1 : Int) := of_decide_eq_true (by first | (with_reducible assumption) | assumption)
      have q6 : x8_1 < (a0.size : Int) := of_decide_eq_true (by first | (with_reducible assumption) | assumption)
      have hx6 := bt_at a0 x8_1
      replace p6 := eq_true p6
      replace q6 := eq_true q6
      go_wp2
      go_ret
      exact ⟨by first | rfl | (simp; done) | (simp [*]; done), by repeat (first | exact Drawn0.refl _ | apply Drawn0.step)⟩
    rw [if_neg c13] at H
    have c13b0 : (x8_1 == 0) = false := beq_eq_false_iff_ne.mpr c13
    have c13b1 : (x8_1 != 0) = true := bne_iff_ne.mpr c13
    by_cases c14 : ((bt a0 x8_1) ≤ 57)
    rotate_left
    · rw [if_neg c14] at H
      have c14b0 : decide ((bt a0 x8_1) ≤ 57) = false := decide_eq_false c14
      clear c14
      obtain rfl := Option.some.inj H
      have p6 : 0 ≤ (x8_1 : Int) := of_decide_eq_true (by first | (with_reducible assumption) | assumption)
      have q6 : x8_1 < (a0.size : Int) := of_decide_eq_true (by first | (with_reducible assumption) | assumption)
      have hx6 := bt_at a0 x8_1
      replace p6 := eq_true p6
      replace q6 := eq_true q6
      go_wp2
      go_ret
      exact ⟨by first | rfl | (simp; done) | (simp [*]; done), by repeat (first | exact Drawn0.refl _ | apply Drawn0.step)⟩
    rw [if_pos c14] at H
    have c14b0 : decide ((bt a0 x8_1) ≤ 57) = true := decide_eq_true c14
    clear c14
    have H' := Aside0.mk H
    clear H
    have p6 : 0 ≤ (x8_1 : Int) := of_decide_eq_true (by first | (with_reducible assumption) | assumption)
    have q6 : x8_1 < (a0.size : Int) := of_decide_eq_true (by first | (with_reducible assumption) | assumption)
    have hx6 := bt_at a0 x8_1
    replace p6 := eq_true p6
    replace q6 := eq_true q6
    go_wp2
    go_roundg k1
    case measure => have := HK1.out; omega
    case rel => exact ⟨(wrap64 (x8_1 + 1)), (by first | rfl | (simp; done) | (simp [*]; done)), H', ⟨by have := HK1.out; omega⟩, by repeat (first | exact Drawn0.refl _ | apply Drawn0.step)⟩
  rw [if_neg c12] at H
  have c12b0 : decide ((bt a0 x8_1) < 97) = false := decide_eq_false c12
  clear c12
  by_cases c15 : (bt a0 x8_1) > 122
  rotate_left
  · rw [if_neg c15] at H
    have c15b0 : decide (122 < (bt a0 x8_1)) = false := decide_eq_false c15
    clear c15
    have H' := Aside0.mk H
    clear H
    have p6 : 0 ≤ (x8_1 : Int) := of_decide_eq_true (by first | (with_reducible assumption) | assumption)
    have q6 : x8_1 < (a0.size : Int) := of_decide_eq_true (by first | (with_reducible assumption) | assumption)
    have hx6 := bt_at a0 x8_1
    replace p6 := eq_true p6
    replace q6 := eq_true q6
    go_wp2
    go_roundg k1
    case measure => have := HK1.out; omega
    case rel => exact ⟨(wrap64 (x8_1 + 1)), (by first | rfl | (simp; done) | (simp [*]; done)), H', ⟨by have := HK1.out; omega⟩, by repeat (first | exact Drawn0.refl _ | apply Drawn0.step)⟩
  rw [if_pos c15] at H
  have c15b0 : decide (122 < (bt a0 x8_1)) = true := decide_eq_true c15
  clear c15
  by_cases c16 : x8_1 = 0
  · rw [if_pos c16] at H
    have c16b0 : (x8_1 == 0) = true := beq_iff_eq.mpr c16
    have c16b1 : (x8_1 != 0) = false := bne_eq_false_iff_eq.mpr c16
    clear c16
    obtain rfl := Option.some.inj H
    have p6 : 0 ≤ (x8_1 : Int) := of_decide_eq_true (by first | (with_reducible assumption) | assumption)
    have q6 : x8_1 < (a0.size : Int) := of_decide_eq_true (by first | (with_reducible assumption) | assumption)
    have hx6 := bt_at a0 x8_1
    replace p6 := eq_true p6
    replace q6 := eq_true q6
    go_wp2
    go_ret
    exact ⟨by first | rfl | (simp; done) | (simp [*]; done), by repeat (first | exact Drawn0.refl _ | apply Drawn0.step)⟩
  rw [if_neg c16] at H
  have c16b0 : (x8_1 == 0) = false := beq_eq_false_iff_ne.mpr c16
  have c16b1 : (x8_1 != 0) = true := bne_iff_ne.mpr c16
  by_cases c17 : ((bt a0 x8_1) ≤ 57)
  rotate_left
  · rw [if_neg c17] at H
    have c17b0 : decide ((bt a0 x8_1) ≤ 57) = false := decide_eq_false c17
    clear c17
    obtain rfl := Option.some.inj H
    have p6 : 0 ≤ (x8_1 : Int) := of_decide_eq_true (by first | (with_reducible assumption) | assumption)
    have q6 : x8_1 < (a0.size : Int) := of_decide_eq_true (by first | (with_reducible assumption) | assumption)
    have hx6 := bt_at a0 x8_1
    replace p6 := eq_true p6
    replace q6 := eq_true q6
    go_wp2
    go_ret
    exact ⟨by first | rfl | (simp; done) | (simp [*]; done), by repeat (first | exact Drawn0.refl _ | apply Drawn0.step)⟩
  rw [if_pos c17] at H
  have c17b0 : decide ((bt a0 x8_1) ≤ 57) = true := decide_eq_true c17
  clear c17
  have H' := Aside0.mk H
  clear H
  have p6 : 0 ≤ (x8_1 : Int) := of_decide_eq_true (by first | (with_reducible assumption) | assumption)
  have q6 : x8_1 < (a0.size : Int) := of_decide_eq_true (by first | (with_reducible assumption) | assumption)
  have hx6 := bt_at a0 x8_1
  replace p6 := eq_true p6
  replace q6 := eq_true q6
  go_wp2
  go_roundg k1
  case measure => have := HK1.out; omega
  case rel => exact ⟨(wrap64 (x8_1 + 1)), (by first | rfl | (simp; done) | (simp [*]; done)), H', ⟨by have := HK1.out; omega⟩, by repeat (first | exact Drawn0.refl _ | apply Drawn0.step)⟩
end Go.Proofs.YtgkjoodlcojkkaaDoor.QD
end
section
namespace Go.Proofs.YtgkjoodlcojkkaaDoor.QD
open Go.RowKit Go.Proofs.YtgkjoodlcojkkaaDoorW.PrintWords Go.Proofs.YtgkjoodlcojkkaaDoorW.PrintLast Go.Proofs.YtgkjoodlcojkkaaDoorW.PrintMore
attribute [local go_sem] max2_int min2_int max_two min_two max_three min_three max_four min_four
set_option linter.unusedVariables false
set_option linter.unusedSimpArgs false
end Go.Proofs.YtgkjoodlcojkkaaDoor.QD
end
section
namespace Go.Proofs.YtgkjoodlcojkkaaDoor.QD
open Go.RowKit Go.Proofs.YtgkjoodlcojkkaaDoorW.PrintWords Go.Proofs.YtgkjoodlcojkkaaDoorW.PrintLast Go.Proofs.YtgkjoodlcojkkaaDoorW.PrintMore
attribute [local go_sem] max2_int min2_int max_two min_two max_three min_three max_four min_four
set_option linter.unusedVariables false
set_option linter.unusedSimpArgs false
def words_Text.f (a0 : Int) : Option (ByteArray) := if a0 < 0 then (some (⟨#[]⟩ : ByteArray)) else (if a0 > 9999999 then (some (⟨#[]⟩ : ByteArray)) else ((strconv_Itoa_28.f a0).bind fun t156 => (some t156)))
set_option maxHeartbeats 8000000 in
set_option maxRecDepth 100000 in
theorem words_Text.calls (a0 : Int) (r : ByteArray) (w : World) (hG : Glob w) (h : words_Text.f a0 = some r) :
    Calls Tryd.prog 19 #[.int .i64 a0] w fun e w' => e = .returned (.string r) ∧ Below w.heap.size w w' := by
  have HG := Aside0.mk hG
  clear hG
  have HB := Aside0.mk (Below.refl w.heap.size w)
  have H : (if a0 < 0 then (some (⟨#[]⟩ : ByteArray)) else (if a0 > 9999999 then (some (⟨#[]⟩ : ByteArray)) else ((strconv_Itoa_28.f a0).bind fun t156 => (some t156)))) = some r := h
  clear h
  by_cases c2 : a0 < 0
  · rw [if_pos c2] at H
    have c2b0 : decide (a0 < 0) = true := decide_eq_true c2
    clear c2
    obtain rfl := Option.some.inj H
    go_enter Tryd.func19, Tryd.ntmps19
    go_wp2
    go_ret
    exact ⟨by first | rfl | (simp [errW_none, errW_some] <;> rfl) | (simp [*, errW_none, errW_some] <;> rfl), HB.out⟩
  rw [if_neg c2] at H
  have c2b0 : decide (a0 < 0) = false := decide_eq_false c2
  clear c2
  by_cases c3 : a0 > 9999999
  · rw [if_pos c3] at H
    have c3b0 : decide (9999999 < a0) = true := decide_eq_true c3
    clear c3
    obtain rfl := Option.some.inj H
    go_enter Tryd.func19, Tryd.ntmps19
    go_wp2
    go_ret
    exact ⟨by first | rfl | (simp [errW_none, errW_some] <;> rfl) | (simp [*, errW_none, errW_some] <;> rfl), HB.out⟩
  rw [if_neg c3] at H
  have c3b0 : decide (9999999 < a0) = false := decide_eq_false c3
  clear c3
  replace H := Option.bind_eq_some_iff.mp H
  obtain ⟨t156, A40, H⟩ := H
  replace H : (some t156) = some r := H
  have A4 := Aside0.mk A40
  clear A40
  obtain rfl := Option.some.inj H
  go_enter Tryd.func19, Tryd.ntmps19
  go_wp2_with (first | ((with_reducible refine gate_callee (f := 28) rfl ?_); refine goesL_ (some 10) rfl rfl Tryd.func28 (by kernel_rfl) rfl #[.int .i64 a0] rfl (by (try simp only [List.map_toArray, List.map_cons, List.map_nil]); first | done | rfl | (simp only [List.length_drop, List.length_take]; rfl)) ?_; (with_reducible refine (strconv_Itoa_28.calls a0 t156 _ ?side1 A4.out).mono ?_); (case side1 => first | exact Glob.below HG.out (HB.out) | (repeat (first | exact Glob.below HG.out HB.out | (with_reducible refine Glob.alloc ?_ _) | (with_reducible refine Glob.drewN ?_ _) | (with_reducible refine Glob.drew ?_)))); rintro e w5 ⟨rfl, hb⟩; refine ⟨_, rfl, ?_⟩; have n0_ := Aside0.mk (below_step (HB.out) hb); clear HB; have HB := n0_; clear n0_; (try clear hb); (try clear hb2); (try clear hk); (try clear hi)))
  go_ret
  exact ⟨by first | rfl | (simp [errW_none, errW_some] <;> rfl) | (simp [*, errW_none, errW_some] <;> rfl), HB.out⟩
end Go.Proofs.YtgkjoodlcojkkaaDoor.QD
end
section
namespace Go.Proofs.YtgkjoodlcojkkaaDoor.QD
open Go.RowKit Go.Proofs.YtgkjoodlcojkkaaDoorW.PrintWords Go.Proofs.YtgkjoodlcojkkaaDoorW.PrintLast Go.Proofs.YtgkjoodlcojkkaaDoorW.PrintMore
attribute [local go_sem] max2_int min2_int max_two min_two max_three min_three max_four min_four
set_option linter.unusedVariables false
set_option linter.unusedSimpArgs false
mutual
def sr_Text.j0 : Nat → Int → Bool → Option (ByteArray)
  | 0, _, _ => none
  | k + 1, x0, x8 => if x8 = true then (some (⟨#[]⟩ : ByteArray)) else (if x0 < 10 then (some (strOfNums (([(wrap64 (48 + x0)) % 256] : List Int)))) else ((sr_Text.f k (wrap64 (Int.tdiv x0 10))).bind fun t199 => ((some (([(wrap64 (48 + (Int.tmod x0 10))) % 256] : List Int) : List Int)).bind fun y200 => (if t199.size + (strOfNums y200).size ≤ 9223372036854775807 then (some (t199 ++ (strOfNums y200))) else (none)))))
def sr_Text.f : Nat → Int → Option (ByteArray)
  | 0, _ => none
  | k + 1, a0 => if a0 < 0 then (sr_Text.j0 k a0 true) else (sr_Text.j0 k a0 (decide (a0 > 9999999)))
end
theorem sr_Text.mono_l : ∀ k, (∀ y0, LeO (sr_Text.f k y0) (sr_Text.f (k + 1) y0)) ∧ (∀ y0 y1, LeO (sr_Text.j0 k y0 y1) (sr_Text.j0 (k + 1) y0 y1))
  | 0 => ⟨fun _ r h => by simp [sr_Text.f] at h, fun _ _ r h => by simp [sr_Text.j0] at h⟩
  | k + 1 => by
    obtain ⟨ih0, ih1⟩ := sr_Text.mono_l k
    refine ⟨?_, ?_⟩
    · intro y0
      unfold sr_Text.f
      repeat' first
      | (with_reducible exact ih0 _)
      | (with_reducible exact ih1 _ _)
      | (with_reducible exact LeO.refl _)
      | (with_reducible exact LeO.none _)
      | (with_reducible refine LeO.ite ?_ ?_)
      | (with_reducible refine LeO.bind ?_ (fun _ => ?_))
      | exact ih0 _
      | exact ih1 _ _
      | exact LeO.none _
      | refine LeO.ite ?_ ?_
      | refine LeO.bind ?_ (fun _ => ?_)
    · intro y0 y1
      unfold sr_Text.j0
      repeat' first
      | (with_reducible exact ih0 _)
      | (with_reducible exact ih1 _ _)
      | (with_reducible exact LeO.refl _)
      | (with_reducible exact LeO.none _)
      | (with_reducible refine LeO.ite ?_ ?_)
      | (with_reducible refine LeO.bind ?_ (fun _ => ?_))
      | exact ih0 _
      | exact ih1 _ _
      | exact LeO.none _
      | refine LeO.ite ?_ ?_
      | refine LeO.bind ?_ (fun _ => ?_)
theorem sr_Text.mono : ∀ a0 k, LeO (sr_Text.f k a0) (sr_Text.f (k + 1) a0) := by
  intro a0 k
  obtain ⟨ih0, ih1⟩ := sr_Text.mono_l k
  exact ih0 a0
def sr_Text.T5 : Bool × List (List Nat × List Nat) := (true, [([], []), ([0], [0]), ([1], [1]), ([], []), ([3], [3]), ([4], [4]), ([5], [5]), ([6], [6]), ([7], [7]), ([2, 8], [2, 8]), ([9, 2, 0, 1, 2, 3, 4, 5, 6, 7, 8, 9], [9])])
def sr_Text.B5 : List Nat := [0, 1, 3, 0, 8, 24, 56, 120, 248, 511, 1023]
theorem sr_Text.tab5 : rtab .any (opsOf Tryd.f20 5) = sr_Text.T5 := by kernel_rfl
theorem sr_Text.bits5 : waitsOk sr_Text.T5.2 sr_Text.B5 = true := by kernel_rfl
set_option maxHeartbeats 8000000 in
set_option maxRecDepth 100000 in
theorem sr_Text.calls (k : Nat) : ∀ (a0 : Int) (r : ByteArray) (w : World) (h : sr_Text.f k a0 = some r),
    Calls Tryd.prog 20 #[.int .i64 a0] w fun e w' => e = .returned (.string r) ∧ Below w.heap.size w w' := by
  induction k using Nat.strongRecOn with
  | _ k ih =>
  intro a0 r w h
  cases k with
  | zero => exact absurd h (by simp [sr_Text.f])
  | succ k =>
  simp only [sr_Text.f] at h
  have HB := Aside0.mk (Below.refl w.heap.size w)
  have H : (if a0 < 0 then (sr_Text.j0 k a0 true) else (sr_Text.j0 k a0 (decide (a0 > 9999999)))) = some r := h
  clear h
  have HC2 := Aside0.mk H
  clear H
  go_enter Tryd.func20, Tryd.ntmps20
  go_upto_region 1 with (fail)
  go_cut [8] (fun v8 wc => ∃ (kq : Nat) (x8_1 : Bool), v8 = .bool x8_1 ∧ Aside0 (sr_Text.j0 kq a0 x8_1 = some r) ∧ Aside0 (kq ≤ k) ∧ Aside0 (Below w.heap.size w wc))
  case first =>
    have H := HC2.out
    clear HC2
    by_cases c3 : a0 < 0
    rotate_left
    · rw [if_neg c3] at H
      have c3b0 : decide (a0 < 0) = false := decide_eq_false c3
      clear c3
      (first | rw [c3b0] | (simp only [i64_w, i32_w]; rw [c3b0]) | skip)
      have H' := Aside0.mk H
      clear H
      go_wp2
      go_meet
      case rel => exact ⟨_, (decide (a0 > 9999999)), (by first | rfl | (simp; done) | (simp [*]; done)), H', ⟨by first | omega | exact Nat.le_refl _⟩, ⟨HB.out⟩⟩
    rw [if_pos c3] at H
    have c3b0 : decide (a0 < 0) = true := decide_eq_true c3
    clear c3
    (first | rw [c3b0] | (simp only [i64_w, i32_w]; rw [c3b0]) | skip)
    have H' := Aside0.mk H
    clear H
    go_wp2
    go_meet
    case rel => exact ⟨_, (true), (by first | rfl | (simp; done) | (simp [*]; done)), H', ⟨by first | omega | exact Nat.le_refl _⟩, ⟨HB.out⟩⟩
  clear HC2
  (try clear c2); (try clear p2); (try clear c3); (try clear c3b0)
  obtain ⟨kq, x8_1, rfl, HA, HJ1, HB⟩ := hcut
  cases kq with
  | zero => exact absurd HA.out (by simp [sr_Text.j0])
  | succ kj1 => ?_
  have H := HA.out
  clear HA
  simp only [sr_Text.j0] at H
  by_cases c4 : x8_1 = true
  · subst c4
    have H1 : (some (⟨#[]⟩ : ByteArray)) = some r := by rw [if_pos rfl] at H; exact H
    clear H
    have H := H1
    clear H1
    obtain rfl := Option.some.inj H
    go_wp2
    go_ret
    exact ⟨by first | rfl | (simp [errW_none, errW_some] <;> rfl) | (simp [*, errW_none, errW_some] <;> rfl), HB.out⟩
  replace c4 := Bool.eq_false_iff.mpr c4
  subst c4
  have H1 : (if a0 < 10 then (some (strOfNums (([(wrap64 (48 + a0)) % 256] : List Int)))) else ((sr_Text.f kj1 (wrap64 (Int.tdiv a0 10))).bind fun t199 => ((some (([(wrap64 (48 + (Int.tmod a0 10))) % 256] : List Int) : List Int)).bind fun y200 => (if t199.size + (strOfNums y200).size ≤ 9223372036854775807 then (some (t199 ++ (strOfNums y200))) else (none))))) = some r := by rw [if_neg (show ¬ (false = true) by decide)] at H; exact H
  clear H
  have H := H1
  clear H1
  by_cases c5 : a0 < 10
  · rw [if_pos c5] at H
    have c5b0 : decide (a0 < 10) = true := decide_eq_true c5
    clear c5
    obtain ⟨y196, hy196⟩ : ∃ y_ : List Int, y_ = (([(wrap64 (48 + a0)) % 256] : List Int)) := ⟨_, rfl⟩
    replace H : (some (strOfNums y196)) = some r := by first | (rw [hy196]; with_reducible exact H) | (have H2_ := (Option.bind_some _ _).symm.trans H; rw [hy196]; with_reducible exact H2_) | (have H2_ := (Option.bind_some _ _).symm.trans H; with_reducible exact H2_) | with_reducible exact H | (rw [hy196]; exact H) | exact H
    have Ny196 := Aside0.mk hy196
    clear hy196
    obtain rfl := Option.some.inj H
    go_wp2_with (first | ((with_reducible refine gate_dst (N := 14) rfl ?_); refine Kd.R_lit (Kd.int .u8) _ 5 ?hg (N := 14) ?hd (xs := ([(wrap64 (48 + a0)) % 256] : List Int)) (inner := [.int .u8 ((wrap64 (48 + a0)) % 256)]) (ok := fun _ => True) (okp := fun _ => True) ?hr ?hp (fun _ hk => hk) trivial (Below.refl _ _) (Nat.le_refl _) (by simp) ?_; (case hd => rfl); (case hg => rfl); (case hr => first | (go_simp; done) | (go_simp; rfl)); (case hp => exact (Reps.one (show Kd.M (Kd.int .u8) _ _ _ ((wrap64 (48 + a0)) % 256) [.int .u8 ((wrap64 (48 + a0)) % 256)] from rfl) (Reps.none _ _))); intro v197 w6 ho7 hb hg_ hnew_; clear hg_ hnew_; (first | rw [← Ny196.out] at ho7 | (simp only [Int.reduceToNat] at ho7; rw [← Ny196.out] at ho7)); have n0_ := Aside0.mk (Kd.R_lower ho7 (below_size (HB.out))); have n1_ := Aside0.mk (below_step (HB.out) hb); clear HB; have HO198 := n0_; have HB := n1_; clear n0_ n1_; clear hb ho7; have hcv8 := own_string (P := Tryd.prog) Tryd.underlying55 Tryd.underlying5 Tryd.underlying9 (Kd.own_of_R HO198.out)))
    go_ret
    exact ⟨by first | rfl | (simp [errW_none, errW_some] <;> rfl) | (simp [*, errW_none, errW_some] <;> rfl), HB.out⟩
  rw [if_neg c5] at H
  have c5b0 : decide (a0 < 10) = false := decide_eq_false c5
  clear c5
  replace H := Option.bind_eq_some_iff.mp H
  obtain ⟨t199, A90, H⟩ := H
  replace H : ((some (([(wrap64 (48 + (Int.tmod a0 10))) % 256] : List Int) : List Int)).bind fun y200 => (if t199.size + (strOfNums y200).size ≤ 9223372036854775807 then (some (t199 ++ (strOfNums y200))) else (none))) = some r := H
  have A9 := Aside0.mk A90
  clear A90
  obtain ⟨y200, hy200⟩ : ∃ y_ : List Int, y_ = (([(wrap64 (48 + (Int.tmod a0 10))) % 256] : List Int)) := ⟨_, rfl⟩
  replace H : (if t199.size + (strOfNums y200).size ≤ 9223372036854775807 then (some (t199 ++ (strOfNums y200))) else (none)) = some r := by first | (rw [hy200]; with_reducible exact H) | (have H2_ := (Option.bind_some _ _).symm.trans H; rw [hy200]; with_reducible exact H2_) | (have H2_ := (Option.bind_some _ _).symm.trans H; with_reducible exact H2_) | with_reducible exact H | (rw [hy200]; exact H) | exact H
  have Ny200 := Aside0.mk hy200
  clear hy200
  by_cases c10 : t199.size + (strOfNums y200).size ≤ 9223372036854775807
  rotate_left
  · rw [if_neg c10] at H
    exact absurd H (by simp)
  rw [if_pos c10] at H
  have c10b0 := eq_true c10
  have c10b1 : decide (t199.size + (strOfNums y200).size ≤ 9223372036854775807) = true := decide_eq_true c10
  try have c10b2 : (9223372036854775807 < t199.size + (strOfNums y200).size) = False := eq_false (Nat.not_lt.2 c10)
  obtain rfl := Option.some.inj H
  try go_wp2
  have n0_ := Aside0.mk (below_drew1 HB.out)
  clear HB
  have HB := n0_
  clear n0_
  refine start_ (n := 11) (S := fun w' => True) (ds := []) (bs 11 0) (by kernel_rfl) rfl rfl trivial (fun hHeld => ?_); refine with_tabW sr_Text.tab5 sr_Text.bits5 (fun HT_ HW_ => ?_)
  generalize wc.drew = w11 at HB hHeld ⊢
  refine pure_ (i := 0) (N := some 16) (v := ?_) (a' := ?_) (bs 11 1) rfl rfl (any_of HT_.out (by kernel_rfl)) (fun _ _ _ h => h) (Or.inl ⟨by rfl, ?_⟩) ?_ ?_
  rotate_left
  · intro w'
    go_simp
    with_reducible rfl
  rotate_left
  · simp only [Act.put, List.setIfInBounds_toArray, List.set_cons_zero, List.set_cons_succ, i64_w, i32_w]
    rfl
  refine pure_ (i := 1) (N := some 17) (v := ?_) (a' := ?_) (bs 11 3) rfl rfl (any_of HT_.out (by kernel_rfl)) (fun _ _ _ h => h) (Or.inl ⟨by rfl, ?_⟩) ?_ ?_
  rotate_left
  · intro w'
    go_simp
    with_reducible rfl
  rotate_left
  · simp only [Act.put, List.setIfInBounds_toArray, List.set_cons_zero, List.set_cons_succ, i64_w, i32_w]
    rfl
  refine pure_ (i := 3) (N := some 19) (v := ?_) (a' := ?_) (bs 11 11) rfl rfl (any_of HT_.out (by kernel_rfl)) (fun _ _ _ h => h) (Or.inl ⟨by rfl, ?_⟩) ?_ ?_
  rotate_left
  · intro w'
    go_simp
    with_reducible rfl
  rotate_left
  · simp only [Act.put, List.setIfInBounds_toArray, List.set_cons_zero, List.set_cons_succ, i64_w, i32_w]
    rfl
  refine pure_ (i := 4) (N := some 20) (v := ?_) (a' := ?_) (bs 11 27) rfl rfl (any_of HT_.out (by kernel_rfl)) (fun _ _ _ h => h) (Or.inl ⟨by rfl, ?_⟩) ?_ ?_
  rotate_left
  · intro w'
    go_simp
    with_reducible rfl
  rotate_left
  · simp only [Act.put, List.setIfInBounds_toArray, List.set_cons_zero, List.set_cons_succ, i64_w, i32_w]
    rfl
  refine pure_ (i := 5) (N := some 21) (v := ?_) (a' := ?_) (bs 11 59) rfl rfl (any_of HT_.out (by kernel_rfl)) (fun _ _ _ h => h) (Or.inl ⟨by rfl, ?_⟩) ?_ ?_
  rotate_left
  · intro w'
    go_simp
    with_reducible rfl
  rotate_left
  · simp only [Act.put, List.setIfInBounds_toArray, List.set_cons_zero, List.set_cons_succ, i64_w, i32_w]
    rfl
  refine pure_ (i := 6) (N := some 22) (v := ?_) (a' := ?_) (bs 11 123) rfl rfl (any_of HT_.out (by kernel_rfl)) (fun _ _ _ h => h) (Or.inl ⟨by rfl, ?_⟩) ?_ ?_
  rotate_left
  · intro w'
    go_simp
    with_reducible rfl
  rotate_left
  · simp only [Act.put, List.setIfInBounds_toArray, List.set_cons_zero, List.set_cons_succ, i64_w, i32_w]
    rfl
  refine join_ (σ := Value) 2 (bs 11 511) (fun s_ => [(18, .string t199), (23, s_), (24, .string (strOfNums y200))]) (fun s_ w' => (Kd.R (Kd.int .u8) 5 w' w.heap.size (fun _ => True) s_ y200) ∧ (Below w.heap.size w w')) ?_ ?_
  rotate_left
  · intro hCont
    refine two_ (i := 2) (j := 7) (Ni := some 18) (Nj := some 23) (bs 11 127) (bs 11 251) rfl rfl rfl rfl (two_of HT_.out (by kernel_rfl)) (by decide) (by decide) (fun K hK => ?_) (fun K hK => ?_)
    · skip
      refine goes_ Tryd.func20 (by kernel_rfl) rfl #[.int .i64 (wrap64 (Int.tdiv a0 10))] (by rfl) rfl rfl (by (try simp only [List.map_toArray, List.map_cons, List.map_nil]); first | done | rfl | (simp only [List.length_drop, List.length_take]; rfl)) ?_
      with_reducible refine (ih kj1 (by have := HJ1.out; omega) (wrap64 (Int.tdiv a0 10)) t199 _ A9.out).mono ?_
      rintro e w12 ⟨rfl, hb⟩
      refine ⟨_, rfl, ?_⟩
      have n0_ := Aside0.mk (below_step (HB.out) hb)
      clear HB
      have HB := n0_
      clear n0_
      (try clear hb)
      (try clear hb2)
      (try clear hk)
      (try clear hi)
      refine hK.out _ _ trivial (fun hHeld => ?_)
      clear hK K
      refine norm_ (a' := ?_) ?_ ?_
      rotate_left
      · show Act.put _ (some 18) _ = _
        simp only [Act.put, List.setIfInBounds_toArray, List.set_cons_zero, List.set_cons_succ, i64_w, i32_w]
        rfl
      refine one_ (i := 7) (N := some 23) (bs 11 255) rfl rfl (one_of HT_.out (by kernel_rfl)) (by decide) (fun K hK => ?_)
      refine Kd.R_lit_step (Kd.int .u8) _ 5 ?hg (N := 23) ?hd (xs := ([(wrap64 (48 + (Int.tmod a0 10))) % 256] : List Int)) (inner := [.int .u8 ((wrap64 (48 + (Int.tmod a0 10))) % 256)]) (ok := fun _ => True) (okp := fun _ => True) ?hr ?hp (fun _ hk => hk) trivial (Below.refl _ _) (Nat.le_refl _) (by simp) ?_; (case hd => rfl); (case hg => rfl); (case hr => first | (go_simp; done) | (go_simp; rfl)); (case hp => exact (Reps.one (show Kd.M (Kd.int .u8) _ _ _ ((wrap64 (48 + (Int.tmod a0 10))) % 256) [.int .u8 ((wrap64 (48 + (Int.tmod a0 10))) % 256)] from rfl) (Reps.none _ _)))
      intro v201 w13 ho14 hb hg_ hnew_
      clear hg_ hnew_
      (first | rw [← Ny200.out] at ho14 | (simp only [Int.reduceToNat] at ho14; rw [← Ny200.out] at ho14))
      have n0_ := Aside0.mk (Kd.R_lower ho14 (below_size (HB.out)))
      have n1_ := Aside0.mk (below_step (HB.out) hb)
      clear HB
      have HO202 := n0_
      have HB := n1_
      clear n0_ n1_
      clear hb ho14
      refine hK.out _ _ trivial (fun hHeld => ?_)
      clear hK K
      refine norm_ (a' := ?_) ?_ ?_
      rotate_left
      · show Act.put _ (some 23) _ = _
        simp only [Act.put, List.setIfInBounds_toArray, List.set_cons_zero, List.set_cons_succ, i64_w, i32_w]
        rfl
      refine one_ (i := 8) (N := some 24) (bs 11 511) rfl rfl (one_of HT_.out (by kernel_rfl)) (by decide) (fun K hK => ?_)
      have hcv15 := own_string (P := Tryd.prog) Tryd.underlying55 Tryd.underlying5 Tryd.underlying9 (Kd.own_of_R HO202.out)
      refine value_ (w1 := ?_) (v := ?_) (by rfl) rfl ?_ ?_
      rotate_left 2
      · go_simp
        constructor
        · rfl
        · rfl
      clear hcv15
      refine hK.out _ _ trivial (fun hHeld => ?_)
      clear hK K
      refine norm_ (a' := ?_) ?_ ?_
      rotate_left
      · show Act.put _ (some 24) _ = _
        simp only [Act.put, List.setIfInBounds_toArray, List.set_cons_zero, List.set_cons_succ, i64_w, i32_w]
        rfl
      exact norm_ (by simp only [putAll, Act.put, List.setIfInBounds_toArray, List.set_cons_zero, List.set_cons_succ]) (hCont (v201) _ ⟨(by (with_reducible repeat (first | apply Kd.R_alloc | apply Kd.R_drewN | apply Kd.R_drew)); exact HO202.out), (HB.out)⟩)
    · skip
      refine Kd.R_lit_step (Kd.int .u8) _ 5 ?hg (N := 23) ?hd (xs := ([(wrap64 (48 + (Int.tmod a0 10))) % 256] : List Int)) (inner := [.int .u8 ((wrap64 (48 + (Int.tmod a0 10))) % 256)]) (ok := fun _ => True) (okp := fun _ => True) ?hr ?hp (fun _ hk => hk) trivial (Below.refl _ _) (Nat.le_refl _) (by simp) ?_; (case hd => rfl); (case hg => rfl); (case hr => first | (go_simp; done) | (go_simp; rfl)); (case hp => exact (Reps.one (show Kd.M (Kd.int .u8) _ _ _ ((wrap64 (48 + (Int.tmod a0 10))) % 256) [.int .u8 ((wrap64 (48 + (Int.tmod a0 10))) % 256)] from rfl) (Reps.none _ _)))
      intro v201 w12 ho13 hb hg_ hnew_
      clear hg_ hnew_
      (first | rw [← Ny200.out] at ho13 | (simp only [Int.reduceToNat] at ho13; rw [← Ny200.out] at ho13))
      have n0_ := Aside0.mk (Kd.R_lower ho13 (below_size (HB.out)))
      have n1_ := Aside0.mk (below_step (HB.out) hb)
      clear HB
      have HO202 := n0_
      have HB := n1_
      clear n0_ n1_
      clear hb ho13
      refine hK.out _ _ trivial (fun hHeld => ?_)
      clear hK K
      refine norm_ (a' := ?_) ?_ ?_
      rotate_left
      · show Act.put _ (some 23) _ = _
        simp only [Act.put, List.setIfInBounds_toArray, List.set_cons_zero, List.set_cons_succ, i64_w, i32_w]
        rfl
      refine two_ (i := 2) (j := 8) (Ni := some 18) (Nj := some 24) (bs 11 255) (bs 11 507) rfl rfl rfl rfl (two_of HT_.out (by kernel_rfl)) (by decide) (by decide) (fun K hK => ?_) (fun K hK => ?_)
      · skip
        refine goes_ Tryd.func20 (by kernel_rfl) rfl #[.int .i64 (wrap64 (Int.tdiv a0 10))] (by rfl) rfl rfl (by (try simp only [List.map_toArray, List.map_cons, List.map_nil]); first | done | rfl | (simp only [List.length_drop, List.length_take]; rfl)) ?_
        with_reducible refine (ih kj1 (by have := HJ1.out; omega) (wrap64 (Int.tdiv a0 10)) t199 _ A9.out).mono ?_
        rintro e w14 ⟨rfl, hb⟩
        refine ⟨_, rfl, ?_⟩
        have n0_ := Aside0.mk (Kd.R_below (by (with_reducible repeat (first | apply Kd.R_alloc | apply Kd.R_drewN | apply Kd.R_drew)); exact HO202.out) hb)
        have n1_ := Aside0.mk (below_step (HB.out) hb)
        clear HO202
        clear HB
        have HO202 := n0_
        have HB := n1_
        clear n0_ n1_
        (try clear hb)
        (try clear hb2)
        (try clear hk)
        (try clear hi)
        refine hK.out _ _ trivial (fun hHeld => ?_)
        clear hK K
        refine norm_ (a' := ?_) ?_ ?_
        rotate_left
        · show Act.put _ (some 18) _ = _
          simp only [Act.put, List.setIfInBounds_toArray, List.set_cons_zero, List.set_cons_succ, i64_w, i32_w]
          rfl
        refine one_ (i := 8) (N := some 24) (bs 11 511) rfl rfl (one_of HT_.out (by kernel_rfl)) (by decide) (fun K hK => ?_)
        have hcv15 := own_string (P := Tryd.prog) Tryd.underlying55 Tryd.underlying5 Tryd.underlying9 (Kd.own_of_R HO202.out)
        refine value_ (w1 := ?_) (v := ?_) (by rfl) rfl ?_ ?_
        rotate_left 2
        · go_simp
          constructor
          · rfl
          · rfl
        clear hcv15
        refine hK.out _ _ trivial (fun hHeld => ?_)
        clear hK K
        refine norm_ (a' := ?_) ?_ ?_
        rotate_left
        · show Act.put _ (some 24) _ = _
          simp only [Act.put, List.setIfInBounds_toArray, List.set_cons_zero, List.set_cons_succ, i64_w, i32_w]
          rfl
        exact norm_ (by simp only [putAll, Act.put, List.setIfInBounds_toArray, List.set_cons_zero, List.set_cons_succ]) (hCont (v201) _ ⟨(by (with_reducible repeat (first | apply Kd.R_alloc | apply Kd.R_drewN | apply Kd.R_drew)); exact HO202.out), (HB.out)⟩)
      · skip
        have hcv14 := own_string (P := Tryd.prog) Tryd.underlying55 Tryd.underlying5 Tryd.underlying9 (Kd.own_of_R HO202.out)
        refine value_ (w1 := ?_) (v := ?_) (by rfl) rfl ?_ ?_
        rotate_left 2
        · go_simp
          constructor
          · rfl
          · rfl
        clear hcv14
        refine hK.out _ _ trivial (fun hHeld => ?_)
        clear hK K
        refine norm_ (a' := ?_) ?_ ?_
        rotate_left
        · show Act.put _ (some 24) _ = _
          simp only [Act.put, List.setIfInBounds_toArray, List.set_cons_zero, List.set_cons_succ, i64_w, i32_w]
          rfl
        refine one_ (i := 2) (N := some 18) (bs 11 511) rfl rfl (one_of HT_.out (by kernel_rfl)) (by decide) (fun K hK => ?_)
        refine goes_ Tryd.func20 (by kernel_rfl) rfl #[.int .i64 (wrap64 (Int.tdiv a0 10))] (by rfl) rfl rfl (by (try simp only [List.map_toArray, List.map_cons, List.map_nil]); first | done | rfl | (simp only [List.length_drop, List.length_take]; rfl)) ?_
        with_reducible refine (ih kj1 (by have := HJ1.out; omega) (wrap64 (Int.tdiv a0 10)) t199 _ A9.out).mono ?_
        rintro e w15 ⟨rfl, hb⟩
        refine ⟨_, rfl, ?_⟩
        have n0_ := Aside0.mk (Kd.R_below (by (with_reducible repeat (first | apply Kd.R_alloc | apply Kd.R_drewN | apply Kd.R_drew)); exact HO202.out) hb)
        have n1_ := Aside0.mk (below_step (HB.out) hb)
        clear HO202
        clear HB
        have HO202 := n0_
        have HB := n1_
        clear n0_ n1_
        (try clear hb)
        (try clear hb2)
        (try clear hk)
        (try clear hi)
        refine hK.out _ _ trivial (fun hHeld => ?_)
        clear hK K
        refine norm_ (a' := ?_) ?_ ?_
        rotate_left
        · show Act.put _ (some 18) _ = _
          simp only [Act.put, List.setIfInBounds_toArray, List.set_cons_zero, List.set_cons_succ, i64_w, i32_w]
          rfl
        exact norm_ (by simp only [putAll, Act.put, List.setIfInBounds_toArray, List.set_cons_zero, List.set_cons_succ]) (hCont (v201) _ ⟨(by (with_reducible repeat (first | apply Kd.R_alloc | apply Kd.R_drewN | apply Kd.R_drew)); exact HO202.out), (HB.out)⟩)
  rintro v201 w16 ⟨h0_, h1_⟩
  have n0_ : Aside0 (Kd.R (Kd.int .u8) 5 w16 w.heap.size (fun _ => True) v201 y200) := ⟨h0_⟩
  have n1_ : Aside0 (Below w.heap.size w w16) := ⟨h1_⟩
  clear HB
  clear h0_ h1_
  have HO202 := n0_
  have HB := n1_
  clear n0_ n1_
  have hHeld := trivial
  refine norm_ (a' := ?_) ?_ ?_
  rotate_left
  · simp only [putAll, Act.put, List.setIfInBounds_toArray, List.set_cons_zero, List.set_cons_succ]
    rfl
  refine pure_ (i := 9) (N := some 25) (v := ?_) (a' := ?_) (bs 11 1023) rfl rfl (any_of HT_.out (by kernel_rfl)) (fun _ _ _ h => h) (Or.inl ⟨by rfl, ?_⟩) ?_ ?_
  rotate_left
  · intro w'
    go_simp
    with_reducible rfl
  rotate_left
  · simp only [Act.put, List.setIfInBounds_toArray, List.set_cons_zero, List.set_cons_succ, i64_w, i32_w]
    rfl
  refine pure_ (i := 10) (N := some 2) (v := ?_) (a' := ?_) (bs 11 2047) rfl rfl (any_of HT_.out (by kernel_rfl)) (fun _ _ _ h => h) (Or.inl ⟨by rfl, ?_⟩) ?_ ?_
  rotate_left
  · intro w'
    go_simp
    with_reducible rfl
  rotate_left
  · simp only [Act.put, List.setIfInBounds_toArray, List.set_cons_zero, List.set_cons_succ, i64_w, i32_w]
    rfl
  refine done_ (done_of HT_.out (by kernel_rfl)) ?_
  try go_wp2
  go_ret
  exact ⟨by first | rfl | (simp [errW_none, errW_some] <;> rfl) | (simp [*, errW_none, errW_some] <;> rfl), HB.out⟩
end Go.Proofs.YtgkjoodlcojkkaaDoor.QD
end
section
namespace Go.Proofs.YtgkjoodlcojkkaaDoor.QD
open Go.RowKit Go.Proofs.YtgkjoodlcojkkaaDoorW.PrintWords Go.Proofs.YtgkjoodlcojkkaaDoorW.PrintLast Go.Proofs.YtgkjoodlcojkkaaDoorW.PrintMore
attribute [local go_sem] max2_int min2_int max_two min_two max_three min_three max_four min_four
set_option linter.unusedVariables false
set_option linter.unusedSimpArgs false
end Go.Proofs.YtgkjoodlcojkkaaDoor.QD
end
section
namespace Go.Proofs.YtgkjoodlcojkkaaDoor.QD
open Go.RowKit Go.Proofs.YtgkjoodlcojkkaaDoorW.PrintWords Go.Proofs.YtgkjoodlcojkkaaDoorW.PrintLast Go.Proofs.YtgkjoodlcojkkaaDoorW.PrintMore
attribute [local go_sem] max2_int min2_int max_two min_two max_three min_three max_four min_four
set_option linter.unusedVariables false
set_option linter.unusedSimpArgs false
end Go.Proofs.YtgkjoodlcojkkaaDoor.QD
end
section
namespace Go.Proofs.YtgkjoodlcojkkaaDoor.QD
open Go.RowKit Go.Proofs.YtgkjoodlcojkkaaDoorW.PrintWords Go.Proofs.YtgkjoodlcojkkaaDoorW.PrintLast Go.Proofs.YtgkjoodlcojkkaaDoorW.PrintMore
attribute [local go_sem] max2_int min2_int max_two min_two max_three min_three max_four min_four
set_option linter.unusedVariables false
set_option linter.unusedSimpArgs false
end Go.Proofs.YtgkjoodlcojkkaaDoor.QD
end
section
namespace Go.Proofs.YtgkjoodlcojkkaaDoor.Y
open Go.RowKit Go.Proofs.YtgkjoodlcojkkaaDoorW.PrintWords Go.Proofs.YtgkjoodlcojkkaaDoorW.PrintLast Go.Proofs.YtgkjoodlcojkkaaDoorW.PrintMore Go.Proofs.YtgkjoodlcojkkaaDoor.QD
set_option linter.unusedVariables false
set_option linter.unusedSimpArgs false
def ne (p : Bs) : Bool := !p.isEmpty
def upto (l : Bs) : Bs := l.takeWhile (· != 35)
def wordsL (l : Bs) : List Bs := (splitL 32 (upto l)).filter ne
theorem upto_len (l : Bs) : (upto l).length ≤ l.length := List.takeWhile_sublist _ |>.length_le
theorem takeWhile_hit {l : Bs} {o : Nat} {post : Bs} (c : UInt8) (h : l = l.take o ++ c :: post) (hn : c ∉ l.take o) : l.takeWhile (· != c) = l.take o := by
  conv => lhs; rw [h]
  rw [List.takeWhile_append_of_pos (by intro x hx; simp; intro e; exact hn (e ▸ hx))]
  simp
theorem takeWhile_none {l : Bs} (c : UInt8) (hn : c ∉ l) : l.takeWhile (· != c) = l := by
  have := List.takeWhile_append_of_pos (p := (· != c)) (l₁ := l) (l₂ := []) (by intro x hx; simp; intro e; exact hn (e ▸ hx))
  simpa using this
theorem Cut_eq (l : Bs) (h : l.length < 4294967281) : ∃ x y, strings_Cut.f (B l) (B [35]) = some (B (upto l), x, y) := by
  unfold strings_Cut.f
  rw [if_pos (by rw [size_B]; exact h), data_B, data_B]
  refine ⟨⟨(Lib.cut l [35]).2.1.toArray⟩, (Lib.cut l [35]).2.2, ?_⟩
  rw [show (⟨(Lib.cut l [35]).1.toArray⟩ : ByteArray) = B (upto l) from ?_]
  show B _ = B _
  congr 1
  unfold Lib.cut
  rw [Lib.index_one]
  by_cases c : 0 ≤ Lib.indexByte l 35
  · rw [if_pos c]
    obtain ⟨o, ho⟩ := Int.eq_ofNat_of_zero_le c
    obtain ⟨post, h1, h2, _⟩ := indexByte_split ho
    rw [ho]
    exact (takeWhile_hit 35 h1 h2).symm
  · rw [if_neg c]
    refine (takeWhile_none (l := l) 35 ?_).symm
    intro hm
    obtain ⟨k, hk⟩ := List.getElem?_of_mem hm
    exact Lib.indexByte_none (by have := Lib.indexByte_ge l 35; omega) k hk
theorem words_loop (ps : List Bs) (hl : ps.length < 8796093022208) : ∀ (n : Nat) (out : List Bs) (i k : Nat), i + n = ps.length → n < k → out.length ≤ i →
    words_Words.l0 k (out.map B) (ps.map B) (ps.length : Int) (i : Int) = some ((out ++ (ps.drop i).filter ne).map B)
  | n, out, i, 0, hn, hk, ho => by omega
  | 0, out, i, k + 1, hn, hk, ho => by
    unfold words_Words.l0
    rw [if_neg (by omega), List.drop_eq_nil_of_le (by omega)]
    simp
  | n + 1, out, i, k + 1, hn, hk, ho => by
    unfold words_Words.l0
    have hi : i < ps.length := by omega
    rw [if_pos (by omega), if_pos (by omega), List.length_map, if_pos (by omega), rdOf_B, toList_B, w64s i (by omega), List.drop_eq_getElem_cons hi]
    have e0 : ps.getD i [] = ps[i] := by simp [hi]
    rw [e0]
    by_cases h : ps[i] = []
    · rw [if_pos h, words_loop ps hl n out (i + 1) k (by omega) (by omega) (by omega)]
      rw [List.filter_cons_of_neg (by simp [ne, h])]
    · rw [if_neg h, List.length_map, if_pos (by omega)]
      have := words_loop ps hl n (out ++ [ps[i]]) (i + 1) k (by omega) (by omega) (by simp; omega)
      rw [List.map_append] at this
      rw [show List.map B [ps[i]] = [B ps[i]] from rfl] at this
      rw [this, List.filter_cons_of_pos (by simp [ne, h]), List.append_assoc]
      rfl
theorem words_Words_eq (l : Bs) (h : l.length < 4294967281) (k : Nat) (hk : l.length + 1 < k) : words_Words.f k (B l) = some ((wordsL l).map B) := by
  unfold words_Words.f
  obtain ⟨x, y, hc⟩ := Cut_eq l h
  have hu := upto_len l
  rw [show (⟨#[35]⟩ : ByteArray) = B [35] from rfl, hc, Option.bind_some, show (⟨#[32]⟩ : ByteArray) = B [32] from rfl, Split_eq 32 _ (by omega), Option.bind_some, List.length_map]
  have hle := splitL_len 32 (upto l)
  have := words_loop (splitL 32 (upto l)) (by omega) (splitL 32 (upto l)).length [] 0 k (by omega) (by omega) (Nat.zero_le _)
  simpa [wordsL] using this
end Go.Proofs.YtgkjoodlcojkkaaDoor.Y
end
section
namespace Go.Proofs.YtgkjoodlcojkkaaDoor.Y
open Go.RowKit Go.Proofs.YtgkjoodlcojkkaaDoorW.PrintWords Go.Proofs.YtgkjoodlcojkkaaDoorW.PrintLast Go.Proofs.YtgkjoodlcojkkaaDoorW.PrintMore Go.Proofs.YtgkjoodlcojkkaaDoor.QD
set_option linter.unusedVariables false
set_option linter.unusedSimpArgs false
def letter (x : UInt8) : Bool := decide (97 ≤ x.toNat) && decide (x.toNat ≤ 122)
def digit (x : UInt8) : Bool := decide (48 ≤ x.toNat) && decide (x.toNat ≤ 57)
def nameGo : Bool → Bs → Bool
  | _, [] => true
  | first, x :: xs => (letter x || (!first && digit x)) && nameGo false xs
theorem nameGo_cons (b : Bool) (x : UInt8) (xs : Bs) : nameGo b (x :: xs) = ((letter x || (!b && digit x)) && nameGo false xs) := rfl
def nameS (l : Bs) : Bool := nameGo true l && (!l.isEmpty && decide (l.length ≤ 8))
theorem name_loop (l : Bs) (hl : l.length < 9223372036854775807) : ∀ (n i k : Nat), i + n = l.length → n < k → words_Name.l0 k (B l) (l.length : Int) (i : Int) = some (nameGo (i == 0) (l.drop i) && (!l.isEmpty && decide (l.length ≤ 8)))
  | n, i, 0, hn, hk => by omega
  | 0, i, k + 1, hn, hk => by
    unfold words_Name.l0
    rw [if_neg (by omega), toList_B, size_B, List.drop_eq_nil_of_le (by omega)]
    by_cases h : l = []
    · rw [if_pos h]; simp [h]
    · have he : l.isEmpty = false := by simp [h]
      rw [if_neg h, he]
      simp only [nameGo, Bool.true_and, Bool.not_false]
      rw [decide_eq_decide.2 (show ((l.length : Nat) : Int) ≤ 8 ↔ l.length ≤ 8 by omega)]
  | n + 1, i, k + 1, hn, hk => by
    unfold words_Name.l0
    have hi : i < l.length := by omega
    have e0 : l.getD i 0 = l[i] := by simp [hi]
    have ih := name_loop l hl n (i + 1) k (by omega) (by omega)
    rw [if_pos (by omega), if_pos (by omega), size_B, if_pos (by omega), bt_B, e0, w64s i (by omega), ih, List.drop_eq_getElem_cons hi]
    have hz : ((i + 1 == 0) : Bool) = false := by simp
    rw [hz, nameGo_cons]
    generalize nameGo false (List.drop (i + 1) l) = R
    generalize (!l.isEmpty && decide (l.length ≤ 8)) = R2
    unfold letter digit
    generalize l[i].toNat = v
    have hii : ((i : Int) = 0) = (i = 0) := propext ⟨fun h => by omega, fun h => by omega⟩
    have hbe : (i == 0) = decide (i = 0) := by by_cases h : i = 0 <;> simp [h]
    simp only [hii, hbe]
    have k1 : ((v : Int) ≥ 48) = (48 ≤ v) := propext ⟨fun h => by omega, fun h => by omega⟩
    have k2 : ((v : Int) < 97) = ¬ (97 ≤ v) := propext ⟨fun h => by omega, fun h => by omega⟩
    have k3 : ((v : Int) > 122) = ¬ (v ≤ 122) := propext ⟨fun h => by omega, fun h => by omega⟩
    have k4 : ((v : Int) ≤ 57) = (v ≤ 57) := propext ⟨fun h => by omega, fun h => by omega⟩
    simp only [k1, k2, k3, k4]
    by_cases a1 : 48 ≤ v <;> by_cases a2 : 97 ≤ v <;> by_cases a3 : v ≤ 122 <;> by_cases a4 : v ≤ 57 <;> by_cases a5 : i = 0 <;> simp [a1, a2, a3, a4, a5] <;> (try omega)
theorem words_Name_eq (l : Bs) (hl : l.length < 9223372036854775807) (k : Nat) (hk : l.length < k) : words_Name.f k (B l) = some (nameS l) := by
  unfold words_Name.f
  rw [size_B]
  have := name_loop l hl l.length 0 k (by omega) hk
  simpa [nameS] using this
def val (n : Nat) (l : Bs) : Nat := l.foldl (fun n x => 10 * n + (x.toNat - 48)) n
def good (l : Bs) : Bool := (!l.isEmpty && l.all digit) && (decide (l.length ≤ 1) || l.headD 0 != 48)
def numS (l : Bs) : Int × Bool := if good l && decide (l.length ≤ 7) then (((val 0 l : Nat) : Int), true) else (0, false)
theorem digit_iff (x : UInt8) : digit x = true ↔ 48 ≤ x.toNat ∧ x.toNat ≤ 57 := by unfold digit; simp
theorem val_lt : ∀ (l : Bs) (n b : Nat), l.all digit = true → n < 10 ^ b → val n l < 10 ^ (b + l.length)
  | [], n, b, _, h => h
  | x :: xs, n, b, hd, h => by
    rw [List.all_cons, Bool.and_eq_true, digit_iff] at hd
    have := val_lt xs (10 * n + (x.toNat - 48)) (b + 1) hd.2 (by rw [Nat.pow_succ]; omega)
    rw [List.length_cons, show b + (xs.length + 1) = b + 1 + xs.length by omega]
    exact this
theorem val_snoc (l : Bs) (n : Nat) (x : UInt8) : val n (l ++ [x]) = 10 * val n l + (x.toNat - 48) := by unfold val; simp
end Go.Proofs.YtgkjoodlcojkkaaDoor.Y
end
section
namespace Go.Proofs.YtgkjoodlcojkkaaDoor.Y
open Go.RowKit Go.Proofs.YtgkjoodlcojkkaaDoorW.PrintWords Go.Proofs.YtgkjoodlcojkkaaDoorW.PrintLast Go.Proofs.YtgkjoodlcojkkaaDoorW.PrintMore Go.Proofs.YtgkjoodlcojkkaaDoor.QD
set_option linter.unusedVariables false
set_option linter.unusedSimpArgs false
theorem dec_small {n : Nat} (h : n < 10) : Lib.decDigits n = [UInt8.ofNat (48 + n)] := Lib.decDigits_one h
theorem dec_big {n : Nat} (h : ¬ n < 10) : Lib.decDigits n = Lib.decDigits (n / 10) ++ [UInt8.ofNat (48 + n % 10)] := by rw [Lib.decDigits, dif_neg h]
theorem toNat_dig {n : Nat} (h : n < 10) : (UInt8.ofNat (48 + n)).toNat = 48 + n := UInt8.toNat_ofNat_of_lt' (by show 48 + n < 256; omega)
theorem digit_dig {n : Nat} (h : n < 10) : digit (UInt8.ofNat (48 + n)) = true := (digit_iff _).2 (by rw [toNat_dig h]; omega)
theorem dec_facts : ∀ n : Nat, (Lib.decDigits n).all digit = true ∧ val 0 (Lib.decDigits n) = n ∧ Lib.decDigits n ≠ [] ∧ (n ≠ 0 → (Lib.decDigits n).headD 0 ≠ 48) := by
  intro n
  induction n using Nat.strongRecOn with
  | _ n ih =>
    by_cases h : n < 10
    · rw [dec_small h]
      refine ⟨by rw [List.all_cons, digit_dig h]; rfl, by show 10 * 0 + _ = _; rw [toNat_dig h]; omega, by simp, fun h0 => ?_⟩
      show UInt8.ofNat (48 + n) ≠ 48
      intro e
      have := congrArg UInt8.toNat e
      rw [toNat_dig h] at this
      have h48 : (48 : UInt8).toNat = 48 := rfl
      omega
    · obtain ⟨h1, h2, h3, h4⟩ := ih (n / 10) (by omega)
      rw [dec_big h]
      refine ⟨by rw [List.all_append, h1, List.all_cons, digit_dig (Nat.mod_lt n (by omega : 10 > 0))]; rfl, ?_, by simp, fun _ => ?_⟩
      · rw [val_snoc, h2, toNat_dig (Nat.mod_lt n (by omega))]; omega
      · cases hd : Lib.decDigits (n / 10) with
        | nil => exact absurd hd h3
        | cons x xs =>
          have := h4 (by omega)
          rw [hd] at this
          exact this
theorem good_dec (n : Nat) : good (Lib.decDigits n) = true := by
  obtain ⟨h1, h2, h3, h4⟩ := dec_facts n
  unfold good
  have he : (Lib.decDigits n).isEmpty = false := by cases h : Lib.decDigits n with
    | nil => exact absurd h h3
    | cons x xs => rfl
  rw [h1, he, Bool.and_true, Bool.not_false, Bool.true_and]
  by_cases h : n = 0
  · subst h; rw [dec_small (by omega)]; rfl
  · have : ((Lib.decDigits n).headD 0 != 48) = true := bne_iff_ne.2 (h4 h)
    rw [this, Bool.or_true]
theorem val_pos : ∀ {l : Bs} {n : Nat}, 0 < n → 0 < val n l
  | [], n, h => h
  | x :: xs, n, h => val_pos (l := xs) (n := 10 * n + (x.toNat - 48)) (by omega)
theorem dec_val_aux : ∀ (m : Nat) (l : Bs), l.length = m → good l = true → Lib.decDigits (val 0 l) = l
  | 0, l, hm, hg => by
    rw [List.length_eq_zero_iff.1 hm] at hg; cases hg
  | m + 1, l, hm, hg => by
    have hne : l ≠ [] := by intro e; rw [e] at hm; cases hm
    have hsp := List.dropLast_concat_getLast hne
    generalize hx : l.getLast hne = x at hsp
    generalize hi : l.dropLast = ini at hsp
    subst hsp
    unfold good at hg
    simp only [Bool.and_eq_true, List.all_append, List.all_cons, List.all_nil, Bool.and_true] at hg
    obtain ⟨⟨_, hd1, hd2⟩, hz⟩ := hg
    have hxd := (digit_iff x).1 hd2
    have hxe : UInt8.ofNat (48 + (x.toNat - 48)) = x := by
      apply UInt8.toNat_inj.1
      rw [toNat_dig (by omega)]; omega
    rw [val_snoc]
    cases ini with
    | nil =>
      show Lib.decDigits (10 * 0 + (x.toNat - 48)) = [x]
      rw [Nat.mul_zero, Nat.zero_add, dec_small (by omega), hxe]
    | cons y ys =>
      have hy : y ≠ 48 := by
        simp only [List.cons_append, List.length_cons, List.length_append, List.headD_cons] at hz
        rw [Bool.or_eq_true] at hz
        rcases hz with hz | hz
        · rw [decide_eq_true_eq] at hz
          simp at hz
        · simpa using hz
      have hg2 : good (y :: ys) = true := by
        unfold good
        rw [hd1]
        simp [hy]
      have ih := dec_val_aux m (y :: ys) (by simpa using hm) hg2
      have hyd := (digit_iff y).1 (by rw [List.all_cons, Bool.and_eq_true] at hd1; exact hd1.1)
      have hv : 0 < val 0 (y :: ys) := by
        show 0 < val (10 * 0 + (y.toNat - 48)) ys
        apply val_pos
        have : y.toNat ≠ 48 := fun e => hy (UInt8.toNat_inj.1 (by rw [e]; rfl))
        omega
      rw [dec_big (by omega)]
      have e1 : (10 * val 0 (y :: ys) + (x.toNat - 48)) / 10 = val 0 (y :: ys) := by omega
      have e2 : (10 * val 0 (y :: ys) + (x.toNat - 48)) % 10 = x.toNat - 48 := by omega
      rw [e1, e2, ih, hxe]
theorem dec_val {l : Bs} (hg : good l = true) : Lib.decDigits (val 0 l) = l := dec_val_aux _ l rfl hg
theorem parse_ok : ∀ (l : Bs) (acc b : Nat), l.all digit = true → acc < 10 ^ b → b + l.length ≤ 7 → Lib.parseUint10 acc l = .ok (val acc l)
  | [], acc, b, _, _, _ => rfl
  | x :: xs, acc, b, hd, ha, hb => by
    rw [List.all_cons, Bool.and_eq_true, digit_iff] at hd
    rw [List.length_cons] at hb
    have hp : 10 ^ b ≤ 10 ^ 6 := Nat.pow_le_pow_right (by omega) (by omega)
    unfold Lib.parseUint10
    rw [if_pos hd.1, if_neg (by omega), if_neg (by omega), parse_ok xs _ (b + 1) hd.2 (by rw [Nat.pow_succ]; omega) (by omega)]
    show _ = Lib.NumEnd.ok (val (10 * acc + _) xs)
    rw [Nat.mul_comm]
theorem atoi_good {l : Bs} (hg : good l = true) (h7 : l.length ≤ 7) : Lib.atoiAll l = .ok ((val 0 l : Nat) : Int) := by
  have hg' := hg
  unfold good at hg
  rw [Bool.and_eq_true, Bool.and_eq_true] at hg
  cases l with
  | nil => cases hg.1.1
  | cons c r =>
    have hc := (digit_iff c).1 (by have := hg.1.2; rw [List.all_cons, Bool.and_eq_true] at this; exact this.1)
    unfold Lib.atoiAll
    have h1 : ¬ (c.toNat = 43 ∨ c.toNat = 45) := by omega
    have hv := val_lt (c :: r) 0 0 hg.1.2 (by omega)
    have hp : 10 ^ (0 + (c :: r).length) ≤ 10 ^ 7 := Nat.pow_le_pow_right (by omega) (by omega)
    have hpm : Lib.parseMag (c :: r) = .ok (val 0 (c :: r)) := by
      unfold Lib.parseMag
      rw [if_neg (by simp), parse_ok (c :: r) 0 0 hg.1.2 (by omega) (by omega)]
    simp only [if_neg h1, hpm]
    rw [if_neg (by omega), if_neg (by omega), if_neg (by omega)]
theorem words_Num_eq (l : Bs) (hl : l.length ≤ 281474976710656) : words_Num.f (B l) = some (numS l) := by
  unfold words_Num.f
  rw [size_B, if_pos hl, data_B]
  by_cases hg : good l = true
  · by_cases h7 : l.length ≤ 7
    · rw [atoi_good hg h7]
      simp only
      rw [if_neg (by omega), if_neg (by omega), toList_B]
      have : Lib.itoa ((val 0 l : Nat) : Int) = l := by
        unfold Lib.itoa
        rw [if_neg (by omega), Int.toNat_natCast, dec_val hg]
      rw [if_pos this]
      unfold numS
      rw [hg, decide_eq_true h7]
      rfl
    · have hn : numS l = (0, false) := by unfold numS; rw [decide_eq_false h7, Bool.and_false]; rfl
      rw [hn]
      rcases Lib.atoiAll l with v | _ | _
      · simp only; rw [if_pos (by omega)]
      · rfl
      · rfl
  · have hn : numS l = (0, false) := by unfold numS; rw [Bool.not_eq_true] at hg; rw [hg]; rfl
    rw [hn]
    rcases Lib.atoiAll l with v | _ | _
    · simp only
      split
      · rfl
      · split
        · rfl
        · rename_i h2
          rw [toList_B, if_neg]
          intro e
          apply hg
          rw [← e]
          unfold Lib.itoa
          rw [if_neg h2]
          exact good_dec _
    · rfl
    · rfl
def textS (n : Int) : Bs := if n < 0 then [] else if n > 9999999 then [] else Lib.decDigits n.toNat
theorem words_Text_eq (n : Int) : words_Text.f n = some (B (textS n)) := by
  unfold words_Text.f textS
  split
  · rfl
  · split
    · rfl
    · unfold strconv_Itoa_28.f
      rw [if_pos (by omega), Option.bind_some]
      unfold Lib.itoa
      rw [if_neg (by omega)]
      rfl
theorem nDig_le : ∀ (j n : Nat), n < 10 ^ j → Lib.nDigits n ≤ j + 1
  | 0, n, h => by rw [Lib.nDigits_small (by omega)]; exact Nat.le_refl _
  | j + 1, n, h => by
    by_cases h10 : n < 10
    · rw [Lib.nDigits_small h10]; omega
    · rw [Lib.nDigits_big h10]
      have := nDig_le j (n / 10) (by rw [Nat.pow_succ] at h; omega)
      omega
theorem refText_nat : ∀ (j n k : Nat), n < 10 ^ (j + 1) → n ≤ 9999999 → 2 * j + 2 < k → sr_Text.f k ((n : Nat) : Int) = some (B (Lib.decDigits n))
  | j, n, 0, h, h2, hk => by omega
  | j, n, 1, h, h2, hk => by omega
  | j, n, k + 2, h, h2, hk => by
    rw [sr_Text.f, if_neg (by omega), sr_Text.j0, if_neg (by rw [decide_eq_true_eq]; omega)]
    by_cases hn : n < 10
    · rw [if_pos (by omega), dec_small hn]
      have : wrap64 (48 + (n : Int)) % 256 = ((48 + n : Nat) : Int) := by rw [w64 (by omega)]; omega
      rw [this]
      rfl
    · rw [if_neg (by omega)]
      have e1 : wrap64 (Int.tdiv (n : Int) 10) = ((n / 10 : Nat) : Int) := by
        rw [Int.tdiv_eq_ediv_of_nonneg (by omega), w64 (by omega)]; omega
      cases j with
      | zero => omega
      | succ j =>
        rw [e1, refText_nat j (n / 10) k (by rw [Nat.pow_succ] at h; omega) (by omega) (by omega), Option.bind_some]
        have e2 : wrap64 (48 + Int.tmod (n : Int) 10) % 256 = ((48 + n % 10 : Nat) : Int) := by
          rw [Int.tmod_eq_emod_of_nonneg (by omega), w64 (by omega)]; omega
        rw [e2, Option.bind_some, dec_big hn]
        have e3 : strOfNums [((48 + n % 10 : Nat) : Int)] = B [UInt8.ofNat (48 + n % 10)] := rfl
        have hlen : (Lib.decDigits (n / 10)).length ≤ 20 := by
          have h7 : n / 10 < 10 ^ 6 := by omega
          rw [Lib.decDigits_length]
          by_cases h0 : Lib.nDigits (n / 10) ≤ 20
          · exact h0
          · exact absurd (nDig_le 6 _ h7) (by omega)
        rw [e3, size_B, size_B, if_pos (by simp only [List.length_cons, List.length_nil]; omega), append_B]
theorem refText_eq (n : Int) (k : Nat) (hk : 20 < k) : sr_Text.f k n = some (B (textS n)) := by
  unfold textS
  by_cases h : n < 0
  · rw [if_pos h]
    obtain ⟨k, rfl⟩ : ∃ j, k = j + 2 := ⟨k - 2, by omega⟩
    rw [sr_Text.f, if_pos h, sr_Text.j0, if_pos rfl]
    rfl
  · rw [if_neg h]
    by_cases h2 : n > 9999999
    · rw [if_pos h2]
      obtain ⟨k, rfl⟩ : ∃ j, k = j + 2 := ⟨k - 2, by omega⟩
      rw [sr_Text.f, if_neg h, sr_Text.j0, if_pos (decide_eq_true h2)]
      rfl
    · rw [if_neg h2]
      have := refText_nat 6 n.toNat k (by omega) (by omega) (by omega)
      rwa [Int.toNat_of_nonneg (by omega)] at this
end Go.Proofs.YtgkjoodlcojkkaaDoor.Y
end
section
namespace Go.Proofs.YtgkjoodlcojkkaaDoor.QD
open Go.RowKit Go.Proofs.YtgkjoodlcojkkaaDoorW.PrintWords Go.Proofs.YtgkjoodlcojkkaaDoorW.PrintLast Go.Proofs.YtgkjoodlcojkkaaDoorW.PrintMore
set_option linter.unusedVariables false
set_option linter.unusedSimpArgs false
def text_protocol.f (a0 : Int) : Option (ByteArray) :=
  if a0 = 0 then some ⟨#[]⟩ else if a0 = 1 then some ⟨#[102, 97, 105, 114]⟩ else if a0 = 2 then some ⟨#[97, 103, 101, 110, 116]⟩ else if a0 = 3 then some ⟨#[116, 111, 107, 101, 110]⟩ else none
set_option maxHeartbeats 8000000 in
set_option maxRecDepth 100000 in
theorem text_protocol.calls (a0 : Int) (r : ByteArray) (w : World) (h : text_protocol.f a0 = some r) :
    Calls Tryd.prog 35 #[.int .i64 a0] w fun e w' => e = .returned (.string r) ∧ Below w.heap.size w w' := by
  have hu91 := Tryd.underlying91
  unfold text_protocol.f at h
  by_cases c0 : a0 = 0
  · subst c0
    have hix : ∀ w, (Instr.index 91 (.agg #[.string { data := #[] }, .string { data := #[102, 97, 105, 114] }, .string { data := #[97, 103, 101, 110, 116] }, .string { data := #[116, 111, 107, 101, 110] }]) (.int .i64 0)).run Tryd.prog w = .ok (.string { data := #[] }) w := fun w => by kernel_rfl
    obtain rfl := Option.some.inj ((if_pos rfl).symm.trans h)
    go_enter Tryd.func35, Tryd.ntmps35
    go_wp2
    go_ret
    exact ⟨rfl, Below.refl _ _⟩
  rw [if_neg c0] at h
  by_cases c1 : a0 = 1
  · subst c1
    have hix : ∀ w, (Instr.index 91 (.agg #[.string { data := #[] }, .string { data := #[102, 97, 105, 114] }, .string { data := #[97, 103, 101, 110, 116] }, .string { data := #[116, 111, 107, 101, 110] }]) (.int .i64 1)).run Tryd.prog w = .ok (.string { data := #[102, 97, 105, 114] }) w := fun w => by kernel_rfl
    obtain rfl := Option.some.inj ((if_pos rfl).symm.trans h)
    go_enter Tryd.func35, Tryd.ntmps35
    go_wp2
    go_ret
    exact ⟨rfl, Below.refl _ _⟩
  rw [if_neg c1] at h
  by_cases c2 : a0 = 2
  · subst c2
    have hix : ∀ w, (Instr.index 91 (.agg #[.string { data := #[] }, .string { data := #[102, 97, 105, 114] }, .string { data := #[97, 103, 101, 110, 116] }, .string { data := #[116, 111, 107, 101, 110] }]) (.int .i64 2)).run Tryd.prog w = .ok (.string { data := #[97, 103, 101, 110, 116] }) w := fun w => by kernel_rfl
    obtain rfl := Option.some.inj ((if_pos rfl).symm.trans h)
    go_enter Tryd.func35, Tryd.ntmps35
    go_wp2
    go_ret
    exact ⟨rfl, Below.refl _ _⟩
  rw [if_neg c2] at h
  by_cases c3 : a0 = 3
  · subst c3
    have hix : ∀ w, (Instr.index 91 (.agg #[.string { data := #[] }, .string { data := #[102, 97, 105, 114] }, .string { data := #[97, 103, 101, 110, 116] }, .string { data := #[116, 111, 107, 101, 110] }]) (.int .i64 3)).run Tryd.prog w = .ok (.string { data := #[116, 111, 107, 101, 110] }) w := fun w => by kernel_rfl
    obtain rfl := Option.some.inj ((if_pos rfl).symm.trans h)
    go_enter Tryd.func35, Tryd.ntmps35
    go_wp2
    go_ret
    exact ⟨rfl, Below.refl _ _⟩
  rw [if_neg c3] at h
  cases h
end Go.Proofs.YtgkjoodlcojkkaaDoor.QD
end
section
namespace Go.Proofs.YtgkjoodlcojkkaaDoor.QD
open Go.RowKit Go.Proofs.YtgkjoodlcojkkaaDoorW.PrintWords Go.Proofs.YtgkjoodlcojkkaaDoorW.PrintLast Go.Proofs.YtgkjoodlcojkkaaDoorW.PrintMore
attribute [local go_sem] max2_int min2_int max_two min_two max_three min_three max_four min_four
set_option linter.unusedVariables false
set_option linter.unusedSimpArgs false
def task_between.f (a0 : Int) (a1 : Int) (a2 : Int) : Option (Bool) := if a0 ≥ a1 then (some (decide (a0 ≤ a2))) else (some false)
set_option maxHeartbeats 8000000 in
set_option maxRecDepth 100000 in
theorem task_between.calls (a0 : Int) (a1 : Int) (a2 : Int) (r : Bool) (w : World) (h : task_between.f a0 a1 a2 = some r) :
    Calls Tryd.prog 52 #[.int .i64 a0, .int .i64 a1, .int .i64 a2] w fun e w' => e = .returned (.bool r) ∧ Drawn0 w w' := by
  have H : (if a0 ≥ a1 then (some (decide (a0 ≤ a2))) else (some false)) = some r := h
  clear h
  by_cases c4 : a0 ≥ a1
  rotate_left
  · rw [if_neg c4] at H
    have c4b0 : decide (a1 ≤ a0) = false := decide_eq_false c4
    clear c4
    obtain rfl := Option.some.inj H
    go_enter Tryd.func52, Tryd.ntmps52
    go_wp2
    go_ret
    exact ⟨by first | rfl | (simp; done) | (simp [*]; done), by repeat (first | exact Drawn0.refl _ | apply Drawn0.step)⟩
  rw [if_pos c4] at H
  have c4b0 : decide (a1 ≤ a0) = true := decide_eq_true c4
  clear c4
  obtain rfl := Option.some.inj H
  go_enter Tryd.func52, Tryd.ntmps52
  go_wp2
  go_ret
  exact ⟨by first | rfl | (simp; done) | (simp [*]; done), by repeat (first | exact Drawn0.refl _ | apply Drawn0.step)⟩
end Go.Proofs.YtgkjoodlcojkkaaDoor.QD
end
section
namespace Go.Proofs.YtgkjoodlcojkkaaDoor.QD
open Go.RowKit Go.Proofs.YtgkjoodlcojkkaaDoorW.PrintWords Go.Proofs.YtgkjoodlcojkkaaDoorW.PrintLast Go.Proofs.YtgkjoodlcojkkaaDoorW.PrintMore
attribute [local go_sem] max2_int min2_int max_two min_two max_three min_three max_four min_four
set_option linter.unusedVariables false
set_option linter.unusedSimpArgs false
mutual
def task_parted.l0 : Nat → List (S50) → List (S50) → Int → Int → Int → List Int → List Int → List (S53) → Option (Bool)
  | 0, _, _, _, _, _, _, _, _ => none
  | k + 1, x1, x7, x8, x9, x248000, x248001, x248002, x248003 => if x9 < x8 then (if 0 ≤ x9 then (if x9 < (x7.length : Int) then ((task_between.f ((rd_T50 x7 x9).f0) 1 3).bind fun t251 => (if t251 = true then ((task_between.f ((rd_T50 x7 x9).f1) 1 60).bind fun t252 => (task_parted.j1 k x1 x7 x8 x9 (!t252) x248000 x248001 x248002 x248003 ((rd_T50 x7 x9).f0) ((rd_T50 x7 x9).f1) ((rd_T50 x7 x9).f2))) else (task_parted.j1 k x1 x7 x8 x9 true x248000 x248001 x248002 x248003 ((rd_T50 x7 x9).f0) ((rd_T50 x7 x9).f1) ((rd_T50 x7 x9).f2)))) else (none)) else (none)) else ((task_between.f (x1.length : Int) 1 6).bind fun t248 => (some t248))
def task_parted.j1 : Nat → List (S50) → List (S50) → Int → Int → Bool → Int → List Int → List Int → List (S53) → Int → Int → Int → Option (Bool)
  | 0, _, _, _, _, _, _, _, _, _, _, _, _ => none
  | k + 1, x1, x7, x8, x9, x13, x248000, x248001, x248002, x248003, x251000, x251001, x251002 => if x13 = true then (some false) else (if x251000 = 3 then ((task_between.f x251002 0 (wrap64 ((x248002.length : Int) - 1))).bind fun t253 => (task_parted.j2 k x1 x7 x8 x9 t253 x248000 x248001 x248002 x248003 x251000 x251001 x251002)) else (task_parted.j2 k x1 x7 x8 x9 false x248000 x248001 x248002 x248003 x251000 x251001 x251002))
def task_parted.j2 : Nat → List (S50) → List (S50) → Int → Int → Bool → Int → List Int → List Int → List (S53) → Int → Int → Int → Option (Bool)
  | 0, _, _, _, _, _, _, _, _, _, _, _, _ => none
  | k + 1, x1, x7, x8, x9, x24, x248000, x248001, x248002, x248003, x251000, x251001, x251002 => if x24 = true then (task_parted.l0 k x1 x7 x8 (wrap64 (x9 + 1)) x248000 x248001 x248002 x248003) else (if x251000 = 3 then (some false) else (if x251002 = 0 then (task_parted.l0 k x1 x7 x8 (wrap64 (x9 + 1)) x248000 x248001 x248002 x248003) else (some false)))
end
def task_parted.f (k : Nat) (a0_0 : Int) (l0_1 : List Int) (l0_2 : List Int) (l0_3 : List (S53)) (l1 : List (S50)) : Option (Bool) := task_parted.l0 k l1 l1 (l1.length : Int) 0 a0_0 l0_1 l0_2 l0_3
theorem task_parted.mono_l : ∀ k, (∀ y0 y1 y2 y3 y4 y5 y6 y7, LeO (task_parted.l0 k y0 y1 y2 y3 y4 y5 y6 y7) (task_parted.l0 (k + 1) y0 y1 y2 y3 y4 y5 y6 y7)) ∧ (∀ y0 y1 y2 y3 y4 y5 y6 y7 y8 y9 y10 y11, LeO (task_parted.j1 k y0 y1 y2 y3 y4 y5 y6 y7 y8 y9 y10 y11) (task_parted.j1 (k + 1) y0 y1 y2 y3 y4 y5 y6 y7 y8 y9 y10 y11)) ∧ (∀ y0 y1 y2 y3 y4 y5 y6 y7 y8 y9 y10 y11, LeO (task_parted.j2 k y0 y1 y2 y3 y4 y5 y6 y7 y8 y9 y10 y11) (task_parted.j2 (k + 1) y0 y1 y2 y3 y4 y5 y6 y7 y8 y9 y10 y11))
  | 0 => ⟨fun _ _ _ _ _ _ _ _ r h => by simp [task_parted.l0] at h, fun _ _ _ _ _ _ _ _ _ _ _ _ r h => by simp [task_parted.j1] at h, fun _ _ _ _ _ _ _ _ _ _ _ _ r h => by simp [task_parted.j2] at h⟩
  | k + 1 => by
    obtain ⟨ih0, ih1, ih2⟩ := task_parted.mono_l k
    refine ⟨?_, ?_, ?_⟩
    · intro y0 y1 y2 y3 y4 y5 y6 y7
      unfold task_parted.l0
      repeat' first
      | (with_reducible exact ih0 _ _ _ _ _ _ _ _)
      | (with_reducible exact ih1 _ _ _ _ _ _ _ _ _ _ _ _)
      | (with_reducible exact ih2 _ _ _ _ _ _ _ _ _ _ _ _)
      | (with_reducible exact LeO.refl _)
      | (with_reducible exact LeO.none _)
      | (with_reducible refine LeO.ite ?_ ?_)
      | (with_reducible refine LeO.bind ?_ (fun _ => ?_))
      | exact ih0 _ _ _ _ _ _ _ _
      | exact ih1 _ _ _ _ _ _ _ _ _ _ _ _
      | exact ih2 _ _ _ _ _ _ _ _ _ _ _ _
      | exact LeO.none _
      | refine LeO.ite ?_ ?_
      | refine LeO.bind ?_ (fun _ => ?_)
    · intro y0 y1 y2 y3 y4 y5 y6 y7 y8 y9 y10 y11
      unfold task_parted.j1
      repeat' first
      | (with_reducible exact ih0 _ _ _ _ _ _ _ _)
      | (with_reducible exact ih1 _ _ _ _ _ _ _ _ _ _ _ _)
      | (with_reducible exact ih2 _ _ _ _ _ _ _ _ _ _ _ _)
      | (with_reducible exact LeO.refl _)
      | (with_reducible exact LeO.none _)
      | (with_reducible refine LeO.ite ?_ ?_)
      | (with_reducible refine LeO.bind ?_ (fun _ => ?_))
      | exact ih0 _ _ _ _ _ _ _ _
      | exact ih1 _ _ _ _ _ _ _ _ _ _ _ _
      | exact ih2 _ _ _ _ _ _ _ _ _ _ _ _
      | exact LeO.none _
      | refine LeO.ite ?_ ?_
      | refine LeO.bind ?_ (fun _ => ?_)
    · intro y0 y1 y2 y3 y4 y5 y6 y7 y8 y9 y10 y11
      unfold task_parted.j2
      repeat' first
      | (with_reducible exact ih0 _ _ _ _ _ _ _ _)
      | (with_reducible exact ih1 _ _ _ _ _ _ _ _ _ _ _ _)
      | (with_reducible exact ih2 _ _ _ _ _ _ _ _ _ _ _ _)
      | (with_reducible exact LeO.refl _)
      | (with_reducible exact LeO.none _)
      | (with_reducible refine LeO.ite ?_ ?_)
      | (with_reducible refine LeO.bind ?_ (fun _ => ?_))
      | exact ih0 _ _ _ _ _ _ _ _
      | exact ih1 _ _ _ _ _ _ _ _ _ _ _ _
      | exact ih2 _ _ _ _ _ _ _ _ _ _ _ _
      | exact LeO.none _
      | refine LeO.ite ?_ ?_
      | refine LeO.bind ?_ (fun _ => ?_)
theorem task_parted.mono : ∀ a0 a1 a2 a3 a4 k, LeO (task_parted.f k a0 a1 a2 a3 a4) (task_parted.f (k + 1) a0 a1 a2 a3 a4) := by
  intro a0 a1 a2 a3 a4 k
  obtain ⟨ih0, ih1, ih2⟩ := task_parted.mono_l k
  unfold task_parted.f
  repeat' first
      | (with_reducible exact ih0 _ _ _ _ _ _ _ _)
      | (with_reducible exact ih1 _ _ _ _ _ _ _ _ _ _ _ _)
      | (with_reducible exact ih2 _ _ _ _ _ _ _ _ _ _ _ _)
      | (with_reducible exact LeO.refl _)
      | (with_reducible exact LeO.none _)
      | (with_reducible refine LeO.ite ?_ ?_)
      | (with_reducible refine LeO.bind ?_ (fun _ => ?_))
      | exact ih0 _ _ _ _ _ _ _ _
      | exact ih1 _ _ _ _ _ _ _ _ _ _ _ _
      | exact ih2 _ _ _ _ _ _ _ _ _ _ _ _
      | exact LeO.none _
      | refine LeO.ite ?_ ?_
      | refine LeO.bind ?_ (fun _ => ?_)
set_option maxHeartbeats 8000000 in
set_option maxRecDepth 100000 in
theorem task_parted.calls (k : Nat) (a0_0 : Int) (A0_1 : Option Addr) (c0_1 : Nat) (l0_1 : List Int) (A0_2 : Option Addr) (c0_2 : Nat) (l0_2 : List Int) (A0_3 : Option Addr) (c0_3 : Nat) (l0_3 : List (S53)) (A1 : Option Addr) (c1 : Nat) (l1 : List (S50)) (r : Bool) (w : World) (hr0_1 : Kd.C (Kd.int .i64) w A0_1 l0_1.length l0_1) (hc0_1 : l0_1.length ≤ c0_1) (hr0_2 : Kd.C (Kd.int .i64) w A0_2 l0_2.length l0_2) (hc0_2 : l0_2.length ≤ c0_2) (hr0_3 : Kd.C k53 w A0_3 l0_3.length l0_3) (hc0_3 : l0_3.length ≤ c0_3) (hr1 : Kd.C k50 w A1 l1.length l1) (hc1 : l1.length ≤ c1) (h : task_parted.f k a0_0 l0_1 l0_2 l0_3 l1 = some r) :
    Calls Tryd.prog 75 #[.agg #[.int .i64 a0_0, .slice A0_1 l0_1.length c0_1, .slice A0_2 l0_2.length c0_2, .slice A0_3 l0_3.length c0_3], .slice A1 l1.length c1] w fun e w' => e = .returned (.bool r) ∧ Below w.heap.size w w' := by
  have hu37 := Tryd.underlying37
  have hu50 := Tryd.underlying50
  have HR0_1 := Aside0.mk hr0_1
  have HC0_1 := Aside0.mk hc0_1
  clear hr0_1 hc0_1
  have HR0_2 := Aside0.mk hr0_2
  have HC0_2 := Aside0.mk hc0_2
  clear hr0_2 hc0_2
  have HR0_3 := Aside0.mk hr0_3
  have HC0_3 := Aside0.mk hc0_3
  clear hr0_3 hc0_3
  have HR1 := Aside0.mk hr1
  have HC1 := Aside0.mk hc1
  clear hr1 hc1
  have HB := Aside0.mk (Below.refl w.heap.size w)
  have H : (task_parted.l0 k l1 l1 (l1.length : Int) 0 a0_0 l0_1 l0_2 l0_3) = some r := h
  clear h
  have H' := Aside0.mk H
  clear H
  go_enter Tryd.func75, Tryd.ntmps75
  go_wp2_with (first | ((with_reducible refine gate_dst (N := 2) rfl ?_); (try (refine gate_guard (by rfl) ?_; dsimp only)); refine box_event ?hg (N := 2) ?hd (cs := #[.int .i64 a0_0, .slice A0_1 l0_1.length c0_1, .slice A0_2 l0_2.length c0_2, .slice A0_3 l0_3.length c0_3]) (t := 37) ?hr ?_; (case hd => rfl); (case hg => rfl); (case hr => first | (go_simp; done) | (go_simp; rfl)); intro gb247 hg w3 hbox hb; have n0_ := Aside0.mk (below_step (HB.out) hb); have n1_ := Aside0.mk (hbox); have n2_ := Aside0.mk ((by rw [hg]; exact (below_size (HB.out)) : w.heap.size ≤ gb247)); have n3_ := Aside0.mk ((by rw [hg]; exact (below_size (HB.out)) : w.heap.size ≤ gb247)); clear HB; have HB := n0_; have BK247 := n1_; have GW247 := n2_; have GE247 := n3_; clear n0_ n1_ n2_ n3_; clear hb hbox hg))
  repeat (go_step3; try go_wp2_with (first | ((with_reducible refine gate_dst (N := 2) rfl ?_); (try (refine gate_guard (by rfl) ?_; dsimp only)); refine box_event ?hg (N := 2) ?hd (cs := #[.int .i64 a0_0, .slice A0_1 l0_1.length c0_1, .slice A0_2 l0_2.length c0_2, .slice A0_3 l0_3.length c0_3]) (t := 37) ?hr ?_; (case hd => rfl); (case hg => rfl); (case hr => first | (go_simp; done) | (go_simp; rfl)); intro gb247 hg w3 hbox hb; have n0_ := Aside0.mk (below_step (HB.out) hb); have n1_ := Aside0.mk (hbox); have n2_ := Aside0.mk ((by rw [hg]; exact (below_size (HB.out)) : w.heap.size ≤ gb247)); have n3_ := Aside0.mk ((by rw [hg]; exact (below_size (HB.out)) : w.heap.size ≤ gb247)); clear HB; have HB := n0_; have BK247 := n1_; have GW247 := n2_; have GE247 := n3_; clear n0_ n1_ n2_ n3_; clear hb hbox hg)))
  go_loopg [9] k (fun kq v9 w' => ∃ (x9_1 : Int), v9 = .int .i64 x9_1 ∧ Aside0 (task_parted.l0 kq l1 l1 (l1.length : Int) x9_1 a0_0 l0_1 l0_2 l0_3 = some r) ∧ Aside0 (kq ≤ k) ∧ Aside0 (w'.heap[gb247]? = some (.cells #[.int .i64 a0_0, (.slice A0_1 l0_1.length c0_1), (.slice A0_2 l0_2.length c0_2), (.slice A0_3 l0_3.length c0_3)] 37 (0, 0))) ∧ Aside0 (Below w.heap.size w w'))
  case atStart => exact ⟨(0), (by first | rfl | (simp; done) | (simp [*]; done)), H', ⟨Nat.le_refl _⟩, ⟨BK247.out⟩, ⟨HB.out⟩⟩
  clear H'
  (try clear c1); (try clear p2); (try clear p3)
  obtain ⟨x9_1, rfl, HA, HK1, BK247, HB⟩ := hrel
  cases gk with
  | zero => exact absurd HA.out (by simp [task_parted.l0])
  | succ k1 => ?_
  have H := HA.out
  clear HA
  simp only [task_parted.l0] at H
  by_cases c4 : x9_1 < (l1.length : Int)
  rotate_left
  · rw [if_neg c4] at H
    have c4b0 : decide (x9_1 < (l1.length : Int)) = false := decide_eq_false c4
    clear c4
    replace H := Option.bind_eq_some_iff.mp H
    obtain ⟨t248, A50, H⟩ := H
    replace H : (some t248) = some r := H
    have A5 := Aside0.mk A50
    clear A50
    obtain rfl := Option.some.inj H
    go_wp2_with (first | ((with_reducible refine gate_callee (f := 52) rfl ?_); refine goesL_ (some 49) rfl rfl Tryd.func52 (by kernel_rfl) rfl #[.int .i64 (l1.length : Int), .int .i64 1, .int .i64 6] rfl (by (try simp only [List.map_toArray, List.map_cons, List.map_nil]); first | done | rfl | (simp only [List.length_drop, List.length_take]; rfl)) ?_; (with_reducible refine (task_between.calls (l1.length : Int) 1 6 t248 _ A5.out).mono ?_); rintro e w' ⟨rfl, ⟨nd, rfl⟩⟩; refine ⟨_, rfl, ?_⟩))
    repeat (go_step3; try go_wp2_with (first | ((with_reducible refine gate_callee (f := 52) rfl ?_); refine goesL_ (some 49) rfl rfl Tryd.func52 (by kernel_rfl) rfl #[.int .i64 (l1.length : Int), .int .i64 1, .int .i64 6] rfl (by (try simp only [List.map_toArray, List.map_cons, List.map_nil]); first | done | rfl | (simp only [List.length_drop, List.length_take]; rfl)) ?_; (with_reducible refine (task_between.calls (l1.length : Int) 1 6 t248 _ A5.out).mono ?_); rintro e w' ⟨rfl, ⟨nd, rfl⟩⟩; refine ⟨_, rfl, ?_⟩)))
    go_ret
    exact ⟨by first | rfl | (simp [errW_none, errW_some] <;> rfl) | (simp [*, errW_none, errW_some] <;> rfl), by repeat (first | (with_reducible first | exact HB.out | apply below_alloc | apply pw_below_drewN | apply below_drew1 | refine below_set ?_ GE247.out) | exact HB.out)⟩
  rw [if_pos c4] at H
  have c4b0 : decide (x9_1 < (l1.length : Int)) = true := decide_eq_true c4
  clear c4
  by_cases c6 : 0 ≤ x9_1
  rotate_left
  · rw [if_neg c6] at H
    exact absurd H (by simp)
  rw [if_pos c6] at H
  have c6b0 : decide (0 ≤ x9_1) = true := decide_eq_true c6
  clear c6
  by_cases c7 : x9_1 < (l1.length : Int)
  rotate_left
  · rw [if_neg c7] at H
    exact absurd H (by simp)
  rw [if_pos c7] at H
  have c7b0 : decide (x9_1 < (l1.length : Int)) = true := decide_eq_true c7
  clear c7
  have HC8 := Aside0.mk H
  clear H
  have p249 : 0 ≤ (x9_1 : Int) := of_decide_eq_true (by first | (with_reducible assumption) | assumption)
  have q249 : x9_1 < (l1.length : Int) := of_decide_eq_true (by first | (with_reducible assumption) | assumption)
  obtain ⟨ad249, e249, hx249_0, hx249_1, hx249_2⟩ := at_T50 HR1.out x9_1 p249 q249
  cases e249
  replace hx249_0 := (HB.out.cell (World.block_lt_of_cell? w _ hx249_0)).trans hx249_0
  replace hx249_1 := (HB.out.cell (World.block_lt_of_cell? w _ hx249_1)).trans hx249_1
  replace hx249_2 := (HB.out.cell (World.block_lt_of_cell? w _ hx249_2)).trans hx249_2
  replace p249 := eq_true p249
  replace q249 := eq_true q249
  iterate 2 ((try go_step3); (try go_upto_region 4 with (first | ((with_reducible refine gate_dst (N := 6) rfl ?_); (try (refine gate_guard (by rfl) ?_; dsimp only)); refine box_event ?hg (N := 6) ?hd (cs := #[.int .i64 0, .int .i64 0, .int .i64 0]) (t := 50) ?hr ?_; (case hd => rfl); (case hg => rfl); (case hr => first | (go_simp; done) | (go_simp; rfl)); intro gb250 hg w9 hbox hb; have n0_ := Aside0.mk (blk_below BK247.out hb); have n1_ := Aside0.mk (below_step (HB.out) hb); have n2_ := Aside0.mk (hbox); have n3_ := Aside0.mk ((by rw [hg]; exact (below_size (HB.out)) : w.heap.size ≤ gb250)); have n4_ := Aside0.mk ((by rw [hg]; exact (below_size (HB.out)) : w.heap.size ≤ gb250)); have n5_ := Aside0.mk ((by rw [hg]; exact Nat.ne_of_lt (blk_lt BK247.out) : gb247 ≠ gb250)); have n6_ := Aside0.mk ((by rw [hg]; exact Nat.ne_of_gt (blk_lt BK247.out) : gb250 ≠ gb247)); clear BK247; clear HB; have BK247 := n0_; have HB := n1_; have BK250 := n2_; have GW250 := n3_; have GE250 := n4_; have NB247_250 := n5_; have NB250_247 := n6_; clear n0_ n1_ n2_ n3_ n4_ n5_ n6_; clear hb hbox hg; have hnb10 := NB250_247.out; have hnc10 := NB247_250.out; have hcz11_0 : w9.cell? ⟨gb250, 0, none⟩ = some (.int .i64 0) := (blk_cell BK250.out 0).trans rfl; have hcz11_1 : w9.cell? ⟨gb250, 1, none⟩ = some (.int .i64 0) := (blk_cell BK250.out 1).trans rfl; have hcz11_2 : w9.cell? ⟨gb250, 2, none⟩ = some (.int .i64 0) := (blk_cell BK250.out 2).trans rfl; have hfz11_0 := blk_frozen BK250.out 0; have hfz11_1 := blk_frozen BK250.out 1; have hfz11_2 := blk_frozen BK250.out 2))))
  (try simp only [Act.put, List.setIfInBounds_toArray, List.set_cons_zero, List.set_cons_succ])
  go_cut [13] (fun v13 wc => ∃ (kq : Nat) (x13_7 : Bool), v13 = .bool x13_7 ∧ Aside0 (task_parted.j1 kq l1 l1 (l1.length : Int) x9_1 x13_7 a0_0 l0_1 l0_2 l0_3 ((rd_T50 l1 x9_1).f0) ((rd_T50 l1 x9_1).f1) ((rd_T50 l1 x9_1).f2) = some r) ∧ Aside0 (kq ≤ k1) ∧ Aside0 (wc.heap[gb247]? = some (.cells #[.int .i64 a0_0, (.slice A0_1 l0_1.length c0_1), (.slice A0_2 l0_2.length c0_2), (.slice A0_3 l0_3.length c0_3)] 37 (0, 0))) ∧ Aside0 (wc.heap[gb250]? = some (.cells #[.int .i64 ((rd_T50 l1 x9_1).f0), .int .i64 ((rd_T50 l1 x9_1).f1), .int .i64 ((rd_T50 l1 x9_1).f2)] 50 (0, 0))) ∧ Aside0 (Below w.heap.size w wc))
  case first =>
    have H := HC8.out
    clear HC8
    replace H := Option.bind_eq_some_iff.mp H
    obtain ⟨t251, A120, H⟩ := H
    replace H : (if t251 = true then ((task_between.f ((rd_T50 l1 x9_1).f1) 1 60).bind fun t252 => (task_parted.j1 k1 l1 l1 (l1.length : Int) x9_1 (!t252) a0_0 l0_1 l0_2 l0_3 ((rd_T50 l1 x9_1).f0) ((rd_T50 l1 x9_1).f1) ((rd_T50 l1 x9_1).f2))) else (task_parted.j1 k1 l1 l1 (l1.length : Int) x9_1 true a0_0 l0_1 l0_2 l0_3 ((rd_T50 l1 x9_1).f0) ((rd_T50 l1 x9_1).f1) ((rd_T50 l1 x9_1).f2))) = some r := H
    have A12 := Aside0.mk A120
    clear A120
    by_cases c13 : t251 = true
    rotate_left
    · replace c13 := Bool.eq_false_iff.mpr c13
      subst c13
      have H1 : (task_parted.j1 k1 l1 l1 (l1.length : Int) x9_1 true a0_0 l0_1 l0_2 l0_3 ((rd_T50 l1 x9_1).f0) ((rd_T50 l1 x9_1).f1) ((rd_T50 l1 x9_1).f2)) = some r := by rw [if_neg (show ¬ (false = true) by decide)] at H; exact H
      clear H
      have H := H1
      clear H1
      have H' := Aside0.mk H
      clear H
      have hnb14 := NB250_247.out
      have hnc14 := NB247_250.out
      have hcz15_0 : w9.cell? ⟨gb250, 0, none⟩ = some (.int .i64 0) := (blk_cell BK250.out 0).trans rfl
      have hcz15_1 : w9.cell? ⟨gb250, 1, none⟩ = some (.int .i64 0) := (blk_cell BK250.out 1).trans rfl
      have hcz15_2 : w9.cell? ⟨gb250, 2, none⟩ = some (.int .i64 0) := (blk_cell BK250.out 2).trans rfl
      have hfz15_0 := blk_frozen BK250.out 0
      have hfz15_1 := blk_frozen BK250.out 1
      have hfz15_2 := blk_frozen BK250.out 2
      go_wp2_with (first | ((with_reducible refine gate_callee (f := 52) rfl ?_); refine goesL_ (some 16) rfl rfl Tryd.func52 (by kernel_rfl) rfl #[.int .i64 ((rd_T50 l1 x9_1).f0), .int .i64 1, .int .i64 3] rfl (by (try simp only [List.map_toArray, List.map_cons, List.map_nil]); first | done | rfl | (simp only [List.length_drop, List.length_take]; rfl)) ?_; (with_reducible refine (task_between.calls ((rd_T50 l1 x9_1).f0) 1 3 false _ A12.out).mono ?_); rintro e w' ⟨rfl, ⟨nd, rfl⟩⟩; refine ⟨_, rfl, ?_⟩))
      repeat (go_step3; try go_wp2_with (first | ((with_reducible refine gate_callee (f := 52) rfl ?_); refine goesL_ (some 16) rfl rfl Tryd.func52 (by kernel_rfl) rfl #[.int .i64 ((rd_T50 l1 x9_1).f0), .int .i64 1, .int .i64 3] rfl (by (try simp only [List.map_toArray, List.map_cons, List.map_nil]); first | done | rfl | (simp only [List.length_drop, List.length_take]; rfl)) ?_; (with_reducible refine (task_between.calls ((rd_T50 l1 x9_1).f0) 1 3 false _ A12.out).mono ?_); rintro e w' ⟨rfl, ⟨nd, rfl⟩⟩; refine ⟨_, rfl, ?_⟩)))
      go_meet
      case rel => exact ⟨_, (true), (by first | rfl | (simp; done) | (simp [*]; done)), H', ⟨by have := HK1.out; first | omega | exact Nat.le_refl _⟩, ⟨by (with_reducible repeat (first | refine blk_drewN ?_ _ | refine blk_drew ?_ | refine blk_alloc ?_ _)); refine blk_far ?_ NB247_250.out _; (with_reducible repeat (first | refine blk_drewN ?_ _ | refine blk_drew ?_ | refine blk_alloc ?_ _)); refine blk_far ?_ NB247_250.out _; (with_reducible repeat (first | refine blk_drewN ?_ _ | refine blk_drew ?_ | refine blk_alloc ?_ _)); refine blk_far ?_ NB247_250.out _; (with_reducible repeat (first | refine blk_drewN ?_ _ | refine blk_drew ?_ | refine blk_alloc ?_ _)); exact BK247.out⟩, ⟨by (with_reducible repeat (first | refine blk_drewN ?_ _ | refine blk_drew ?_ | refine blk_alloc ?_ _)); refine blk_put (cs := #[.int .i64 ((rd_T50 l1 x9_1).f0), .int .i64 ((rd_T50 l1 x9_1).f1), .int .i64 0]) ?_ 2 _ rfl; (with_reducible repeat (first | refine blk_drewN ?_ _ | refine blk_drew ?_ | refine blk_alloc ?_ _)); refine blk_put (cs := #[.int .i64 ((rd_T50 l1 x9_1).f0), .int .i64 0, .int .i64 0]) ?_ 1 _ rfl; (with_reducible repeat (first | refine blk_drewN ?_ _ | refine blk_drew ?_ | refine blk_alloc ?_ _)); refine blk_put (cs := #[.int .i64 0, .int .i64 0, .int .i64 0]) ?_ 0 _ rfl; (with_reducible repeat (first | refine blk_drewN ?_ _ | refine blk_drew ?_ | refine blk_alloc ?_ _)); exact BK250.out⟩, ⟨by repeat (first | (with_reducible first | exact HB.out | apply below_alloc | apply pw_below_drewN | apply below_drew1 | refine below_set ?_ GE247.out | refine below_set ?_ GE250.out) | exact HB.out)⟩⟩
    subst c13
    have H1 : ((task_between.f ((rd_T50 l1 x9_1).f1) 1 60).bind fun t252 => (task_parted.j1 k1 l1 l1 (l1.length : Int) x9_1 (!t252) a0_0 l0_1 l0_2 l0_3 ((rd_T50 l1 x9_1).f0) ((rd_T50 l1 x9_1).f1) ((rd_T50 l1 x9_1).f2))) = some r := by rw [if_pos rfl] at H; exact H
    clear H
    have H := H1
    clear H1
    replace H := Option.bind_eq_some_iff.mp H
    obtain ⟨t252, A160, H⟩ := H
    replace H : (task_parted.j1 k1 l1 l1 (l1.length : Int) x9_1 (!t252) a0_0 l0_1 l0_2 l0_3 ((rd_T50 l1 x9_1).f0) ((rd_T50 l1 x9_1).f1) ((rd_T50 l1 x9_1).f2)) = some r := H
    have A16 := Aside0.mk A160
    clear A160
    have H' := Aside0.mk H
    clear H
    have hnb17 := NB250_247.out
    have hnc17 := NB247_250.out
    have hcz18_0 : w9.cell? ⟨gb250, 0, none⟩ = some (.int .i64 0) := (blk_cell BK250.out 0).trans rfl
    have hcz18_1 : w9.cell? ⟨gb250, 1, none⟩ = some (.int .i64 0) := (blk_cell BK250.out 1).trans rfl
    have hcz18_2 : w9.cell? ⟨gb250, 2, none⟩ = some (.int .i64 0) := (blk_cell BK250.out 2).trans rfl
    have hfz18_0 := blk_frozen BK250.out 0
    have hfz18_1 := blk_frozen BK250.out 1
    have hfz18_2 := blk_frozen BK250.out 2
    go_wp2_with (first | ((with_reducible refine gate_callee (f := 52) rfl ?_); refine goesL_ (some 16) rfl rfl Tryd.func52 (by kernel_rfl) rfl #[.int .i64 ((rd_T50 l1 x9_1).f0), .int .i64 1, .int .i64 3] rfl (by (try simp only [List.map_toArray, List.map_cons, List.map_nil]); first | done | rfl | (simp only [List.length_drop, List.length_take]; rfl)) ?_; (with_reducible refine (task_between.calls ((rd_T50 l1 x9_1).f0) 1 3 true _ A12.out).mono ?_); rintro e w' ⟨rfl, ⟨nd, rfl⟩⟩; refine ⟨_, rfl, ?_⟩) | (go_at_call 52; (with_reducible refine (task_between.calls ((rd_T50 l1 x9_1).f1) 1 60 t252 _ A16.out).mono ?_); rintro e w' ⟨rfl, ⟨nd, rfl⟩⟩))
    repeat (go_step3; try go_wp2_with (first | ((with_reducible refine gate_callee (f := 52) rfl ?_); refine goesL_ (some 16) rfl rfl Tryd.func52 (by kernel_rfl) rfl #[.int .i64 ((rd_T50 l1 x9_1).f0), .int .i64 1, .int .i64 3] rfl (by (try simp only [List.map_toArray, List.map_cons, List.map_nil]); first | done | rfl | (simp only [List.length_drop, List.length_take]; rfl)) ?_; (with_reducible refine (task_between.calls ((rd_T50 l1 x9_1).f0) 1 3 true _ A12.out).mono ?_); rintro e w' ⟨rfl, ⟨nd, rfl⟩⟩; refine ⟨_, rfl, ?_⟩) | (go_at_call 52; (with_reducible refine (task_between.calls ((rd_T50 l1 x9_1).f1) 1 60 t252 _ A16.out).mono ?_); rintro e w' ⟨rfl, ⟨nd, rfl⟩⟩)))
    go_meet
    case rel => exact ⟨_, (!t252), (by first | rfl | (simp; done) | (simp [*]; done)), H', ⟨by have := HK1.out; first | omega | exact Nat.le_refl _⟩, ⟨by (with_reducible repeat (first | refine blk_drewN ?_ _ | refine blk_drew ?_ | refine blk_alloc ?_ _)); refine blk_far ?_ NB247_250.out _; (with_reducible repeat (first | refine blk_drewN ?_ _ | refine blk_drew ?_ | refine blk_alloc ?_ _)); refine blk_far ?_ NB247_250.out _; (with_reducible repeat (first | refine blk_drewN ?_ _ | refine blk_drew ?_ | refine blk_alloc ?_ _)); refine blk_far ?_ NB247_250.out _; (with_reducible repeat (first | refine blk_drewN ?_ _ | refine blk_drew ?_ | refine blk_alloc ?_ _)); exact BK247.out⟩, ⟨by (with_reducible repeat (first | refine blk_drewN ?_ _ | refine blk_drew ?_ | refine blk_alloc ?_ _)); refine blk_put (cs := #[.int .i64 ((rd_T50 l1 x9_1).f0), .int .i64 ((rd_T50 l1 x9_1).f1), .int .i64 0]) ?_ 2 _ rfl; (with_reducible repeat (first | refine blk_drewN ?_ _ | refine blk_drew ?_ | refine blk_alloc ?_ _)); refine blk_put (cs := #[.int .i64 ((rd_T50 l1 x9_1).f0), .int .i64 0, .int .i64 0]) ?_ 1 _ rfl; (with_reducible repeat (first | refine blk_drewN ?_ _ | refine blk_drew ?_ | refine blk_alloc ?_ _)); refine blk_put (cs := #[.int .i64 0, .int .i64 0, .int .i64 0]) ?_ 0 _ rfl; (with_reducible repeat (first | refine blk_drewN ?_ _ | refine blk_drew ?_ | refine blk_alloc ?_ _)); exact BK250.out⟩, ⟨by repeat (first | (with_reducible first | exact HB.out | apply below_alloc | apply pw_below_drewN | apply below_drew1 | refine below_set ?_ GE247.out | refine below_set ?_ GE250.out) | exact HB.out)⟩⟩
  clear HC8
  (try clear c1); (try clear p2); (try clear q2); (try clear hx2); (try clear p3); (try clear c4); (try clear c4b0); (try clear c5); (try clear c6); (try clear c6b0); (try clear c7); (try clear c7b0); (try clear c10); (try clear c13); (try clear c14); (try clear c17); (try clear hcz11_0); (try clear hcz11_1); (try clear hcz11_2); (try clear hcz15_0); (try clear hcz15_1); (try clear hcz15_2); (try clear hcz18_0); (try clear hcz18_1); (try clear hcz18_2); (try clear hfz11_0); (try clear hfz11_1); (try clear hfz11_2); (try clear hfz15_0); (try clear hfz15_1); (try clear hfz15_2); (try clear hfz18_0); (try clear hfz18_1); (try clear hfz18_2); (try clear hx249_0); (try clear hx249_1); (try clear hx249_2); (try clear p2); (try clear p249); (try clear p3); (try clear q249)
  obtain ⟨kq, x13_7, rfl, HA, HJ7, BK247, BK250, HB⟩ := hcut
  cases kq with
  | zero => exact absurd HA.out (by simp [task_parted.j1])
  | succ kj7 => ?_
  have H := HA.out
  clear HA
  simp only [task_parted.j1] at H
  by_cases c19 : x13_7 = true
  · subst c19
    have H1 : (some false) = some r := by rw [if_pos rfl] at H; exact H
    clear H
    have H := H1
    clear H1
    obtain rfl := Option.some.inj H
    go_wp2
    repeat (go_step3; try go_wp2)
    go_ret
    exact ⟨by first | rfl | (simp [errW_none, errW_some] <;> rfl) | (simp [*, errW_none, errW_some] <;> rfl), HB.out⟩
  replace c19 := Bool.eq_false_iff.mpr c19
  subst c19
  have H1 : (if ((rd_T50 l1 x9_1).f0) = 3 then ((task_between.f ((rd_T50 l1 x9_1).f2) 0 (wrap64 ((l0_2.length : Int) - 1))).bind fun t253 => (task_parted.j2 kj7 l1 l1 (l1.length : Int) x9_1 t253 a0_0 l0_1 l0_2 l0_3 ((rd_T50 l1 x9_1).f0) ((rd_T50 l1 x9_1).f1) ((rd_T50 l1 x9_1).f2))) else (task_parted.j2 kj7 l1 l1 (l1.length : Int) x9_1 false a0_0 l0_1 l0_2 l0_3 ((rd_T50 l1 x9_1).f0) ((rd_T50 l1 x9_1).f1) ((rd_T50 l1 x9_1).f2))) = some r := by rw [if_neg (show ¬ (false = true) by decide)] at H; exact H
  clear H
  have H := H1
  clear H1
  have HC20 := Aside0.mk H
  clear H
  go_upto_region 6 with (fail)
  go_cut [24] (fun v24 wc => ∃ (kq : Nat) (x24_19 : Bool), v24 = .bool x24_19 ∧ Aside0 (task_parted.j2 kq l1 l1 (l1.length : Int) x9_1 x24_19 a0_0 l0_1 l0_2 l0_3 ((rd_T50 l1 x9_1).f0) ((rd_T50 l1 x9_1).f1) ((rd_T50 l1 x9_1).f2) = some r) ∧ Aside0 (kq ≤ kj7) ∧ Aside0 (wc.heap[gb247]? = some (.cells #[.int .i64 a0_0, (.slice A0_1 l0_1.length c0_1), (.slice A0_2 l0_2.length c0_2), (.slice A0_3 l0_3.length c0_3)] 37 (0, 0))) ∧ Aside0 (wc.heap[gb250]? = some (.cells #[.int .i64 ((rd_T50 l1 x9_1).f0), .int .i64 ((rd_T50 l1 x9_1).f1), .int .i64 ((rd_T50 l1 x9_1).f2)] 50 (0, 0))) ∧ Aside0 (Below w.heap.size w wc))
  case first =>
    have H := HC20.out
    clear HC20
    by_cases c21 : ((rd_T50 l1 x9_1).f0) = 3
    rotate_left
    · rw [if_neg c21] at H
      have c21b0 : (((rd_T50 l1 x9_1).f0) == 3) = false := beq_eq_false_iff_ne.mpr c21
      have c21b1 : (((rd_T50 l1 x9_1).f0) != 3) = true := bne_iff_ne.mpr c21
      (first | rw [c21b0] | (simp only [i64_w, i32_w]; rw [c21b0]) | skip)
      have H' := Aside0.mk H
      clear H
      have hnb22 := NB250_247.out
      have hnc22 := NB247_250.out
      have hcz23_0 : wc.cell? ⟨gb250, 0, none⟩ = some (.int .i64 ((rd_T50 l1 x9_1).f0)) := (blk_cell BK250.out 0).trans rfl
      have hcz23_1 : wc.cell? ⟨gb250, 1, none⟩ = some (.int .i64 ((rd_T50 l1 x9_1).f1)) := (blk_cell BK250.out 1).trans rfl
      have hcz23_2 : wc.cell? ⟨gb250, 2, none⟩ = some (.int .i64 ((rd_T50 l1 x9_1).f2)) := (blk_cell BK250.out 2).trans rfl
      have hfz23_0 := blk_frozen BK250.out 0
      have hfz23_1 := blk_frozen BK250.out 1
      have hfz23_2 := blk_frozen BK250.out 2
      go_wp2
      repeat (go_step3; try go_wp2)
      go_meet
      case rel => exact ⟨_, (false), (by first | rfl | (simp; done) | (simp [*]; done)), H', ⟨by have := HK1.out; have := HJ7.out; first | omega | exact Nat.le_refl _⟩, ⟨BK247.out⟩, ⟨BK250.out⟩, ⟨HB.out⟩⟩
    rw [if_pos c21] at H
    have c21b0 : (((rd_T50 l1 x9_1).f0) == 3) = true := beq_iff_eq.mpr c21
    have c21b1 : (((rd_T50 l1 x9_1).f0) != 3) = false := bne_eq_false_iff_eq.mpr c21
    clear c21
    (first | rw [c21b0] | (simp only [i64_w, i32_w]; rw [c21b0]) | skip)
    replace H := Option.bind_eq_some_iff.mp H
    obtain ⟨t253, A240, H⟩ := H
    replace H : (task_parted.j2 kj7 l1 l1 (l1.length : Int) x9_1 t253 a0_0 l0_1 l0_2 l0_3 ((rd_T50 l1 x9_1).f0) ((rd_T50 l1 x9_1).f1) ((rd_T50 l1 x9_1).f2)) = some r := H
    have A24 := Aside0.mk A240
    clear A240
    have H' := Aside0.mk H
    clear H
    have hnb25 := NB250_247.out
    have hnc25 := NB247_250.out
    have hcz26_0 : wc.cell? ⟨gb250, 0, none⟩ = some (.int .i64 ((rd_T50 l1 x9_1).f0)) := (blk_cell BK250.out 0).trans rfl
    have hcz26_1 : wc.cell? ⟨gb250, 1, none⟩ = some (.int .i64 ((rd_T50 l1 x9_1).f1)) := (blk_cell BK250.out 1).trans rfl
    have hcz26_2 : wc.cell? ⟨gb250, 2, none⟩ = some (.int .i64 ((rd_T50 l1 x9_1).f2)) := (blk_cell BK250.out 2).trans rfl
    have hfz26_0 := blk_frozen BK250.out 0
    have hfz26_1 := blk_frozen BK250.out 1
    have hfz26_2 := blk_frozen BK250.out 2
    have hcz27_0 : wc.cell? ⟨gb247, 0, none⟩ = some (.int .i64 a0_0) := (blk_cell BK247.out 0).trans rfl
    have hcz27_1 : wc.cell? ⟨gb247, 1, none⟩ = some (.slice A0_1 l0_1.length c0_1) := (blk_cell BK247.out 1).trans rfl
    have hcz27_2 : wc.cell? ⟨gb247, 2, none⟩ = some (.slice A0_2 l0_2.length c0_2) := (blk_cell BK247.out 2).trans rfl
    have hcz27_3 : wc.cell? ⟨gb247, 3, none⟩ = some (.slice A0_3 l0_3.length c0_3) := (blk_cell BK247.out 3).trans rfl
    have hfz27_0 := blk_frozen BK247.out 0
    have hfz27_1 := blk_frozen BK247.out 1
    have hfz27_2 := blk_frozen BK247.out 2
    have hfz27_3 := blk_frozen BK247.out 3
    go_wp2_with (first | (go_at_call 52; (with_reducible refine (task_between.calls ((rd_T50 l1 x9_1).f2) 0 (wrap64 ((l0_2.length : Int) - 1)) t253 _ A24.out).mono ?_); rintro e w' ⟨rfl, ⟨nd, rfl⟩⟩))
    repeat (go_step3; try go_wp2_with (first | (go_at_call 52; (with_reducible refine (task_between.calls ((rd_T50 l1 x9_1).f2) 0 (wrap64 ((l0_2.length : Int) - 1)) t253 _ A24.out).mono ?_); rintro e w' ⟨rfl, ⟨nd, rfl⟩⟩)))
    go_meet
    case rel => exact ⟨_, (t253), (by first | rfl | (simp; done) | (simp [*]; done)), H', ⟨by have := HK1.out; have := HJ7.out; first | omega | exact Nat.le_refl _⟩, ⟨by (with_reducible repeat (first | refine blk_drewN ?_ _ | refine blk_drew ?_ | refine blk_alloc ?_ _)); exact BK247.out⟩, ⟨by (with_reducible repeat (first | refine blk_drewN ?_ _ | refine blk_drew ?_ | refine blk_alloc ?_ _)); exact BK250.out⟩, ⟨by repeat (first | (with_reducible first | exact HB.out | apply below_alloc | apply pw_below_drewN | apply below_drew1 | refine below_set ?_ GE247.out | refine below_set ?_ GE250.out) | exact HB.out)⟩⟩
  clear HC20
  (try clear c1); (try clear c2); (try clear p2); (try clear q2); (try clear hx2); (try clear p3); (try clear c4); (try clear c4b0); (try clear c5); (try clear c6); (try clear c6b0); (try clear p6); (try clear c7); (try clear c7b0); (try clear c10); (try clear c13); (try clear c14); (try clear c17); (try clear c19); (try clear c21); (try clear c21b0); (try clear c21b1); (try clear c22); (try clear p24); (try clear q24); (try clear hx24); (try clear c25); (try clear hcz11_0); (try clear hcz11_1); (try clear hcz11_2); (try clear hcz15_0); (try clear hcz15_1); (try clear hcz15_2); (try clear hcz18_0); (try clear hcz18_1); (try clear hcz18_2); (try clear hcz23_0); (try clear hcz23_1); (try clear hcz23_2); (try clear hcz26_0); (try clear hcz26_1); (try clear hcz26_2); (try clear hcz27_0); (try clear hcz27_1); (try clear hcz27_2); (try clear hcz27_3); (try clear hfz11_0); (try clear hfz11_1); (try clear hfz11_2); (try clear hfz15_0); (try clear hfz15_1); (try clear hfz15_2); (try clear hfz18_0); (try clear hfz18_1); (try clear hfz18_2); (try clear hfz23_0); (try clear hfz23_1); (try clear hfz23_2); (try clear hfz26_0); (try clear hfz26_1); (try clear hfz26_2); (try clear hfz27_0); (try clear hfz27_1); (try clear hfz27_2); (try clear hfz27_3); (try clear hx249_0); (try clear hx249_1); (try clear hx249_2); (try clear p2); (try clear p249); (try clear p3); (try clear q2); (try clear q249)
  obtain ⟨kq, x24_19, rfl, HA, HJ19, BK247, BK250, HB⟩ := hcut
  cases kq with
  | zero => exact absurd HA.out (by simp [task_parted.j2])
  | succ kj19 => ?_
  have H := HA.out
  clear HA
  simp only [task_parted.j2] at H
  by_cases c28 : x24_19 = true
  · subst c28
    have H1 : (task_parted.l0 kj19 l1 l1 (l1.length : Int) (wrap64 (x9_1 + 1)) a0_0 l0_1 l0_2 l0_3) = some r := by rw [if_pos rfl] at H; exact H
    clear H
    have H := H1
    clear H1
    have H' := Aside0.mk H
    clear H
    go_wp2
    repeat (go_step3; try go_wp2)
    go_roundg kj19
    case measure => have := HK1.out; have := HJ7.out; have := HJ19.out; omega
    case rel => exact ⟨(wrap64 (x9_1 + 1)), (by first | rfl | (simp; done) | (simp [*]; done)), H', ⟨by have := HK1.out; have := HJ7.out; have := HJ19.out; omega⟩, ⟨BK247.out⟩, ⟨HB.out⟩⟩
  replace c28 := Bool.eq_false_iff.mpr c28
  subst c28
  have H1 : (if ((rd_T50 l1 x9_1).f0) = 3 then (some false) else (if ((rd_T50 l1 x9_1).f2) = 0 then (task_parted.l0 kj19 l1 l1 (l1.length : Int) (wrap64 (x9_1 + 1)) a0_0 l0_1 l0_2 l0_3) else (some false))) = some r := by rw [if_neg (show ¬ (false = true) by decide)] at H; exact H
  clear H
  have H := H1
  clear H1
  by_cases c29 : ((rd_T50 l1 x9_1).f0) = 3
  · rw [if_pos c29] at H
    have c29b0 : (((rd_T50 l1 x9_1).f0) == 3) = true := beq_iff_eq.mpr c29
    have c29b1 : (((rd_T50 l1 x9_1).f0) != 3) = false := bne_eq_false_iff_eq.mpr c29
    clear c29
    obtain rfl := Option.some.inj H
    have hnb30 := NB250_247.out
    have hnc30 := NB247_250.out
    have hcz31_0 : wc.cell? ⟨gb250, 0, none⟩ = some (.int .i64 ((rd_T50 l1 x9_1).f0)) := (blk_cell BK250.out 0).trans rfl
    have hcz31_1 : wc.cell? ⟨gb250, 1, none⟩ = some (.int .i64 ((rd_T50 l1 x9_1).f1)) := (blk_cell BK250.out 1).trans rfl
    have hcz31_2 : wc.cell? ⟨gb250, 2, none⟩ = some (.int .i64 ((rd_T50 l1 x9_1).f2)) := (blk_cell BK250.out 2).trans rfl
    have hfz31_0 := blk_frozen BK250.out 0
    have hfz31_1 := blk_frozen BK250.out 1
    have hfz31_2 := blk_frozen BK250.out 2
    go_wp2
    repeat (go_step3; try go_wp2)
    go_ret
    exact ⟨by first | rfl | (simp [errW_none, errW_some] <;> rfl) | (simp [*, errW_none, errW_some] <;> rfl), HB.out⟩
  rw [if_neg c29] at H
  have c29b0 : (((rd_T50 l1 x9_1).f0) == 3) = false := beq_eq_false_iff_ne.mpr c29
  have c29b1 : (((rd_T50 l1 x9_1).f0) != 3) = true := bne_iff_ne.mpr c29
  by_cases c32 : ((rd_T50 l1 x9_1).f2) = 0
  rotate_left
  · rw [if_neg c32] at H
    have c32b0 : (((rd_T50 l1 x9_1).f2) == 0) = false := beq_eq_false_iff_ne.mpr c32
    have c32b1 : (((rd_T50 l1 x9_1).f2) != 0) = true := bne_iff_ne.mpr c32
    obtain rfl := Option.some.inj H
    have hnb33 := NB250_247.out
    have hnc33 := NB247_250.out
    have hcz34_0 : wc.cell? ⟨gb250, 0, none⟩ = some (.int .i64 ((rd_T50 l1 x9_1).f0)) := (blk_cell BK250.out 0).trans rfl
    have hcz34_1 : wc.cell? ⟨gb250, 1, none⟩ = some (.int .i64 ((rd_T50 l1 x9_1).f1)) := (blk_cell BK250.out 1).trans rfl
    have hcz34_2 : wc.cell? ⟨gb250, 2, none⟩ = some (.int .i64 ((rd_T50 l1 x9_1).f2)) := (blk_cell BK250.out 2).trans rfl
    have hfz34_0 := blk_frozen BK250.out 0
    have hfz34_1 := blk_frozen BK250.out 1
    have hfz34_2 := blk_frozen BK250.out 2
    go_wp2
    repeat (go_step3; try go_wp2)
    go_ret
    exact ⟨by first | rfl | (simp [errW_none, errW_some] <;> rfl) | (simp [*, errW_none, errW_some] <;> rfl), HB.out⟩
  rw [if_pos c32] at H
  have c32b0 : (((rd_T50 l1 x9_1).f2) == 0) = true := beq_iff_eq.mpr c32
  have c32b1 : (((rd_T50 l1 x9_1).f2) != 0) = false := bne_eq_false_iff_eq.mpr c32
  clear c32
  have H' := Aside0.mk H
  clear H
  have hnb35 := NB250_247.out
  have hnc35 := NB247_250.out
  have hcz36_0 : wc.cell? ⟨gb250, 0, none⟩ = some (.int .i64 ((rd_T50 l1 x9_1).f0)) := (blk_cell BK250.out 0).trans rfl
  have hcz36_1 : wc.cell? ⟨gb250, 1, none⟩ = some (.int .i64 ((rd_T50 l1 x9_1).f1)) := (blk_cell BK250.out 1).trans rfl
  have hcz36_2 : wc.cell? ⟨gb250, 2, none⟩ = some (.int .i64 ((rd_T50 l1 x9_1).f2)) := (blk_cell BK250.out 2).trans rfl
  have hfz36_0 := blk_frozen BK250.out 0
  have hfz36_1 := blk_frozen BK250.out 1
  have hfz36_2 := blk_frozen BK250.out 2
  go_wp2
  repeat (go_step3; try go_wp2)
  go_roundg kj19
  case measure => have := HK1.out; have := HJ7.out; have := HJ19.out; omega
  case rel => exact ⟨(wrap64 (x9_1 + 1)), (by first | rfl | (simp; done) | (simp [*]; done)), H', ⟨by have := HK1.out; have := HJ7.out; have := HJ19.out; omega⟩, ⟨BK247.out⟩, ⟨HB.out⟩⟩
end Go.Proofs.YtgkjoodlcojkkaaDoor.QD
end
section
namespace Go.Proofs.YtgkjoodlcojkkaaDoor.QD
open Go.RowKit Go.Proofs.YtgkjoodlcojkkaaDoorW.PrintWords Go.Proofs.YtgkjoodlcojkkaaDoorW.PrintLast Go.Proofs.YtgkjoodlcojkkaaDoorW.PrintMore
attribute [local go_sem] max2_int min2_int max_two min_two max_three min_three max_four min_four
set_option linter.unusedVariables false
set_option linter.unusedSimpArgs false
def btw (a b c : Int) : Bool := decide (b ≤ a) && decide (a ≤ c)
theorem between_any (a b c : Int) (w : World) : Calls Tryd.prog 52 #[.int .i64 a, .int .i64 b, .int .i64 c] w fun e w' => e = .returned (.bool (btw a b c)) ∧ Drawn0 w w' := by
  refine task_between.calls a b c (btw a b c) w ?_
  unfold task_between.f btw
  by_cases h : a ≥ b
  · rw [if_pos h]; have h' : b ≤ a := h; simp [h']
  · rw [if_neg h]; have h' : ¬ b ≤ a := h; simp [h']
theorem core_any (n : Int) (w : World) : Calls Tryd.prog 70 #[.int .i64 n] w fun e w' => e = .returned (.bool (!btw n 1 3)) ∧ Drawn0 w w' := by
  go_enter Tryd.func70, Tryd.ntmps70
  go_wp2_with (go_at_call 52; refine (between_any _ _ _ _).mono ?_; rintro e w' ⟨rfl, ⟨nd, rfl⟩⟩)
  go_ret
  exact ⟨rfl, ⟨⟨nd, rfl⟩⟩⟩
def SomeIdx (b : Bool) (w : World) (e : Ending) (w' : World) : Prop := ∃ n : Int, e = .returned (.int .i64 n) ∧ decide (0 ≤ n) = b ∧ Below w.heap.size w w'
theorem any_step (p : Int → Bool) (xs : List Int) (k : Nat) (hk : k < xs.length) (h : (xs.take k).any p = false) (hp : p (rd xs k) = false) : (xs.take (k + 1)).any p = false := by
  rw [List.take_succ_eq_append_getElem hk, List.any_append, h]
  have e : rd xs (k : Int) = xs[k] := by simp [rd, hk]
  rw [e] at hp
  simp [hp]
theorem any_hit (p : Int → Bool) (xs : List Int) (k : Nat) (hk : k < xs.length) (hp : p (rd xs k) = true) : xs.any p = true := by
  have e : rd xs (k : Int) = xs[k] := by simp [rd, hk]
  rw [e] at hp
  exact List.any_eq_true.2 ⟨xs[k], List.getElem_mem hk, hp⟩
set_option maxHeartbeats 1000000 in
theorem index_core (A : Option Addr) (c : Nat) (xs : List Int) (w : World) (hr : Kd.C (Kd.int .i64) w A xs.length xs) (hn : xs.length ≤ 4611686018427387904) :
    Calls Tryd.prog 93 #[.slice A xs.length c, .func (.func 70) #[] #[]] w (SomeIdx (xs.any fun n => !btw n 1 3) w) := by
  have HR := Aside0.mk hr
  clear hr
  go_enter Tryd.func93, Tryd.ntmps93
  go_wp2
  go_loopg [8] xs.length (fun kq v8 w' => ∃ (k : Nat), v8 = .int .i64 k ∧ Aside0 (kq + k = xs.length) ∧ Aside0 ((xs.take k).any (fun n => !btw n 1 3) = false) ∧ Drawn0 w w')
  case atStart => exact ⟨0, rfl, ⟨by omega⟩, ⟨rfl⟩, Drawn0.refl _⟩
  obtain ⟨k, rfl, HK, HN, ⟨m, rfl⟩⟩ := hrel
  by_cases hlt : k < xs.length
  · have p0 : (0 : Int) ≤ (k : Int) := by omega
    have q0 : (k : Int) < (xs.length : Int) := by omega
    obtain ⟨ad, e, hx⟩ := Kd.at_int HR.out (k : Int) p0 q0
    cases e
    simp only [Int.toNat_natCast] at hx
    have HS := Aside0.mk (any_step (fun n => !btw n 1 3) xs k hlt HN.out)
    have HH := Aside0.mk (any_hit (fun n => !btw n 1 3) xs k hlt)
    have HL := Aside0.mk hlt
    cases hb : btw (rd xs (k : Int)) 1 3 with
    | true =>
      have HBT := Aside0.mk hb
      go_wp2_with (go_at_call 70; refine (core_any _ _).mono ?_; rintro e w' ⟨rfl, ⟨nd, rfl⟩⟩)
      go_roundg (gk - 1)
      case measure => have := HL.out; have := HK.out; omega
      case rel => exact ⟨k + 1, by go_num, ⟨by have := HL.out; have := HK.out; omega⟩, ⟨HS.out (by simp [HBT.out])⟩, ⟨⟨_, rfl⟩⟩⟩
    | false =>
      have HBT := Aside0.mk hb
      go_wp2_with (go_at_call 70; refine (core_any _ _).mono ?_; rintro e w' ⟨rfl, ⟨nd, rfl⟩⟩)
      go_ret
      exact ⟨_, rfl, by rw [HH.out (by simp [HBT.out])]; simp, by repeat (first | exact Below.refl _ _ | apply pw_below_drewN | apply below_drew1)⟩
  · have hk : xs.length ≤ k := by omega
    have HE := Aside0.mk (show xs.any (fun n => !btw n 1 3) = false by have h := HN.out; rwa [List.take_of_length_le hk] at h)
    go_wp2
    go_ret
    exact ⟨_, rfl, by rw [HE.out]; simp, by repeat (first | exact Below.refl _ _ | apply pw_below_drewN | apply below_drew1)⟩
theorem home_any (n : Int) (g : Nat) (a0 : Int) (A1 : Option Addr) (n1 c1 : Nat) (A2 : Option Addr) (n2 c2 : Nat) (A3 : Option Addr) (n3 c3 : Nat) (w : World)
    (hbx : w.heap[g]? = some (.cells #[.int .i64 a0, .slice A1 n1 c1, .slice A2 n2 c2, .slice A3 n3 c3] 37 (0, 0))) (hn1 : n1 ≤ 4611686018427387904) :
    Calls Tryd.prog 71 #[.int .i64 n, .pointer (some ⟨g, 0, none⟩)] w fun e w' => e = .returned (.bool (!btw n 0 ((n1 : Int) - 1))) ∧ Drawn0 w w' := by
  have hu37 := Tryd.underlying37
  have hc1 : w.cell? ⟨g, 1, none⟩ = some (.slice A1 n1 c1) := (blk_cell hbx 1).trans rfl
  clear hbx
  go_enter Tryd.func71, Tryd.ntmps71
  go_wp2_with (go_at_call 52; refine (between_any _ _ _ _).mono ?_; rintro e w' ⟨rfl, ⟨nd, rfl⟩⟩)
  go_ret
  exact ⟨rfl, ⟨⟨nd, rfl⟩⟩⟩
set_option maxHeartbeats 1000000 in
theorem index_home (A : Option Addr) (c : Nat) (xs : List Int) (g : Nat) (a0 : Int) (A1 : Option Addr) (n1 c1 : Nat) (A2 : Option Addr) (n2 c2 : Nat) (A3 : Option Addr) (n3 c3 : Nat) (w : World) (hbx : w.heap[g]? = some (.cells #[.int .i64 a0, .slice A1 n1 c1, .slice A2 n2 c2, .slice A3 n3 c3] 37 (0, 0))) (hn1 : n1 ≤ 4611686018427387904) (hr : Kd.C (Kd.int .i64) w A xs.length xs) (hn : xs.length ≤ 4611686018427387904) :
    Calls Tryd.prog 93 #[.slice A xs.length c, .func (.func 71) #[] #[.pointer (some ⟨g, 0, none⟩)]] w (SomeIdx (xs.any fun n => !btw n 0 ((n1 : Int) - 1)) w) := by
  have HR := Aside0.mk hr
  have HBX := Aside0.mk hbx
  clear hr hbx
  go_enter Tryd.func93, Tryd.ntmps93
  go_wp2
  go_loopg [8] xs.length (fun kq v8 w' => ∃ (k : Nat), v8 = .int .i64 k ∧ Aside0 (kq + k = xs.length) ∧ Aside0 ((xs.take k).any (fun n => !btw n 0 ((n1 : Int) - 1)) = false) ∧ Drawn0 w w')
  case atStart => exact ⟨0, rfl, ⟨by omega⟩, ⟨rfl⟩, Drawn0.refl _⟩
  obtain ⟨k, rfl, HK, HN, ⟨m, rfl⟩⟩ := hrel
  by_cases hlt : k < xs.length
  · have p0 : (0 : Int) ≤ (k : Int) := by omega
    have q0 : (k : Int) < (xs.length : Int) := by omega
    obtain ⟨ad, e, hx⟩ := Kd.at_int HR.out (k : Int) p0 q0
    cases e
    simp only [Int.toNat_natCast] at hx
    have HS := Aside0.mk (any_step (fun n => !btw n 0 ((n1 : Int) - 1)) xs k hlt HN.out)
    have HH := Aside0.mk (any_hit (fun n => !btw n 0 ((n1 : Int) - 1)) xs k hlt)
    have HL := Aside0.mk hlt
    cases hb : btw (rd xs (k : Int)) 0 ((n1 : Int) - 1) with
    | true =>
      have HBT := Aside0.mk hb
      go_wp2_with (go_at_call 71; refine (home_any _ g a0 A1 n1 c1 A2 n2 c2 A3 n3 c3 _ (blk_drewN HBX.out _) hn1).mono ?_; rintro e w' ⟨rfl, ⟨nd, rfl⟩⟩)
      go_roundg (gk - 1)
      case measure => have := HL.out; have := HK.out; omega
      case rel => exact ⟨k + 1, by go_num, ⟨by have := HL.out; have := HK.out; omega⟩, ⟨HS.out (by simp [HBT.out])⟩, ⟨⟨_, rfl⟩⟩⟩
    | false =>
      have HBT := Aside0.mk hb
      go_wp2_with (go_at_call 71; refine (home_any _ g a0 A1 n1 c1 A2 n2 c2 A3 n3 c3 _ (blk_drewN HBX.out _) hn1).mono ?_; rintro e w' ⟨rfl, ⟨nd, rfl⟩⟩)
      go_ret
      exact ⟨_, rfl, by rw [HH.out (by simp [HBT.out])]; simp, by repeat (first | exact Below.refl _ _ | apply pw_below_drewN | apply below_drew1)⟩
  · have hk : xs.length ≤ k := by omega
    have HE := Aside0.mk (show xs.any (fun n => !btw n 0 ((n1 : Int) - 1)) = false by have h := HN.out; rwa [List.take_of_length_le hk] at h)
    go_wp2
    go_ret
    exact ⟨_, rfl, by rw [HE.out]; simp, by repeat (first | exact Below.refl _ _ | apply pw_below_drewN | apply below_drew1)⟩
def twb (o0 : ByteArray) (o3 : Int) (t0 : ByteArray) (t3 : Int) : Bool := (o0.toList == t0.toList) || (o3 == t3)
set_option maxHeartbeats 1000000 in
theorem twice_any (o : S53) (Ao : Option Addr) (co : Nat) (g : Nat) (t0 : ByteArray) (t1 t2 t3 t4 : Int) (A5 : Option Addr) (n5 c5 : Nat) (w : World)
    (hbx : w.heap[g]? = some (.cells #[.string t0, .int .i64 t1, .int .i64 t2, .int .i64 t3, .int .i64 t4, .slice A5 n5 c5] 53 (0, 0))) :
    Calls Tryd.prog 73 #[.agg #[.string o.f0, .int .i64 o.f1, .int .i64 o.f2, .int .i64 o.f3, .int .i64 o.f4, .slice Ao o.f5.length co], .pointer (some ⟨g, 0, none⟩)] w fun e w' => e = .returned (.bool (twb o.f0 o.f3 t0 t3)) ∧ Below w.heap.size w w' := by
  have hu53 := Tryd.underlying53
  have HG := Aside0.mk (blk_lt hbx)
  have hc0 : ∀ ob, (w.alloc ob).cell? ⟨g, 0, none⟩ = some (.string t0) := fun ob => (blk_cell (blk_alloc hbx ob) 0).trans rfl
  have hc3 : ∀ ob, (w.alloc ob).cell? ⟨g, 3, none⟩ = some (.int .i64 t3) := fun ob => (blk_cell (blk_alloc hbx ob) 3).trans rfl
  clear hbx
  cases h1 : (o.f0.toList == t0.toList) with
  | true =>
    have HE : Aside0 (twb o.f0 o.f3 t0 t3 = true) := ⟨by unfold twb; simp only [h1, Bool.true_or]⟩
    go_enter Tryd.func73, Tryd.ntmps73
    go_wp2
    go_ret
    exact ⟨by rw [HE.out]; rfl, (Below.refl _ _).alloc (Nat.le_refl _) _⟩
  | false =>
    cases h2 : (o.f3 == t3) with
    | true =>
      have HE : Aside0 (twb o.f0 o.f3 t0 t3 = true) := ⟨by unfold twb; rw [h1, h2]; rfl⟩
      go_enter Tryd.func73, Tryd.ntmps73
      go_wp2
      go_ret
      exact ⟨by rw [HE.out]; rfl, (Below.refl _ _).alloc (Nat.le_refl _) _⟩
    | false =>
      have HE : Aside0 (twb o.f0 o.f3 t0 t3 = false) := ⟨by unfold twb; rw [h1, h2]; rfl⟩
      go_enter Tryd.func73, Tryd.ntmps73
      go_wp2
      go_ret
      exact ⟨by rw [HE.out]; rfl, (Below.refl _ _).alloc (Nat.le_refl _) _⟩
theorem any_stepT (p : S53 → Bool) (xs : List S53) (k : Nat) (hk : k < xs.length) (h : (xs.take k).any p = false) (hp : p (rd_T53 xs k) = false) : (xs.take (k + 1)).any p = false := by
  rw [List.take_succ_eq_append_getElem hk, List.any_append, h]
  have e : rd_T53 xs (k : Int) = xs[k] := by simp [rd_T53, hk]
  rw [e] at hp
  simp [hp]
theorem any_hitT (p : S53 → Bool) (xs : List S53) (k : Nat) (hk : k < xs.length) (hp : p (rd_T53 xs k) = true) : xs.any p = true := by
  have e : rd_T53 xs (k : Int) = xs[k] := by simp [rd_T53, hk]
  rw [e] at hp
  exact List.any_eq_true.2 ⟨xs[k], List.getElem_mem hk, hp⟩
set_option maxHeartbeats 2000000 in
theorem index_twice (A : Option Addr) (c : Nat) (xs : List S53) (g : Nat) (t0 : ByteArray) (t1 t2 t3 t4 : Int) (A5 : Option Addr) (n5 c5 : Nat) (w : World)
    (hbx : w.heap[g]? = some (.cells #[.string t0, .int .i64 t1, .int .i64 t2, .int .i64 t3, .int .i64 t4, .slice A5 n5 c5] 53 (0, 0))) (hr : Kd.C k53 w A xs.length xs) (hn : xs.length ≤ 4611686018427387904) :
    Calls Tryd.prog 94 #[.slice A xs.length c, .func (.func 73) #[] #[.pointer (some ⟨g, 0, none⟩)]] w (SomeIdx (xs.any fun o => twb o.f0 o.f3 t0 t3) w) := by
  have hu53 := Tryd.underlying53
  have HR := Aside0.mk hr
  have HBX := Aside0.mk hbx
  clear hr hbx
  go_enter Tryd.func94, Tryd.ntmps94
  go_wp2
  go_loopg [8] xs.length (fun kq v8 w' => ∃ (k : Nat), v8 = .int .i64 k ∧ Aside0 (kq + k = xs.length) ∧ Aside0 ((xs.take k).any (fun o => twb o.f0 o.f3 t0 t3) = false) ∧ Aside0 (Below w.heap.size w w'))
  case atStart => exact ⟨0, rfl, ⟨by omega⟩, ⟨rfl⟩, ⟨Below.refl _ _⟩⟩
  obtain ⟨k, rfl, HK, HN, HB⟩ := hrel
  by_cases hlt : k < xs.length
  · have p0 : (0 : Int) ≤ (k : Int) := by omega
    have q0 : (k : Int) < (xs.length : Int) := by omega
    obtain ⟨ad, A6, c6, e, hx0, hx1, hx2, hx3, hx4, hx5, hl6, hi6⟩ := at_T53 (Kd.C_below HR.out HB.out) (k : Int) p0 q0
    cases e
    simp only [Int.toNat_natCast] at hx0 hx1 hx2 hx3 hx4 hx5
    clear hl6 hi6
    have HS := Aside0.mk (any_stepT (fun o => twb o.f0 o.f3 t0 t3) xs k hlt HN.out)
    have HH := Aside0.mk (any_hitT (fun o => twb o.f0 o.f3 t0 t3) xs k hlt)
    have HL := Aside0.mk hlt
    have HBX2 := Aside0.mk (blk_below HBX.out HB.out)
    cases hb : twb (rd_T53 xs (k : Int)).f0 (rd_T53 xs (k : Int)).f3 t0 t3 with
    | true =>
      have HBT := Aside0.mk hb
      clear hb
      go_wp2_with (go_at_call 73; refine (twice_any (rd_T53 xs (k : Int)) A6 c6 g t0 t1 t2 t3 t4 A5 n5 c5 _ HBX2.out).mono ?_; rintro e w' ⟨rfl, hb⟩; rw [HBT.out]; have HB3 := Aside0.mk hb; clear hb)
      go_ret
      exact ⟨_, rfl, by rw [HH.out HBT.out]; simp, below_step HB.out HB3.out⟩
    | false =>
      have HBT := Aside0.mk hb
      clear hb
      go_wp2_with (go_at_call 73; refine (twice_any (rd_T53 xs (k : Int)) A6 c6 g t0 t1 t2 t3 t4 A5 n5 c5 _ HBX2.out).mono ?_; rintro e w' ⟨rfl, hb⟩; rw [HBT.out]; have HB3 := Aside0.mk hb; clear hb)
      go_roundg (gk - 1)
      case measure => have := HL.out; have := HK.out; omega
      case rel => exact ⟨k + 1, by go_num, ⟨by have := HL.out; have := HK.out; omega⟩, ⟨HS.out HBT.out⟩, ⟨below_step HB.out HB3.out⟩⟩
  · have hk : xs.length ≤ k := by omega
    have HE := Aside0.mk (show xs.any (fun o => twb o.f0 o.f3 t0 t3) = false by have h := HN.out; rwa [List.take_of_length_le hk] at h)
    go_wp2
    go_ret
    exact ⟨_, rfl, by rw [HE.out]; simp, HB.out⟩
theorem contains_core (A : Option Addr) (c : Nat) (xs : List Int) (w : World) (hr : Kd.C (Kd.int .i64) w A xs.length xs) (hn : xs.length ≤ 4611686018427387904) :
    Calls Tryd.prog 72 #[.slice A xs.length c, .func (.func 70) #[] #[]] w fun e w' => e = .returned (.bool (xs.any fun n => !btw n 1 3)) ∧ Below w.heap.size w w' := by
  have HR := Aside0.mk hr
  clear hr
  go_enter Tryd.func72, Tryd.ntmps72
  go_wp2_with (go_at_call 93; refine (index_core A c xs _ HR.out hn).mono ?_; rintro e w' ⟨n, rfl, hd, hb⟩; have HD := Aside0.mk hd; have HB := Aside0.mk hb; clear hd hb)
  go_ret
  exact ⟨by rw [HD.out]; rfl, HB.out⟩
theorem contains_home (A : Option Addr) (c : Nat) (xs : List Int) (g : Nat) (a0 : Int) (A1 : Option Addr) (n1 c1 : Nat) (A2 : Option Addr) (n2 c2 : Nat) (A3 : Option Addr) (n3 c3 : Nat) (w : World) (hbx : w.heap[g]? = some (.cells #[.int .i64 a0, .slice A1 n1 c1, .slice A2 n2 c2, .slice A3 n3 c3] 37 (0, 0))) (hn1 : n1 ≤ 4611686018427387904) (hr : Kd.C (Kd.int .i64) w A xs.length xs) (hn : xs.length ≤ 4611686018427387904) :
    Calls Tryd.prog 72 #[.slice A xs.length c, .func (.func 71) #[] #[.pointer (some ⟨g, 0, none⟩)]] w fun e w' => e = .returned (.bool (xs.any fun n => !btw n 0 ((n1 : Int) - 1))) ∧ Below w.heap.size w w' := by
  have HR := Aside0.mk hr
  have HBX := Aside0.mk hbx
  clear hr hbx
  go_enter Tryd.func72, Tryd.ntmps72
  go_wp2_with (go_at_call 93; refine (index_home A c xs g a0 A1 n1 c1 A2 n2 c2 A3 n3 c3 _ HBX.out hn1 HR.out hn).mono ?_; rintro e w' ⟨n, rfl, hd, hb⟩; have HD := Aside0.mk hd; have HB := Aside0.mk hb; clear hd hb)
  go_ret
  exact ⟨by rw [HD.out]; rfl, HB.out⟩
theorem contains_twice (A : Option Addr) (c : Nat) (xs : List S53) (g : Nat) (t0 : ByteArray) (t1 t2 t3 t4 : Int) (A5 : Option Addr) (n5 c5 : Nat) (w : World)
    (hbx : w.heap[g]? = some (.cells #[.string t0, .int .i64 t1, .int .i64 t2, .int .i64 t3, .int .i64 t4, .slice A5 n5 c5] 53 (0, 0))) (hr : Kd.C k53 w A xs.length xs) (hn : xs.length ≤ 4611686018427387904) :
    Calls Tryd.prog 74 #[.slice A xs.length c, .func (.func 73) #[] #[.pointer (some ⟨g, 0, none⟩)]] w fun e w' => e = .returned (.bool (xs.any fun o => twb o.f0 o.f3 t0 t3)) ∧ Below w.heap.size w w' := by
  have HR := Aside0.mk hr
  have HBX := Aside0.mk hbx
  clear hr hbx
  go_enter Tryd.func74, Tryd.ntmps74
  go_wp2_with (go_at_call 94; refine (index_twice A c xs g t0 t1 t2 t3 t4 A5 n5 c5 _ HBX.out HR.out hn).mono ?_; rintro e w' ⟨n, rfl, hd, hb⟩; have HD := Aside0.mk hd; have HB := Aside0.mk hb; clear hd hb)
  go_ret
  exact ⟨by rw [HD.out]; rfl, HB.out⟩
def plB (l1 l2 : List Int) : Bool := btw (l1.length : Int) 1 3 && decide (l2.length ≤ 4) && !(l1.any fun n => !btw n 1 3) && !(l2.any fun n => !btw n 0 ((l1.length : Int) - 1))
def task_placed.f (a0_0 : Int) (l0_1 : List Int) (l0_2 : List Int) (l0_3 : List (S53)) : Option (Bool) := some (plB l0_1 l0_2)
set_option maxHeartbeats 2000000 in
set_option maxRecDepth 100000 in
theorem task_placed.calls (a0_0 : Int) (A0_1 : Option Addr) (c0_1 : Nat) (l0_1 : List Int) (A0_2 : Option Addr) (c0_2 : Nat) (l0_2 : List Int) (A0_3 : Option Addr) (c0_3 : Nat) (l0_3 : List (S53)) (r : Bool) (w : World) (hr0_1 : Kd.C (Kd.int .i64) w A0_1 l0_1.length l0_1) (hc0_1 : l0_1.length ≤ c0_1) (hr0_2 : Kd.C (Kd.int .i64) w A0_2 l0_2.length l0_2) (hc0_2 : l0_2.length ≤ c0_2) (hr0_3 : Kd.C k53 w A0_3 l0_3.length l0_3) (hc0_3 : l0_3.length ≤ c0_3) (h : task_placed.f a0_0 l0_1 l0_2 l0_3 = some r) :
    Calls Tryd.prog 53 #[.agg #[.int .i64 a0_0, .slice A0_1 l0_1.length c0_1, .slice A0_2 l0_2.length c0_2, .slice A0_3 l0_3.length c0_3]] w fun e w' => e = .returned (.bool r) ∧ Below w.heap.size w w' := by
  have hu37 := Tryd.underlying37
  have HR1 := Aside0.mk hr0_1
  have HR2 := Aside0.mk hr0_2
  clear hr0_1 hr0_2 hr0_3 hc0_1 hc0_2 hc0_3
  obtain rfl := Option.some.inj h
  clear h
  cases hf1 : btw (l0_1.length : Int) 1 3 with
  | false =>
    have HE : Aside0 (plB l0_1 l0_2 = false) := ⟨by unfold plB; rw [hf1]; rfl⟩
    have HF := Aside0.mk hf1
    clear hf1
    go_enter Tryd.func53, Tryd.ntmps53
    go_wp2_with (first | ((with_reducible refine gate_dst (N := 1) rfl ?_); (try (refine gate_guard (by rfl) ?_; dsimp only)); refine box_event ?hg (N := 1) ?hd (cs := #[.int .i64 a0_0, .slice A0_1 l0_1.length c0_1, .slice A0_2 l0_2.length c0_2, .slice A0_3 l0_3.length c0_3]) (t := 37) ?hr ?_; (case hd => rfl); (case hg => rfl); (case hr => first | (go_simp; done) | (go_simp; rfl)); intro gb hg w1 hbox hb; have BK := Aside0.mk hbox; have HB := Aside0.mk hb; clear hg hbox hb; have hza_1 : w1.cell? ⟨gb, 1, none⟩ = some (.slice A0_1 l0_1.length c0_1) := (blk_cell BK.out 1).trans rfl; have hza_2 : w1.cell? ⟨gb, 2, none⟩ = some (.slice A0_2 l0_2.length c0_2) := (blk_cell BK.out 2).trans rfl) | (go_at_call 52; refine (between_any _ _ _ _).mono ?_; rintro e w' ⟨rfl, ⟨nd, rfl⟩⟩; rw [HF.out]))
    go_ret
    exact ⟨by rw [HE.out]; rfl, by repeat (first | exact HB.out | apply pw_below_drewN)⟩
  | true =>
    have HF := Aside0.mk hf1
    have HL1 : Aside0 (l0_1.length ≤ 4611686018427387904) := ⟨by have h := hf1; unfold btw at h; simp only [Bool.and_eq_true, decide_eq_true_eq] at h; omega⟩
    by_cases hf2 : l0_2.length ≤ 4
    rotate_left
    · have HE : Aside0 (plB l0_1 l0_2 = false) := ⟨by unfold plB; rw [hf1]; simp [hf2]⟩
      clear hf1
      go_enter Tryd.func53, Tryd.ntmps53
      go_wp2_with (first | ((with_reducible refine gate_dst (N := 1) rfl ?_); (try (refine gate_guard (by rfl) ?_; dsimp only)); refine box_event ?hg (N := 1) ?hd (cs := #[.int .i64 a0_0, .slice A0_1 l0_1.length c0_1, .slice A0_2 l0_2.length c0_2, .slice A0_3 l0_3.length c0_3]) (t := 37) ?hr ?_; (case hd => rfl); (case hg => rfl); (case hr => first | (go_simp; done) | (go_simp; rfl)); intro gb hg w1 hbox hb; have BK := Aside0.mk hbox; have HB := Aside0.mk hb; clear hg hbox hb; have hza_1 : w1.cell? ⟨gb, 1, none⟩ = some (.slice A0_1 l0_1.length c0_1) := (blk_cell BK.out 1).trans rfl; have hza_2 : w1.cell? ⟨gb, 2, none⟩ = some (.slice A0_2 l0_2.length c0_2) := (blk_cell BK.out 2).trans rfl) | (go_at_call 52; refine (between_any _ _ _ _).mono ?_; rintro e w' ⟨rfl, ⟨nd, rfl⟩⟩; rw [HF.out]))
      go_ret
      exact ⟨by rw [HE.out]; rfl, by repeat (first | exact HB.out | apply pw_below_drewN)⟩
    have HL2 : Aside0 (l0_2.length ≤ 4611686018427387904) := ⟨by omega⟩
    cases hf3 : (l0_1.any fun n => !btw n 1 3) with
    | true =>
      have HE : Aside0 (plB l0_1 l0_2 = false) := ⟨by unfold plB; rw [hf1, hf3]; simp⟩
      have HA := Aside0.mk hf3
      clear hf1 hf3
      go_enter Tryd.func53, Tryd.ntmps53
      go_wp2_with (first | ((with_reducible refine gate_dst (N := 1) rfl ?_); (try (refine gate_guard (by rfl) ?_; dsimp only)); refine box_event ?hg (N := 1) ?hd (cs := #[.int .i64 a0_0, .slice A0_1 l0_1.length c0_1, .slice A0_2 l0_2.length c0_2, .slice A0_3 l0_3.length c0_3]) (t := 37) ?hr ?_; (case hd => rfl); (case hg => rfl); (case hr => first | (go_simp; done) | (go_simp; rfl)); intro gb hg w1 hbox hb; have BK := Aside0.mk hbox; have HB := Aside0.mk hb; clear hg hbox hb; have hza_1 : w1.cell? ⟨gb, 1, none⟩ = some (.slice A0_1 l0_1.length c0_1) := (blk_cell BK.out 1).trans rfl; have hza_2 : w1.cell? ⟨gb, 2, none⟩ = some (.slice A0_2 l0_2.length c0_2) := (blk_cell BK.out 2).trans rfl) | (go_at_call 52; refine (between_any _ _ _ _).mono ?_; rintro e w' ⟨rfl, ⟨nd, rfl⟩⟩; rw [HF.out]) | ((go_at_call 72); (with_reducible refine (contains_core A0_1 c0_1 l0_1 _ (Kd.C_below HR1.out (pw_below_drewN HB.out _)) HL1.out).mono ?_); rintro e w2 ⟨rfl, hb⟩; have HB4 := Aside0.mk (below_step (pw_below_drewN HB.out nd) hb); have BK4 := Aside0.mk (blk_below (blk_drewN BK.out nd) hb); clear hb; rw [HA.out]; have hzb_1 : w2.cell? ⟨gb, 1, none⟩ = some (.slice A0_1 l0_1.length c0_1) := (blk_cell BK4.out 1).trans rfl; have hzb_2 : w2.cell? ⟨gb, 2, none⟩ = some (.slice A0_2 l0_2.length c0_2) := (blk_cell BK4.out 2).trans rfl))
      go_ret
      exact ⟨by rw [HE.out]; rfl, HB4.out⟩
    | false =>
      have HA := Aside0.mk hf3
      cases hf4 : (l0_2.any fun n => !btw n 0 ((l0_1.length : Int) - 1)) with
      | true =>
        have HE : Aside0 (plB l0_1 l0_2 = false) := ⟨by unfold plB; rw [hf1, hf3, hf4]; simp⟩
        have HC := Aside0.mk hf4
        clear hf1 hf3 hf4
        go_enter Tryd.func53, Tryd.ntmps53
        go_wp2_with (first | ((with_reducible refine gate_dst (N := 1) rfl ?_); (try (refine gate_guard (by rfl) ?_; dsimp only)); refine box_event ?hg (N := 1) ?hd (cs := #[.int .i64 a0_0, .slice A0_1 l0_1.length c0_1, .slice A0_2 l0_2.length c0_2, .slice A0_3 l0_3.length c0_3]) (t := 37) ?hr ?_; (case hd => rfl); (case hg => rfl); (case hr => first | (go_simp; done) | (go_simp; rfl)); intro gb hg w1 hbox hb; have BK := Aside0.mk hbox; have HB := Aside0.mk hb; clear hg hbox hb; have hza_1 : w1.cell? ⟨gb, 1, none⟩ = some (.slice A0_1 l0_1.length c0_1) := (blk_cell BK.out 1).trans rfl; have hza_2 : w1.cell? ⟨gb, 2, none⟩ = some (.slice A0_2 l0_2.length c0_2) := (blk_cell BK.out 2).trans rfl) | (go_at_call 52; refine (between_any _ _ _ _).mono ?_; rintro e w' ⟨rfl, ⟨nd, rfl⟩⟩; rw [HF.out]) | ((go_at_call 72); (with_reducible refine (contains_core A0_1 c0_1 l0_1 _ (Kd.C_below HR1.out (pw_below_drewN HB.out _)) HL1.out).mono ?_); rintro e w2 ⟨rfl, hb⟩; have HB4 := Aside0.mk (below_step (pw_below_drewN HB.out nd) hb); have BK4 := Aside0.mk (blk_below (blk_drewN BK.out nd) hb); clear hb; rw [HA.out]; have hzb_1 : w2.cell? ⟨gb, 1, none⟩ = some (.slice A0_1 l0_1.length c0_1) := (blk_cell BK4.out 1).trans rfl; have hzb_2 : w2.cell? ⟨gb, 2, none⟩ = some (.slice A0_2 l0_2.length c0_2) := (blk_cell BK4.out 2).trans rfl) | ((go_at_call 72); (with_reducible refine (contains_home A0_2 c0_2 l0_2 gb a0_0 A0_1 l0_1.length c0_1 A0_2 l0_2.length c0_2 A0_3 l0_3.length c0_3 _ BK4.out HL1.out (Kd.C_below HR2.out HB4.out) HL2.out).mono ?_); rintro e w3 ⟨rfl, hb⟩; have HB5 := Aside0.mk (below_step HB4.out hb); clear hb; rw [HC.out]))
        go_ret
        exact ⟨by rw [HE.out]; rfl, HB5.out⟩
      | false =>
        have HE : Aside0 (plB l0_1 l0_2 = true) := ⟨by unfold plB; rw [hf1, hf3, hf4]; simp [hf2]⟩
        have HC := Aside0.mk hf4
        clear hf1 hf3 hf4
        go_enter Tryd.func53, Tryd.ntmps53
        go_wp2_with (first | ((with_reducible refine gate_dst (N := 1) rfl ?_); (try (refine gate_guard (by rfl) ?_; dsimp only)); refine box_event ?hg (N := 1) ?hd (cs := #[.int .i64 a0_0, .slice A0_1 l0_1.length c0_1, .slice A0_2 l0_2.length c0_2, .slice A0_3 l0_3.length c0_3]) (t := 37) ?hr ?_; (case hd => rfl); (case hg => rfl); (case hr => first | (go_simp; done) | (go_simp; rfl)); intro gb hg w1 hbox hb; have BK := Aside0.mk hbox; have HB := Aside0.mk hb; clear hg hbox hb; have hza_1 : w1.cell? ⟨gb, 1, none⟩ = some (.slice A0_1 l0_1.length c0_1) := (blk_cell BK.out 1).trans rfl; have hza_2 : w1.cell? ⟨gb, 2, none⟩ = some (.slice A0_2 l0_2.length c0_2) := (blk_cell BK.out 2).trans rfl) | (go_at_call 52; refine (between_any _ _ _ _).mono ?_; rintro e w' ⟨rfl, ⟨nd, rfl⟩⟩; rw [HF.out]) | ((go_at_call 72); (with_reducible refine (contains_core A0_1 c0_1 l0_1 _ (Kd.C_below HR1.out (pw_below_drewN HB.out _)) HL1.out).mono ?_); rintro e w2 ⟨rfl, hb⟩; have HB4 := Aside0.mk (below_step (pw_below_drewN HB.out nd) hb); have BK4 := Aside0.mk (blk_below (blk_drewN BK.out nd) hb); clear hb; rw [HA.out]; have hzb_1 : w2.cell? ⟨gb, 1, none⟩ = some (.slice A0_1 l0_1.length c0_1) := (blk_cell BK4.out 1).trans rfl; have hzb_2 : w2.cell? ⟨gb, 2, none⟩ = some (.slice A0_2 l0_2.length c0_2) := (blk_cell BK4.out 2).trans rfl) | ((go_at_call 72); (with_reducible refine (contains_home A0_2 c0_2 l0_2 gb a0_0 A0_1 l0_1.length c0_1 A0_2 l0_2.length c0_2 A0_3 l0_3.length c0_3 _ BK4.out HL1.out (Kd.C_below HR2.out HB4.out) HL2.out).mono ?_); rintro e w3 ⟨rfl, hb⟩; have HB5 := Aside0.mk (below_step HB4.out hb); clear hb; rw [HC.out]))
        go_ret
        exact ⟨by rw [HE.out]; rfl, HB5.out⟩
end Go.Proofs.YtgkjoodlcojkkaaDoor.QD
end
section
namespace Go.Proofs.YtgkjoodlcojkkaaDoor.QD
open Go.RowKit Go.Proofs.YtgkjoodlcojkkaaDoorW.PrintWords Go.Proofs.YtgkjoodlcojkkaaDoorW.PrintLast Go.Proofs.YtgkjoodlcojkkaaDoorW.PrintMore
attribute [local go_sem] max2_int min2_int max_two min_two max_three min_three max_four min_four
set_option linter.unusedVariables false
set_option linter.unusedSimpArgs false
def badForm (nm : Bool) (t : S53) : Bool := !nm || !btw t.f1 1 3000 || !btw t.f2 1 t.f1 || !btw t.f3 1 1000
def task_one.f (k : Nat) (a0_0 : Int) (l0_1 : List Int) (l0_2 : List Int) (l0_3 : List (S53)) (a1 : Int) : Option (Int) :=
  if l0_1.length ≤ 4611686018427387904 then (if l0_3.length ≤ 4611686018427387904 then (if 0 ≤ a1 then (if a1 < (l0_3.length : Int) then
    ((words_Name.f k (rd_T53 l0_3 a1).f0).bind fun nm =>
      (if badForm nm (rd_T53 l0_3 a1) = true then some 10
      else (if btw (rd_T53 l0_3 a1).f4 0 ((l0_1.length : Int) - 1) = false then some 16
      else (if ((l0_3.take a1.toNat).any fun o => twb o.f0 o.f3 (rd_T53 l0_3 a1).f0 (rd_T53 l0_3 a1).f3) = true then some 17
      else (task_parted.f k a0_0 l0_1 l0_2 l0_3 (rd_T53 l0_3 a1).f5).bind fun b => (if b = true then some 0 else some 15)))))
  else none) else none) else none) else none
theorem task_one.mono : ∀ a0 a1 a2 a3 a4 k, LeO (task_one.f k a0 a1 a2 a3 a4) (task_one.f (k + 1) a0 a1 a2 a3 a4) := by
  intro a0 a1 a2 a3 a4 k
  unfold task_one.f
  repeat' first
      | (with_reducible exact words_Name.mono _ _)
      | (with_reducible exact task_parted.mono _ _ _ _ _ _)
      | (with_reducible exact LeO.refl _)
      | (with_reducible exact LeO.none _)
      | (with_reducible refine LeO.ite ?_ ?_)
      | (with_reducible refine LeO.bind ?_ (fun _ => ?_))
      | exact words_Name.mono _ _
      | exact task_parted.mono _ _ _ _ _ _
      | exact LeO.none _
      | refine LeO.ite ?_ ?_
      | refine LeO.bind ?_ (fun _ => ?_)
theorem contains_twice' (A : Option Addr) (n c : Nat) (xs : List S53) (g : Nat) (t0 : ByteArray) (t1 t2 t3 t4 : Int) (A5 : Option Addr) (n5 c5 : Nat) (w : World)
    (hbx : w.heap[g]? = some (.cells #[.string t0, .int .i64 t1, .int .i64 t2, .int .i64 t3, .int .i64 t4, .slice A5 n5 c5] 53 (0, 0))) (hr : Kd.C k53 w A xs.length xs) (hl : xs.length = n) (hn : n ≤ 4611686018427387904) :
    Calls Tryd.prog 74 #[.slice A n c, .func (.func 73) #[] #[.pointer (some ⟨g, 0, none⟩)]] w fun e w' => e = .returned (.bool (xs.any fun o => twb o.f0 o.f3 t0 t3)) ∧ Below w.heap.size w w' := by
  subst hl
  exact contains_twice A c xs g t0 t1 t2 t3 t4 A5 n5 c5 w hbx hr hn
set_option maxHeartbeats 4000000 in
set_option maxRecDepth 100000 in
theorem task_one.calls (k : Nat) (a0_0 : Int) (A0_1 : Option Addr) (c0_1 : Nat) (l0_1 : List Int) (A0_2 : Option Addr) (c0_2 : Nat) (l0_2 : List Int) (A0_3 : Option Addr) (c0_3 : Nat) (l0_3 : List (S53)) (a1 : Int) (r : Int) (w : World) (hr0_1 : Kd.C (Kd.int .i64) w A0_1 l0_1.length l0_1) (hc0_1 : l0_1.length ≤ c0_1) (hr0_2 : Kd.C (Kd.int .i64) w A0_2 l0_2.length l0_2) (hc0_2 : l0_2.length ≤ c0_2) (hr0_3 : Kd.C k53 w A0_3 l0_3.length l0_3) (hc0_3 : l0_3.length ≤ c0_3) (h : task_one.f k a0_0 l0_1 l0_2 l0_3 a1 = some r) :
    Calls Tryd.prog 54 #[.agg #[.int .i64 a0_0, .slice A0_1 l0_1.length c0_1, .slice A0_2 l0_2.length c0_2, .slice A0_3 l0_3.length c0_3], .int .i64 a1] w fun e w' => e = .returned (.int .i64 r) ∧ Below w.heap.size w w' := by
  have hu37 := Tryd.underlying37
  have hu53 := Tryd.underlying53
  unfold task_one.f at h
  by_cases g1 : l0_1.length ≤ 4611686018427387904
  rotate_left
  · rw [if_neg g1] at h; exact absurd h (by simp)
  rw [if_pos g1] at h
  by_cases g2 : l0_3.length ≤ 4611686018427387904
  rotate_left
  · rw [if_neg g2] at h; exact absurd h (by simp)
  rw [if_pos g2] at h
  by_cases g3 : 0 ≤ a1
  rotate_left
  · rw [if_neg g3] at h; exact absurd h (by simp)
  rw [if_pos g3] at h
  by_cases g4 : a1 < (l0_3.length : Int)
  rotate_left
  · rw [if_neg g4] at h; exact absurd h (by simp)
  rw [if_pos g4] at h
  obtain ⟨nm, hnm, h⟩ := Option.bind_eq_some_iff.1 h
  obtain ⟨ad, A6, c6, e, hx0, hx1, hx2, hx3, hx4, hx5, hl6, hi6⟩ := at_T53 hr0_3 a1 g3 g4
  cases e
  have HC6 := Aside0.mk hl6
  have HI6 := Aside0.mk hi6
  have HN := Aside0.mk hnm
  have HR1 := Aside0.mk hr0_1
  have HR2 := Aside0.mk hr0_2
  have HR3 := Aside0.mk hr0_3
  have HC1 := Aside0.mk hc0_1
  have HC2 := Aside0.mk hc0_2
  have HC3 := Aside0.mk hc0_3
  have H := Aside0.mk h
  clear h hnm hr0_1 hr0_2 hr0_3 hc0_1 hc0_2 hc0_3 hl6 hi6
  go_enter Tryd.func54, Tryd.ntmps54
  go_wp2_with (first | ((with_reducible refine gate_dst (N := 2) rfl ?_); (try (refine gate_guard (by rfl) ?_; dsimp only)); refine box_event ?hg (N := 2) ?hd (cs := #[.int .i64 a0_0, .slice A0_1 l0_1.length c0_1, .slice A0_2 l0_2.length c0_2, .slice (some ad) l0_3.length c0_3]) (t := 37) ?hr ?_; (case hd => rfl); (case hg => rfl); (case hr => first | (go_simp; done) | (go_simp; rfl)); intro gb hg w1 hbox hb; have BK := Aside0.mk hbox; have HB := Aside0.mk hb; clear hg hbox hb; have hz_1 : w1.cell? ⟨gb, 1, none⟩ = some (.slice A0_1 l0_1.length c0_1) := (blk_cell BK.out 1).trans rfl; have hz_3 : w1.cell? ⟨gb, 3, none⟩ = some (.slice (some ad) l0_3.length c0_3) := (blk_cell BK.out 3).trans rfl; have hy_0 : w1.cell? (ad.add (a1.toNat * 6)) = some (.string (rd_T53 l0_3 a1).f0) := (HB.out.cell (World.block_lt_of_cell? w _ hx0)).trans hx0; have hy_1 : w1.cell? ⟨(ad.add (a1.toNat * 6)).block, (ad.add (a1.toNat * 6)).off + 1, none⟩ = some (.int .i64 (rd_T53 l0_3 a1).f1) := (HB.out.cell (World.block_lt_of_cell? w _ hx1)).trans hx1; have hy_2 : w1.cell? ⟨(ad.add (a1.toNat * 6)).block, (ad.add (a1.toNat * 6)).off + 2, none⟩ = some (.int .i64 (rd_T53 l0_3 a1).f2) := (HB.out.cell (World.block_lt_of_cell? w _ hx2)).trans hx2; have hy_3 : w1.cell? ⟨(ad.add (a1.toNat * 6)).block, (ad.add (a1.toNat * 6)).off + 3, none⟩ = some (.int .i64 (rd_T53 l0_3 a1).f3) := (HB.out.cell (World.block_lt_of_cell? w _ hx3)).trans hx3; have hy_4 : w1.cell? ⟨(ad.add (a1.toNat * 6)).block, (ad.add (a1.toNat * 6)).off + 4, none⟩ = some (.int .i64 (rd_T53 l0_3 a1).f4) := (HB.out.cell (World.block_lt_of_cell? w _ hx4)).trans hx4; have hy_5 : w1.cell? ⟨(ad.add (a1.toNat * 6)).block, (ad.add (a1.toNat * 6)).off + 5, none⟩ = some (.slice A6 (rd_T53 l0_3 a1).f5.length c6) := (HB.out.cell (World.block_lt_of_cell? w _ hx5)).trans hx5))
  have bt := blk_new w1 (.cells #[.string (rd_T53 l0_3 a1).f0, .int .i64 (rd_T53 l0_3 a1).f1, .int .i64 (rd_T53 l0_3 a1).f2, .int .i64 (rd_T53 l0_3 a1).f3, .int .i64 (rd_T53 l0_3 a1).f4, .slice A6 (rd_T53 l0_3 a1).f5.length c6] 53 (0, 0))
  have hb2 := below_step HB.out (below_alloc (Below.refl w1.heap.size w1) (.cells #[.string (rd_T53 l0_3 a1).f0, .int .i64 (rd_T53 l0_3 a1).f1, .int .i64 (rd_T53 l0_3 a1).f2, .int .i64 (rd_T53 l0_3 a1).f3, .int .i64 (rd_T53 l0_3 a1).f4, .slice A6 (rd_T53 l0_3 a1).f5.length c6] 53 (0, 0)))
  have bs := blk_alloc BK.out (.cells #[.string (rd_T53 l0_3 a1).f0, .int .i64 (rd_T53 l0_3 a1).f1, .int .i64 (rd_T53 l0_3 a1).f2, .int .i64 (rd_T53 l0_3 a1).f3, .int .i64 (rd_T53 l0_3 a1).f4, .slice A6 (rd_T53 l0_3 a1).f5.length c6] 53 (0, 0))
  generalize w1.alloc (.cells #[.string (rd_T53 l0_3 a1).f0, .int .i64 (rd_T53 l0_3 a1).f1, .int .i64 (rd_T53 l0_3 a1).f2, .int .i64 (rd_T53 l0_3 a1).f3, .int .i64 (rd_T53 l0_3 a1).f4, .slice A6 (rd_T53 l0_3 a1).f5.length c6] 53 (0, 0)) = w2 at bt hb2 bs ⊢
  generalize w1.heap.size = gt at bt ⊢
  have BT := Aside0.mk bt
  have HB2 := Aside0.mk hb2
  have BS := Aside0.mk bs
  clear bt hb2 bs
  have ht_0 : w2.cell? ⟨gt, 0, none⟩ = some (.string (rd_T53 l0_3 a1).f0) := (blk_cell BT.out 0).trans rfl
  have ht_1 : w2.cell? ⟨gt, 1, none⟩ = some (.int .i64 (rd_T53 l0_3 a1).f1) := (blk_cell BT.out 1).trans rfl
  have ht_2 : w2.cell? ⟨gt, 2, none⟩ = some (.int .i64 (rd_T53 l0_3 a1).f2) := (blk_cell BT.out 2).trans rfl
  have ht_3 : w2.cell? ⟨gt, 3, none⟩ = some (.int .i64 (rd_T53 l0_3 a1).f3) := (blk_cell BT.out 3).trans rfl
  have ht_4 : w2.cell? ⟨gt, 4, none⟩ = some (.int .i64 (rd_T53 l0_3 a1).f4) := (blk_cell BT.out 4).trans rfl
  have ht_5 : w2.cell? ⟨gt, 5, none⟩ = some (.slice A6 (rd_T53 l0_3 a1).f5.length c6) := (blk_cell BT.out 5).trans rfl
  have hs_0 : w2.cell? ⟨gb, 0, none⟩ = some (.int .i64 a0_0) := (blk_cell BS.out 0).trans rfl
  have hs_1 : w2.cell? ⟨gb, 1, none⟩ = some (.slice A0_1 l0_1.length c0_1) := (blk_cell BS.out 1).trans rfl
  have hs_2 : w2.cell? ⟨gb, 2, none⟩ = some (.slice A0_2 l0_2.length c0_2) := (blk_cell BS.out 2).trans rfl
  have hs_3 : w2.cell? ⟨gb, 3, none⟩ = some (.slice (some ad) l0_3.length c0_3) := (blk_cell BS.out 3).trans rfl
  cases nm with
  | false =>
    have HRV : Aside0 (r = 10) := ⟨by have h := H.out; rw [if_pos (by unfold badForm; rfl)] at h; exact (Option.some.inj h).symm⟩
    clear H
    go_wp2_with (first | (go_at_call 17; (with_reducible refine (words_Name.calls k _ false _ HN.out).mono ?_); rintro e w' ⟨rfl, ⟨⟨nd, rfl⟩⟩⟩))
    go_ret
    exact ⟨by rw [HRV.out]; rfl, by repeat (first | exact HB2.out | apply pw_below_drewN)⟩
  | true =>
    cases h1 : btw (rd_T53 l0_3 a1).f1 1 3000 with
    | false =>
      have HRV : Aside0 (r = 10) := ⟨by have h := H.out; rw [if_pos (by unfold badForm; simp [h1])] at h; exact (Option.some.inj h).symm⟩
      have H1 := Aside0.mk h1
      clear H h1
      go_wp2_with (first | (go_at_call 17; (with_reducible refine (words_Name.calls k _ true _ HN.out).mono ?_); rintro e w' ⟨rfl, ⟨⟨nd, rfl⟩⟩⟩) | (go_at_call 52; refine (between_any _ _ _ _).mono ?_; rintro e w' ⟨rfl, ⟨⟨nd, rfl⟩⟩⟩; (first | rw [H1.out])))
      go_ret
      exact ⟨by rw [HRV.out]; rfl, by repeat (first | exact HB2.out | apply pw_below_drewN)⟩
    | true =>
      cases h2 : btw (rd_T53 l0_3 a1).f2 1 (rd_T53 l0_3 a1).f1 with
      | false =>
        have HRV : Aside0 (r = 10) := ⟨by have h := H.out; rw [if_pos (by unfold badForm; simp [h1, h2])] at h; exact (Option.some.inj h).symm⟩
        have H1 := Aside0.mk h1
        have H2 := Aside0.mk h2
        clear H h1 h2
        go_wp2_with (first | (go_at_call 17; (with_reducible refine (words_Name.calls k _ true _ HN.out).mono ?_); rintro e w' ⟨rfl, ⟨⟨nd, rfl⟩⟩⟩) | (go_at_call 52; refine (between_any _ _ _ _).mono ?_; rintro e w' ⟨rfl, ⟨⟨nd, rfl⟩⟩⟩; (first | rw [H1.out] | rw [H2.out])))
        go_ret
        exact ⟨by rw [HRV.out]; rfl, by repeat (first | exact HB2.out | apply pw_below_drewN)⟩
      | true =>
        cases h3 : btw (rd_T53 l0_3 a1).f3 1 1000 with
        | false =>
          have HRV : Aside0 (r = 10) := ⟨by have h := H.out; rw [if_pos (by unfold badForm; simp [h1, h2, h3])] at h; exact (Option.some.inj h).symm⟩
          have H1 := Aside0.mk h1
          have H2 := Aside0.mk h2
          have H3 := Aside0.mk h3
          clear H h1 h2 h3
          go_wp2_with (first | (go_at_call 17; (with_reducible refine (words_Name.calls k _ true _ HN.out).mono ?_); rintro e w' ⟨rfl, ⟨⟨nd, rfl⟩⟩⟩) | (go_at_call 52; refine (between_any _ _ _ _).mono ?_; rintro e w' ⟨rfl, ⟨⟨nd, rfl⟩⟩⟩; (first | rw [H1.out] | rw [H2.out] | rw [H3.out])))
          go_ret
          exact ⟨by rw [HRV.out]; rfl, by repeat (first | exact HB2.out | apply pw_below_drewN)⟩
        | true =>
          have h0 := H.out
          clear H
          rw [if_neg (by unfold badForm; simp [h1, h2, h3])] at h0
          have H1 := Aside0.mk h1
          have H2 := Aside0.mk h2
          have H3 := Aside0.mk h3
          clear h1 h2 h3
          cases h4 : btw (rd_T53 l0_3 a1).f4 0 ((l0_1.length : Int) - 1) with
          | false =>
            have HRV : Aside0 (r = 16) := ⟨by have h := h0; rw [if_pos h4] at h; exact (Option.some.inj h).symm⟩
            have H4 := Aside0.mk h4
            clear h0 h4
            go_wp2_with (first | (go_at_call 17; (with_reducible refine (words_Name.calls k _ true _ HN.out).mono ?_); rintro e w' ⟨rfl, ⟨⟨nd, rfl⟩⟩⟩) | (go_at_call 52; refine (between_any _ _ _ _).mono ?_; rintro e w' ⟨rfl, ⟨⟨nd, rfl⟩⟩⟩; (first | rw [H1.out] | rw [H2.out] | rw [H3.out] | rw [H4.out])))
            go_ret
            exact ⟨by rw [HRV.out]; rfl, by repeat (first | exact HB2.out | apply pw_below_drewN)⟩
          | true =>
            rw [if_neg (by rw [h4]; simp)] at h0
            have H4 := Aside0.mk h4
            clear h4
            have HTL : Aside0 (a1.toNat ≤ l0_3.length) := ⟨by omega⟩
            have HTN : Aside0 ((l0_3.take a1.toNat).length = a1.toNat) := ⟨by rw [List.length_take]; exact Nat.min_eq_left HTL.out⟩
            have HTB : Aside0 (a1.toNat ≤ 4611686018427387904) := ⟨by omega⟩
            have hs1 : a1 ≤ (c0_3 : Int) := by have := HC3.out; omega
            cases h5 : ((l0_3.take a1.toNat).any fun o => twb o.f0 o.f3 (rd_T53 l0_3 a1).f0 (rd_T53 l0_3 a1).f3) with
            | true =>
              have HRV : Aside0 (r = 17) := ⟨by have h := h0; rw [if_pos h5] at h; exact (Option.some.inj h).symm⟩
              have HTW := Aside0.mk h5
              clear h0 h5
              go_wp2_with (first | (go_at_call 17; (with_reducible refine (words_Name.calls k _ true _ HN.out).mono ?_); rintro e w' ⟨rfl, ⟨⟨nd, rfl⟩⟩⟩) | (go_at_call 52; refine (between_any _ _ _ _).mono ?_; rintro e w' ⟨rfl, ⟨⟨nd, rfl⟩⟩⟩; (first | rw [H1.out] | rw [H2.out] | rw [H3.out] | rw [H4.out])) | (go_at_call 74; (with_reducible refine (contains_twice' (some ad) a1.toNat c0_3 (l0_3.take a1.toNat) gt (rd_T53 l0_3 a1).f0 (rd_T53 l0_3 a1).f1 (rd_T53 l0_3 a1).f2 (rd_T53 l0_3 a1).f3 (rd_T53 l0_3 a1).f4 A6 (rd_T53 l0_3 a1).f5.length c6 _ (blk_drewN BT.out _) (Kd.C_below (Kd.C_take HR3.out HTL.out) (pw_below_drewN HB2.out _)) HTN.out HTB.out).mono ?_); rintro e w4 ⟨rfl, hb⟩; rw [HTW.out]; have HB4 := Aside0.mk (below_step (pw_below_drewN HB2.out _) hb); have BT4 := Aside0.mk (blk_below (blk_drewN BT.out _) hb); have BS4 := Aside0.mk (blk_below (blk_drewN BS.out _) hb); clear hb; have htd_0 : w4.cell? ⟨gt, 0, none⟩ = some (.string (rd_T53 l0_3 a1).f0) := (blk_cell BT4.out 0).trans rfl; have htd_1 : w4.cell? ⟨gt, 1, none⟩ = some (.int .i64 (rd_T53 l0_3 a1).f1) := (blk_cell BT4.out 1).trans rfl; have htd_2 : w4.cell? ⟨gt, 2, none⟩ = some (.int .i64 (rd_T53 l0_3 a1).f2) := (blk_cell BT4.out 2).trans rfl; have htd_3 : w4.cell? ⟨gt, 3, none⟩ = some (.int .i64 (rd_T53 l0_3 a1).f3) := (blk_cell BT4.out 3).trans rfl; have htd_4 : w4.cell? ⟨gt, 4, none⟩ = some (.int .i64 (rd_T53 l0_3 a1).f4) := (blk_cell BT4.out 4).trans rfl; have htd_5 : w4.cell? ⟨gt, 5, none⟩ = some (.slice A6 (rd_T53 l0_3 a1).f5.length c6) := (blk_cell BT4.out 5).trans rfl; have hsd_0 : w4.cell? ⟨gb, 0, none⟩ = some (.int .i64 a0_0) := (blk_cell BS4.out 0).trans rfl; have hsd_1 : w4.cell? ⟨gb, 1, none⟩ = some (.slice A0_1 l0_1.length c0_1) := (blk_cell BS4.out 1).trans rfl; have hsd_2 : w4.cell? ⟨gb, 2, none⟩ = some (.slice A0_2 l0_2.length c0_2) := (blk_cell BS4.out 2).trans rfl; have hsd_3 : w4.cell? ⟨gb, 3, none⟩ = some (.slice (some ad) l0_3.length c0_3) := (blk_cell BS4.out 3).trans rfl))
              go_ret
              exact ⟨by rw [HRV.out]; rfl, HB4.out⟩
            | false =>
              rw [if_neg (by rw [h5]; simp)] at h0
              have HTW := Aside0.mk h5
              clear h5
              obtain ⟨b, hb0, h0⟩ := Option.bind_eq_some_iff.1 h0
              cases b with
              | true =>
                have HRV : Aside0 (r = 0) := ⟨by have h := h0; rw [if_pos (by simp)] at h; exact (Option.some.inj h).symm⟩
                have HPT := Aside0.mk hb0
                clear h0 hb0
                go_wp2_with (first | (go_at_call 17; (with_reducible refine (words_Name.calls k _ true _ HN.out).mono ?_); rintro e w' ⟨rfl, ⟨⟨nd, rfl⟩⟩⟩) | (go_at_call 52; refine (between_any _ _ _ _).mono ?_; rintro e w' ⟨rfl, ⟨⟨nd, rfl⟩⟩⟩; (first | rw [H1.out] | rw [H2.out] | rw [H3.out] | rw [H4.out])) | (go_at_call 74; (with_reducible refine (contains_twice' (some ad) a1.toNat c0_3 (l0_3.take a1.toNat) gt (rd_T53 l0_3 a1).f0 (rd_T53 l0_3 a1).f1 (rd_T53 l0_3 a1).f2 (rd_T53 l0_3 a1).f3 (rd_T53 l0_3 a1).f4 A6 (rd_T53 l0_3 a1).f5.length c6 _ (blk_drewN BT.out _) (Kd.C_below (Kd.C_take HR3.out HTL.out) (pw_below_drewN HB2.out _)) HTN.out HTB.out).mono ?_); rintro e w4 ⟨rfl, hb⟩; rw [HTW.out]; have HB4 := Aside0.mk (below_step (pw_below_drewN HB2.out _) hb); have BT4 := Aside0.mk (blk_below (blk_drewN BT.out _) hb); have BS4 := Aside0.mk (blk_below (blk_drewN BS.out _) hb); clear hb; have htd_0 : w4.cell? ⟨gt, 0, none⟩ = some (.string (rd_T53 l0_3 a1).f0) := (blk_cell BT4.out 0).trans rfl; have htd_1 : w4.cell? ⟨gt, 1, none⟩ = some (.int .i64 (rd_T53 l0_3 a1).f1) := (blk_cell BT4.out 1).trans rfl; have htd_2 : w4.cell? ⟨gt, 2, none⟩ = some (.int .i64 (rd_T53 l0_3 a1).f2) := (blk_cell BT4.out 2).trans rfl; have htd_3 : w4.cell? ⟨gt, 3, none⟩ = some (.int .i64 (rd_T53 l0_3 a1).f3) := (blk_cell BT4.out 3).trans rfl; have htd_4 : w4.cell? ⟨gt, 4, none⟩ = some (.int .i64 (rd_T53 l0_3 a1).f4) := (blk_cell BT4.out 4).trans rfl; have htd_5 : w4.cell? ⟨gt, 5, none⟩ = some (.slice A6 (rd_T53 l0_3 a1).f5.length c6) := (blk_cell BT4.out 5).trans rfl; have hsd_0 : w4.cell? ⟨gb, 0, none⟩ = some (.int .i64 a0_0) := (blk_cell BS4.out 0).trans rfl; have hsd_1 : w4.cell? ⟨gb, 1, none⟩ = some (.slice A0_1 l0_1.length c0_1) := (blk_cell BS4.out 1).trans rfl; have hsd_2 : w4.cell? ⟨gb, 2, none⟩ = some (.slice A0_2 l0_2.length c0_2) := (blk_cell BS4.out 2).trans rfl; have hsd_3 : w4.cell? ⟨gb, 3, none⟩ = some (.slice (some ad) l0_3.length c0_3) := (blk_cell BS4.out 3).trans rfl) | (go_at_call 75; (with_reducible refine (task_parted.calls k a0_0 A0_1 c0_1 l0_1 A0_2 c0_2 l0_2 (some ad) c0_3 l0_3 A6 c6 (rd_T53 l0_3 a1).f5 true _ (Kd.C_below HR1.out HB4.out) HC1.out (Kd.C_below HR2.out HB4.out) HC2.out (Kd.C_below HR3.out HB4.out) HC3.out (Kd.C_below HI6.out HB4.out) HC6.out HPT.out).mono ?_); rintro e w5 ⟨rfl, hb⟩; have HB5 := Aside0.mk (below_step HB4.out hb); clear hb))
                go_ret
                exact ⟨by rw [HRV.out]; rfl, HB5.out⟩
              | false =>
                have HRV : Aside0 (r = 15) := ⟨by have h := h0; rw [if_neg (by simp)] at h; exact (Option.some.inj h).symm⟩
                have HPT := Aside0.mk hb0
                clear h0 hb0
                go_wp2_with (first | (go_at_call 17; (with_reducible refine (words_Name.calls k _ true _ HN.out).mono ?_); rintro e w' ⟨rfl, ⟨⟨nd, rfl⟩⟩⟩) | (go_at_call 52; refine (between_any _ _ _ _).mono ?_; rintro e w' ⟨rfl, ⟨⟨nd, rfl⟩⟩⟩; (first | rw [H1.out] | rw [H2.out] | rw [H3.out] | rw [H4.out])) | (go_at_call 74; (with_reducible refine (contains_twice' (some ad) a1.toNat c0_3 (l0_3.take a1.toNat) gt (rd_T53 l0_3 a1).f0 (rd_T53 l0_3 a1).f1 (rd_T53 l0_3 a1).f2 (rd_T53 l0_3 a1).f3 (rd_T53 l0_3 a1).f4 A6 (rd_T53 l0_3 a1).f5.length c6 _ (blk_drewN BT.out _) (Kd.C_below (Kd.C_take HR3.out HTL.out) (pw_below_drewN HB2.out _)) HTN.out HTB.out).mono ?_); rintro e w4 ⟨rfl, hb⟩; rw [HTW.out]; have HB4 := Aside0.mk (below_step (pw_below_drewN HB2.out _) hb); have BT4 := Aside0.mk (blk_below (blk_drewN BT.out _) hb); have BS4 := Aside0.mk (blk_below (blk_drewN BS.out _) hb); clear hb; have htd_0 : w4.cell? ⟨gt, 0, none⟩ = some (.string (rd_T53 l0_3 a1).f0) := (blk_cell BT4.out 0).trans rfl; have htd_1 : w4.cell? ⟨gt, 1, none⟩ = some (.int .i64 (rd_T53 l0_3 a1).f1) := (blk_cell BT4.out 1).trans rfl; have htd_2 : w4.cell? ⟨gt, 2, none⟩ = some (.int .i64 (rd_T53 l0_3 a1).f2) := (blk_cell BT4.out 2).trans rfl; have htd_3 : w4.cell? ⟨gt, 3, none⟩ = some (.int .i64 (rd_T53 l0_3 a1).f3) := (blk_cell BT4.out 3).trans rfl; have htd_4 : w4.cell? ⟨gt, 4, none⟩ = some (.int .i64 (rd_T53 l0_3 a1).f4) := (blk_cell BT4.out 4).trans rfl; have htd_5 : w4.cell? ⟨gt, 5, none⟩ = some (.slice A6 (rd_T53 l0_3 a1).f5.length c6) := (blk_cell BT4.out 5).trans rfl; have hsd_0 : w4.cell? ⟨gb, 0, none⟩ = some (.int .i64 a0_0) := (blk_cell BS4.out 0).trans rfl; have hsd_1 : w4.cell? ⟨gb, 1, none⟩ = some (.slice A0_1 l0_1.length c0_1) := (blk_cell BS4.out 1).trans rfl; have hsd_2 : w4.cell? ⟨gb, 2, none⟩ = some (.slice A0_2 l0_2.length c0_2) := (blk_cell BS4.out 2).trans rfl; have hsd_3 : w4.cell? ⟨gb, 3, none⟩ = some (.slice (some ad) l0_3.length c0_3) := (blk_cell BS4.out 3).trans rfl) | (go_at_call 75; (with_reducible refine (task_parted.calls k a0_0 A0_1 c0_1 l0_1 A0_2 c0_2 l0_2 (some ad) c0_3 l0_3 A6 c6 (rd_T53 l0_3 a1).f5 false _ (Kd.C_below HR1.out HB4.out) HC1.out (Kd.C_below HR2.out HB4.out) HC2.out (Kd.C_below HR3.out HB4.out) HC3.out (Kd.C_below HI6.out HB4.out) HC6.out HPT.out).mono ?_); rintro e w5 ⟨rfl, hb⟩; have HB5 := Aside0.mk (below_step HB4.out hb); clear hb))
                go_ret
                exact ⟨by rw [HRV.out]; rfl, HB5.out⟩
end Go.Proofs.YtgkjoodlcojkkaaDoor.QD
end
