import Derived.Test.YtgkjoodlcojkkaaDoorProg
import Derived.WalkSmall
import Derived.Lib.LaidTab
import Derived.Shelf.Strconv.AtoiAll
import Derived.Shelf.Strconv.Itoa3
import Derived.Shelf.Strings.Builder1
import Derived.Shelf.Utf8.RuneCount
import Derived.Shelf.Strconv.Atoi
import Derived.Shelf.Strconv.Itoa0
import Derived.Shelf.Strconv.Itoa1
import Derived.Shelf.LaysM
import Derived.Shelf.Strconv.Itoa2
import Derived.Shelf.Strconv.AtoiErrFast
import Derived.Shelf.Strconv.ParseIntEmpty
import Derived.Shelf.Strconv.AtoiFail
import Derived.Shelf.Strconv.Clone
import Derived.Shelf.Strconv.SyntaxError
import Derived.Shelf.LaysC
import Derived.Shelf.Strconv.ToError
import Derived.Shelf.Strconv.Lower
import Derived.Shelf.Strconv.ParseUint10
import Derived.Shelf.Strconv.ParseUint10Empty
import Derived.Shelf.Strconv.ParseUint10Any
import Derived.Shelf.Strconv.ParseInt10
import Derived.Shelf.Strconv.AtoiLong
import Derived.Shelf.Strconv.AtoiInnerAll
import Derived.Shelf.Strconv.RangeError
import Derived.Shelf.Strconv.ToErrorRange
import Derived.Shelf.Strings.Search1
import Derived.Shelf.Strings.Search2
import Derived.Shelf.Strings.Search3
import Derived.Shelf.Strings.Cut
import Derived.Shelf.Strings.Count
import Derived.Shelf.Strings.Shaped
import Derived.Shelf.Strings.Prefix
import Derived.Shelf.Strings.Split
import Derived.Shelf.Strings.SplitShaped
import Derived.Shelf.Unicode.Decode
import Derived.Shelf.Strings.RuneCount
import Derived.Shelf.Strings.Explode
import Derived.Shelf.Unicode.DecodeSlow
import Derived.Shelf.Unicode.DecodeAny
import Derived.Test.YtgkjoodlcojkkaaDoorRows
import Derived.WalkKit
import Derived.ProofKit
import Derived.OpenShut
import Derived.ShutString
import Derived.ChangeOld
import Derived.Below
import Derived.SizedLaws
import Derived.LaidMore
import Derived.Lay
import Derived.Stop.Joined
import Derived.Stop.LaidErr
import Derived.Deep.Draws
import Derived.Deep.AppendLies
import Derived.Maps.AppendAt
import Derived.OwnWalk
import Derived.Laws.BytesArg
import Derived.Laws.MakeOwn
import Derived.Laws.OwnMore
import Derived.Deep.OwnRows
import Derived.Tactics
import Derived.Lib.ConvBytes
import Derived.Laws.Slices
import Derived.KernelRfl
import Derived.RowKit3
import Derived.Deep.LoopGhost
import Derived.Deep.QuietTactic
import Derived.BigQuiet
import Derived.WideLaws
import Derived.Deep.DeepCutAuto
import Derived.Deep.CutBlock
import Derived.Deep.RegionHeld3
import Derived.Laws.Rows
import Derived.Lib.AppendStr
import Derived.ArgAppend
import Derived.Laws.IdiomCopy
import Derived.OrdersHeld
import Derived.Laws.BitsLemmas
import Derived.RowKit
import Derived.WalkMore
import Derived.Test.YtgkjoodlcojkkaaDoorMB1
import Derived.Lib.SplitLaws
import Derived.Lib.AppendIntMem
import Derived.Lib.AtoiErrMem
import Derived.Lib.CutLaws
import Derived.Lib.IndexLaws
section
namespace Go.Proofs.YtgkjoodlcojkkaaDoor
open Go Go.RowKit
structure GlobAt (w : World) : Prop where
  maxlen : ∃ m : Int, w.cell? ⟨2, 0, none⟩ = some (.int .i64 m)
  pow : Lib.TabIs Tryd.prog w "internal/strconv.uint64pow10" .u64 Lib.pow10Tab
  esyn : ∃ t p, w.var? Tryd.prog "strconv.ErrSyntax" = some #[.iface t p]
  eran : ∃ t p, w.var? Tryd.prog "strconv.ErrRange" = some #[.iface t p]
def Glob (w : World) : Prop := ∃ u, GlobAt u ∧ Below u.heap.size u w
theorem GlobAt.glob {w : World} (h : GlobAt w) : Glob w := ⟨w, h, Below.refl _ _⟩
theorem Glob.below {w w' : World} (h : Glob w) (hb : Below w.heap.size w w') : Glob w' := by
  obtain ⟨u, hu, h⟩ := h
  exact ⟨u, hu, h.trans (hb.mono h.size)⟩
theorem Glob.alloc {w : World} (h : Glob w) (o : Obj) : Glob (w.alloc o) := h.below ((Below.refl _ _).alloc (Nat.le_refl _) o)
theorem Glob.drew {w : World} (h : Glob w) : Glob w.drew := h.below (Below.refl _ _).drew
theorem Glob.drewN {w : World} (h : Glob w) (n : Nat) : Glob (w.drewN n) := h.below ⟨rfl, rfl, rfl, Nat.le_refl _, fun _ _ => rfl⟩
theorem var_kept {u w : World} {n : String} {cs : Array Value} (hv : u.var? Tryd.prog n = some cs) (hb : Below u.heap.size u w) : w.var? Tryd.prog n = some cs := by
  have hv' := hv
  unfold World.var? at hv
  obtain ⟨g, hg, hv⟩ := Option.bind_eq_some_iff.1 hv
  have hlt : g < u.heap.size := by
    by_cases h : g < u.heap.size
    · exact h
    · have : u.heap[g]? = none := Array.getElem?_eq_none_iff.2 (by omega)
      rw [this] at hv; cases hv
  exact var?_below hb hg hlt hv'
theorem Glob.at {w : World} (h : Glob w) : GlobAt w := by
  obtain ⟨u, ⟨⟨m, h1⟩, h2, ⟨t3, p3, h3⟩, ⟨t4, p4, h4⟩⟩, hb⟩ := h
  exact ⟨⟨m, (hb.cell (World.block_lt_of_cell? u _ h1)).trans h1⟩, var_kept h2 hb, ⟨t3, p3, var_kept h3 hb⟩, ⟨t4, p4, var_kept h4 hb⟩⟩
end Go.Proofs.YtgkjoodlcojkkaaDoor
end
section
namespace Go.Proofs
open Go.Shelf
def Tryd.laysM171_ren : Go.Shelf.Ren := ⟨fun | 171 => 28 | 243 => 47 | 246 => 64 | 283 => 82 | 284 => 83 | 285 => 84 | 286 => 85 | 129 => 99 | 317 => 98 | 318 => 100 | 319 => 101 | 320 => 102 | 337 => 106 | 338 => 107 | n => n, fun | 3 => 3 | 9 => 9 | 2 => 2 | 4 => 4 | 171 => 123 | 0 => 0 | 53 => 116 | 37 => 55 | 5 => 5 | 173 => 126 | 212 => 140 | 51 => 141 | 20 => 20 | 213 => 142 | 46 => 32 | 232 => 151 | 233 => 152 | n => n, fun | 17 => 3 | 18 => 6 | 19 => 7 | n => n⟩
theorem Tryd.laysM171 : Go.Proofs.LaysM.n171 Tryd.prog Tryd.laysM171_ren := {
  mixed := by kernel_rfl
  f129 := Tryd.func99.trans (congrArg some (by kernel_rfl))
  f171 := Tryd.func28.trans (congrArg some (by kernel_rfl))
  f243 := Tryd.func47.trans (congrArg some (by kernel_rfl))
  f246 := Tryd.func64.trans (congrArg some (by kernel_rfl))
  f283 := Tryd.func82.trans (congrArg some (by kernel_rfl))
  f284 := Tryd.func83.trans (congrArg some (by kernel_rfl))
  f285 := Tryd.func84.trans (congrArg some (by kernel_rfl))
  f286 := Tryd.func85.trans (congrArg some (by kernel_rfl))
  f317 := Tryd.func98.trans (congrArg some (by kernel_rfl))
  f318 := Tryd.func100.trans (congrArg some (by kernel_rfl))
  f319 := Tryd.func101.trans (congrArg some (by kernel_rfl))
  f320 := Tryd.func102.trans (congrArg some (by kernel_rfl))
  f337 := Tryd.func106.trans (congrArg some (by kernel_rfl))
  f338 := Tryd.func107.trans (congrArg some (by kernel_rfl))
  t0 := Tryd.underlying0
  a0 := Tryd.isAgg0
  z0 := Tryd.sizeOf0
  v0 := Tryd.zeroValue0
  t2 := Tryd.underlying2
  a2 := Tryd.isAgg2
  z2 := Tryd.sizeOf2
  v2 := Tryd.zeroValue2
  t3 := Tryd.underlying3
  a3 := Tryd.isAgg3
  z3 := Tryd.sizeOf3
  v3 := Tryd.zeroValue3
  t4 := Tryd.underlying4
  a4 := Tryd.isAgg4
  z4 := Tryd.sizeOf4
  v4 := Tryd.zeroValue4
  t5 := Tryd.underlying5
  a5 := Tryd.isAgg5
  z5 := Tryd.sizeOf5
  v5 := Tryd.zeroValue5
  t9 := Tryd.underlying9
  a9 := Tryd.isAgg9
  z9 := Tryd.sizeOf9
  v9 := Tryd.zeroValue9
  t20 := Tryd.underlying20
  a20 := Tryd.isAgg20
  z20 := Tryd.sizeOf20
  v20 := Tryd.zeroValue20
  t37 := Tryd.underlying55
  a37 := Tryd.isAgg55
  z37 := Tryd.sizeOf55
  v37 := Tryd.zeroValue55
  t46 := Tryd.underlying32
  a46 := Tryd.isAgg32
  z46 := Tryd.sizeOf32
  v46 := Tryd.zeroValue32
  t51 := Tryd.underlying141
  a51 := Tryd.isAgg141
  z51 := Tryd.sizeOf141
  v51 := Tryd.zeroValue141
  t53 := Tryd.underlying116
  a53 := Tryd.isAgg116
  z53 := Tryd.sizeOf116
  v53 := Tryd.zeroValue116
  t171 := Tryd.underlying123
  a171 := Tryd.isAgg123
  z171 := Tryd.sizeOf123
  v171 := Tryd.zeroValue123
  t173 := Tryd.underlying126
  a173 := Tryd.isAgg126
  z173 := Tryd.sizeOf126
  v173 := Tryd.zeroValue126
  t212 := Tryd.underlying140
  a212 := Tryd.isAgg140
  z212 := Tryd.sizeOf140
  v212 := Tryd.zeroValue140
  t213 := Tryd.underlying142
  a213 := Tryd.isAgg142
  z213 := Tryd.sizeOf142
  t232 := Tryd.underlying151
  a232 := Tryd.isAgg151
  z232 := Tryd.sizeOf151
  v232 := Tryd.zeroValue151
  t233 := Tryd.underlying152
  a233 := Tryd.isAgg152
  z233 := Tryd.sizeOf152
  v233 := Tryd.zeroValue152
  g17 := by kernel_rfl
  g18 := by kernel_rfl
  g19 := by kernel_rfl
  i0 := by kernel_rfl
  i2 := by kernel_rfl
  i3 := by kernel_rfl
  i4 := by kernel_rfl
  i5 := by kernel_rfl
  i9 := by kernel_rfl
  i20 := by kernel_rfl
  i37 := by kernel_rfl
  i46 := by kernel_rfl
  i51 := by kernel_rfl
  i53 := by kernel_rfl
  i171 := by kernel_rfl
  i173 := by kernel_rfl
  i212 := by kernel_rfl
  i232 := by kernel_rfl
  i233 := by kernel_rfl
  m17 := by kernel_rfl
  m18 := by kernel_rfl
  m19 := by kernel_rfl }
open Go.RowKit Go.Sort Go.Lib in
theorem Tryd.strconv_Itoa (n : Int) (h0 : -9223372036854775808 ≤ n) (h1 : n ≤ 9223372036854775807) (w : World) (htab : Lib.TabIs Tryd.prog w "internal/strconv.uint64pow10" .u64 Lib.pow10Tab) :
    Calls Tryd.prog 28 #[.int .i64 n] w fun e w' => e = .returned (.string ⟨(Lib.itoa n).toArray⟩) ∧ ∃ k os, w' = grow (w.drewN k) os := Any.strconv_Itoa Tryd.laysM171 n h0 h1 w htab
def Tryd.laysC172_ren : Go.Shelf.Ren := ⟨fun | 172 => 27 | 244 => 45 | 245 => 46 | 247 => 59 | 279 => 60 | 280 => 61 | 281 => 62 | 282 => 63 | 287 => 79 | 316 => 80 | 171 => 28 | 205 => 81 | 321 => 96 | 322 => 97 | 243 => 47 | 246 => 64 | 283 => 82 | 284 => 83 | 285 => 84 | 286 => 85 | 129 => 99 | 317 => 98 | 318 => 100 | 319 => 101 | 320 => 102 | 337 => 106 | 338 => 107 | n => n, fun | 9 => 9 | 3 => 3 | 75 => 58 | 76 => 59 | 4 => 4 | 5 => 5 | 167 => 98 | 37 => 55 | 0 => 0 | 85 => 99 | 2 => 2 | 168 => 101 | 53 => 116 | 175 => 117 | 46 => 32 | 210 => 121 | 127 => 92 | 145 => 138 | 143 => 136 | 21 => 21 | 171 => 123 | 173 => 126 | 212 => 140 | 51 => 141 | 20 => 20 | 213 => 142 | 232 => 151 | 233 => 152 | 80 => 74 | n => n, fun | 15 => 0 | 16 => 1 | 17 => 3 | 18 => 6 | 19 => 7 | n => n⟩
theorem Tryd.laysC172 : Go.Proofs.LaysC.n172 Tryd.prog Tryd.laysC172_ren := {
  mixed := by kernel_rfl
  f129 := Tryd.func99.trans (congrArg some (by kernel_rfl))
  f171 := Tryd.func28.trans (congrArg some (by kernel_rfl))
  f172 := Tryd.func27.trans (congrArg some (by kernel_rfl))
  f205 := Tryd.func81.trans (congrArg some (by kernel_rfl))
  f243 := Tryd.func47.trans (congrArg some (by kernel_rfl))
  f244 := Tryd.func45.trans (congrArg some (by kernel_rfl))
  f245 := Tryd.func46.trans (congrArg some (by kernel_rfl))
  f246 := Tryd.func64.trans (congrArg some (by kernel_rfl))
  f247 := Tryd.func59.trans (congrArg some (by kernel_rfl))
  f279 := Tryd.func60.trans (congrArg some (by kernel_rfl))
  f280 := Tryd.func61.trans (congrArg some (by kernel_rfl))
  f281 := Tryd.func62.trans (congrArg some (by kernel_rfl))
  f282 := Tryd.func63.trans (congrArg some (by kernel_rfl))
  f283 := Tryd.func82.trans (congrArg some (by kernel_rfl))
  f284 := Tryd.func83.trans (congrArg some (by kernel_rfl))
  f285 := Tryd.func84.trans (congrArg some (by kernel_rfl))
  f286 := Tryd.func85.trans (congrArg some (by kernel_rfl))
  f287 := Tryd.func79.trans (congrArg some (by kernel_rfl))
  f316 := Tryd.func80.trans (congrArg some (by kernel_rfl))
  f317 := Tryd.func98.trans (congrArg some (by kernel_rfl))
  f318 := Tryd.func100.trans (congrArg some (by kernel_rfl))
  f319 := Tryd.func101.trans (congrArg some (by kernel_rfl))
  f320 := Tryd.func102.trans (congrArg some (by kernel_rfl))
  f321 := Tryd.func96.trans (congrArg some (by kernel_rfl))
  f322 := Tryd.func97.trans (congrArg some (by kernel_rfl))
  f337 := Tryd.func106.trans (congrArg some (by kernel_rfl))
  f338 := Tryd.func107.trans (congrArg some (by kernel_rfl))
  t0 := Tryd.underlying0
  a0 := Tryd.isAgg0
  z0 := Tryd.sizeOf0
  v0 := Tryd.zeroValue0
  t2 := Tryd.underlying2
  a2 := Tryd.isAgg2
  z2 := Tryd.sizeOf2
  v2 := Tryd.zeroValue2
  t3 := Tryd.underlying3
  a3 := Tryd.isAgg3
  z3 := Tryd.sizeOf3
  v3 := Tryd.zeroValue3
  t4 := Tryd.underlying4
  a4 := Tryd.isAgg4
  z4 := Tryd.sizeOf4
  v4 := Tryd.zeroValue4
  t5 := Tryd.underlying5
  a5 := Tryd.isAgg5
  z5 := Tryd.sizeOf5
  v5 := Tryd.zeroValue5
  t9 := Tryd.underlying9
  a9 := Tryd.isAgg9
  z9 := Tryd.sizeOf9
  v9 := Tryd.zeroValue9
  t20 := Tryd.underlying20
  a20 := Tryd.isAgg20
  z20 := Tryd.sizeOf20
  v20 := Tryd.zeroValue20
  t21 := Tryd.underlying21
  a21 := Tryd.isAgg21
  z21 := Tryd.sizeOf21
  v21 := Tryd.zeroValue21
  t37 := Tryd.underlying55
  a37 := Tryd.isAgg55
  z37 := Tryd.sizeOf55
  v37 := Tryd.zeroValue55
  t46 := Tryd.underlying32
  a46 := Tryd.isAgg32
  z46 := Tryd.sizeOf32
  v46 := Tryd.zeroValue32
  t51 := Tryd.underlying141
  a51 := Tryd.isAgg141
  z51 := Tryd.sizeOf141
  v51 := Tryd.zeroValue141
  t53 := Tryd.underlying116
  a53 := Tryd.isAgg116
  z53 := Tryd.sizeOf116
  v53 := Tryd.zeroValue116
  t75 := Tryd.underlying58
  a75 := Tryd.isAgg58
  z75 := Tryd.sizeOf58
  v75 := Tryd.zeroValue58
  t76 := Tryd.underlying59
  a76 := Tryd.isAgg59
  z76 := Tryd.sizeOf59
  v76 := Tryd.zeroValue59
  t85 := Tryd.underlying99
  a85 := Tryd.isAgg99
  z85 := Tryd.sizeOf99
  v85 := Tryd.zeroValue99
  t127 := Tryd.underlying92
  a127 := Tryd.isAgg92
  z127 := Tryd.sizeOf92
  v127 := Tryd.zeroValue92
  t143 := Tryd.underlying136
  a143 := Tryd.isAgg136
  z143 := Tryd.sizeOf136
  v143 := Tryd.zeroValue136
  t145 := Tryd.underlying138
  a145 := Tryd.isAgg138
  z145 := Tryd.sizeOf138
  v145 := Tryd.zeroValue138
  t167 := Tryd.underlying98
  a167 := Tryd.isAgg98
  z167 := Tryd.sizeOf98
  v167 := Tryd.zeroValue98
  t168 := Tryd.underlying101
  a168 := Tryd.isAgg101
  z168 := Tryd.sizeOf101
  v168 := Tryd.zeroValue101
  t171 := Tryd.underlying123
  a171 := Tryd.isAgg123
  z171 := Tryd.sizeOf123
  v171 := Tryd.zeroValue123
  t173 := Tryd.underlying126
  a173 := Tryd.isAgg126
  z173 := Tryd.sizeOf126
  v173 := Tryd.zeroValue126
  t175 := Tryd.underlying117
  a175 := Tryd.isAgg117
  z175 := Tryd.sizeOf117
  v175 := Tryd.zeroValue117
  t210 := Tryd.underlying121
  a210 := Tryd.isAgg121
  z210 := Tryd.sizeOf121
  v210 := Tryd.zeroValue121
  t212 := Tryd.underlying140
  a212 := Tryd.isAgg140
  z212 := Tryd.sizeOf140
  v212 := Tryd.zeroValue140
  t213 := Tryd.underlying142
  a213 := Tryd.isAgg142
  z213 := Tryd.sizeOf142
  t232 := Tryd.underlying151
  a232 := Tryd.isAgg151
  z232 := Tryd.sizeOf151
  v232 := Tryd.zeroValue151
  t233 := Tryd.underlying152
  a233 := Tryd.isAgg152
  z233 := Tryd.sizeOf152
  v233 := Tryd.zeroValue152
  g15 := by kernel_rfl
  g16 := by kernel_rfl
  g17 := by kernel_rfl
  g18 := by kernel_rfl
  g19 := by kernel_rfl
  t80 := Tryd.underlying74
  a80 := Tryd.isAgg74
  z80 := Tryd.sizeOf74
  v80 := Tryd.zeroValue74
  i0 := by kernel_rfl
  i2 := by kernel_rfl
  i3 := by kernel_rfl
  i4 := by kernel_rfl
  i5 := by kernel_rfl
  i9 := by kernel_rfl
  i20 := by kernel_rfl
  i21 := by kernel_rfl
  i37 := by kernel_rfl
  i46 := by kernel_rfl
  i51 := by kernel_rfl
  i53 := by kernel_rfl
  i75 := by kernel_rfl
  i76 := by kernel_rfl
  i80 := by kernel_rfl
  i85 := by kernel_rfl
  i127 := by kernel_rfl
  i143 := by kernel_rfl
  i145 := by kernel_rfl
  i167 := by kernel_rfl
  i168 := by kernel_rfl
  i171 := by kernel_rfl
  i173 := by kernel_rfl
  i175 := by kernel_rfl
  i210 := by kernel_rfl
  i212 := by kernel_rfl
  i232 := by kernel_rfl
  i233 := by kernel_rfl
  m15 := by kernel_rfl
  m16 := by kernel_rfl
  m17 := by kernel_rfl
  m18 := by kernel_rfl
  m19 := by kernel_rfl
  c0 := by kernel_rfl
  c2 := by kernel_rfl
  c3 := by kernel_rfl
  c4 := by kernel_rfl
  c5 := by kernel_rfl
  c9 := by kernel_rfl
  c20 := by kernel_rfl
  c21 := by kernel_rfl
  c37 := by kernel_rfl
  c46 := by kernel_rfl
  c51 := by kernel_rfl
  c53 := by kernel_rfl
  c75 := by kernel_rfl
  c76 := by kernel_rfl
  c80 := by kernel_rfl
  c85 := by kernel_rfl
  c127 := by kernel_rfl
  c143 := by kernel_rfl
  c145 := by kernel_rfl
  c167 := by kernel_rfl
  c168 := by kernel_rfl
  c171 := by kernel_rfl
  c173 := by kernel_rfl
  c175 := by kernel_rfl
  c210 := by kernel_rfl
  c212 := by kernel_rfl
  c213 := by kernel_rfl
  c232 := by kernel_rfl
  c233 := by kernel_rfl }
open Go.RowKit in
theorem Tryd.strconv_Atoi_ok (s : ByteArray) (hmax : s.size ≤ 9223372036854775806) (v : Int) (h : Lib.atoiAll s.data.toList = .ok v) (w : World) :
    Calls Tryd.prog 27 #[.string s] w fun e w' => e = .returned (.tuple #[.int .i64 v, .nilIface]) ∧ (w' = w ∨ ∃ t, w' = Lib.bytesWorld w 5 t) := Any.strconv_Atoi_ok Tryd.laysC172 s hmax v h w
open Go.RowKit in
theorem Tryd.strconv_Atoi_range (s : ByteArray) (hlim : s.size ≤ 281474976710656) (h : Lib.atoiAll s.data.toList = .range) (ev : Value) (w : World) (hv : w.cell? ⟨1, 0, none⟩ = some ev) (hev : ev = .nilIface ∨ ∃ te pe, ev = .iface te pe) :
    Calls Tryd.prog 27 #[.string s] w fun e w' => ∃ N, e = .returned (.tuple #[.int .i64 (Lib.atoiSat s.data.toList), .iface 101 (.pointer (some ⟨N, 0, none⟩))]) ∧ w.heap.size ≤ N ∧ w'.heap[N]? = some (.cells #[.string ⟨#[65, 116, 111, 105]⟩, .string s, ev] 121 (0, 0)) ∧ Below w.heap.size w w' := Any.strconv_Atoi_range Tryd.laysC172 s hlim h ev w hv hev
def Tryd.lays144_ren : Go.Shelf.Ren := ⟨fun | 144 => 78 | 143 => 67 | 219 => 68 | 217 => 89 | 225 => 90 | 224 => 91 | 267 => 92 | 266 => 104 | 314 => 105 | n => n, fun | 9 => 9 | 4 => 4 | 3 => 3 | 5 => 5 | 46 => 32 | 146 => 144 | 51 => 141 | n => n, fun | 1 => 2 | n => n⟩
theorem Tryd.lays144 : Go.Proofs.Lays.n144 Tryd.prog Tryd.lays144_ren := {
  mixed := by kernel_rfl
  f143 := Tryd.func67.trans (congrArg some (by kernel_rfl))
  f144 := Tryd.func78.trans (congrArg some (by kernel_rfl))
  f217 := Tryd.func89.trans (congrArg some (by kernel_rfl))
  f219 := Tryd.func68.trans (congrArg some (by kernel_rfl))
  f224 := Tryd.func91.trans (congrArg some (by kernel_rfl))
  f225 := Tryd.func90.trans (congrArg some (by kernel_rfl))
  f266 := Tryd.func104.trans (congrArg some (by kernel_rfl))
  f267 := Tryd.func92.trans (congrArg some (by kernel_rfl))
  f314 := Tryd.func105.trans (congrArg some (by kernel_rfl))
  t3 := Tryd.underlying3
  a3 := Tryd.isAgg3
  z3 := Tryd.sizeOf3
  v3 := Tryd.zeroValue3
  t4 := Tryd.underlying4
  a4 := Tryd.isAgg4
  z4 := Tryd.sizeOf4
  v4 := Tryd.zeroValue4
  t5 := Tryd.underlying5
  a5 := Tryd.isAgg5
  z5 := Tryd.sizeOf5
  v5 := Tryd.zeroValue5
  t9 := Tryd.underlying9
  a9 := Tryd.isAgg9
  z9 := Tryd.sizeOf9
  v9 := Tryd.zeroValue9
  t46 := Tryd.underlying32
  a46 := Tryd.isAgg32
  z46 := Tryd.sizeOf32
  v46 := Tryd.zeroValue32
  t51 := Tryd.underlying141
  a51 := Tryd.isAgg141
  z51 := Tryd.sizeOf141
  v51 := Tryd.zeroValue141
  t146 := Tryd.underlying144
  a146 := Tryd.isAgg144
  z146 := Tryd.sizeOf144
  v146 := Tryd.zeroValue144
  g1 := by kernel_rfl }
open Go.RowKit Go.Lib in
theorem Tryd.strings_Contains (s sub : ByteArray) (m : Int) (w : World) (hs : s.size < 4294967281) (hm : w.cell? ⟨2, 0, none⟩ = some (.int .i64 m)) :
    Calls Tryd.prog 78 #[.string s, .string sub] w fun e w' => e = .returned (.bool (Lib.contains s.data.toList sub.data.toList)) ∧ w' = w := Any.strings_Contains Tryd.lays144 s sub m w hs hm
def Tryd.lays145_ren : Go.Shelf.Ren := ⟨fun | 145 => 31 | 220 => 49 | 219 => 68 | 217 => 89 | 225 => 90 | 224 => 91 | 267 => 92 | 266 => 104 | 314 => 105 | n => n, fun | 9 => 9 | 4 => 4 | 59 => 63 | 3 => 3 | 5 => 5 | 46 => 32 | 146 => 144 | 51 => 141 | n => n, fun | 1 => 2 | n => n⟩
theorem Tryd.lays145 : Go.Proofs.Lays.n145 Tryd.prog Tryd.lays145_ren := {
  mixed := by kernel_rfl
  f145 := Tryd.func31.trans (congrArg some (by kernel_rfl))
  f217 := Tryd.func89.trans (congrArg some (by kernel_rfl))
  f219 := Tryd.func68.trans (congrArg some (by kernel_rfl))
  f220 := Tryd.func49.trans (congrArg some (by kernel_rfl))
  f224 := Tryd.func91.trans (congrArg some (by kernel_rfl))
  f225 := Tryd.func90.trans (congrArg some (by kernel_rfl))
  f266 := Tryd.func104.trans (congrArg some (by kernel_rfl))
  f267 := Tryd.func92.trans (congrArg some (by kernel_rfl))
  f314 := Tryd.func105.trans (congrArg some (by kernel_rfl))
  t3 := Tryd.underlying3
  a3 := Tryd.isAgg3
  z3 := Tryd.sizeOf3
  v3 := Tryd.zeroValue3
  t4 := Tryd.underlying4
  a4 := Tryd.isAgg4
  z4 := Tryd.sizeOf4
  v4 := Tryd.zeroValue4
  t5 := Tryd.underlying5
  a5 := Tryd.isAgg5
  z5 := Tryd.sizeOf5
  v5 := Tryd.zeroValue5
  t9 := Tryd.underlying9
  a9 := Tryd.isAgg9
  z9 := Tryd.sizeOf9
  v9 := Tryd.zeroValue9
  t46 := Tryd.underlying32
  a46 := Tryd.isAgg32
  z46 := Tryd.sizeOf32
  v46 := Tryd.zeroValue32
  t51 := Tryd.underlying141
  a51 := Tryd.isAgg141
  z51 := Tryd.sizeOf141
  v51 := Tryd.zeroValue141
  t59 := Tryd.underlying63
  a59 := Tryd.isAgg63
  z59 := Tryd.sizeOf63
  v59 := Tryd.zeroValue63
  t146 := Tryd.underlying144
  a146 := Tryd.isAgg144
  z146 := Tryd.sizeOf144
  v146 := Tryd.zeroValue144
  g1 := by kernel_rfl }
open Go.RowKit Go.Lib in
theorem Tryd.strings_Cut (s sep : ByteArray) (m : Int) (w : World) (hs : s.size < 4294967281) (hm : w.cell? ⟨2, 0, none⟩ = some (.int .i64 m)) :
    Calls Tryd.prog 31 #[.string s, .string sep] w fun e w' => e = .returned (.tuple #[.string ⟨(Lib.cut s.data.toList sep.data.toList).1.toArray⟩, .string ⟨(Lib.cut s.data.toList sep.data.toList).2.1.toArray⟩, .bool (Lib.cut s.data.toList sep.data.toList).2.2]) ∧ ∃ n, w' = w.drewN n := Any.strings_Cut Tryd.lays145 s sep m w hs hm
def Tryd.lays99_ren : Go.Shelf.Ren := ⟨fun | 99 => 77 | 206 => 95 | n => n, fun | 9 => 9 | 4 => 4 | 3 => 3 | n => n, fun | n => n⟩
theorem Tryd.lays99 : Go.Proofs.Lays.n99 Tryd.prog Tryd.lays99_ren := {
  mixed := by kernel_rfl
  f99 := Tryd.func77.trans (congrArg some (by kernel_rfl))
  f206 := Tryd.func95.trans (congrArg some (by kernel_rfl))
  t3 := Tryd.underlying3
  a3 := Tryd.isAgg3
  z3 := Tryd.sizeOf3
  v3 := Tryd.zeroValue3
  t4 := Tryd.underlying4
  a4 := Tryd.isAgg4
  z4 := Tryd.sizeOf4
  v4 := Tryd.zeroValue4
  t9 := Tryd.underlying9
  a9 := Tryd.isAgg9
  z9 := Tryd.sizeOf9
  v9 := Tryd.zeroValue9 }
open Go.RowKit Go.Lib in
theorem Tryd.strings_HasPrefix (s p : ByteArray) (w : World) :
    Calls Tryd.prog 77 #[.string s, .string p] w fun e w' => e = .returned (.bool (Lib.hasPrefix s.data.toList p.data.toList)) ∧ w' = w := Any.strings_HasPrefix Tryd.lays99 s p w
def Tryd.lays146_ren : Go.Shelf.Ren := ⟨fun | 146 => 29 | 221 => 48 | 268 => 65 | 138 => 66 | 143 => 67 | 195 => 86 | 197 => 87 | 218 => 88 | 219 => 68 | 260 => 103 | 217 => 89 | 225 => 90 | 224 => 91 | 267 => 92 | 266 => 104 | 314 => 105 | n => n, fun | 9 => 9 | 31 => 26 | 3 => 3 | 4 => 4 | 0 => 0 | 105 => 129 | 21 => 21 | 5 => 5 | 46 => 32 | 119 => 147 | 139 => 150 | 138 => 149 | 146 => 144 | 51 => 141 | n => n, fun | 1 => 2 | 3 => 4 | 4 => 5 | n => n⟩
theorem Tryd.lays146 : Go.Proofs.Lays.n146 Tryd.prog Tryd.lays146_ren := {
  mixed := by kernel_rfl
  f138 := Tryd.func66.trans (congrArg some (by kernel_rfl))
  f143 := Tryd.func67.trans (congrArg some (by kernel_rfl))
  f146 := Tryd.func29.trans (congrArg some (by kernel_rfl))
  f195 := Tryd.func86.trans (congrArg some (by kernel_rfl))
  f197 := Tryd.func87.trans (congrArg some (by kernel_rfl))
  f217 := Tryd.func89.trans (congrArg some (by kernel_rfl))
  f218 := Tryd.func88.trans (congrArg some (by kernel_rfl))
  f219 := Tryd.func68.trans (congrArg some (by kernel_rfl))
  f221 := Tryd.func48.trans (congrArg some (by kernel_rfl))
  f224 := Tryd.func91.trans (congrArg some (by kernel_rfl))
  f225 := Tryd.func90.trans (congrArg some (by kernel_rfl))
  f260 := Tryd.func103.trans (congrArg some (by kernel_rfl))
  f266 := Tryd.func104.trans (congrArg some (by kernel_rfl))
  f267 := Tryd.func92.trans (congrArg some (by kernel_rfl))
  f268 := Tryd.func65.trans (congrArg some (by kernel_rfl))
  f314 := Tryd.func105.trans (congrArg some (by kernel_rfl))
  t0 := Tryd.underlying0
  a0 := Tryd.isAgg0
  z0 := Tryd.sizeOf0
  v0 := Tryd.zeroValue0
  t3 := Tryd.underlying3
  a3 := Tryd.isAgg3
  z3 := Tryd.sizeOf3
  v3 := Tryd.zeroValue3
  t4 := Tryd.underlying4
  a4 := Tryd.isAgg4
  z4 := Tryd.sizeOf4
  v4 := Tryd.zeroValue4
  t5 := Tryd.underlying5
  a5 := Tryd.isAgg5
  z5 := Tryd.sizeOf5
  v5 := Tryd.zeroValue5
  t9 := Tryd.underlying9
  a9 := Tryd.isAgg9
  z9 := Tryd.sizeOf9
  v9 := Tryd.zeroValue9
  t21 := Tryd.underlying21
  a21 := Tryd.isAgg21
  z21 := Tryd.sizeOf21
  v21 := Tryd.zeroValue21
  t31 := Tryd.underlying26
  a31 := Tryd.isAgg26
  z31 := Tryd.sizeOf26
  v31 := Tryd.zeroValue26
  t46 := Tryd.underlying32
  a46 := Tryd.isAgg32
  z46 := Tryd.sizeOf32
  v46 := Tryd.zeroValue32
  t51 := Tryd.underlying141
  a51 := Tryd.isAgg141
  z51 := Tryd.sizeOf141
  v51 := Tryd.zeroValue141
  t105 := Tryd.underlying129
  a105 := Tryd.isAgg129
  z105 := Tryd.sizeOf129
  v105 := Tryd.zeroValue129
  t119 := Tryd.underlying147
  a119 := Tryd.isAgg147
  z119 := Tryd.sizeOf147
  t138 := Tryd.underlying149
  a138 := Tryd.isAgg149
  z138 := Tryd.sizeOf149
  v138 := Tryd.zeroValue149
  t139 := Tryd.underlying150
  a139 := Tryd.isAgg150
  z139 := Tryd.sizeOf150
  v139 := Tryd.zeroValue150
  t146 := Tryd.underlying144
  a146 := Tryd.isAgg144
  z146 := Tryd.sizeOf144
  v146 := Tryd.zeroValue144
  g1 := by kernel_rfl
  g3 := by kernel_rfl
  g4 := by kernel_rfl }
open Go.RowKit Go.Lib in
theorem Tryd.strings_Split (s sep : ByteArray) (m : Int) (w : World) (hs : s.size < 4294967281) (hm : w.cell? ⟨2, 0, none⟩ = some (.int .i64 m)) (h1 : 1 ≤ sep.size) :
    Calls Tryd.prog 29 #[.string s, .string sep] w fun e w' =>
      e = .returned (.slice (some ⟨w.heap.size, 0, none⟩) (Lib.countB s sep + 1) (Lib.countB s sep + 1)) ∧ w' = w.alloc (.cells ((Lib.splitB sep 0 (Lib.countB s sep) s).map Value.string).toArray 9) := Any.strings_Split Tryd.lays146 (by kernel_rfl) s sep m w hs hm h1
def Tryd.laysM146_ren : Go.Shelf.Ren := ⟨fun | 146 => 29 | 221 => 48 | 268 => 65 | 138 => 66 | 143 => 67 | 195 => 86 | 197 => 87 | 218 => 88 | 219 => 68 | 260 => 103 | 217 => 89 | 225 => 90 | 224 => 91 | 267 => 92 | 266 => 104 | 314 => 105 | n => n, fun | 9 => 9 | 31 => 26 | 3 => 3 | 4 => 4 | 0 => 0 | 105 => 129 | 21 => 21 | 5 => 5 | 46 => 32 | 119 => 147 | 139 => 150 | 138 => 149 | 146 => 144 | 51 => 141 | n => n, fun | 1 => 2 | 3 => 4 | 4 => 5 | n => n⟩
theorem Tryd.laysM146 : Go.Proofs.LaysM.n146 Tryd.prog Tryd.laysM146_ren := {
  mixed := by kernel_rfl
  f138 := Tryd.func66.trans (congrArg some (by kernel_rfl))
  f143 := Tryd.func67.trans (congrArg some (by kernel_rfl))
  f146 := Tryd.func29.trans (congrArg some (by kernel_rfl))
  f195 := Tryd.func86.trans (congrArg some (by kernel_rfl))
  f197 := Tryd.func87.trans (congrArg some (by kernel_rfl))
  f217 := Tryd.func89.trans (congrArg some (by kernel_rfl))
  f218 := Tryd.func88.trans (congrArg some (by kernel_rfl))
  f219 := Tryd.func68.trans (congrArg some (by kernel_rfl))
  f221 := Tryd.func48.trans (congrArg some (by kernel_rfl))
  f224 := Tryd.func91.trans (congrArg some (by kernel_rfl))
  f225 := Tryd.func90.trans (congrArg some (by kernel_rfl))
  f260 := Tryd.func103.trans (congrArg some (by kernel_rfl))
  f266 := Tryd.func104.trans (congrArg some (by kernel_rfl))
  f267 := Tryd.func92.trans (congrArg some (by kernel_rfl))
  f268 := Tryd.func65.trans (congrArg some (by kernel_rfl))
  f314 := Tryd.func105.trans (congrArg some (by kernel_rfl))
  t0 := Tryd.underlying0
  a0 := Tryd.isAgg0
  z0 := Tryd.sizeOf0
  v0 := Tryd.zeroValue0
  t3 := Tryd.underlying3
  a3 := Tryd.isAgg3
  z3 := Tryd.sizeOf3
  v3 := Tryd.zeroValue3
  t4 := Tryd.underlying4
  a4 := Tryd.isAgg4
  z4 := Tryd.sizeOf4
  v4 := Tryd.zeroValue4
  t5 := Tryd.underlying5
  a5 := Tryd.isAgg5
  z5 := Tryd.sizeOf5
  v5 := Tryd.zeroValue5
  t9 := Tryd.underlying9
  a9 := Tryd.isAgg9
  z9 := Tryd.sizeOf9
  v9 := Tryd.zeroValue9
  t21 := Tryd.underlying21
  a21 := Tryd.isAgg21
  z21 := Tryd.sizeOf21
  v21 := Tryd.zeroValue21
  t31 := Tryd.underlying26
  a31 := Tryd.isAgg26
  z31 := Tryd.sizeOf26
  v31 := Tryd.zeroValue26
  t46 := Tryd.underlying32
  a46 := Tryd.isAgg32
  z46 := Tryd.sizeOf32
  v46 := Tryd.zeroValue32
  t51 := Tryd.underlying141
  a51 := Tryd.isAgg141
  z51 := Tryd.sizeOf141
  v51 := Tryd.zeroValue141
  t105 := Tryd.underlying129
  a105 := Tryd.isAgg129
  z105 := Tryd.sizeOf129
  v105 := Tryd.zeroValue129
  t119 := Tryd.underlying147
  a119 := Tryd.isAgg147
  z119 := Tryd.sizeOf147
  t138 := Tryd.underlying149
  a138 := Tryd.isAgg149
  z138 := Tryd.sizeOf149
  v138 := Tryd.zeroValue149
  t139 := Tryd.underlying150
  a139 := Tryd.isAgg150
  z139 := Tryd.sizeOf150
  v139 := Tryd.zeroValue150
  t146 := Tryd.underlying144
  a146 := Tryd.isAgg144
  z146 := Tryd.sizeOf144
  v146 := Tryd.zeroValue144
  g1 := by kernel_rfl
  g3 := by kernel_rfl
  g4 := by kernel_rfl
  i0 := by kernel_rfl
  i3 := by kernel_rfl
  i4 := by kernel_rfl
  i5 := by kernel_rfl
  i9 := by kernel_rfl
  i21 := by kernel_rfl
  i31 := by kernel_rfl
  i46 := by kernel_rfl
  i51 := by kernel_rfl
  i105 := by kernel_rfl
  i138 := by kernel_rfl
  i139 := by kernel_rfl
  i146 := by kernel_rfl
  m1 := by kernel_rfl
  s1_3 := fun w h => Go.Proofs.cell_of_shapedOpen_int (zero := #[.int .i64 0]) (t := 3) h (of_decide_eq_true (by kernel_rfl)) (by kernel_rfl) rfl (by kernel_rfl) (by kernel_rfl) Tryd.underlying3
  m3 := by kernel_rfl
  m4 := by kernel_rfl }
end Go.Proofs
end
section
namespace Go.Proofs.YtgkjoodlcojkkaaDoor
open Go.ChangeShapes Go.WideShapes Go.ChangeAt Go.RowKit
open Go.ChangeMaps (open_string shut_string)
set_option linter.unusedVariables false
theorem ownK : ownKnob Tryd.prog.godebug = none := by kernel_rfl
theorem returnsInHanded_both {H : Type} {enc : TypeId × Value → H} {a : Assume} {C : Checked} {os : Os} {f : FuncId} {fn : Func} {s : ChangeSpec} {conds : List PathCond} {apart fresh handsOn again : Bool} {X : World → Array Value → Prop}
    (hX : ∀ (w w' : World) (args : Array Value), w.heap = w'.heap → X w args → X w' args)
    (own : ownKnob C.prog.godebug = none) (started : os.Started) (noInit : C.prog.inits.idxOf? f = none) (hfn : C.prog.funcs[f]? = some fn)
    (witness : ∃ (w : World) (tape : Tape) (i : Input), w.os = os ∧ (w.forCall tape i).Shaped C.prog ∧ i.vars = [] ∧ Input.okWide C.prog (w.forCall tape i) .any w.heap.size f i ∧
      ((s.pre enc C.prog fn conds apart (w.forCall tape i).memory i.args ∧ X (w.forCall tape i).memory i.args) ∧ sizedMet enc C.prog fn (OpenSpec.ofChange s) apart (w.forCall tape i).memory i.args) ∧ a.holds C.prog (lone (Frame.enter C.prog f i.args .normal) [] (w.forCall tape i)))
    (contract : ∀ (W : World) (base : Nat) (args : Array Value) (ds gs : List (DataW H)) (before : List MemPlace),
      (∀ (j : Nat) t v, fn.params[j]? = some t → args[j]? = some v → Value.okWide C.prog W .any base t v) →
      DataW.Whole enc C.prog fn.params.toList s.vars apart W args.toList ds gs before →
      (DataW.weightsEach C.prog (fn.params.toList ++ s.plain.varTypes C.prog) (ds ++ gs)).all (· ≤ reachBytes) = true → X W args → W.ShapedOpen C.prog →
      Calls C.prog f args W fun e W' => ∃ v, e = .returned v ∧ s.post enc C.prog fn apart fresh handsOn again W args v W') :
    ReturnsInHanded a C os f .any (fun w args => (s.pre enc C.prog fn conds apart w args ∧ X w args) ∧ sizedMet enc C.prog fn (OpenSpec.ofChange s) apart w args) (s.post enc C.prog fn apart fresh handsOn again) := by
  refine returnsInHanded_of_calls own started noInit witness ?_
  intro w tape i _ hsh _ hok hpre hholds
  obtain ⟨_, _, _, fn', hfn', _, _, _, _, hval⟩ := hok
  have e : fn' = fn := Option.some.inj (hfn'.symm.trans hfn)
  subst e
  obtain ⟨⟨⟨ds, gs, before, hw, hc⟩, hx⟩, hz⟩ := hpre
  have hw' := DataW.Whole.of_heap (w' := w.forCall tape i) (by rfl) hw
  refine (contract (w.forCall tape i) w.heap.size i.args ds gs before hval hw' (hz.weights hw) (hX _ _ _ (by rfl) hx) hsh).mono fun e W' ⟨v, he, hp⟩ => ?_
  subst he
  exact ChangeSpec.post_blind hp
abbrev laidL : List (String × DataW Unit) := Rows.wordsTellRow.laid
theorem star : "*errors.errorString" = "*" ++ "errors.errorString" := by decide
theorem row136 (u : TypeId) (h : Tryd.prog.typeName? 3 u = some "*errors.errorString") : u = 136 :=
  typeName_ptr_named (nm := "errors.errorString") (by rw [← star]; kernel_rfl) (by kernel_rfl) (by decide) u (by rw [← star]; exact h)
theorem globAt_of_laid {W : World} (hs : W.ShapedOpen Tryd.prog) (h : laidMetH Tryd.prog laidL W) : GlobAt W := by
  rw [MakeChecks.laidMetH_plain _ _ _ (by kernel_rfl)] at h
  have h : laidMet Tryd.prog [("math/bits.deBruijn32tab", Rows.laid_math_bits_deBruijn32tab), ("math/bits.deBruijn64tab", Rows.laid_math_bits_deBruijn64tab), ("internal/strconv.uint64pow10", Rows.laid_internal_strconv_uint64pow10), ("unicode/utf8.acceptRanges", Rows.laid_unicode_utf8_acceptRanges), ("strconv.ErrRange", Rows.laid_strconv_ErrRange), ("strconv.ErrSyntax", Rows.laid_strconv_ErrSyntax), ("unicode/utf8.first", Rows.laid_unicode_utf8_first)] W := h
  have h3 := h.tail.tail
  have h5 := h3.tail.tail
  obtain ⟨a5, s5, hv5, _⟩ := laid_sentinel h5 (g := 1) (ti := 58) (tp := 136) (te := 138) (ts := 9) (by kernel_rfl) (by kernel_rfl) Tryd.underlying58 row136 Tryd.underlying136 Tryd.underlying138 rfl rfl Tryd.underlying9 (by kernel_rfl) (by kernel_rfl)
  obtain ⟨a6, s6, hv6, _⟩ := laid_sentinel h5.tail (g := 0) (ti := 58) (tp := 136) (te := 138) (ts := 9) (by kernel_rfl) (by kernel_rfl) Tryd.underlying58 row136 Tryd.underlying136 Tryd.underlying138 rfl rfl Tryd.underlying9 (by kernel_rfl) (by kernel_rfl)
  have hp : Lib.TabIs Tryd.prog W "internal/strconv.uint64pow10" .u64 Lib.pow10Tab :=
    Lib.tabIs_of_head (g := 3) (t := 140) (e := 116) (n := 20) (by kernel_rfl) (by kernel_rfl) Tryd.underlying140 Tryd.underlying116 (by kernel_rfl) (by kernel_rfl) h3
  exact ⟨Tryd.laysM146.s1_3 W hs, hp, ⟨_, _, hv6⟩, ⟨_, _, hv5⟩⟩
end Go.Proofs.YtgkjoodlcojkkaaDoor
end
section
namespace Go.Proofs.YtgkjoodlcojkkaaDoor.QD
open Go.RowKit Go.Proofs.YtgkjoodlcojkkaaDoorW.PrintWords Go.Proofs.YtgkjoodlcojkkaaDoorW.PrintLast Go.Proofs.YtgkjoodlcojkkaaDoorW.PrintMore
attribute [local go_sem] zbd_ zbe_ zbm_ zbl_ zaW_ zaX_ zbc_ zbb_
set_option linter.unusedVariables false
set_option linter.unusedSimpArgs false
def bs (n m : Nat) : Array Bool := ((List.range n).map fun i => m.testBit i).toArray
class IsTrue (b : Bool) : Prop where
  out : b = true
instance : IsTrue true := ⟨rfl⟩
def errW : Option Int → Value
  | none => .nilIface
  | some c => .iface 98 (.int .i64 c)
theorem zal_ : errW none = .nilIface := rfl
theorem zak_ (c : Int) : errW (some c) = .iface 98 (.int .i64 c) := rfl
theorem info3 : (Tryd.prog.info? 3).map (fun i => (i.zero, i.size, i.bytes)) = some (some (.int .i64 0), 1, 8) := by kernel_rfl
theorem info9 : (Tryd.prog.info? 9).map (fun i => (i.zero, i.size, i.bytes)) = some (some (.string ⟨#[]⟩), 1, 16) := by kernel_rfl
theorem info50 : (Tryd.prog.info? 50).map (fun i => (i.zero, i.size, i.bytes)) = some (some (.agg #[(.int .i64 0), (.int .i64 0), (.int .i64 0)]), 3, 24) := by kernel_rfl
theorem info53 : (Tryd.prog.info? 53).map (fun i => (i.zero, i.size, i.bytes)) = some (some (.agg #[(.string ⟨#[]⟩), (.int .i64 0), (.int .i64 0), (.int .i64 0), (.int .i64 0), (.slice none 0 0)]), 6, 72) := by kernel_rfl
theorem info81 : (Tryd.prog.info? 81).map (fun i => (i.zero, i.size, i.bytes)) = some (some (.agg #[(.int .i64 0), (.slice none 0 0)]), 2, 32) := by kernel_rfl
structure S50 where
  f0 : Int
  f1 : Int
  f2 : Int
def z50 : S50 := ⟨(0 : Int), (0 : Int), (0 : Int)⟩
def k50 : Kd S50 := Kd.iso (Kd.pair (Kd.int .i64) (Kd.pair (Kd.int .i64) (Kd.int .i64))) (fun x : S50 => (x.f0, x.f1, x.f2))
theorem k50_open {w : World} {x : S50} {cs : List Value} (h : k50.K w x cs) : cs = [.int .i64 x.f0, .int .i64 x.f1, .int .i64 x.f2] := by
  obtain ⟨_, _, rfl, rfl, ⟨_, _, rfl, rfl, rfl⟩⟩ := h
  exact rfl
theorem k50_mk (w : World) (x : S50)  : k50.K w x [.int .i64 x.f0, .int .i64 x.f1, .int .i64 x.f2] := ⟨[.int .i64 x.f0], [.int .i64 x.f1, .int .i64 x.f2], rfl, rfl, ⟨[.int .i64 x.f1], [.int .i64 x.f2], rfl, rfl, rfl⟩⟩
theorem k50_mkM (w : World) (base : Nat) (ok : Nat → Prop) (x : S50)  : k50.M w base ok x [.int .i64 x.f0, .int .i64 x.f1, .int .i64 x.f2] := ⟨[.int .i64 x.f0], [.int .i64 x.f1, .int .i64 x.f2], rfl, rfl, ⟨[.int .i64 x.f1], [.int .i64 x.f2], rfl, rfl, rfl⟩⟩
def rd_T50 (xs : List S50) (i : Int) : S50 := xs.getD i.toNat z50
theorem at_T50 {w : World} {A : Option Addr} {n : Nat} {xs : List S50} (h : Kd.C k50 w A n xs) (i : Int) (h0 : 0 ≤ i) (h1 : i < n) : ∃ ad , A = some ad ∧ w.cell? (ad.add (i.toNat * 3)) = some (.int .i64 (rd_T50 xs i).f0) ∧ w.cell? ⟨(ad.add (i.toNat * 3)).block, (ad.add (i.toNat * 3)).off + 1, none⟩ = some (.int .i64 (rd_T50 xs i).f1) ∧ w.cell? ⟨(ad.add (i.toNat * 3)).block, (ad.add (i.toNat * 3)).off + 2, none⟩ = some (.int .i64 (rd_T50 xs i).f2) := by
  obtain ⟨ad, c, e, _, hK, hc0⟩ := Kd.C_get h z50 i h0 h1
  have hc : ∀ j u, c[j]? = some u → w.cell? (ad.add (i.toNat * 3 + j)) = some u := hc0
  obtain rfl := k50_open hK
  exact ⟨ad, e, hc 0 _ rfl, by rw [← add_field _ _ 1 (by omega)]; exact hc 1 _ rfl, by rw [← add_field _ _ 2 (by omega)]; exact hc 2 _ rfl⟩
structure S53 where
  f0 : ByteArray
  f1 : Int
  f2 : Int
  f3 : Int
  f4 : Int
  f5 : (List S50)
def z53 : S53 := ⟨(⟨#[]⟩ : ByteArray), (0 : Int), (0 : Int), (0 : Int), (0 : Int), ([] : List S50)⟩
def k53 : Kd S53 := Kd.iso (Kd.pair Kd.string (Kd.pair (Kd.int .i64) (Kd.pair (Kd.int .i64) (Kd.pair (Kd.int .i64) (Kd.pair (Kd.int .i64) (Kd.slice 50 k50)))))) (fun x : S53 => (x.f0, x.f1, x.f2, x.f3, x.f4, x.f5))
theorem k53_open {w : World} {x : S53} {cs : List Value} (h : k53.K w x cs) : ∃ A5 c5, cs = [.string x.f0, .int .i64 x.f1, .int .i64 x.f2, .int .i64 x.f3, .int .i64 x.f4, .slice A5 x.f5.length c5] ∧ x.f5.length ≤ c5 ∧ k50.C w A5 x.f5.length x.f5 := by
  obtain ⟨_, _, rfl, rfl, ⟨_, _, rfl, rfl, ⟨_, _, rfl, rfl, ⟨_, _, rfl, rfl, ⟨_, _, rfl, rfl, ⟨A5, c5, rfl, l5, g5⟩⟩⟩⟩⟩⟩ := h
  exact ⟨A5, c5, rfl, l5, g5⟩
theorem k53_openM {w : World} {base : Nat} {ok : Nat → Prop} {x : S53} {cs : List Value} (h : k53.M w base ok x cs) : ∃ v5, cs = [.string x.f0, .int .i64 x.f1, .int .i64 x.f2, .int .i64 x.f3, .int .i64 x.f4, v5] ∧ k50.R 50 w base ok v5 x.f5 := by
  obtain ⟨_, _, rfl, rfl, ⟨_, _, rfl, rfl, ⟨_, _, rfl, rfl, ⟨_, _, rfl, rfl, ⟨_, _, rfl, rfl, ⟨v5, rfl, g5⟩⟩⟩⟩⟩⟩ := h
  exact ⟨v5, rfl, g5⟩
theorem k53_mk (w : World) (x : S53) {A5 : Option Addr} {c5 : Nat} (l5 : x.f5.length ≤ c5) (g5 : k50.C w A5 x.f5.length x.f5) : k53.K w x [.string x.f0, .int .i64 x.f1, .int .i64 x.f2, .int .i64 x.f3, .int .i64 x.f4, .slice A5 x.f5.length c5] := ⟨[.string x.f0], [.int .i64 x.f1, .int .i64 x.f2, .int .i64 x.f3, .int .i64 x.f4, .slice A5 x.f5.length c5], rfl, rfl, ⟨[.int .i64 x.f1], [.int .i64 x.f2, .int .i64 x.f3, .int .i64 x.f4, .slice A5 x.f5.length c5], rfl, rfl, ⟨[.int .i64 x.f2], [.int .i64 x.f3, .int .i64 x.f4, .slice A5 x.f5.length c5], rfl, rfl, ⟨[.int .i64 x.f3], [.int .i64 x.f4, .slice A5 x.f5.length c5], rfl, rfl, ⟨[.int .i64 x.f4], [.slice A5 x.f5.length c5], rfl, rfl, ⟨A5, c5, rfl, l5, g5⟩⟩⟩⟩⟩⟩
theorem k53_mkM (w : World) (base : Nat) (ok : Nat → Prop) (x : S53) {v5 : Value} (g5 : k50.R 50 w base ok v5 x.f5) : k53.M w base ok x [.string x.f0, .int .i64 x.f1, .int .i64 x.f2, .int .i64 x.f3, .int .i64 x.f4, v5] := ⟨[.string x.f0], [.int .i64 x.f1, .int .i64 x.f2, .int .i64 x.f3, .int .i64 x.f4, v5], rfl, rfl, ⟨[.int .i64 x.f1], [.int .i64 x.f2, .int .i64 x.f3, .int .i64 x.f4, v5], rfl, rfl, ⟨[.int .i64 x.f2], [.int .i64 x.f3, .int .i64 x.f4, v5], rfl, rfl, ⟨[.int .i64 x.f3], [.int .i64 x.f4, v5], rfl, rfl, ⟨[.int .i64 x.f4], [v5], rfl, rfl, ⟨v5, rfl, g5⟩⟩⟩⟩⟩⟩
def rd_T53 (xs : List S53) (i : Int) : S53 := xs.getD i.toNat z53
theorem at_T53 {w : World} {A : Option Addr} {n : Nat} {xs : List S53} (h : Kd.C k53 w A n xs) (i : Int) (h0 : 0 ≤ i) (h1 : i < n) : ∃ ad A5 c5, A = some ad ∧ w.cell? (ad.add (i.toNat * 6)) = some (.string (rd_T53 xs i).f0) ∧ w.cell? ⟨(ad.add (i.toNat * 6)).block, (ad.add (i.toNat * 6)).off + 1, none⟩ = some (.int .i64 (rd_T53 xs i).f1) ∧ w.cell? ⟨(ad.add (i.toNat * 6)).block, (ad.add (i.toNat * 6)).off + 2, none⟩ = some (.int .i64 (rd_T53 xs i).f2) ∧ w.cell? ⟨(ad.add (i.toNat * 6)).block, (ad.add (i.toNat * 6)).off + 3, none⟩ = some (.int .i64 (rd_T53 xs i).f3) ∧ w.cell? ⟨(ad.add (i.toNat * 6)).block, (ad.add (i.toNat * 6)).off + 4, none⟩ = some (.int .i64 (rd_T53 xs i).f4) ∧ w.cell? ⟨(ad.add (i.toNat * 6)).block, (ad.add (i.toNat * 6)).off + 5, none⟩ = some (.slice A5 (rd_T53 xs i).f5.length c5) ∧ (rd_T53 xs i).f5.length ≤ c5 ∧ k50.C w A5 (rd_T53 xs i).f5.length (rd_T53 xs i).f5 := by
  obtain ⟨ad, c, e, _, hK, hc0⟩ := Kd.C_get h z53 i h0 h1
  have hc : ∀ j u, c[j]? = some u → w.cell? (ad.add (i.toNat * 6 + j)) = some u := hc0
  obtain ⟨A5, c5, rfl, l5, g5⟩ := k53_open hK
  exact ⟨ad, A5, c5, e, hc 0 _ rfl, by rw [← add_field _ _ 1 (by omega)]; exact hc 1 _ rfl, by rw [← add_field _ _ 2 (by omega)]; exact hc 2 _ rfl, by rw [← add_field _ _ 3 (by omega)]; exact hc 3 _ rfl, by rw [← add_field _ _ 4 (by omega)]; exact hc 4 _ rfl, by rw [← add_field _ _ 5 (by omega)]; exact hc 5 _ rfl, l5, g5⟩
structure S81 where
  f0 : Int
  f1 : (List ByteArray)
def z81 : S81 := ⟨(0 : Int), ([] : List ByteArray)⟩
def k81 : Kd S81 := Kd.iso (Kd.pair (Kd.int .i64) (Kd.slice 9 Kd.string)) (fun x : S81 => (x.f0, x.f1))
theorem k81_open {w : World} {x : S81} {cs : List Value} (h : k81.K w x cs) : ∃ A1 c1, cs = [.int .i64 x.f0, .slice A1 x.f1.length c1] ∧ x.f1.length ≤ c1 ∧ Kd.string.C w A1 x.f1.length x.f1 := by
  obtain ⟨_, _, rfl, rfl, ⟨A1, c1, rfl, l1, g1⟩⟩ := h
  exact ⟨A1, c1, rfl, l1, g1⟩
theorem k81_mkM (w : World) (base : Nat) (ok : Nat → Prop) (x : S81) {v1 : Value} (g1 : Kd.string.R 9 w base ok v1 x.f1) : k81.M w base ok x [.int .i64 x.f0, v1] := ⟨[.int .i64 x.f0], [v1], rfl, rfl, ⟨v1, rfl, g1⟩⟩
def rd_T81 (xs : List S81) (i : Int) : S81 := xs.getD i.toNat z81
theorem at_T81 {w : World} {A : Option Addr} {n : Nat} {xs : List S81} (h : Kd.C k81 w A n xs) (i : Int) (h0 : 0 ≤ i) (h1 : i < n) : ∃ ad A1 c1, A = some ad ∧ w.cell? (ad.add (i.toNat * 2)) = some (.int .i64 (rd_T81 xs i).f0) ∧ w.cell? ⟨(ad.add (i.toNat * 2)).block, (ad.add (i.toNat * 2)).off + 1, none⟩ = some (.slice A1 (rd_T81 xs i).f1.length c1) ∧ (rd_T81 xs i).f1.length ≤ c1 ∧ Kd.string.C w A1 (rd_T81 xs i).f1.length (rd_T81 xs i).f1 := by
  obtain ⟨ad, c, e, _, hK, hc0⟩ := Kd.C_get h z81 i h0 h1
  have hc : ∀ j u, c[j]? = some u → w.cell? (ad.add (i.toNat * 2 + j)) = some u := hc0
  obtain ⟨A1, c1, rfl, l1, g1⟩ := k81_open hK
  exact ⟨ad, A1, c1, e, hc 0 _ rfl, by rw [← add_field _ _ 1 (by omega)]; exact hc 1 _ rfl, l1, g1⟩
end Go.Proofs.YtgkjoodlcojkkaaDoor.QD
end
section
namespace Go.Proofs.YtgkjoodlcojkkaaDoor.QD
open Go.RowKit Go.Proofs.YtgkjoodlcojkkaaDoorW.PrintWords Go.Proofs.YtgkjoodlcojkkaaDoorW.PrintLast Go.Proofs.YtgkjoodlcojkkaaDoorW.PrintMore
set_option linter.unusedVariables false
set_option linter.unusedSimpArgs false
theorem reps_strings : ∀ l : List ByteArray, Reps (fun x cs => cs = [Value.string x]) 1 l (l.map Value.string) := by
  intro l
  refine ⟨by simp, fun j p hj => ?_⟩
  obtain ⟨hk, rfl⟩ := List.getElem?_eq_some_iff.1 hj
  rw [Nat.mul_one, ← List.map_drop, ← List.map_take, List.drop_eq_getElem_cons hk]
  rfl
theorem R_strings (w : World) (l : List ByteArray) (h : l ≠ []) (hl : l.length ≤ maxLen) :
    Kd.R Kd.string 9 (w.alloc (.cells (l.map Value.string).toArray 9)) w.heap.size (fun _ => True) (.slice (some ⟨w.heap.size, 0, none⟩) l.length l.length) l := by
  have hz : (Kd.string).sz = 1 := rfl
  refine ⟨fun _ _ => trivial, l.map Value.string, ⟨by simp [hz], .inr ⟨w.heap.size, l.length, (l.map Value.string).toArray, rfl, Nat.le_refl _, heap_alloc_new w _, Nat.le_refl _, hl, by simp [hz], ?_⟩⟩, reps_strings l⟩
  rw [hz, Nat.mul_one, List.take_of_length_le (by simp)]
def strings_Split.f (a0 : ByteArray) (a1 : ByteArray) : Option (List ByteArray) :=
  if a0.size < 4294967281 ∧ 1 ≤ a1.size then some (Lib.splitB a1 0 (Lib.countB a0 a1) a0) else none
theorem strings_Split.calls (a0 : ByteArray) (a1 : ByteArray) (r : List ByteArray) (w : World) (hG : Glob w) (h : strings_Split.f a0 a1 = some r) :
    Calls Tryd.prog 29 #[.string a0, .string a1] w fun e w' => ∃ v0_ : Value, e = .returned (v0_) ∧ Kd.R Kd.string 9 w' w.heap.size (fun _ => True) v0_ r ∧ Below w.heap.size w w' := by
  unfold strings_Split.f at h
  by_cases c : a0.size < 4294967281 ∧ 1 ≤ a1.size
  · rw [if_pos c] at h
    obtain rfl := Option.some.inj h
    obtain ⟨m, hm⟩ := hG.at.maxlen
    refine (Tryd.strings_Split a0 a1 m w c.1 hm c.2).mono fun e w' ⟨he, hw⟩ => ?_
    have hlen := Lib.splitB_all a1 c.2 0 _ a0 rfl
    have hle : (Lib.splitB a1 0 (Lib.countB a0 a1) a0).length ≤ maxLen := by
      rw [hlen]
      have : Lib.countB a0 a1 ≤ a0.size := Lib.countB_le a1 c.2 _ a0 (Nat.le_refl _)
      unfold maxLen; omega
    refine ⟨_, he, ?_, ?_⟩
    · have z := R_strings w (Lib.splitB a1 0 (Lib.countB a0 a1) a0) (by intro e; rw [e] at hlen; simp at hlen) hle
      rw [hlen] at z
      rw [hw]
      exact z
    · rw [hw]; exact zah_ (Below.refl _ _) _
  · rw [if_neg c] at h; cases h
def strings_Cut.f (a0 : ByteArray) (a1 : ByteArray) : Option (ByteArray × ByteArray × Bool) :=
  if a0.size < 4294967281 then some (⟨(Lib.cut a0.data.toList a1.data.toList).1.toArray⟩, ⟨(Lib.cut a0.data.toList a1.data.toList).2.1.toArray⟩, (Lib.cut a0.data.toList a1.data.toList).2.2) else none
theorem strings_Cut.calls (a0 : ByteArray) (a1 : ByteArray) (r1 : ByteArray) (r2 : ByteArray) (r3 : Bool) (w : World) (hG : Glob w) (h : strings_Cut.f a0 a1 = some (r1, r2, r3)) :
    Calls Tryd.prog 31 #[.string a0, .string a1] w fun e w' => e = .returned (.tuple #[.string r1, .string r2, .bool r3]) ∧ Below w.heap.size w w' := by
  unfold strings_Cut.f at h
  by_cases c : a0.size < 4294967281
  · rw [if_pos c] at h
    simp only [Option.some.injEq, Prod.mk.injEq] at h
    obtain ⟨rfl, rfl, rfl⟩ := h
    obtain ⟨m, hm⟩ := hG.at.maxlen
    refine (Tryd.strings_Cut a0 a1 m w c hm).mono fun e w' ⟨he, n, hw⟩ => ⟨he, ?_⟩
    rw [hw]; exact zae_ (Below.refl _ _) _
  · rw [if_neg c] at h; cases h
def strings_HasPrefix.f (a0 : ByteArray) (a1 : ByteArray) : Option Bool := some (Lib.hasPrefix a0.data.toList a1.data.toList)
theorem strings_HasPrefix.calls (a0 : ByteArray) (a1 : ByteArray) (r : Bool) (w : World) (h : strings_HasPrefix.f a0 a1 = some r) :
    Calls Tryd.prog 77 #[.string a0, .string a1] w fun e w' => e = .returned (.bool r) ∧ Below w.heap.size w w' := by
  unfold strings_HasPrefix.f at h
  obtain rfl := Option.some.inj h
  refine (Tryd.strings_HasPrefix a0 a1 w).mono fun e w' ⟨he, hw⟩ => ⟨he, ?_⟩
  rw [hw]; exact Below.refl _ _
def strings_Contains.f (a0 : ByteArray) (a1 : ByteArray) : Option Bool := if a0.size < 4294967281 then some (Lib.contains a0.data.toList a1.data.toList) else none
theorem strings_Contains.calls (a0 : ByteArray) (a1 : ByteArray) (r : Bool) (w : World) (hG : Glob w) (h : strings_Contains.f a0 a1 = some r) :
    Calls Tryd.prog 78 #[.string a0, .string a1] w fun e w' => e = .returned (.bool r) ∧ Below w.heap.size w w' := by
  unfold strings_Contains.f at h
  by_cases c : a0.size < 4294967281
  · rw [if_pos c] at h
    obtain rfl := Option.some.inj h
    obtain ⟨m, hm⟩ := hG.at.maxlen
    refine (Tryd.strings_Contains a0 a1 m w c hm).mono fun e w' ⟨he, hw⟩ => ⟨he, ?_⟩
    rw [hw]; exact Below.refl _ _
  · rw [if_neg c] at h; cases h
def zbk_.f (a0 : Int) : Option (ByteArray) := if -9223372036854775808 ≤ a0 ∧ a0 ≤ 9223372036854775807 then some ⟨(Lib.itoa a0).toArray⟩ else none
theorem zbk_.calls (a0 : Int) (r : ByteArray) (w : World) (hG : Glob w) (h : zbk_.f a0 = some r) :
    Calls Tryd.prog 28 #[.int .i64 a0] w fun e w' => e = .returned (.string r) ∧ Below w.heap.size w w' := by
  unfold zbk_.f at h
  by_cases c : -9223372036854775808 ≤ a0 ∧ a0 ≤ 9223372036854775807
  · rw [if_pos c] at h
    obtain rfl := Option.some.inj h
    refine (Tryd.strconv_Itoa a0 c.1 c.2 w hG.at.pow).mono fun e w' ⟨he, k, os, hw⟩ => ⟨he, ?_⟩
    rw [hw]; exact Lib.below_grow _ w (Nat.le_refl _) k os
  · rw [if_neg c] at h; cases h
theorem atoi_any (a0 : ByteArray) (w : World) (hG : Glob w) (hs : a0.size ≤ 281474976710656) :
    Calls Tryd.prog 27 #[.string a0] w fun e w' => (match Lib.atoiAll a0.data.toList with
      | .ok v => e = .returned (.tuple #[.int .i64 v, .nilIface])
      | _ => ∃ n t v, e = .returned (.tuple #[.int .i64 n, .iface t v])) ∧ Below w.heap.size w w' := by
  obtain ⟨t3, p3, h3⟩ := hG.at.esyn
  obtain ⟨t4, p4, h4⟩ := hG.at.eran
  have e3 : w.cell? ⟨0, 0, none⟩ = some (.iface t3 p3) := by simpa using World.var?_cell (by kernel_rfl : Tryd.prog.globalNamed "strconv.ErrSyntax" = some 0) h3 0
  have e4 : w.cell? ⟨1, 0, none⟩ = some (.iface t4 p4) := by simpa using World.var?_cell (by kernel_rfl : Tryd.prog.globalNamed "strconv.ErrRange" = some 1) h4 0
  rcases h : Lib.atoiAll a0.data.toList with v | _ | _
  · refine (Tryd.strconv_Atoi_ok a0 (by omega) v h w).mono fun e w' ⟨he, hw⟩ => ⟨he, ?_⟩
    rcases hw with rfl | ⟨t, rfl⟩
    · exact Below.refl _ _
    · exact Lib.bytesWorld_below _ _ _
  · exact (Any.strconv_Atoi_syntax Tryd.laysC172 a0 hs h _ w e3 (.inr ⟨_, _, rfl⟩)).mono fun e w' ⟨N, he, _, _, hb⟩ => ⟨⟨_, _, _, he⟩, hb⟩
  · exact (Tryd.strconv_Atoi_range a0 hs h _ w e4 (.inr ⟨_, _, rfl⟩)).mono fun e w' ⟨N, he, _, _, hb⟩ => ⟨⟨_, _, _, he⟩, hb⟩
def words_Num.f (a0 : ByteArray) : Option (Int × Bool) :=
  if a0.size ≤ 281474976710656 then
    (match Lib.atoiAll a0.data.toList with
      | .ok v => if 7 < a0.size then some (0, false) else if v < 0 then some (0, false) else if Lib.itoa v = a0.toList then some (v, true) else some (0, false)
      | _ => some (0, false))
  else none
set_option maxHeartbeats 8000000 in
set_option maxRecDepth 100000 in
theorem words_Num.calls (a0 : ByteArray) (r1 : Int) (r2 : Bool) (w : World) (hG : Glob w) (h : words_Num.f a0 = some (r1, r2)) :
    Calls Tryd.prog 10 #[.string a0] w fun e w' => e = .returned (.tuple #[.int .i64 r1, .bool r2]) ∧ Below w.heap.size w w' := by
  unfold words_Num.f at h
  by_cases c : a0.size ≤ 281474976710656
  rotate_left
  · rw [if_neg c] at h; cases h
  rw [if_pos c] at h
  have hu59 := Tryd.underlying59
  have hu58 := Tryd.underlying58
  have HG := Aside0.mk hG
  have HC := Aside0.mk c
  have hA := atoi_any a0 w hG c
  clear hG c
  rcases hr : Lib.atoiAll a0.data.toList with v | _ | _
  · skip
    rw [hr] at h hA
    simp only at h hA
    have HA := Aside0.mk hA
    obtain ⟨vb0, vb1⟩ := Lib.atoiAll_bounds hr
    clear hA hr
    by_cases c1 : 7 < a0.size
    · rw [if_pos c1] at h
      simp only [Option.some.injEq, Prod.mk.injEq] at h
      obtain ⟨rfl, rfl⟩ := h
      go_enter Tryd.func10, Tryd.ntmps10
      go_wp2_with (first | (go_at_call 27; (refine HA.out.mono ?_); rintro e w1 ⟨rfl, hb⟩; have HB := Aside0.mk hb; clear hb))
      go_ret2
      exact ⟨rfl, HB.out⟩
    · rw [if_neg c1] at h
      have c1b : decide (7 < a0.size) = false := decide_eq_false c1
      by_cases c2 : v < 0
      · rw [if_pos c2] at h
        simp only [Option.some.injEq, Prod.mk.injEq] at h
        obtain ⟨rfl, rfl⟩ := h
        go_enter Tryd.func10, Tryd.ntmps10
        go_wp2_with (first | (go_at_call 27; (refine HA.out.mono ?_); rintro e w1 ⟨rfl, hb⟩; have HB := Aside0.mk hb; clear hb))
        go_ret2
        exact ⟨rfl, HB.out⟩
      · rw [if_neg c2] at h
        by_cases c3 : Lib.itoa v = a0.toList
        · rw [if_pos c3] at h
          simp only [Option.some.injEq, Prod.mk.injEq] at h
          obtain ⟨rfl, rfl⟩ := h
          have c3b : (Lib.itoa v == a0.toList) = true := beq_iff_eq.2 c3
          clear c3
          go_enter Tryd.func10, Tryd.ntmps10
          go_wp2_with (first | (go_at_call 27; (refine HA.out.mono ?_); rintro e w1 ⟨rfl, hb⟩; have HB := Aside0.mk hb; clear hb) | (go_at_call 28; (refine (zbk_.calls v _ _ (Glob.below HG.out HB.out) (by unfold zbk_.f; rw [if_pos ⟨vb0, vb1⟩])).mono ?_); rintro e w2 ⟨rfl, hb⟩; have HB2 := Aside0.mk (zaj_ HB.out hb); clear hb))
          go_ret2
          exact ⟨rfl, HB2.out⟩
        · rw [if_neg c3] at h
          simp only [Option.some.injEq, Prod.mk.injEq] at h
          obtain ⟨rfl, rfl⟩ := h
          have c3b : (Lib.itoa v == a0.toList) = false := beq_eq_false_iff_ne.2 c3
          clear c3
          go_enter Tryd.func10, Tryd.ntmps10
          go_wp2_with (first | (go_at_call 27; (refine HA.out.mono ?_); rintro e w1 ⟨rfl, hb⟩; have HB := Aside0.mk hb; clear hb) | (go_at_call 28; (refine (zbk_.calls v _ _ (Glob.below HG.out HB.out) (by unfold zbk_.f; rw [if_pos ⟨vb0, vb1⟩])).mono ?_); rintro e w2 ⟨rfl, hb⟩; have HB2 := Aside0.mk (zaj_ HB.out hb); clear hb))
          go_ret2
          exact ⟨rfl, HB2.out⟩
  · skip
    rw [hr] at h hA
    simp only [Option.some.injEq, Prod.mk.injEq] at h
    simp only at hA
    obtain ⟨rfl, rfl⟩ := h
    have HA := Aside0.mk hA
    clear hA hr
    go_enter Tryd.func10, Tryd.ntmps10
    go_wp2_with (first | (go_at_call 27; (refine HA.out.mono ?_); rintro e w1 ⟨⟨n9, t9, v9, rfl⟩, hb⟩; have HB := Aside0.mk hb; clear hb))
    go_ret2
    exact ⟨rfl, HB.out⟩
  · skip
    rw [hr] at h hA
    simp only [Option.some.injEq, Prod.mk.injEq] at h
    simp only at hA
    obtain ⟨rfl, rfl⟩ := h
    have HA := Aside0.mk hA
    clear hA hr
    go_enter Tryd.func10, Tryd.ntmps10
    go_wp2_with (first | (go_at_call 27; (refine HA.out.mono ?_); rintro e w1 ⟨⟨n9, t9, v9, rfl⟩, hb⟩; have HB := Aside0.mk hb; clear hb))
    go_ret2
    exact ⟨rfl, HB.out⟩
end Go.Proofs.YtgkjoodlcojkkaaDoor.QD
end
section
namespace Go.Proofs.YtgkjoodlcojkkaaDoor.QD
open Go.RowKit Go.Proofs.YtgkjoodlcojkkaaDoorW.PrintWords Go.Proofs.YtgkjoodlcojkkaaDoorW.PrintLast Go.Proofs.YtgkjoodlcojkkaaDoorW.PrintMore
attribute [local go_sem] zbd_ zbe_ zbm_ zbl_ zaW_ zaX_ zbc_ zbb_
set_option linter.unusedVariables false
set_option linter.unusedSimpArgs false
def words_Lines.f (a0 : ByteArray) : Option (List ByteArray) := (strings_Split.f a0 (⟨#[10]⟩ : ByteArray)).bind fun a1 => (if 0 ≤ (wrap64 ((a1.length : Int) - 1)) then (if (wrap64 ((a1.length : Int) - 1)) < (a1.length : Int) then (if (rdOf ByteArray.empty a1 (wrap64 ((a1.length : Int) - 1))).toList = ([] : List UInt8) then (if (wrap64 ((a1.length : Int) - 1)) ≤ (a1.length : Int) then (some (a1.take ((wrap64 ((a1.length : Int) - 1)) : Int).toNat)) else (none)) else (some a1)) else (none)) else (none))
set_option maxHeartbeats 8000000 in
set_option maxRecDepth 100000 in
theorem words_Lines.calls (a0 : ByteArray) (r : List ByteArray) (w : World) (hG : Glob w) (h : words_Lines.f a0 = some r) :
    Calls Tryd.prog 13 #[.string a0] w fun e w' => ∃ v0_ : Value, e = .returned (v0_) ∧ Kd.R Kd.string 9 w' w.heap.size (fun _ => True) v0_ r ∧ Below w.heap.size w w' := by
  have HG := Aside0.mk hG
  clear hG
  have HB := Aside0.mk (Below.refl w.heap.size w)
  have H : ((strings_Split.f a0 (⟨#[10]⟩ : ByteArray)).bind fun a1 => (if 0 ≤ (wrap64 ((a1.length : Int) - 1)) then (if (wrap64 ((a1.length : Int) - 1)) < (a1.length : Int) then (if (rdOf ByteArray.empty a1 (wrap64 ((a1.length : Int) - 1))).toList = ([] : List UInt8) then (if (wrap64 ((a1.length : Int) - 1)) ≤ (a1.length : Int) then (some (a1.take ((wrap64 ((a1.length : Int) - 1)) : Int).toNat)) else (none)) else (some a1)) else (none)) else (none))) = some r := h
  clear h
  replace H := Option.bind_eq_some_iff.mp H
  obtain ⟨a1, c0, H⟩ := H
  replace H : (if 0 ≤ (wrap64 ((a1.length : Int) - 1)) then (if (wrap64 ((a1.length : Int) - 1)) < (a1.length : Int) then (if (rdOf ByteArray.empty a1 (wrap64 ((a1.length : Int) - 1))).toList = ([] : List UInt8) then (if (wrap64 ((a1.length : Int) - 1)) ≤ (a1.length : Int) then (some (a1.take ((wrap64 ((a1.length : Int) - 1)) : Int).toNat)) else (none)) else (some a1)) else (none)) else (none)) = some r := H
  have A2 := Aside0.mk c0
  clear c0
  obtain ⟨a3, a7⟩ : ∃ j_ : Int, (wrap64 ((a1.length : Int) - 1)) = j_ := ⟨_, rfl⟩
  replace H : (if 0 ≤ (a3) then (if (a3) < (a1.length : Int) then (if (rdOf ByteArray.empty a1 (a3)).toList = ([] : List UInt8) then (if (a3) ≤ (a1.length : Int) then (some (a1.take ((a3) : Int).toNat)) else (none)) else (some a1)) else (none)) else (none)) = some r := by first | (rw [a7] at H; exact H) | (simp only [a7] at H ⊢; exact H)
  (try rw [a7] at A2)
  have hji3w : (IntKind.i64.wrap ((a1.length : Int) - 1)) = a3 := (i64_w _).trans a7
  by_cases c4 : 0 ≤ (a3)
  rotate_left
  · rw [if_neg c4] at H
    exact absurd H (by simp)
  rw [if_pos c4] at H
  have c1 : decide (0 ≤ (a3)) = true := decide_eq_true c4
  clear c4
  by_cases c5 : (a3) < (a1.length : Int)
  rotate_left
  · rw [if_neg c5] at H
    exact absurd H (by simp)
  rw [if_pos c5] at H
  have c2 : decide ((a3) < (a1.length : Int)) = true := decide_eq_true c5
  clear c5
  by_cases c6 : (rdOf ByteArray.empty a1 (a3)).toList = ([] : List UInt8)
  rotate_left
  · rw [if_neg c6] at H
    have b4 : ((rdOf ByteArray.empty a1 (a3)).toList == ([] : List UInt8)) = false := beq_eq_false_iff_ne.mpr c6
    have b5 : ((rdOf ByteArray.empty a1 (a3)).toList != ([] : List UInt8)) = true := bne_iff_ne.mpr c6
    obtain rfl := Option.some.inj H
    go_enter Tryd.func13, Tryd.ntmps13
    go_wp2_with (first | ((with_reducible refine zar_ (f := 29) rfl ?_); refine goesL_ (some 5) rfl rfl Tryd.func29 (by kernel_rfl) rfl #[.string a0, .string (⟨#[10]⟩ : ByteArray)] rfl (by (try simp only [List.map_toArray, List.map_cons, List.map_nil]); first | done | rfl | (simp only [List.length_drop, List.length_take]; rfl)) ?_; (with_reducible refine (strings_Split.calls a0 (⟨#[10]⟩ : ByteArray) a1 _ ?side1 A2.out).mono ?_); (case side1 => first | exact Glob.below HG.out (HB.out) | (repeat (first | exact Glob.below HG.out HB.out | (with_reducible refine Glob.alloc ?_ _) | (with_reducible refine Glob.drewN ?_ _) | (with_reducible refine Glob.drew ?_)))); rintro e w7 ⟨b6, rfl, a9, hb⟩; refine ⟨_, rfl, ?_⟩; have b0 := Aside0.mk (Kd.zbp_ a9 (zam_ (HB.out))); have b1 := Aside0.mk (zaj_ (HB.out) hb); clear HB; have a2 := b0; have HB := b1; clear b0 b1; (try clear hb); (try clear hb2); (try clear hk); (try clear hi); (try clear a9); obtain ⟨d1, d2, c3⟩ := Kd.zbf_ a2.out; subst c3; have a5 : 0 ≤ ((a3) : Int) := of_decide_eq_true (by first | (with_reducible assumption) | assumption); have a6 : (a3) < (a1.length : Int) := of_decide_eq_true (by first | (with_reducible assumption) | assumption); obtain ⟨ad142, e142, hx142_0⟩ := Kd.zbj_ (Kd.zaS_ a2.out).2.2 (a3) a5 a6; cases e142; replace a5 := eq_true a5; replace a6 := eq_true a6))
    go_ret
    exact ⟨_, by first | rfl | (simp [zal_, zak_] <;> rfl) | (simp only [← a7]; first | rfl | (simp [zal_, zak_] <;> rfl)) | (simp [*, zal_, zak_] <;> rfl), by (with_reducible repeat (first | apply Kd.zav_ | apply Kd.zaw_ | apply Kd.R_drew)); exact a2.out, HB.out⟩
  rw [if_pos c6] at H
  have b4 : ((rdOf ByteArray.empty a1 (a3)).toList == ([] : List UInt8)) = true := beq_iff_eq.mpr c6
  have b5 : ((rdOf ByteArray.empty a1 (a3)).toList != ([] : List UInt8)) = false := bne_eq_false_iff_eq.mpr c6
  clear c6
  by_cases c9 : (a3) ≤ (a1.length : Int)
  rotate_left
  · rw [if_neg c9] at H
    exact absurd H (by simp)
  rw [if_pos c9] at H
  have c7 := eq_true c9
  have c8 : decide ((a3) ≤ (a1.length : Int)) = true := decide_eq_true c9
  clear c9
  obtain ⟨b2, a4⟩ : ∃ y_ : List ByteArray, y_ = (a1.take ((a3) : Int).toNat) := ⟨_, rfl⟩
  replace H : (some b2) = some r := by first | (rw [a4]; with_reducible exact H) | (have H2_ := (Option.bind_some _ _).symm.trans H; rw [a4]; with_reducible exact H2_) | (have H2_ := (Option.bind_some _ _).symm.trans H; with_reducible exact H2_) | with_reducible exact H | (rw [a4]; exact H) | exact H
  have a8 := Aside0.mk a4
  clear a4
  obtain rfl := Option.some.inj H
  go_enter Tryd.func13, Tryd.ntmps13
  go_wp2_with (first | ((with_reducible refine zar_ (f := 29) rfl ?_); refine goesL_ (some 5) rfl rfl Tryd.func29 (by kernel_rfl) rfl #[.string a0, .string (⟨#[10]⟩ : ByteArray)] rfl (by (try simp only [List.map_toArray, List.map_cons, List.map_nil]); first | done | rfl | (simp only [List.length_drop, List.length_take]; rfl)) ?_; (with_reducible refine (strings_Split.calls a0 (⟨#[10]⟩ : ByteArray) a1 _ ?side1 A2.out).mono ?_); (case side1 => first | exact Glob.below HG.out (HB.out) | (repeat (first | exact Glob.below HG.out HB.out | (with_reducible refine Glob.alloc ?_ _) | (with_reducible refine Glob.drewN ?_ _) | (with_reducible refine Glob.drew ?_)))); rintro e d3 ⟨b6, rfl, a9, hb⟩; refine ⟨_, rfl, ?_⟩; have b0 := Aside0.mk (Kd.zbp_ a9 (zam_ (HB.out))); have b1 := Aside0.mk (zaj_ (HB.out) hb); clear HB; have a2 := b0; have HB := b1; clear b0 b1; (try clear hb); (try clear hb2); (try clear hk); (try clear hi); (try clear a9); obtain ⟨d0, b7, b8⟩ := Kd.zbf_ a2.out; subst b8; have a5 : 0 ≤ ((a3) : Int) := of_decide_eq_true (by first | (with_reducible assumption) | assumption); have a6 : (a3) < (a1.length : Int) := of_decide_eq_true (by first | (with_reducible assumption) | assumption); obtain ⟨ad142, e142, hx142_0⟩ := Kd.zbj_ (Kd.zaS_ a2.out).2.2 (a3) a5 a6; cases e142; replace a5 := eq_true a5; replace a6 := eq_true a6; have b9 : ((a3) : Int) ≤ ((a1.length : Int) : Int) := of_decide_eq_true (by first | (with_reducible assumption) | assumption); obtain ⟨i012, hi012, _, hsz12, _⟩ := info_parts info9; have hcut12 := cut_to (P := Tryd.prog) 26 9 .i64 Tryd.underlying26 hi012 (some ad142) a1.length b7 (a3) (of_decide_eq_true (by first | (with_reducible assumption) | assumption)) b9 (Kd.zaS_ a2.out).2.1; have hr12 := Kd.R_take (m := ((a3) : Int).toNat) a2.out (by omega); have hy12 : b2.length = ((a3) : Int).toNat := (by rw [a8.out, List.length_take]; omega); rw [← a8.out] at hr12; rw [← hy12] at hr12 hcut12; clear hy12 hi012 hsz12 a2; have b3 := Aside0.mk hr12; clear hr12; replace b9 := eq_true b9))
  go_ret
  exact ⟨_, by first | rfl | (simp [zal_, zak_] <;> rfl) | (simp only [← a7]; first | rfl | (simp [zal_, zak_] <;> rfl)) | (simp [*, zal_, zak_] <;> rfl), by (with_reducible repeat (first | apply Kd.zav_ | apply Kd.zaw_ | apply Kd.R_drew)); exact b3.out, HB.out⟩
end Go.Proofs.YtgkjoodlcojkkaaDoor.QD
end
section
namespace Go.Proofs.YtgkjoodlcojkkaaDoor.QD
open Go.RowKit Go.Proofs.YtgkjoodlcojkkaaDoorW.PrintWords Go.Proofs.YtgkjoodlcojkkaaDoorW.PrintLast Go.Proofs.YtgkjoodlcojkkaaDoorW.PrintMore
attribute [local go_sem] zbd_ zbe_ zbm_ zbl_ zaW_ zaX_ zbc_ zbb_
set_option linter.unusedVariables false
set_option linter.unusedSimpArgs false
end Go.Proofs.YtgkjoodlcojkkaaDoor.QD
end
section
namespace Go.Proofs.YtgkjoodlcojkkaaDoor.Y
open Go.RowKit Go.Proofs.YtgkjoodlcojkkaaDoorW.PrintWords Go.Proofs.YtgkjoodlcojkkaaDoorW.PrintLast Go.Proofs.YtgkjoodlcojkkaaDoorW.PrintMore Go.Proofs.YtgkjoodlcojkkaaDoor.QD
set_option linter.unusedVariables false
set_option linter.unusedSimpArgs false
abbrev Bs := List UInt8
def B (l : Bs) : ByteArray := ⟨l.toArray⟩
theorem B_data (s : ByteArray) : B s.data.toList = s := by cases s; simp [B]
theorem data_B (l : Bs) : (B l).data.toList = l := by simp [B]
theorem toList_B (l : Bs) : (B l).toList = l := by rw [ByteArray.toList_eq, data_B]
theorem size_B (l : Bs) : (B l).size = l.length := by simp [B, ByteArray.size]
theorem zbs_ (a b : Bs) : B a ++ B b = B (a ++ b) := by
  apply Go.WideShapes.bytes_inj
  rw [data_B]
  simp [B]
theorem extract_B (l : Bs) (a b : Nat) : (B l).extract a b = B ((l.take b).drop a) := by
  apply Go.WideShapes.bytes_inj
  rw [data_B, Lib.extract_data, data_B]
  rw [List.drop_take]
theorem bt_B (l : Bs) (i : Nat) : bt (B l) (i : Int) = ((l.getD i 0).toNat : Int) := by
  unfold bt
  by_cases h : i < l.length
  · rw [dif_pos (by rw [size_B]; simpa using h)]
    have : (B l)[(i : Int).toNat]'(by rw [size_B]; simpa using h) = l[i] := by
      show (B l).data[(i : Int).toNat] = _
      simp [B]
    rw [this]
    simp [h]
  · rw [dif_neg (by rw [size_B]; simpa using h)]
    simp [h]
theorem rdOf_B (xs : List Bs) (i : Nat) : rdOf ByteArray.empty (xs.map B) (i : Int) = B (xs.getD i []) := by
  unfold rdOf
  simp only [Int.toNat_natCast, List.getD_eq_getElem?_getD, List.getElem?_map]
  cases xs[i]? <;> simp [B] <;> rfl
theorem w64 {n : Int} (h : -9223372036854775808 ≤ n ∧ n ≤ 9223372036854775807) : wrap64 n = n := by unfold wrap64; omega
theorem w64s (n : Nat) (h : n < 9223372036854775807) : wrap64 ((n : Int) + 1) = ((n + 1 : Nat) : Int) := by rw [w64 (by omega)]; omega
def splitL (c : UInt8) : Bs → List Bs
  | [] => [[]]
  | x :: xs => if x = c then [] :: splitL c xs else match splitL c xs with
    | [] => [[x]]
    | p :: ps => (x :: p) :: ps
theorem splitL_ne (c : UInt8) : ∀ l, splitL c l ≠ []
  | [] => by simp [splitL]
  | x :: xs => by
    unfold splitL
    split
    · simp
    · split <;> simp
theorem splitL_len (c : UInt8) : ∀ l, (splitL c l).length ≤ l.length + 1
  | [] => by simp [splitL]
  | x :: xs => by
    have := splitL_len c xs
    unfold splitL
    split
    · simp; omega
    · split
      · simp
      · rename_i h; rw [h] at this; simp at this ⊢; omega
theorem splitL_no (c : UInt8) : ∀ {l : Bs}, c ∉ l → splitL c l = [l]
  | [], _ => rfl
  | x :: xs, h => by
    have h1 : x ≠ c := fun e => h (by simp [e])
    have h2 : c ∉ xs := fun e => h (by simp [e])
    unfold splitL
    rw [if_neg h1, splitL_no c h2]
theorem splitL_hit (c : UInt8) : ∀ {pre : Bs} (post : Bs), c ∉ pre → splitL c (pre ++ c :: post) = pre :: splitL c post
  | [], post, _ => by simp [splitL]
  | x :: xs, post, h => by
    have h1 : x ≠ c := fun e => h (by simp [e])
    have h2 : c ∉ xs := fun e => h (by simp [e])
    rw [List.cons_append]
    conv => lhs; unfold splitL
    rw [if_neg h1, splitL_hit c post h2]
theorem indexByte_split {l : Bs} {c : UInt8} {o : Nat} (h : Lib.indexByte l c = o) : ∃ post, l = l.take o ++ c :: post ∧ c ∉ l.take o ∧ o < l.length ∧ post = l.drop (o + 1) := by
  obtain ⟨h1, h2⟩ := Lib.indexByte_some h
  obtain ⟨hlt, he⟩ := List.getElem?_eq_some_iff.1 h1
  refine ⟨l.drop (o + 1), ?_, ?_, hlt, rfl⟩
  · conv => lhs; rw [← List.take_append_drop o l]
    rw [List.drop_eq_getElem_cons hlt, he]
  · intro hm
    obtain ⟨k, hk⟩ := List.getElem?_of_mem hm
    rw [List.getElem?_take] at hk
    split at hk
    · exact h2 k (by assumption) hk
    · cases hk
theorem split_eq (c : UInt8) : ∀ (n : Nat) (l : Bs), l.length ≤ n → Lib.splitB (B [c]) 0 (Lib.countB (B l) (B [c])) (B l) = (splitL c l).map B
  | n, l, hn => by
    have hone : ∀ l : Bs, Lib.indexB (B l) (B [c]) = Lib.indexByte l c := fun l => by unfold Lib.indexB; rw [data_B, data_B, Lib.index_one]
    rcases Lib.indexB_cases (B l) (B [c]) with h | ⟨o, h, hle⟩
    · rw [Lib.splitB_miss _ _ _ _ h, splitL_no c]
      · rfl
      · rw [hone] at h
        intro hm
        obtain ⟨k, hk⟩ := List.getElem?_of_mem hm
        exact Lib.indexByte_none h k hk
    · have h' := h
      rw [hone] at h
      obtain ⟨post, hl, hnot, hlt, hpost⟩ := indexByte_split h
      rw [Lib.countB_hit _ _ o (by rw [size_B]; simp) h', Nat.add_comm, Lib.splitB_hit _ _ _ _ o h']
      have e1 : (B l).extract 0 (o + 0) = B (l.take o) := by rw [extract_B]; simp
      have e2 : (B l).extract (o + (B [c]).size) (B l).size = B post := by
        rw [extract_B, size_B, size_B, hpost]; simp
      rw [e1, e2]
      cases n with
      | zero => omega
      | succ n =>
        rw [split_eq c n post (by rw [hpost, List.length_drop]; omega)]
        conv => rhs; rw [hl, splitL_hit c post hnot]
        rfl
theorem Split_eq (c : UInt8) (l : Bs) (h : l.length < 4294967281) : strings_Split.f (B l) (B [c]) = some ((splitL c l).map B) := by
  unfold strings_Split.f
  rw [if_pos ⟨by rw [size_B]; exact h, by rw [size_B]; simp⟩, split_eq c _ l (Nat.le_refl _)]
def dropLastE (ps : List Bs) : List Bs := if ps.getLast? = some [] then ps.dropLast else ps
def cutL (c : UInt8) (l : Bs) : List Bs := dropLastE (splitL c l)
theorem words_Lines_eq (l : Bs) (h : l.length < 4294967281) : words_Lines.f (B l) = some ((cutL 10 l).map B) := by
  unfold words_Lines.f
  rw [show (⟨#[10]⟩ : ByteArray) = B [10] from rfl, Split_eq 10 l h, Option.bind_some]
  have hne := splitL_ne 10 l
  have hle : (splitL 10 l).length ≤ l.length + 1 := splitL_len 10 l
  unfold cutL dropLastE
  generalize splitL 10 l = ps at hne hle ⊢
  have hlen : 0 < ps.length := List.length_pos_iff.2 hne
  have e1 : wrap64 (((ps.map B).length : Int) - 1) = ((ps.length - 1 : Nat) : Int) := by rw [List.length_map, w64 (by omega)]; omega
  rw [e1, rdOf_B, toList_B, List.length_map, if_pos (by omega), if_pos (by omega), Int.toNat_natCast]
  have e2 : ps.getD (ps.length - 1) [] = ps.getLast hne := by
    rw [List.getLast_eq_getElem, List.getD_eq_getElem?_getD, List.getElem?_eq_getElem (by omega)]; rfl
  rw [e2, List.getLast?_eq_some_getLast hne]
  by_cases c : ps.getLast hne = []
  · rw [if_pos c, if_pos (by omega), if_pos (by rw [c]), List.dropLast_eq_take, List.map_take]
  · rw [if_neg c, if_neg (fun e => c (Option.some.inj e))]
end Go.Proofs.YtgkjoodlcojkkaaDoor.Y
end
section
namespace Go.Proofs.YtgkjoodlcojkkaaDoor.QD
open Go.RowKit Go.Proofs.YtgkjoodlcojkkaaDoorW.PrintWords Go.Proofs.YtgkjoodlcojkkaaDoorW.PrintLast Go.Proofs.YtgkjoodlcojkkaaDoorW.PrintMore
attribute [local go_sem] zbd_ zbe_ zbm_ zbl_ zaW_ zaX_ zbc_ zbb_
set_option linter.unusedVariables false
set_option linter.unusedSimpArgs false
def zaM_.l0 : Nat → List ByteArray → List ByteArray → Int → Int → Option (List ByteArray)
  | 0, _, _, _, _ => none
  | k + 1, x3, x13, x14, x15 => if x15 < x14 then (if 0 ≤ x15 then (if x15 < (x13.length : Int) then (if (rdOf ByteArray.empty x13 x15).toList = ([] : List UInt8) then (zaM_.l0 k x3 x13 x14 (wrap64 (x15 + 1))) else (if x3.length < 8796093022208 then (zaM_.l0 k (x3 ++ [rdOf ByteArray.empty x13 x15]) x13 x14 (wrap64 (x15 + 1))) else (none))) else (none)) else (none)) else (some x3)
def zaM_.f (k : Nat) (a0 : ByteArray) : Option (List ByteArray) := (strings_Cut.f a0 (⟨#[35]⟩ : ByteArray)).bind fun b0 => ((strings_Split.f b0.1 (⟨#[32]⟩ : ByteArray)).bind fun a2 => (zaM_.l0 k ([] : List ByteArray) a2 (a2.length : Int) 0))
theorem zaM_.mono_l : ∀ k, (∀ y0 y1 y2 y3, LeO (zaM_.l0 k y0 y1 y2 y3) (zaM_.l0 (k + 1) y0 y1 y2 y3))
  | 0 => fun _ _ _ _ r h => by simp [zaM_.l0] at h
  | k + 1 => by
    have ih0 := zaM_.mono_l k
    · intro y0 y1 y2 y3
      unfold zaM_.l0
      repeat' first
      | (with_reducible exact ih0 _ _ _ _)
      | (with_reducible exact LeO.refl _)
      | (with_reducible exact LeO.none _)
      | (with_reducible refine LeO.ite ?_ ?_)
      | (with_reducible refine LeO.bind ?_ (fun _ => ?_))
      | exact ih0 _ _ _ _
      | exact LeO.none _
      | refine LeO.ite ?_ ?_
      | refine LeO.bind ?_ (fun _ => ?_)
theorem zaM_.mono : ∀ a0 k, LeO (zaM_.f k a0) (zaM_.f (k + 1) a0) := by
  intro a0 k
  have ih0 := zaM_.mono_l k
  unfold zaM_.f
  repeat' first
      | (with_reducible exact ih0 _ _ _ _)
      | (with_reducible exact LeO.refl _)
      | (with_reducible exact LeO.none _)
      | (with_reducible refine LeO.ite ?_ ?_)
      | (with_reducible refine LeO.bind ?_ (fun _ => ?_))
      | exact ih0 _ _ _ _
      | exact LeO.none _
      | refine LeO.ite ?_ ?_
      | refine LeO.bind ?_ (fun _ => ?_)
set_option maxHeartbeats 8000000 in
set_option maxRecDepth 100000 in
theorem zaM_.calls (k : Nat) (a0 : ByteArray) (r : List ByteArray) (w : World) (hG : Glob w) (h : zaM_.f k a0 = some r) :
    Calls Tryd.prog 15 #[.string a0] w fun e w' => ∃ v0_ : Value, e = .returned (v0_) ∧ Kd.R Kd.string 9 w' w.heap.size (fun _ => True) v0_ r ∧ Below w.heap.size w w' := by
  have HG := Aside0.mk hG
  clear hG
  have HB := Aside0.mk (Below.refl w.heap.size w)
  have H : ((strings_Cut.f a0 (⟨#[35]⟩ : ByteArray)).bind fun b0 => ((strings_Split.f b0.1 (⟨#[32]⟩ : ByteArray)).bind fun a2 => (zaM_.l0 k ([] : List ByteArray) a2 (a2.length : Int) 0))) = some r := h
  clear h
  replace H := Option.bind_eq_some_iff.mp H
  obtain ⟨⟨a6, b5, b6⟩, d3, H⟩ := H
  replace H : ((strings_Split.f a6 (⟨#[32]⟩ : ByteArray)).bind fun a2 => (zaM_.l0 k ([] : List ByteArray) a2 (a2.length : Int) 0)) = some r := H
  have A2 := Aside0.mk d3
  clear d3
  replace H := Option.bind_eq_some_iff.mp H
  obtain ⟨a2, d4, H⟩ := H
  replace H : (zaM_.l0 k ([] : List ByteArray) a2 (a2.length : Int) 0) = some r := H
  have A3 := Aside0.mk d4
  clear d4
  have H' := Aside0.mk H
  clear H
  go_enter Tryd.func15, Tryd.ntmps15
  go_wp2_with (first | ((with_reducible refine zar_ (f := 31) rfl ?_); refine goesL_ (some 8) rfl rfl Tryd.func31 (by kernel_rfl) rfl #[.string a0, .string (⟨#[35]⟩ : ByteArray)] rfl (by (try simp only [List.map_toArray, List.map_cons, List.map_nil]); first | done | rfl | (simp only [List.length_drop, List.length_take]; rfl)) ?_; (with_reducible refine (strings_Cut.calls a0 (⟨#[35]⟩ : ByteArray) a6 b5 b6 _ ?side1 A2.out).mono ?_); (case side1 => first | exact Glob.below HG.out (HB.out) | (repeat (first | exact Glob.below HG.out HB.out | (with_reducible refine Glob.alloc ?_ _) | (with_reducible refine Glob.drewN ?_ _) | (with_reducible refine Glob.drew ?_)))); rintro e w4 ⟨rfl, hb⟩; refine ⟨_, rfl, ?_⟩; have a3 := Aside0.mk (zaj_ (HB.out) hb); clear HB; have HB := a3; clear a3; (try clear hb); (try clear hb2); (try clear hk); (try clear hi)) | ((with_reducible refine zar_ (f := 29) rfl ?_); refine goesL_ (some 13) rfl rfl Tryd.func29 (by kernel_rfl) rfl #[.string a6, .string (⟨#[32]⟩ : ByteArray)] rfl (by (try simp only [List.map_toArray, List.map_cons, List.map_nil]); first | done | rfl | (simp only [List.length_drop, List.length_take]; rfl)) ?_; (with_reducible refine (strings_Split.calls a6 (⟨#[32]⟩ : ByteArray) a2 _ ?side1 A3.out).mono ?_); (case side1 => first | exact Glob.below HG.out (HB.out) | (repeat (first | exact Glob.below HG.out HB.out | (with_reducible refine Glob.alloc ?_ _) | (with_reducible refine Glob.drewN ?_ _) | (with_reducible refine Glob.drew ?_)))); rintro e w5 ⟨c5, rfl, b7, hb⟩; refine ⟨_, rfl, ?_⟩; have a3 := Aside0.mk (Kd.zbp_ b7 (zam_ (HB.out))); have b1 := Aside0.mk (zaj_ (HB.out) hb); clear HB; have a9 := a3; have HB := b1; clear a3 b1; (try clear hb); (try clear hb2); (try clear hk); (try clear hi); (try clear b7); obtain ⟨c6, b8, d0⟩ := Kd.zbf_ a9.out; subst d0))
  repeat (go_step3; try go_wp2_with (first | ((with_reducible refine zar_ (f := 31) rfl ?_); refine goesL_ (some 8) rfl rfl Tryd.func31 (by kernel_rfl) rfl #[.string a0, .string (⟨#[35]⟩ : ByteArray)] rfl (by (try simp only [List.map_toArray, List.map_cons, List.map_nil]); first | done | rfl | (simp only [List.length_drop, List.length_take]; rfl)) ?_; (with_reducible refine (strings_Cut.calls a0 (⟨#[35]⟩ : ByteArray) a6 b5 b6 _ ?side1 A2.out).mono ?_); (case side1 => first | exact Glob.below HG.out (HB.out) | (repeat (first | exact Glob.below HG.out HB.out | (with_reducible refine Glob.alloc ?_ _) | (with_reducible refine Glob.drewN ?_ _) | (with_reducible refine Glob.drew ?_)))); rintro e w4 ⟨rfl, hb⟩; refine ⟨_, rfl, ?_⟩; have a3 := Aside0.mk (zaj_ (HB.out) hb); clear HB; have HB := a3; clear a3; (try clear hb); (try clear hb2); (try clear hk); (try clear hi)) | ((with_reducible refine zar_ (f := 29) rfl ?_); refine goesL_ (some 13) rfl rfl Tryd.func29 (by kernel_rfl) rfl #[.string a6, .string (⟨#[32]⟩ : ByteArray)] rfl (by (try simp only [List.map_toArray, List.map_cons, List.map_nil]); first | done | rfl | (simp only [List.length_drop, List.length_take]; rfl)) ?_; (with_reducible refine (strings_Split.calls a6 (⟨#[32]⟩ : ByteArray) a2 _ ?side1 A3.out).mono ?_); (case side1 => first | exact Glob.below HG.out (HB.out) | (repeat (first | exact Glob.below HG.out HB.out | (with_reducible refine Glob.alloc ?_ _) | (with_reducible refine Glob.drewN ?_ _) | (with_reducible refine Glob.drew ?_)))); rintro e w5 ⟨c5, rfl, b7, hb⟩; refine ⟨_, rfl, ?_⟩; have a3 := Aside0.mk (Kd.zbp_ b7 (zam_ (HB.out))); have b1 := Aside0.mk (zaj_ (HB.out) hb); clear HB; have a9 := a3; have HB := b1; clear a3 b1; (try clear hb); (try clear hb2); (try clear hk); (try clear hi); (try clear b7); obtain ⟨c6, b8, d0⟩ := Kd.zbf_ a9.out; subst d0)))
  go_loopg [3, 15] k (fun kq v3 d5 w' => ∃ (a4 : List ByteArray) (a1 : Int), d5 = .int .i64 a1 ∧ Aside0 (zaM_.l0 kq a4 a2 (a2.length : Int) a1 = some r) ∧ Aside0 (kq ≤ k) ∧ Aside0 (Kd.R Kd.string 9 w' w.heap.size (fun k_ => some k_ ≠ ((.slice c6 a2.length b8) : Value).ownBlock) v3 a4) ∧ Aside0 (Kd.R Kd.string 9 w' w.heap.size (fun k_ => some k_ ≠ (v3 : Value).ownBlock) (.slice c6 a2.length b8) a2) ∧ Aside0 (Below w.heap.size w w'))
  case atStart => exact ⟨(([] : List ByteArray)), (0), (by first | rfl | (simp; done) | (simp [*]; done)), H', ⟨Nat.le_refl _⟩, ⟨by first | exact Kd.R_nil _ _ _ _ _ | exact Kd.N_nil _ _ _ _ _ | exact Kd.V_nil _ _ _ _ _ | exact Kd.Q_nil _ _ _ _ _ | exact Kd.S_nil _ _ _ _ _⟩, ⟨by (with_reducible repeat (first | apply Kd.zav_ | apply Kd.zaw_ | apply Kd.R_drew)); exact Kd.R_mono a9.out (fun _ hk => (by simp [Value.ownBlock]))⟩, ⟨HB.out⟩⟩
  clear H'
  obtain ⟨a4, a1, rfl, HA, c3, HO_3, HO_13, HB⟩ := hrel
  cases gk with
  | zero => exact absurd HA.out (by simp [zaM_.l0])
  | succ k1 => ?_
  have H := HA.out
  clear HA
  simp only [zaM_.l0] at H
  by_cases c7 : a1 < (a2.length : Int)
  rotate_left
  · rw [if_neg c7] at H
    have d1 : decide (a1 < (a2.length : Int)) = false := decide_eq_false c7
    clear c7
    obtain rfl := Option.some.inj H
    go_wp2
    repeat (go_step3; try go_wp2)
    go_ret
    exact ⟨_, by first | rfl | (simp [zal_, zak_] <;> rfl) | (simp [*, zal_, zak_] <;> rfl), by (with_reducible repeat (first | apply Kd.zav_ | apply Kd.zaw_ | apply Kd.R_drew)); exact Kd.R_mono HO_3.out (fun _ hk => trivial), HB.out⟩
  rw [if_pos c7] at H
  have d1 : decide (a1 < (a2.length : Int)) = true := decide_eq_true c7
  clear c7
  by_cases c8 : 0 ≤ a1
  rotate_left
  · rw [if_neg c8] at H
    exact absurd H (by simp)
  rw [if_pos c8] at H
  have d6 : decide (0 ≤ a1) = true := decide_eq_true c8
  clear c8
  by_cases c9 : a1 < (a2.length : Int)
  rotate_left
  · rw [if_neg c9] at H
    exact absurd H (by simp)
  rw [if_pos c9] at H
  have d7 : decide (a1 < (a2.length : Int)) = true := decide_eq_true c9
  clear c9
  by_cases b4 : (rdOf ByteArray.empty a2 a1).toList = ([] : List UInt8)
  · rw [if_pos b4] at H
    have b9 : ((rdOf ByteArray.empty a2 a1).toList == ([] : List UInt8)) = true := beq_iff_eq.mpr b4
    have c0 : ((rdOf ByteArray.empty a2 a1).toList != ([] : List UInt8)) = false := bne_eq_false_iff_eq.mpr b4
    clear b4
    have H' := Aside0.mk H
    clear H
    have a7 : 0 ≤ (a1 : Int) := of_decide_eq_true (by first | (with_reducible assumption) | assumption)
    have a8 : a1 < (a2.length : Int) := of_decide_eq_true (by first | (with_reducible assumption) | assumption)
    obtain ⟨ad152, e152, hx152_0⟩ := Kd.zbj_ (Kd.zaS_ HO_13.out).2.2 a1 a7 a8
    cases e152
    replace a7 := eq_true a7
    replace a8 := eq_true a8
    go_wp2
    repeat (go_step3; try go_wp2)
    go_roundg k1
    case measure => have := c3.out; omega
    case rel => exact ⟨(a4), (wrap64 (a1 + 1)), (by first | rfl | (simp; done) | (simp [*]; done)), H', ⟨by have := c3.out; omega⟩, ⟨by (with_reducible repeat (first | apply Kd.zav_ | apply Kd.zaw_ | apply Kd.R_drew)); exact HO_3.out⟩, ⟨by (with_reducible repeat (first | apply Kd.zav_ | apply Kd.zaw_ | apply Kd.R_drew)); exact HO_13.out⟩, ⟨HB.out⟩⟩
  rw [if_neg b4] at H
  have b9 : ((rdOf ByteArray.empty a2 a1).toList == ([] : List UInt8)) = false := beq_eq_false_iff_ne.mpr b4
  have c0 : ((rdOf ByteArray.empty a2 a1).toList != ([] : List UInt8)) = true := bne_iff_ne.mpr b4
  by_cases c4 : a4.length < 8796093022208
  rotate_left
  · rw [if_neg c4] at H
    exact absurd H (by simp)
  rw [if_pos c4] at H
  have LMc11 := Aside0.mk c4
  clear c4
  obtain ⟨c1, a5⟩ : ∃ y_ : List ByteArray, y_ = (a4 ++ [rdOf ByteArray.empty a2 a1]) := ⟨_, rfl⟩
  replace H : (zaM_.l0 k1 c1 a2 (a2.length : Int) (wrap64 (a1 + 1))) = some r := by first | (rw [a5]; with_reducible exact H) | (have H2_ := (Option.bind_some _ _).symm.trans H; rw [a5]; with_reducible exact H2_) | (have H2_ := (Option.bind_some _ _).symm.trans H; with_reducible exact H2_) | with_reducible exact H | (rw [a5]; exact H) | exact H
  have b2 := Aside0.mk a5
  clear a5
  have H' := Aside0.mk H
  clear H
  have a7 : 0 ≤ (a1 : Int) := of_decide_eq_true (by first | (with_reducible assumption) | assumption)
  have a8 : a1 < (a2.length : Int) := of_decide_eq_true (by first | (with_reducible assumption) | assumption)
  obtain ⟨ad152, e152, hx152_0⟩ := Kd.zbj_ (Kd.zaS_ HO_13.out).2.2 a1 a7 a8
  cases e152
  replace a7 := eq_true a7
  replace a8 := eq_true a8
  go_wp2_with (first | ((with_reducible refine zbD_ (b := .append) (xs := #[.tmp 21, .tmp 23]) rfl ?_); at_builtin; refine Kd.R_append Kd.string (w0 := w) w.heap.size rfl (.tmp 21) (.tmp 23) 26 9 (.string ⟨#[]⟩) 16 rfl Tryd.underlying26 info9 rfl (by decide) (by omega) u3 a4 (rdOf ByteArray.empty a2 a1) [.string (rdOf ByteArray.empty a2 a1)] (fun k_ => some k_ ≠ (.slice (some ad152) a2.length b8 : Value).ownBlock) (fun _ => False) rfl rfl ?aP (fun _ hk => hk.elim) ?aF ?aO ?aB ?aS ?aL ?_; (case aP => exact rfl); (case aB => exact (HB.out)); (case aF => exact (fun k_ hk => Kd.fresh' (Kd.R_lt (by (with_reducible repeat (first | apply Kd.zav_ | apply Kd.zaw_ | apply Kd.R_drew)); exact HO_13.out)) k_ hk)); (case aO => exact (by (with_reducible repeat (first | apply Kd.zav_ | apply Kd.zaw_ | apply Kd.R_drew)); exact HO_3.out)); (case aS => exact (zam_ (HB.out))); (case aL => have := LMc11.out; omega); intro d2 d8 ho hb hg hat; rw [← b2.out] at ho; have a3 := Aside0.mk (Kd.R_after (ok := (fun _ => True)) (by (with_reducible repeat (first | apply Kd.zav_ | apply Kd.zaw_ | apply Kd.R_drew)); exact Kd.R_mono HO_13.out (fun _ hk => ⟨trivial, hk⟩)) hg hat); have b1 := Aside0.mk (hb); have c2 := Aside0.mk (ho); clear HO_13; clear HB; clear HO_3; have HO_13 := a3; have HB := b1; have b3 := c2; clear a3 b1 c2; clear ho hb hg hat))
  repeat (go_step3; try go_wp2_with (first | ((with_reducible refine zbD_ (b := .append) (xs := #[.tmp 21, .tmp 23]) rfl ?_); at_builtin; refine Kd.R_append Kd.string (w0 := w) w.heap.size rfl (.tmp 21) (.tmp 23) 26 9 (.string ⟨#[]⟩) 16 rfl Tryd.underlying26 info9 rfl (by decide) (by omega) u3 a4 (rdOf ByteArray.empty a2 a1) [.string (rdOf ByteArray.empty a2 a1)] (fun k_ => some k_ ≠ (.slice (some ad152) a2.length b8 : Value).ownBlock) (fun _ => False) rfl rfl ?aP (fun _ hk => hk.elim) ?aF ?aO ?aB ?aS ?aL ?_; (case aP => exact rfl); (case aB => exact (HB.out)); (case aF => exact (fun k_ hk => Kd.fresh' (Kd.R_lt (by (with_reducible repeat (first | apply Kd.zav_ | apply Kd.zaw_ | apply Kd.R_drew)); exact HO_13.out)) k_ hk)); (case aO => exact (by (with_reducible repeat (first | apply Kd.zav_ | apply Kd.zaw_ | apply Kd.R_drew)); exact HO_3.out)); (case aS => exact (zam_ (HB.out))); (case aL => have := LMc11.out; omega); intro d2 d8 ho hb hg hat; rw [← b2.out] at ho; have a3 := Aside0.mk (Kd.R_after (ok := (fun _ => True)) (by (with_reducible repeat (first | apply Kd.zav_ | apply Kd.zaw_ | apply Kd.R_drew)); exact Kd.R_mono HO_13.out (fun _ hk => ⟨trivial, hk⟩)) hg hat); have b1 := Aside0.mk (hb); have c2 := Aside0.mk (ho); clear HO_13; clear HB; clear HO_3; have HO_13 := a3; have HB := b1; have b3 := c2; clear a3 b1 c2; clear ho hb hg hat)))
  go_roundg k1
  case measure => have := c3.out; omega
  case rel => exact ⟨(c1), (wrap64 (a1 + 1)), (by first | rfl | (simp; done) | (simp [*]; done)), H', ⟨by have := c3.out; omega⟩, ⟨by (with_reducible repeat (first | apply Kd.zav_ | apply Kd.zaw_ | apply Kd.R_drew)); exact b3.out⟩, ⟨by (with_reducible repeat (first | apply Kd.zav_ | apply Kd.zaw_ | apply Kd.R_drew)); exact Kd.R_mono HO_13.out (fun _ hk => hk.2)⟩, ⟨HB.out⟩⟩
end Go.Proofs.YtgkjoodlcojkkaaDoor.QD
end
section
namespace Go.Proofs.YtgkjoodlcojkkaaDoor.QD
open Go.RowKit Go.Proofs.YtgkjoodlcojkkaaDoorW.PrintWords Go.Proofs.YtgkjoodlcojkkaaDoorW.PrintLast Go.Proofs.YtgkjoodlcojkkaaDoorW.PrintMore
attribute [local go_sem] zbd_ zbe_ zbm_ zbl_ zaW_ zaX_ zbc_ zbb_
set_option linter.unusedVariables false
set_option linter.unusedSimpArgs false
end Go.Proofs.YtgkjoodlcojkkaaDoor.QD
end
section
namespace Go.Proofs.YtgkjoodlcojkkaaDoor.QD
open Go.RowKit Go.Proofs.YtgkjoodlcojkkaaDoorW.PrintWords Go.Proofs.YtgkjoodlcojkkaaDoorW.PrintLast Go.Proofs.YtgkjoodlcojkkaaDoorW.PrintMore
attribute [local go_sem] zbd_ zbe_ zbm_ zbl_ zaW_ zaX_ zbc_ zbb_
set_option linter.unusedVariables false
set_option linter.unusedSimpArgs false
def zaO_.l0 : Nat → ByteArray → Int → Int → Option (Bool)
  | 0, _, _, _ => none
  | k + 1, x0, x7, x8 => if x8 < x7 then (if 0 ≤ x8 then (if x8 < (x0.size : Int) then (if (bt x0 x8) ≥ 48 then (if (bt x0 x8) < 97 then (if x8 = 0 then (some false) else (if ((bt x0 x8) ≤ 57) then (zaO_.l0 k x0 x7 (wrap64 (x8 + 1))) else (some false))) else (if (bt x0 x8) > 122 then (if x8 = 0 then (some false) else (if ((bt x0 x8) ≤ 57) then (zaO_.l0 k x0 x7 (wrap64 (x8 + 1))) else (some false))) else (zaO_.l0 k x0 x7 (wrap64 (x8 + 1))))) else (if (bt x0 x8) < 97 then (if x8 = 0 then (some false) else (some false)) else (if (bt x0 x8) > 122 then (if x8 = 0 then (some false) else (some false)) else (zaO_.l0 k x0 x7 (wrap64 (x8 + 1)))))) else (none)) else (none)) else (if x0.toList = ([] : List UInt8) then (some false) else (some (decide ((x0.size : Int) ≤ 8))))
def zaO_.f (k : Nat) (a0 : ByteArray) : Option (Bool) := zaO_.l0 k a0 (a0.size : Int) 0
theorem zaO_.mono_l : ∀ k, (∀ y0 y1 y2, LeO (zaO_.l0 k y0 y1 y2) (zaO_.l0 (k + 1) y0 y1 y2))
  | 0 => fun _ _ _ r h => by simp [zaO_.l0] at h
  | k + 1 => by
    have ih0 := zaO_.mono_l k
    · intro y0 y1 y2
      unfold zaO_.l0
      repeat' first
      | (with_reducible exact ih0 _ _ _)
      | (with_reducible exact LeO.refl _)
      | (with_reducible exact LeO.none _)
      | (with_reducible refine LeO.ite ?_ ?_)
      | (with_reducible refine LeO.bind ?_ (fun _ => ?_))
      | exact ih0 _ _ _
      | exact LeO.none _
      | refine LeO.ite ?_ ?_
      | refine LeO.bind ?_ (fun _ => ?_)
theorem zaO_.mono : ∀ a0 k, LeO (zaO_.f k a0) (zaO_.f (k + 1) a0) := by
  intro a0 k
  have ih0 := zaO_.mono_l k
  unfold zaO_.f
  repeat' first
      | (with_reducible exact ih0 _ _ _)
      | (with_reducible exact LeO.refl _)
      | (with_reducible exact LeO.none _)
      | (with_reducible refine LeO.ite ?_ ?_)
      | (with_reducible refine LeO.bind ?_ (fun _ => ?_))
      | exact ih0 _ _ _
      | exact LeO.none _
      | refine LeO.ite ?_ ?_
      | refine LeO.bind ?_ (fun _ => ?_)
set_option maxHeartbeats 8000000 in
set_option maxRecDepth 100000 in
theorem zaO_.calls (k : Nat) (a0 : ByteArray) (r : Bool) (w : World) (h : zaO_.f k a0 = some r) :
    Calls Tryd.prog 17 #[.string a0] w fun e w' => e = .returned (.bool r) ∧ Drawn0 w w' := by
  have H : (zaO_.l0 k a0 (a0.size : Int) 0) = some r := h
  clear h
  have H' := Aside0.mk H
  clear H
  go_enter Tryd.func17, Tryd.ntmps17
  go_wp2
  go_loopg [8] k (fun kq v8 w' => ∃ (a1 : Int), v8 = .int .i64 a1 ∧ Aside0 (zaO_.l0 kq a0 (a0.size : Int) a1 = some r) ∧ Aside0 (kq ≤ k) ∧ Drawn0 w w')
  case atStart => exact ⟨(0), (by first | rfl | (simp; done) | (simp [*]; done)), H', ⟨Nat.le_refl _⟩, by repeat (first | exact Drawn0.refl _ | apply Drawn0.step)⟩
  clear H'
  obtain ⟨a1, rfl, HA, a3, ⟨m1, rfl⟩⟩ := hrel
  cases gk with
  | zero => exact absurd HA.out (by simp [zaO_.l0])
  | succ k1 => ?_
  have H := HA.out
  clear HA
  simp only [zaO_.l0] at H
  by_cases c2 : a1 < (a0.size : Int)
  rotate_left
  · rw [if_neg c2] at H
    have d0 : decide (a1 < (a0.size : Int)) = false := decide_eq_false c2
    clear c2
    by_cases c3 : a0.toList = ([] : List UInt8)
    rotate_left
    · rw [if_neg c3] at H
      have d1 : (a0.toList == ([] : List UInt8)) = false := beq_eq_false_iff_ne.mpr c3
      have d2 : (a0.toList != ([] : List UInt8)) = true := bne_iff_ne.mpr c3
      obtain rfl := Option.some.inj H
      go_wp2
      go_ret
      exact ⟨by first | rfl | (simp; done) | (simp [*]; done), by repeat (first | exact Drawn0.refl _ | apply Drawn0.step)⟩
    rw [if_pos c3] at H
    have d1 : (a0.toList == ([] : List UInt8)) = true := beq_iff_eq.mpr c3
    have d2 : (a0.toList != ([] : List UInt8)) = false := bne_eq_false_iff_eq.mpr c3
    clear c3
    obtain rfl := Option.some.inj H
    go_wp2
    go_ret
    exact ⟨by first | rfl | (simp; done) | (simp [*]; done), by repeat (first | exact Drawn0.refl _ | apply Drawn0.step)⟩
  rw [if_pos c2] at H
  have d0 : decide (a1 < (a0.size : Int)) = true := decide_eq_true c2
  clear c2
  by_cases c4 : 0 ≤ a1
  rotate_left
  · rw [if_neg c4] at H
    exact absurd H (by simp)
  rw [if_pos c4] at H
  have d7 : decide (0 ≤ a1) = true := decide_eq_true c4
  clear c4
  by_cases c5 : a1 < (a0.size : Int)
  rotate_left
  · rw [if_neg c5] at H
    exact absurd H (by simp)
  rw [if_pos c5] at H
  have d8 : decide (a1 < (a0.size : Int)) = true := decide_eq_true c5
  clear c5
  by_cases c7 : (bt a0 a1) ≥ 48
  rotate_left
  · rw [if_neg c7] at H
    have d3 : decide (48 ≤ (bt a0 a1)) = false := decide_eq_false c7
    clear c7
    by_cases c8 : (bt a0 a1) < 97
    · rw [if_pos c8] at H
      have d4 : decide ((bt a0 a1) < 97) = true := decide_eq_true c8
      clear c8
      by_cases c9 : a1 = 0
      rotate_left
      · rw [if_neg c9] at H
        have d5 : (a1 == 0) = false := beq_eq_false_iff_ne.mpr c9
        have d6 : (a1 != 0) = true := bne_iff_ne.mpr c9
        obtain rfl := Option.some.inj H
        have p6 : 0 ≤ (a1 : Int) := of_decide_eq_true (by first | (with_reducible assumption) | assumption)
        have q6 : a1 < (a0.size : Int) := of_decide_eq_true (by first | (with_reducible assumption) | assumption)
        have a2 := bt_at a0 a1
        replace p6 := eq_true p6
        replace q6 := eq_true q6
        go_wp2
        go_ret
        exact ⟨by first | rfl | (simp; done) | (simp [*]; done), by repeat (first | exact Drawn0.refl _ | apply Drawn0.step)⟩
      rw [if_pos c9] at H
      have d5 : (a1 == 0) = true := beq_iff_eq.mpr c9
      have d6 : (a1 != 0) = false := bne_eq_false_iff_eq.mpr c9
      clear c9
      obtain rfl := Option.some.inj H
      have p6 : 0 ≤ (a1 : Int) := of_decide_eq_true (by first | (with_reducible assumption) | assumption)
      have q6 : a1 < (a0.size : Int) := of_decide_eq_true (by first | (with_reducible assumption) | assumption)
      have a2 := bt_at a0 a1
      replace p6 := eq_true p6
      replace q6 := eq_true q6
      go_wp2
      go_ret
      exact ⟨by first | rfl | (simp; done) | (simp [*]; done), by repeat (first | exact Drawn0.refl _ | apply Drawn0.step)⟩
    rw [if_neg c8] at H
    have d4 : decide ((bt a0 a1) < 97) = false := decide_eq_false c8
    clear c8
    by_cases a7 : (bt a0 a1) > 122
    rotate_left
    · rw [if_neg a7] at H
      have b2 : decide (122 < (bt a0 a1)) = false := decide_eq_false a7
      clear a7
      have H' := Aside0.mk H
      clear H
      have p6 : 0 ≤ (a1 : Int) := of_decide_eq_true (by first | (with_reducible assumption) | assumption)
      have q6 : a1 < (a0.size : Int) := of_decide_eq_true (by first | (with_reducible assumption) | assumption)
      have a2 := bt_at a0 a1
      replace p6 := eq_true p6
      replace q6 := eq_true q6
      go_wp2
      go_roundg k1
      case measure => have := a3.out; omega
      case rel => exact ⟨(wrap64 (a1 + 1)), (by first | rfl | (simp; done) | (simp [*]; done)), H', ⟨by have := a3.out; omega⟩, by repeat (first | exact Drawn0.refl _ | apply Drawn0.step)⟩
    rw [if_pos a7] at H
    have b2 : decide (122 < (bt a0 a1)) = true := decide_eq_true a7
    clear a7
    by_cases a4 : a1 = 0
    rotate_left
    · rw [if_neg a4] at H
      have b3 : (a1 == 0) = false := beq_eq_false_iff_ne.mpr a4
      have b4 : (a1 != 0) = true := bne_iff_ne.mpr a4
      obtain rfl := Option.some.inj H
      have p6 : 0 ≤ (a1 : Int) := of_decide_eq_true (by first | (with_reducible assumption) | assumption)
      have q6 : a1 < (a0.size : Int) := of_decide_eq_true (by first | (with_reducible assumption) | assumption)
      have a2 := bt_at a0 a1
      replace p6 := eq_true p6
      replace q6 := eq_true q6
      go_wp2
      go_ret
      exact ⟨by first | rfl | (simp; done) | (simp [*]; done), by repeat (first | exact Drawn0.refl _ | apply Drawn0.step)⟩
    rw [if_pos a4] at H
    have b3 : (a1 == 0) = true := beq_iff_eq.mpr a4
    have b4 : (a1 != 0) = false := bne_eq_false_iff_eq.mpr a4
    clear a4
    obtain rfl := Option.some.inj H
    have p6 : 0 ≤ (a1 : Int) := of_decide_eq_true (by first | (with_reducible assumption) | assumption)
    have q6 : a1 < (a0.size : Int) := of_decide_eq_true (by first | (with_reducible assumption) | assumption)
    have a2 := bt_at a0 a1
    replace p6 := eq_true p6
    replace q6 := eq_true q6
    go_wp2
    go_ret
    exact ⟨by first | rfl | (simp; done) | (simp [*]; done), by repeat (first | exact Drawn0.refl _ | apply Drawn0.step)⟩
  rw [if_pos c7] at H
  have d3 : decide (48 ≤ (bt a0 a1)) = true := decide_eq_true c7
  clear c7
  by_cases a8 : (bt a0 a1) < 97
  · rw [if_pos a8] at H
    have b5 : decide ((bt a0 a1) < 97) = true := decide_eq_true a8
    clear a8
    by_cases a5 : a1 = 0
    · rw [if_pos a5] at H
      have b6 : (a1 == 0) = true := beq_iff_eq.mpr a5
      have b7 : (a1 != 0) = false := bne_eq_false_iff_eq.mpr a5
      clear a5
      obtain rfl := Option.some.inj H
      have p6 : 0 ≤ (a1 : Int) := of_decide_eq_true (by first | (with_reducible assumption) | assumption)
      have q6 : a1 < (a0.size : Int) := of_decide_eq_true (by first | (with_reducible assumption) | assumption)
      have a2 := bt_at a0 a1
      replace p6 := eq_true p6
      replace q6 := eq_true q6
      go_wp2
      go_ret
      exact ⟨by first | rfl | (simp; done) | (simp [*]; done), by repeat (first | exact Drawn0.refl _ | apply Drawn0.step)⟩
    rw [if_neg a5] at H
    have b6 : (a1 == 0) = false := beq_eq_false_iff_ne.mpr a5
    have b7 : (a1 != 0) = true := bne_iff_ne.mpr a5
    by_cases a9 : ((bt a0 a1) ≤ 57)
    rotate_left
    · rw [if_neg a9] at H
      have b8 : decide ((bt a0 a1) ≤ 57) = false := decide_eq_false a9
      clear a9
      obtain rfl := Option.some.inj H
      have p6 : 0 ≤ (a1 : Int) := of_decide_eq_true (by first | (with_reducible assumption) | assumption)
      have q6 : a1 < (a0.size : Int) := of_decide_eq_true (by first | (with_reducible assumption) | assumption)
      have a2 := bt_at a0 a1
      replace p6 := eq_true p6
      replace q6 := eq_true q6
      go_wp2
      go_ret
      exact ⟨by first | rfl | (simp; done) | (simp [*]; done), by repeat (first | exact Drawn0.refl _ | apply Drawn0.step)⟩
    rw [if_pos a9] at H
    have b8 : decide ((bt a0 a1) ≤ 57) = true := decide_eq_true a9
    clear a9
    have H' := Aside0.mk H
    clear H
    have p6 : 0 ≤ (a1 : Int) := of_decide_eq_true (by first | (with_reducible assumption) | assumption)
    have q6 : a1 < (a0.size : Int) := of_decide_eq_true (by first | (with_reducible assumption) | assumption)
    have a2 := bt_at a0 a1
    replace p6 := eq_true p6
    replace q6 := eq_true q6
    go_wp2
    go_roundg k1
    case measure => have := a3.out; omega
    case rel => exact ⟨(wrap64 (a1 + 1)), (by first | rfl | (simp; done) | (simp [*]; done)), H', ⟨by have := a3.out; omega⟩, by repeat (first | exact Drawn0.refl _ | apply Drawn0.step)⟩
  rw [if_neg a8] at H
  have b5 : decide ((bt a0 a1) < 97) = false := decide_eq_false a8
  clear a8
  by_cases b0 : (bt a0 a1) > 122
  rotate_left
  · rw [if_neg b0] at H
    have b9 : decide (122 < (bt a0 a1)) = false := decide_eq_false b0
    clear b0
    have H' := Aside0.mk H
    clear H
    have p6 : 0 ≤ (a1 : Int) := of_decide_eq_true (by first | (with_reducible assumption) | assumption)
    have q6 : a1 < (a0.size : Int) := of_decide_eq_true (by first | (with_reducible assumption) | assumption)
    have a2 := bt_at a0 a1
    replace p6 := eq_true p6
    replace q6 := eq_true q6
    go_wp2
    go_roundg k1
    case measure => have := a3.out; omega
    case rel => exact ⟨(wrap64 (a1 + 1)), (by first | rfl | (simp; done) | (simp [*]; done)), H', ⟨by have := a3.out; omega⟩, by repeat (first | exact Drawn0.refl _ | apply Drawn0.step)⟩
  rw [if_pos b0] at H
  have b9 : decide (122 < (bt a0 a1)) = true := decide_eq_true b0
  clear b0
  by_cases a6 : a1 = 0
  · rw [if_pos a6] at H
    have c0 : (a1 == 0) = true := beq_iff_eq.mpr a6
    have c1 : (a1 != 0) = false := bne_eq_false_iff_eq.mpr a6
    clear a6
    obtain rfl := Option.some.inj H
    have p6 : 0 ≤ (a1 : Int) := of_decide_eq_true (by first | (with_reducible assumption) | assumption)
    have q6 : a1 < (a0.size : Int) := of_decide_eq_true (by first | (with_reducible assumption) | assumption)
    have a2 := bt_at a0 a1
    replace p6 := eq_true p6
    replace q6 := eq_true q6
    go_wp2
    go_ret
    exact ⟨by first | rfl | (simp; done) | (simp [*]; done), by repeat (first | exact Drawn0.refl _ | apply Drawn0.step)⟩
  rw [if_neg a6] at H
  have c0 : (a1 == 0) = false := beq_eq_false_iff_ne.mpr a6
  have c1 : (a1 != 0) = true := bne_iff_ne.mpr a6
  by_cases b1 : ((bt a0 a1) ≤ 57)
  rotate_left
  · rw [if_neg b1] at H
    have c6 : decide ((bt a0 a1) ≤ 57) = false := decide_eq_false b1
    clear b1
    obtain rfl := Option.some.inj H
    have p6 : 0 ≤ (a1 : Int) := of_decide_eq_true (by first | (with_reducible assumption) | assumption)
    have q6 : a1 < (a0.size : Int) := of_decide_eq_true (by first | (with_reducible assumption) | assumption)
    have a2 := bt_at a0 a1
    replace p6 := eq_true p6
    replace q6 := eq_true q6
    go_wp2
    go_ret
    exact ⟨by first | rfl | (simp; done) | (simp [*]; done), by repeat (first | exact Drawn0.refl _ | apply Drawn0.step)⟩
  rw [if_pos b1] at H
  have c6 : decide ((bt a0 a1) ≤ 57) = true := decide_eq_true b1
  clear b1
  have H' := Aside0.mk H
  clear H
  have p6 : 0 ≤ (a1 : Int) := of_decide_eq_true (by first | (with_reducible assumption) | assumption)
  have q6 : a1 < (a0.size : Int) := of_decide_eq_true (by first | (with_reducible assumption) | assumption)
  have a2 := bt_at a0 a1
  replace p6 := eq_true p6
  replace q6 := eq_true q6
  go_wp2
  go_roundg k1
  case measure => have := a3.out; omega
  case rel => exact ⟨(wrap64 (a1 + 1)), (by first | rfl | (simp; done) | (simp [*]; done)), H', ⟨by have := a3.out; omega⟩, by repeat (first | exact Drawn0.refl _ | apply Drawn0.step)⟩
end Go.Proofs.YtgkjoodlcojkkaaDoor.QD
end
section
namespace Go.Proofs.YtgkjoodlcojkkaaDoor.QD
open Go.RowKit Go.Proofs.YtgkjoodlcojkkaaDoorW.PrintWords Go.Proofs.YtgkjoodlcojkkaaDoorW.PrintLast Go.Proofs.YtgkjoodlcojkkaaDoorW.PrintMore
attribute [local go_sem] zbd_ zbe_ zbm_ zbl_ zaW_ zaX_ zbc_ zbb_
set_option linter.unusedVariables false
set_option linter.unusedSimpArgs false
def zbh_.l0 : Nat → ByteArray → Int → Option (Bool)
  | 0, _, _ => none
  | k + 1, x0, x3 => if x3 < (x0.size : Int) then (if 0 ≤ x3 then (if (bt x0 x3) < 97 then (if (bt x0 x3) < 48 then (some false) else (if (bt x0 x3) > 57 then (some false) else (if x3 = 0 then (some false) else (zbh_.l0 k x0 (wrap64 (x3 + 1)))))) else (if (bt x0 x3) > 122 then (if (bt x0 x3) < 48 then (some false) else (if (bt x0 x3) > 57 then (some false) else (if x3 = 0 then (some false) else (zbh_.l0 k x0 (wrap64 (x3 + 1)))))) else (zbh_.l0 k x0 (wrap64 (x3 + 1))))) else (none)) else (if (x0.size : Int) ≥ 1 then (some (decide ((x0.size : Int) ≤ 8))) else (some false))
def zbh_.f (k : Nat) (a0 : ByteArray) : Option (Bool) := zbh_.l0 k a0 0
theorem zbh_.mono_l : ∀ k, (∀ y0 y1, LeO (zbh_.l0 k y0 y1) (zbh_.l0 (k + 1) y0 y1))
  | 0 => fun _ _ r h => by simp [zbh_.l0] at h
  | k + 1 => by
    have ih0 := zbh_.mono_l k
    · intro y0 y1
      unfold zbh_.l0
      repeat' first
      | (with_reducible exact ih0 _ _)
      | (with_reducible exact LeO.refl _)
      | (with_reducible exact LeO.none _)
      | (with_reducible refine LeO.ite ?_ ?_)
      | (with_reducible refine LeO.bind ?_ (fun _ => ?_))
      | exact ih0 _ _
      | exact LeO.none _
      | refine LeO.ite ?_ ?_
      | refine LeO.bind ?_ (fun _ => ?_)
theorem zbh_.mono : ∀ a0 k, LeO (zbh_.f k a0) (zbh_.f (k + 1) a0) := by
  intro a0 k
  have ih0 := zbh_.mono_l k
  unfold zbh_.f
  repeat' first
      | (with_reducible exact ih0 _ _)
      | (with_reducible exact LeO.refl _)
      | (with_reducible exact LeO.none _)
      | (with_reducible refine LeO.ite ?_ ?_)
      | (with_reducible refine LeO.bind ?_ (fun _ => ?_))
      | exact ih0 _ _
      | exact LeO.none _
      | refine LeO.ite ?_ ?_
      | refine LeO.bind ?_ (fun _ => ?_)
set_option maxHeartbeats 8000000 in
set_option maxRecDepth 100000 in
theorem zbh_.calls (k : Nat) (a0 : ByteArray) (r : Bool) (w : World) (h : zbh_.f k a0 = some r) :
    Calls Tryd.prog 18 #[.string a0] w fun e w' => e = .returned (.bool r) ∧ Drawn0 w w' := by
  have H : (zbh_.l0 k a0 0) = some r := h
  clear h
  have H' := Aside0.mk H
  clear H
  go_enter Tryd.func18, Tryd.ntmps18
  go_wp2
  go_loopg [3] k (fun kq v3 w' => ∃ (a1 : Int), v3 = .int .i64 a1 ∧ Aside0 (zbh_.l0 kq a0 a1 = some r) ∧ Aside0 (kq ≤ k) ∧ Drawn0 w w')
  case atStart => exact ⟨(0), (by first | rfl | (simp; done) | (simp [*]; done)), H', ⟨Nat.le_refl _⟩, by repeat (first | exact Drawn0.refl _ | apply Drawn0.step)⟩
  clear H'
  obtain ⟨a1, rfl, HA, a4, ⟨m1, rfl⟩⟩ := hrel
  cases gk with
  | zero => exact absurd HA.out (by simp [zbh_.l0])
  | succ k1 => ?_
  have H := HA.out
  clear HA
  simp only [zbh_.l0] at H
  by_cases c2 : a1 < (a0.size : Int)
  rotate_left
  · rw [if_neg c2] at H
    have b3 : decide (a1 < (a0.size : Int)) = false := decide_eq_false c2
    clear c2
    by_cases c3 : (a0.size : Int) ≥ 1
    rotate_left
    · rw [if_neg c3] at H
      have b4 : decide (1 ≤ (a0.size : Int)) = false := decide_eq_false c3
      have b5 : decide (1 ≤ a0.size) = false := decide_eq_false (by omega)
      clear c3
      obtain rfl := Option.some.inj H
      go_wp2
      go_ret
      exact ⟨by first | rfl | (simp; done) | (simp [*]; done), by repeat (first | exact Drawn0.refl _ | apply Drawn0.step)⟩
    rw [if_pos c3] at H
    have b4 : decide (1 ≤ (a0.size : Int)) = true := decide_eq_true c3
    have b5 : decide (1 ≤ a0.size) = true := decide_eq_true (by omega)
    clear c3
    obtain rfl := Option.some.inj H
    go_wp2
    go_ret
    exact ⟨by first | rfl | (simp; done) | (simp [*]; done), by repeat (first | exact Drawn0.refl _ | apply Drawn0.step)⟩
  rw [if_pos c2] at H
  have b3 : decide (a1 < (a0.size : Int)) = true := decide_eq_true c2
  clear c2
  by_cases c4 : 0 ≤ a1
  rotate_left
  · rw [if_neg c4] at H
    exact absurd H (by simp)
  rw [if_pos c4] at H
  have c1 : decide (0 ≤ a1) = true := decide_eq_true c4
  clear c4
  by_cases c6 : (bt a0 a1) < 97
  · rw [if_pos c6] at H
    have b6 : decide ((bt a0 a1) < 97) = true := decide_eq_true c6
    clear c6
    by_cases c7 : (bt a0 a1) < 48
    · rw [if_pos c7] at H
      have b7 : decide ((bt a0 a1) < 48) = true := decide_eq_true c7
      clear c7
      obtain rfl := Option.some.inj H
      have p5 : 0 ≤ (a1 : Int) := of_decide_eq_true (by first | (with_reducible assumption) | assumption)
      have q5 : a1 < (a0.size : Int) := of_decide_eq_true (by first | (with_reducible assumption) | assumption)
      have a2 := bt_at a0 a1
      replace p5 := eq_true p5
      replace q5 := eq_true q5
      go_wp2
      go_ret
      exact ⟨by first | rfl | (simp; done) | (simp [*]; done), by repeat (first | exact Drawn0.refl _ | apply Drawn0.step)⟩
    rw [if_neg c7] at H
    have b7 : decide ((bt a0 a1) < 48) = false := decide_eq_false c7
    clear c7
    by_cases c8 : (bt a0 a1) > 57
    · rw [if_pos c8] at H
      have b8 : decide (57 < (bt a0 a1)) = true := decide_eq_true c8
      clear c8
      obtain rfl := Option.some.inj H
      have p5 : 0 ≤ (a1 : Int) := of_decide_eq_true (by first | (with_reducible assumption) | assumption)
      have q5 : a1 < (a0.size : Int) := of_decide_eq_true (by first | (with_reducible assumption) | assumption)
      have a2 := bt_at a0 a1
      replace p5 := eq_true p5
      replace q5 := eq_true q5
      go_wp2
      go_ret
      exact ⟨by first | rfl | (simp; done) | (simp [*]; done), by repeat (first | exact Drawn0.refl _ | apply Drawn0.step)⟩
    rw [if_neg c8] at H
    have b8 : decide (57 < (bt a0 a1)) = false := decide_eq_false c8
    clear c8
    by_cases c9 : a1 = 0
    rotate_left
    · rw [if_neg c9] at H
      have b9 : (a1 == 0) = false := beq_eq_false_iff_ne.mpr c9
      have c0 : (a1 != 0) = true := bne_iff_ne.mpr c9
      have H' := Aside0.mk H
      clear H
      have p5 : 0 ≤ (a1 : Int) := of_decide_eq_true (by first | (with_reducible assumption) | assumption)
      have q5 : a1 < (a0.size : Int) := of_decide_eq_true (by first | (with_reducible assumption) | assumption)
      have a2 := bt_at a0 a1
      replace p5 := eq_true p5
      replace q5 := eq_true q5
      go_wp2
      go_roundg k1
      case measure => have := a4.out; omega
      case rel => exact ⟨(wrap64 (a1 + 1)), (by first | rfl | (simp; done) | (simp [*]; done)), H', ⟨by have := a4.out; omega⟩, by repeat (first | exact Drawn0.refl _ | apply Drawn0.step)⟩
    rw [if_pos c9] at H
    have b9 : (a1 == 0) = true := beq_iff_eq.mpr c9
    have c0 : (a1 != 0) = false := bne_eq_false_iff_eq.mpr c9
    clear c9
    obtain rfl := Option.some.inj H
    have p5 : 0 ≤ (a1 : Int) := of_decide_eq_true (by first | (with_reducible assumption) | assumption)
    have q5 : a1 < (a0.size : Int) := of_decide_eq_true (by first | (with_reducible assumption) | assumption)
    have a2 := bt_at a0 a1
    replace p5 := eq_true p5
    replace q5 := eq_true q5
    go_wp2
    go_ret
    exact ⟨by first | rfl | (simp; done) | (simp [*]; done), by repeat (first | exact Drawn0.refl _ | apply Drawn0.step)⟩
  rw [if_neg c6] at H
  have b6 : decide ((bt a0 a1) < 97) = false := decide_eq_false c6
  clear c6
  by_cases a5 : (bt a0 a1) > 122
  rotate_left
  · rw [if_neg a5] at H
    have a8 : decide (122 < (bt a0 a1)) = false := decide_eq_false a5
    clear a5
    have H' := Aside0.mk H
    clear H
    have p5 : 0 ≤ (a1 : Int) := of_decide_eq_true (by first | (with_reducible assumption) | assumption)
    have q5 : a1 < (a0.size : Int) := of_decide_eq_true (by first | (with_reducible assumption) | assumption)
    have a2 := bt_at a0 a1
    replace p5 := eq_true p5
    replace q5 := eq_true q5
    go_wp2
    go_roundg k1
    case measure => have := a4.out; omega
    case rel => exact ⟨(wrap64 (a1 + 1)), (by first | rfl | (simp; done) | (simp [*]; done)), H', ⟨by have := a4.out; omega⟩, by repeat (first | exact Drawn0.refl _ | apply Drawn0.step)⟩
  rw [if_pos a5] at H
  have a8 : decide (122 < (bt a0 a1)) = true := decide_eq_true a5
  clear a5
  by_cases a6 : (bt a0 a1) < 48
  · rw [if_pos a6] at H
    have a9 : decide ((bt a0 a1) < 48) = true := decide_eq_true a6
    clear a6
    obtain rfl := Option.some.inj H
    have p5 : 0 ≤ (a1 : Int) := of_decide_eq_true (by first | (with_reducible assumption) | assumption)
    have q5 : a1 < (a0.size : Int) := of_decide_eq_true (by first | (with_reducible assumption) | assumption)
    have a2 := bt_at a0 a1
    replace p5 := eq_true p5
    replace q5 := eq_true q5
    go_wp2
    go_ret
    exact ⟨by first | rfl | (simp; done) | (simp [*]; done), by repeat (first | exact Drawn0.refl _ | apply Drawn0.step)⟩
  rw [if_neg a6] at H
  have a9 : decide ((bt a0 a1) < 48) = false := decide_eq_false a6
  clear a6
  by_cases a7 : (bt a0 a1) > 57
  · rw [if_pos a7] at H
    have b0 : decide (57 < (bt a0 a1)) = true := decide_eq_true a7
    clear a7
    obtain rfl := Option.some.inj H
    have p5 : 0 ≤ (a1 : Int) := of_decide_eq_true (by first | (with_reducible assumption) | assumption)
    have q5 : a1 < (a0.size : Int) := of_decide_eq_true (by first | (with_reducible assumption) | assumption)
    have a2 := bt_at a0 a1
    replace p5 := eq_true p5
    replace q5 := eq_true q5
    go_wp2
    go_ret
    exact ⟨by first | rfl | (simp; done) | (simp [*]; done), by repeat (first | exact Drawn0.refl _ | apply Drawn0.step)⟩
  rw [if_neg a7] at H
  have b0 : decide (57 < (bt a0 a1)) = false := decide_eq_false a7
  clear a7
  by_cases a3 : a1 = 0
  rotate_left
  · rw [if_neg a3] at H
    have b1 : (a1 == 0) = false := beq_eq_false_iff_ne.mpr a3
    have b2 : (a1 != 0) = true := bne_iff_ne.mpr a3
    have H' := Aside0.mk H
    clear H
    have p5 : 0 ≤ (a1 : Int) := of_decide_eq_true (by first | (with_reducible assumption) | assumption)
    have q5 : a1 < (a0.size : Int) := of_decide_eq_true (by first | (with_reducible assumption) | assumption)
    have a2 := bt_at a0 a1
    replace p5 := eq_true p5
    replace q5 := eq_true q5
    go_wp2
    go_roundg k1
    case measure => have := a4.out; omega
    case rel => exact ⟨(wrap64 (a1 + 1)), (by first | rfl | (simp; done) | (simp [*]; done)), H', ⟨by have := a4.out; omega⟩, by repeat (first | exact Drawn0.refl _ | apply Drawn0.step)⟩
  rw [if_pos a3] at H
  have b1 : (a1 == 0) = true := beq_iff_eq.mpr a3
  have b2 : (a1 != 0) = false := bne_eq_false_iff_eq.mpr a3
  clear a3
  obtain rfl := Option.some.inj H
  have p5 : 0 ≤ (a1 : Int) := of_decide_eq_true (by first | (with_reducible assumption) | assumption)
  have q5 : a1 < (a0.size : Int) := of_decide_eq_true (by first | (with_reducible assumption) | assumption)
  have a2 := bt_at a0 a1
  replace p5 := eq_true p5
  replace q5 := eq_true q5
  go_wp2
  go_ret
  exact ⟨by first | rfl | (simp; done) | (simp [*]; done), by repeat (first | exact Drawn0.refl _ | apply Drawn0.step)⟩
end Go.Proofs.YtgkjoodlcojkkaaDoor.QD
end
section
namespace Go.Proofs.YtgkjoodlcojkkaaDoor.QD
open Go.RowKit Go.Proofs.YtgkjoodlcojkkaaDoorW.PrintWords Go.Proofs.YtgkjoodlcojkkaaDoorW.PrintLast Go.Proofs.YtgkjoodlcojkkaaDoorW.PrintMore
attribute [local go_sem] zbd_ zbe_ zbm_ zbl_ zaW_ zaX_ zbc_ zbb_
set_option linter.unusedVariables false
set_option linter.unusedSimpArgs false
def zbn_.f (a0 : Int) : Option (ByteArray) := if a0 < 0 then (some (⟨#[]⟩ : ByteArray)) else (if a0 > 9999999 then (some (⟨#[]⟩ : ByteArray)) else ((zbk_.f a0).bind fun a1 => (some a1)))
set_option maxHeartbeats 8000000 in
set_option maxRecDepth 100000 in
theorem zbn_.calls (a0 : Int) (r : ByteArray) (w : World) (hG : Glob w) (h : zbn_.f a0 = some r) :
    Calls Tryd.prog 19 #[.int .i64 a0] w fun e w' => e = .returned (.string r) ∧ Below w.heap.size w w' := by
  have HG := Aside0.mk hG
  clear hG
  have HB := Aside0.mk (Below.refl w.heap.size w)
  have H : (if a0 < 0 then (some (⟨#[]⟩ : ByteArray)) else (if a0 > 9999999 then (some (⟨#[]⟩ : ByteArray)) else ((zbk_.f a0).bind fun a1 => (some a1)))) = some r := h
  clear h
  by_cases c2 : a0 < 0
  · rw [if_pos c2] at H
    have a2 : decide (a0 < 0) = true := decide_eq_true c2
    clear c2
    obtain rfl := Option.some.inj H
    go_enter Tryd.func19, Tryd.ntmps19
    go_wp2
    go_ret
    exact ⟨by first | rfl | (simp [zal_, zak_] <;> rfl) | (simp [*, zal_, zak_] <;> rfl), HB.out⟩
  rw [if_neg c2] at H
  have a2 : decide (a0 < 0) = false := decide_eq_false c2
  clear c2
  by_cases c3 : a0 > 9999999
  · rw [if_pos c3] at H
    have a3 : decide (9999999 < a0) = true := decide_eq_true c3
    clear c3
    obtain rfl := Option.some.inj H
    go_enter Tryd.func19, Tryd.ntmps19
    go_wp2
    go_ret
    exact ⟨by first | rfl | (simp [zal_, zak_] <;> rfl) | (simp [*, zal_, zak_] <;> rfl), HB.out⟩
  rw [if_neg c3] at H
  have a3 : decide (9999999 < a0) = false := decide_eq_false c3
  clear c3
  replace H := Option.bind_eq_some_iff.mp H
  obtain ⟨a1, a4, H⟩ := H
  replace H : (some a1) = some r := H
  have A4 := Aside0.mk a4
  clear a4
  obtain rfl := Option.some.inj H
  go_enter Tryd.func19, Tryd.ntmps19
  go_wp2_with (first | ((with_reducible refine zar_ (f := 28) rfl ?_); refine goesL_ (some 10) rfl rfl Tryd.func28 (by kernel_rfl) rfl #[.int .i64 a0] rfl (by (try simp only [List.map_toArray, List.map_cons, List.map_nil]); first | done | rfl | (simp only [List.length_drop, List.length_take]; rfl)) ?_; (with_reducible refine (zbk_.calls a0 a1 _ ?side1 A4.out).mono ?_); (case side1 => first | exact Glob.below HG.out (HB.out) | (repeat (first | exact Glob.below HG.out HB.out | (with_reducible refine Glob.alloc ?_ _) | (with_reducible refine Glob.drewN ?_ _) | (with_reducible refine Glob.drew ?_)))); rintro e w5 ⟨rfl, hb⟩; refine ⟨_, rfl, ?_⟩; have a5 := Aside0.mk (zaj_ (HB.out) hb); clear HB; have HB := a5; clear a5; (try clear hb); (try clear hb2); (try clear hk); (try clear hi)))
  go_ret
  exact ⟨by first | rfl | (simp [zal_, zak_] <;> rfl) | (simp [*, zal_, zak_] <;> rfl), HB.out⟩
end Go.Proofs.YtgkjoodlcojkkaaDoor.QD
end
section
namespace Go.Proofs.YtgkjoodlcojkkaaDoor.QD
open Go.RowKit Go.Proofs.YtgkjoodlcojkkaaDoorW.PrintWords Go.Proofs.YtgkjoodlcojkkaaDoorW.PrintLast Go.Proofs.YtgkjoodlcojkkaaDoorW.PrintMore
attribute [local go_sem] zbd_ zbe_ zbm_ zbl_ zaW_ zaX_ zbc_ zbb_
set_option linter.unusedVariables false
set_option linter.unusedSimpArgs false
end Go.Proofs.YtgkjoodlcojkkaaDoor.QD
end
section
namespace Go.Proofs.YtgkjoodlcojkkaaDoor.QD
open Go.RowKit Go.Proofs.YtgkjoodlcojkkaaDoorW.PrintWords Go.Proofs.YtgkjoodlcojkkaaDoorW.PrintLast Go.Proofs.YtgkjoodlcojkkaaDoorW.PrintMore
attribute [local go_sem] zbd_ zbe_ zbm_ zbl_ zaW_ zaX_ zbc_ zbb_
set_option linter.unusedVariables false
set_option linter.unusedSimpArgs false
end Go.Proofs.YtgkjoodlcojkkaaDoor.QD
end
section
namespace Go.Proofs.YtgkjoodlcojkkaaDoor.QD
open Go.RowKit Go.Proofs.YtgkjoodlcojkkaaDoorW.PrintWords Go.Proofs.YtgkjoodlcojkkaaDoorW.PrintLast Go.Proofs.YtgkjoodlcojkkaaDoorW.PrintMore
attribute [local go_sem] zbd_ zbe_ zbm_ zbl_ zaW_ zaX_ zbc_ zbb_
set_option linter.unusedVariables false
set_option linter.unusedSimpArgs false
end Go.Proofs.YtgkjoodlcojkkaaDoor.QD
end
section
namespace Go.Proofs.YtgkjoodlcojkkaaDoor.QD
open Go.RowKit Go.Proofs.YtgkjoodlcojkkaaDoorW.PrintWords Go.Proofs.YtgkjoodlcojkkaaDoorW.PrintLast Go.Proofs.YtgkjoodlcojkkaaDoorW.PrintMore
attribute [local go_sem] zbd_ zbe_ zbm_ zbl_ zaW_ zaX_ zbc_ zbb_
set_option linter.unusedVariables false
set_option linter.unusedSimpArgs false
end Go.Proofs.YtgkjoodlcojkkaaDoor.QD
end
section
namespace Go.Proofs.YtgkjoodlcojkkaaDoor.Y
open Go.RowKit Go.Proofs.YtgkjoodlcojkkaaDoorW.PrintWords Go.Proofs.YtgkjoodlcojkkaaDoorW.PrintLast Go.Proofs.YtgkjoodlcojkkaaDoorW.PrintMore Go.Proofs.YtgkjoodlcojkkaaDoor.QD
set_option linter.unusedVariables false
set_option linter.unusedSimpArgs false
def ne (p : Bs) : Bool := !p.isEmpty
def upto (l : Bs) : Bs := l.takeWhile (· != 35)
def wordsL (l : Bs) : List Bs := (splitL 32 (upto l)).filter ne
theorem upto_len (l : Bs) : (upto l).length ≤ l.length := List.takeWhile_sublist _ |>.length_le
theorem takeWhile_hit {l : Bs} {o : Nat} {post : Bs} (c : UInt8) (h : l = l.take o ++ c :: post) (hn : c ∉ l.take o) : l.takeWhile (· != c) = l.take o := by
  conv => lhs; rw [h]
  rw [List.takeWhile_append_of_pos (by intro x hx; simp; intro e; exact hn (e ▸ hx))]
  simp
theorem takeWhile_none {l : Bs} (c : UInt8) (hn : c ∉ l) : l.takeWhile (· != c) = l := by
  have := List.takeWhile_append_of_pos (p := (· != c)) (l₁ := l) (l₂ := []) (by intro x hx; simp; intro e; exact hn (e ▸ hx))
  simpa using this
theorem Cut_eq (l : Bs) (h : l.length < 4294967281) : ∃ x y, strings_Cut.f (B l) (B [35]) = some (B (upto l), x, y) := by
  unfold strings_Cut.f
  rw [if_pos (by rw [size_B]; exact h), data_B, data_B]
  refine ⟨⟨(Lib.cut l [35]).2.1.toArray⟩, (Lib.cut l [35]).2.2, ?_⟩
  rw [show (⟨(Lib.cut l [35]).1.toArray⟩ : ByteArray) = B (upto l) from ?_]
  show B _ = B _
  congr 1
  unfold Lib.cut
  rw [Lib.index_one]
  by_cases c : 0 ≤ Lib.indexByte l 35
  · rw [if_pos c]
    obtain ⟨o, ho⟩ := Int.eq_ofNat_of_zero_le c
    obtain ⟨post, h1, h2, _⟩ := indexByte_split ho
    rw [ho]
    exact (takeWhile_hit 35 h1 h2).symm
  · rw [if_neg c]
    refine (takeWhile_none (l := l) 35 ?_).symm
    intro hm
    obtain ⟨k, hk⟩ := List.getElem?_of_mem hm
    exact Lib.indexByte_none (by have := Lib.indexByte_ge l 35; omega) k hk
theorem words_loop (ps : List Bs) (hl : ps.length < 8796093022208) : ∀ (n : Nat) (out : List Bs) (i k : Nat), i + n = ps.length → n < k → out.length ≤ i →
    zaM_.l0 k (out.map B) (ps.map B) (ps.length : Int) (i : Int) = some ((out ++ (ps.drop i).filter ne).map B)
  | n, out, i, 0, hn, hk, ho => by omega
  | 0, out, i, k + 1, hn, hk, ho => by
    unfold zaM_.l0
    rw [if_neg (by omega), List.drop_eq_nil_of_le (by omega)]
    simp
  | n + 1, out, i, k + 1, hn, hk, ho => by
    unfold zaM_.l0
    have hi : i < ps.length := by omega
    rw [if_pos (by omega), if_pos (by omega), List.length_map, if_pos (by omega), rdOf_B, toList_B, w64s i (by omega), List.drop_eq_getElem_cons hi]
    have e0 : ps.getD i [] = ps[i] := by simp [hi]
    rw [e0]
    by_cases h : ps[i] = []
    · rw [if_pos h, words_loop ps hl n out (i + 1) k (by omega) (by omega) (by omega)]
      rw [List.filter_cons_of_neg (by simp [ne, h])]
    · rw [if_neg h, List.length_map, if_pos (by omega)]
      have := words_loop ps hl n (out ++ [ps[i]]) (i + 1) k (by omega) (by omega) (by simp; omega)
      rw [List.map_append] at this
      rw [show List.map B [ps[i]] = [B ps[i]] from rfl] at this
      rw [this, List.filter_cons_of_pos (by simp [ne, h]), List.append_assoc]
      rfl
theorem words_Words_eq (l : Bs) (h : l.length < 4294967281) (k : Nat) (hk : l.length + 1 < k) : zaM_.f k (B l) = some ((wordsL l).map B) := by
  unfold zaM_.f
  obtain ⟨x, y, hc⟩ := Cut_eq l h
  have hu := upto_len l
  rw [show (⟨#[35]⟩ : ByteArray) = B [35] from rfl, hc, Option.bind_some, show (⟨#[32]⟩ : ByteArray) = B [32] from rfl, Split_eq 32 _ (by omega), Option.bind_some, List.length_map]
  have hle := splitL_len 32 (upto l)
  have := words_loop (splitL 32 (upto l)) (by omega) (splitL 32 (upto l)).length [] 0 k (by omega) (by omega) (Nat.zero_le _)
  simpa [wordsL] using this
end Go.Proofs.YtgkjoodlcojkkaaDoor.Y
end
section
namespace Go.Proofs.YtgkjoodlcojkkaaDoor.Y
open Go.RowKit Go.Proofs.YtgkjoodlcojkkaaDoorW.PrintWords Go.Proofs.YtgkjoodlcojkkaaDoorW.PrintLast Go.Proofs.YtgkjoodlcojkkaaDoorW.PrintMore Go.Proofs.YtgkjoodlcojkkaaDoor.QD
set_option linter.unusedVariables false
set_option linter.unusedSimpArgs false
def letter (x : UInt8) : Bool := decide (97 ≤ x.toNat) && decide (x.toNat ≤ 122)
def digit (x : UInt8) : Bool := decide (48 ≤ x.toNat) && decide (x.toNat ≤ 57)
def nameGo : Bool → Bs → Bool
  | _, [] => true
  | first, x :: xs => (letter x || (!first && digit x)) && nameGo false xs
theorem nameGo_cons (b : Bool) (x : UInt8) (xs : Bs) : nameGo b (x :: xs) = ((letter x || (!b && digit x)) && nameGo false xs) := rfl
def nameS (l : Bs) : Bool := nameGo true l && (!l.isEmpty && decide (l.length ≤ 8))
theorem name_loop (l : Bs) (hl : l.length < 9223372036854775807) : ∀ (n i k : Nat), i + n = l.length → n < k → zaO_.l0 k (B l) (l.length : Int) (i : Int) = some (nameGo (i == 0) (l.drop i) && (!l.isEmpty && decide (l.length ≤ 8)))
  | n, i, 0, hn, hk => by omega
  | 0, i, k + 1, hn, hk => by
    unfold zaO_.l0
    rw [if_neg (by omega), toList_B, size_B, List.drop_eq_nil_of_le (by omega)]
    by_cases h : l = []
    · rw [if_pos h]; simp [h]
    · have he : l.isEmpty = false := by simp [h]
      rw [if_neg h, he]
      simp only [nameGo, Bool.true_and, Bool.not_false]
      rw [decide_eq_decide.2 (show ((l.length : Nat) : Int) ≤ 8 ↔ l.length ≤ 8 by omega)]
  | n + 1, i, k + 1, hn, hk => by
    unfold zaO_.l0
    have hi : i < l.length := by omega
    have e0 : l.getD i 0 = l[i] := by simp [hi]
    have ih := name_loop l hl n (i + 1) k (by omega) (by omega)
    rw [if_pos (by omega), if_pos (by omega), size_B, if_pos (by omega), bt_B, e0, w64s i (by omega), ih, List.drop_eq_getElem_cons hi]
    have hz : ((i + 1 == 0) : Bool) = false := by simp
    rw [hz, nameGo_cons]
    generalize nameGo false (List.drop (i + 1) l) = R
    generalize (!l.isEmpty && decide (l.length ≤ 8)) = R2
    unfold letter digit
    generalize l[i].toNat = v
    have hii : ((i : Int) = 0) = (i = 0) := propext ⟨fun h => by omega, fun h => by omega⟩
    have hbe : (i == 0) = decide (i = 0) := by by_cases h : i = 0 <;> simp [h]
    simp only [hii, hbe]
    have k1 : ((v : Int) ≥ 48) = (48 ≤ v) := propext ⟨fun h => by omega, fun h => by omega⟩
    have k2 : ((v : Int) < 97) = ¬ (97 ≤ v) := propext ⟨fun h => by omega, fun h => by omega⟩
    have k3 : ((v : Int) > 122) = ¬ (v ≤ 122) := propext ⟨fun h => by omega, fun h => by omega⟩
    have k4 : ((v : Int) ≤ 57) = (v ≤ 57) := propext ⟨fun h => by omega, fun h => by omega⟩
    simp only [k1, k2, k3, k4]
    by_cases a1 : 48 ≤ v <;> by_cases a2 : 97 ≤ v <;> by_cases a3 : v ≤ 122 <;> by_cases a4 : v ≤ 57 <;> by_cases a5 : i = 0 <;> simp [a1, a2, a3, a4, a5] <;> (try omega)
theorem words_Name_eq (l : Bs) (hl : l.length < 9223372036854775807) (k : Nat) (hk : l.length < k) : zaO_.f k (B l) = some (nameS l) := by
  unfold zaO_.f
  rw [size_B]
  have := name_loop l hl l.length 0 k (by omega) hk
  simpa [nameS] using this
theorem refName_loop (l : Bs) (hl : l.length < 9223372036854775807) : ∀ (n i k : Nat), i + n = l.length → n < k → zbh_.l0 k (B l) (i : Int) = some (nameGo (i == 0) (l.drop i) && (!l.isEmpty && decide (l.length ≤ 8)))
  | n, i, 0, hn, hk => by omega
  | 0, i, k + 1, hn, hk => by
    unfold zbh_.l0
    rw [size_B, if_neg (by omega), List.drop_eq_nil_of_le (by omega)]
    by_cases h : l = []
    · subst h; rfl
    · have : 0 < l.length := List.length_pos_iff.2 h
      have he : l.isEmpty = false := by simp [h]
      rw [if_pos (by omega), he]
      simp only [nameGo, Bool.true_and, Bool.not_false]
      rw [decide_eq_decide.2 (show ((l.length : Nat) : Int) ≤ 8 ↔ l.length ≤ 8 by omega)]
  | n + 1, i, k + 1, hn, hk => by
    unfold zbh_.l0
    have hi : i < l.length := by omega
    have e0 : l.getD i 0 = l[i] := by simp [hi]
    have ih := refName_loop l hl n (i + 1) k (by omega) (by omega)
    rw [size_B, if_pos (by omega), if_pos (by omega), bt_B, e0, w64s i (by omega), ih, List.drop_eq_getElem_cons hi]
    have hz : ((i + 1 == 0) : Bool) = false := by simp
    rw [hz, nameGo_cons]
    generalize nameGo false (List.drop (i + 1) l) = R
    generalize (!l.isEmpty && decide (l.length ≤ 8)) = R2
    unfold letter digit
    generalize l[i].toNat = v
    have hii : ((i : Int) = 0) = (i = 0) := propext ⟨fun h => by omega, fun h => by omega⟩
    have hbe : (i == 0) = decide (i = 0) := by by_cases h : i = 0 <;> simp [h]
    simp only [hii, hbe]
    have k1 : ((v : Int) < 48) = ¬ (48 ≤ v) := propext ⟨fun h => by omega, fun h => by omega⟩
    have k2 : ((v : Int) < 97) = ¬ (97 ≤ v) := propext ⟨fun h => by omega, fun h => by omega⟩
    have k3 : ((v : Int) > 122) = ¬ (v ≤ 122) := propext ⟨fun h => by omega, fun h => by omega⟩
    have k4 : ((v : Int) > 57) = ¬ (v ≤ 57) := propext ⟨fun h => by omega, fun h => by omega⟩
    simp only [k1, k2, k3, k4]
    by_cases a1 : 48 ≤ v <;> by_cases a2 : 97 ≤ v <;> by_cases a3 : v ≤ 122 <;> by_cases a4 : v ≤ 57 <;> by_cases a5 : i = 0 <;> simp [a1, a2, a3, a4, a5] <;> (try omega)
theorem refName_eq (l : Bs) (hl : l.length < 9223372036854775807) (k : Nat) (hk : l.length < k) : zbh_.f k (B l) = some (nameS l) := by
  unfold zbh_.f
  have := refName_loop l hl l.length 0 k (by omega) hk
  simpa [nameS] using this
def val (n : Nat) (l : Bs) : Nat := l.foldl (fun n x => 10 * n + (x.toNat - 48)) n
def good (l : Bs) : Bool := (!l.isEmpty && l.all digit) && (decide (l.length ≤ 1) || l.headD 0 != 48)
def numS (l : Bs) : Int × Bool := if good l && decide (l.length ≤ 7) then (((val 0 l : Nat) : Int), true) else (0, false)
theorem digit_iff (x : UInt8) : digit x = true ↔ 48 ≤ x.toNat ∧ x.toNat ≤ 57 := by unfold digit; simp
theorem val_lt : ∀ (l : Bs) (n b : Nat), l.all digit = true → n < 10 ^ b → val n l < 10 ^ (b + l.length)
  | [], n, b, _, h => h
  | x :: xs, n, b, hd, h => by
    rw [List.all_cons, Bool.and_eq_true, digit_iff] at hd
    have := val_lt xs (10 * n + (x.toNat - 48)) (b + 1) hd.2 (by rw [Nat.pow_succ]; omega)
    rw [List.length_cons, show b + (xs.length + 1) = b + 1 + xs.length by omega]
    exact this
theorem val_snoc (l : Bs) (n : Nat) (x : UInt8) : val n (l ++ [x]) = 10 * val n l + (x.toNat - 48) := by unfold val; simp
end Go.Proofs.YtgkjoodlcojkkaaDoor.Y
end
section
namespace Go.Proofs.YtgkjoodlcojkkaaDoor.Y
open Go.RowKit Go.Proofs.YtgkjoodlcojkkaaDoorW.PrintWords Go.Proofs.YtgkjoodlcojkkaaDoorW.PrintLast Go.Proofs.YtgkjoodlcojkkaaDoorW.PrintMore Go.Proofs.YtgkjoodlcojkkaaDoor.QD
set_option linter.unusedVariables false
set_option linter.unusedSimpArgs false
theorem dec_small {n : Nat} (h : n < 10) : Lib.decDigits n = [UInt8.ofNat (48 + n)] := Lib.decDigits_one h
theorem dec_big {n : Nat} (h : ¬ n < 10) : Lib.decDigits n = Lib.decDigits (n / 10) ++ [UInt8.ofNat (48 + n % 10)] := by rw [Lib.decDigits, dif_neg h]
theorem toNat_dig {n : Nat} (h : n < 10) : (UInt8.ofNat (48 + n)).toNat = 48 + n := UInt8.toNat_ofNat_of_lt' (by show 48 + n < 256; omega)
theorem digit_dig {n : Nat} (h : n < 10) : digit (UInt8.ofNat (48 + n)) = true := (digit_iff _).2 (by rw [toNat_dig h]; omega)
theorem dec_facts : ∀ n : Nat, (Lib.decDigits n).all digit = true ∧ val 0 (Lib.decDigits n) = n ∧ Lib.decDigits n ≠ [] ∧ (n ≠ 0 → (Lib.decDigits n).headD 0 ≠ 48) := by
  intro n
  induction n using Nat.strongRecOn with
  | _ n ih =>
    by_cases h : n < 10
    · rw [dec_small h]
      refine ⟨by rw [List.all_cons, digit_dig h]; rfl, by show 10 * 0 + _ = _; rw [toNat_dig h]; omega, by simp, fun h0 => ?_⟩
      show UInt8.ofNat (48 + n) ≠ 48
      intro e
      have := congrArg UInt8.toNat e
      rw [toNat_dig h] at this
      have h48 : (48 : UInt8).toNat = 48 := rfl
      omega
    · obtain ⟨h1, h2, h3, h4⟩ := ih (n / 10) (by omega)
      rw [dec_big h]
      refine ⟨by rw [List.all_append, h1, List.all_cons, digit_dig (Nat.mod_lt n (by omega : 10 > 0))]; rfl, ?_, by simp, fun _ => ?_⟩
      · rw [val_snoc, h2, toNat_dig (Nat.mod_lt n (by omega))]; omega
      · cases hd : Lib.decDigits (n / 10) with
        | nil => exact absurd hd h3
        | cons x xs =>
          have := h4 (by omega)
          rw [hd] at this
          exact this
theorem good_dec (n : Nat) : good (Lib.decDigits n) = true := by
  obtain ⟨h1, h2, h3, h4⟩ := dec_facts n
  unfold good
  have he : (Lib.decDigits n).isEmpty = false := by cases h : Lib.decDigits n with
    | nil => exact absurd h h3
    | cons x xs => rfl
  rw [h1, he, Bool.and_true, Bool.not_false, Bool.true_and]
  by_cases h : n = 0
  · subst h; rw [dec_small (by omega)]; rfl
  · have : ((Lib.decDigits n).headD 0 != 48) = true := bne_iff_ne.2 (h4 h)
    rw [this, Bool.or_true]
theorem val_pos : ∀ {l : Bs} {n : Nat}, 0 < n → 0 < val n l
  | [], n, h => h
  | x :: xs, n, h => val_pos (l := xs) (n := 10 * n + (x.toNat - 48)) (by omega)
theorem dec_val_aux : ∀ (m : Nat) (l : Bs), l.length = m → good l = true → Lib.decDigits (val 0 l) = l
  | 0, l, hm, hg => by
    rw [List.length_eq_zero_iff.1 hm] at hg; cases hg
  | m + 1, l, hm, hg => by
    have hne : l ≠ [] := by intro e; rw [e] at hm; cases hm
    have hsp := List.dropLast_concat_getLast hne
    generalize hx : l.getLast hne = x at hsp
    generalize hi : l.dropLast = ini at hsp
    subst hsp
    unfold good at hg
    simp only [Bool.and_eq_true, List.all_append, List.all_cons, List.all_nil, Bool.and_true] at hg
    obtain ⟨⟨_, hd1, hd2⟩, hz⟩ := hg
    have hxd := (digit_iff x).1 hd2
    have hxe : UInt8.ofNat (48 + (x.toNat - 48)) = x := by
      apply UInt8.toNat_inj.1
      rw [toNat_dig (by omega)]; omega
    rw [val_snoc]
    cases ini with
    | nil =>
      show Lib.decDigits (10 * 0 + (x.toNat - 48)) = [x]
      rw [Nat.mul_zero, Nat.zero_add, dec_small (by omega), hxe]
    | cons y ys =>
      have hy : y ≠ 48 := by
        simp only [List.cons_append, List.length_cons, List.length_append, List.headD_cons] at hz
        rw [Bool.or_eq_true] at hz
        rcases hz with hz | hz
        · rw [decide_eq_true_eq] at hz
          simp at hz
        · simpa using hz
      have hg2 : good (y :: ys) = true := by
        unfold good
        rw [hd1]
        simp [hy]
      have ih := dec_val_aux m (y :: ys) (by simpa using hm) hg2
      have hyd := (digit_iff y).1 (by rw [List.all_cons, Bool.and_eq_true] at hd1; exact hd1.1)
      have hv : 0 < val 0 (y :: ys) := by
        show 0 < val (10 * 0 + (y.toNat - 48)) ys
        apply val_pos
        have : y.toNat ≠ 48 := fun e => hy (UInt8.toNat_inj.1 (by rw [e]; rfl))
        omega
      rw [dec_big (by omega)]
      have e1 : (10 * val 0 (y :: ys) + (x.toNat - 48)) / 10 = val 0 (y :: ys) := by omega
      have e2 : (10 * val 0 (y :: ys) + (x.toNat - 48)) % 10 = x.toNat - 48 := by omega
      rw [e1, e2, ih, hxe]
theorem dec_val {l : Bs} (hg : good l = true) : Lib.decDigits (val 0 l) = l := dec_val_aux _ l rfl hg
theorem parse_ok : ∀ (l : Bs) (acc b : Nat), l.all digit = true → acc < 10 ^ b → b + l.length ≤ 7 → Lib.parseUint10 acc l = .ok (val acc l)
  | [], acc, b, _, _, _ => rfl
  | x :: xs, acc, b, hd, ha, hb => by
    rw [List.all_cons, Bool.and_eq_true, digit_iff] at hd
    rw [List.length_cons] at hb
    have hp : 10 ^ b ≤ 10 ^ 6 := Nat.pow_le_pow_right (by omega) (by omega)
    unfold Lib.parseUint10
    rw [if_pos hd.1, if_neg (by omega), if_neg (by omega), parse_ok xs _ (b + 1) hd.2 (by rw [Nat.pow_succ]; omega) (by omega)]
    show _ = Lib.NumEnd.ok (val (10 * acc + _) xs)
    rw [Nat.mul_comm]
theorem atoi_good {l : Bs} (hg : good l = true) (h7 : l.length ≤ 7) : Lib.atoiAll l = .ok ((val 0 l : Nat) : Int) := by
  have hg' := hg
  unfold good at hg
  rw [Bool.and_eq_true, Bool.and_eq_true] at hg
  cases l with
  | nil => cases hg.1.1
  | cons c r =>
    have hc := (digit_iff c).1 (by have := hg.1.2; rw [List.all_cons, Bool.and_eq_true] at this; exact this.1)
    unfold Lib.atoiAll
    have h1 : ¬ (c.toNat = 43 ∨ c.toNat = 45) := by omega
    have hv := val_lt (c :: r) 0 0 hg.1.2 (by omega)
    have hp : 10 ^ (0 + (c :: r).length) ≤ 10 ^ 7 := Nat.pow_le_pow_right (by omega) (by omega)
    have hpm : Lib.parseMag (c :: r) = .ok (val 0 (c :: r)) := by
      unfold Lib.parseMag
      rw [if_neg (by simp), parse_ok (c :: r) 0 0 hg.1.2 (by omega) (by omega)]
    simp only [if_neg h1, hpm]
    rw [if_neg (by omega), if_neg (by omega), if_neg (by omega)]
theorem words_Num_eq (l : Bs) (hl : l.length ≤ 281474976710656) : words_Num.f (B l) = some (numS l) := by
  unfold words_Num.f
  rw [size_B, if_pos hl, data_B]
  by_cases hg : good l = true
  · by_cases h7 : l.length ≤ 7
    · rw [atoi_good hg h7]
      simp only
      rw [if_neg (by omega), if_neg (by omega), toList_B]
      have : Lib.itoa ((val 0 l : Nat) : Int) = l := by
        unfold Lib.itoa
        rw [if_neg (by omega), Int.toNat_natCast, dec_val hg]
      rw [if_pos this]
      unfold numS
      rw [hg, decide_eq_true h7]
      rfl
    · have hn : numS l = (0, false) := by unfold numS; rw [decide_eq_false h7, Bool.and_false]; rfl
      rw [hn]
      rcases Lib.atoiAll l with v | _ | _
      · simp only; rw [if_pos (by omega)]
      · rfl
      · rfl
  · have hn : numS l = (0, false) := by unfold numS; rw [Bool.not_eq_true] at hg; rw [hg]; rfl
    rw [hn]
    rcases Lib.atoiAll l with v | _ | _
    · simp only
      split
      · rfl
      · split
        · rfl
        · rename_i h2
          rw [toList_B, if_neg]
          intro e
          apply hg
          rw [← e]
          unfold Lib.itoa
          rw [if_neg h2]
          exact good_dec _
    · rfl
    · rfl
def textS (n : Int) : Bs := if n < 0 then [] else if n > 9999999 then [] else Lib.decDigits n.toNat
theorem words_Text_eq (n : Int) : zbn_.f n = some (B (textS n)) := by
  unfold zbn_.f textS
  split
  · rfl
  · split
    · rfl
    · unfold zbk_.f
      rw [if_pos (by omega), Option.bind_some]
      unfold Lib.itoa
      rw [if_neg (by omega)]
      rfl
theorem nDig_le : ∀ (j n : Nat), n < 10 ^ j → Lib.nDigits n ≤ j + 1
  | 0, n, h => by rw [Lib.nDigits_small (by omega)]; exact Nat.le_refl _
  | j + 1, n, h => by
    by_cases h10 : n < 10
    · rw [Lib.nDigits_small h10]; omega
    · rw [Lib.nDigits_big h10]
      have := nDig_le j (n / 10) (by rw [Nat.pow_succ] at h; omega)
      omega
end Go.Proofs.YtgkjoodlcojkkaaDoor.Y
end
section
namespace Go.Proofs.YtgkjoodlcojkkaaDoor.QD
open Go.RowKit Go.Proofs.YtgkjoodlcojkkaaDoorW.PrintWords Go.Proofs.YtgkjoodlcojkkaaDoorW.PrintLast Go.Proofs.YtgkjoodlcojkkaaDoorW.PrintMore
set_option linter.unusedVariables false
set_option linter.unusedSimpArgs false
def zbt_.f (a0 : Int) : Option (ByteArray) :=
  if a0 = 0 then some ⟨#[]⟩ else if a0 = 1 then some ⟨#[102, 97, 105, 114]⟩ else if a0 = 2 then some ⟨#[97, 103, 101, 110, 116]⟩ else if a0 = 3 then some ⟨#[116, 111, 107, 101, 110]⟩ else none
set_option maxHeartbeats 8000000 in
set_option maxRecDepth 100000 in
theorem zbt_.calls (a0 : Int) (r : ByteArray) (w : World) (h : zbt_.f a0 = some r) :
    Calls Tryd.prog 35 #[.int .i64 a0] w fun e w' => e = .returned (.string r) ∧ Below w.heap.size w w' := by
  have hu91 := Tryd.underlying91
  unfold zbt_.f at h
  by_cases c0 : a0 = 0
  · subst c0
    have hix : ∀ w, (Instr.index 91 (.agg #[.string { data := #[] }, .string { data := #[102, 97, 105, 114] }, .string { data := #[97, 103, 101, 110, 116] }, .string { data := #[116, 111, 107, 101, 110] }]) (.int .i64 0)).run Tryd.prog w = .ok (.string { data := #[] }) w := fun w => by kernel_rfl
    obtain rfl := Option.some.inj ((if_pos rfl).symm.trans h)
    go_enter Tryd.func35, Tryd.ntmps35
    go_wp2
    go_ret
    exact ⟨rfl, Below.refl _ _⟩
  rw [if_neg c0] at h
  by_cases c1 : a0 = 1
  · subst c1
    have hix : ∀ w, (Instr.index 91 (.agg #[.string { data := #[] }, .string { data := #[102, 97, 105, 114] }, .string { data := #[97, 103, 101, 110, 116] }, .string { data := #[116, 111, 107, 101, 110] }]) (.int .i64 1)).run Tryd.prog w = .ok (.string { data := #[102, 97, 105, 114] }) w := fun w => by kernel_rfl
    obtain rfl := Option.some.inj ((if_pos rfl).symm.trans h)
    go_enter Tryd.func35, Tryd.ntmps35
    go_wp2
    go_ret
    exact ⟨rfl, Below.refl _ _⟩
  rw [if_neg c1] at h
  by_cases c2 : a0 = 2
  · subst c2
    have hix : ∀ w, (Instr.index 91 (.agg #[.string { data := #[] }, .string { data := #[102, 97, 105, 114] }, .string { data := #[97, 103, 101, 110, 116] }, .string { data := #[116, 111, 107, 101, 110] }]) (.int .i64 2)).run Tryd.prog w = .ok (.string { data := #[97, 103, 101, 110, 116] }) w := fun w => by kernel_rfl
    obtain rfl := Option.some.inj ((if_pos rfl).symm.trans h)
    go_enter Tryd.func35, Tryd.ntmps35
    go_wp2
    go_ret
    exact ⟨rfl, Below.refl _ _⟩
  rw [if_neg c2] at h
  by_cases c3 : a0 = 3
  · subst c3
    have hix : ∀ w, (Instr.index 91 (.agg #[.string { data := #[] }, .string { data := #[102, 97, 105, 114] }, .string { data := #[97, 103, 101, 110, 116] }, .string { data := #[116, 111, 107, 101, 110] }]) (.int .i64 3)).run Tryd.prog w = .ok (.string { data := #[116, 111, 107, 101, 110] }) w := fun w => by kernel_rfl
    obtain rfl := Option.some.inj ((if_pos rfl).symm.trans h)
    go_enter Tryd.func35, Tryd.ntmps35
    go_wp2
    go_ret
    exact ⟨rfl, Below.refl _ _⟩
  rw [if_neg c3] at h
  cases h
end Go.Proofs.YtgkjoodlcojkkaaDoor.QD
end
section
namespace Go.Proofs.YtgkjoodlcojkkaaDoor.QD
open Go.RowKit Go.Proofs.YtgkjoodlcojkkaaDoorW.PrintWords Go.Proofs.YtgkjoodlcojkkaaDoorW.PrintLast Go.Proofs.YtgkjoodlcojkkaaDoorW.PrintMore
attribute [local go_sem] zbd_ zbe_ zbm_ zbl_ zaW_ zaX_ zbc_ zbb_
set_option linter.unusedVariables false
set_option linter.unusedSimpArgs false
def zaQ_.f (a0 : Int) (a1 : Int) (a2 : Int) : Option (Bool) := if a0 ≥ a1 then (some (decide (a0 ≤ a2))) else (some false)
set_option maxHeartbeats 8000000 in
set_option maxRecDepth 100000 in
theorem zaQ_.calls (a0 : Int) (a1 : Int) (a2 : Int) (r : Bool) (w : World) (h : zaQ_.f a0 a1 a2 = some r) :
    Calls Tryd.prog 52 #[.int .i64 a0, .int .i64 a1, .int .i64 a2] w fun e w' => e = .returned (.bool r) ∧ Drawn0 w w' := by
  have H : (if a0 ≥ a1 then (some (decide (a0 ≤ a2))) else (some false)) = some r := h
  clear h
  by_cases c4 : a0 ≥ a1
  rotate_left
  · rw [if_neg c4] at H
    have a3 : decide (a1 ≤ a0) = false := decide_eq_false c4
    clear c4
    obtain rfl := Option.some.inj H
    go_enter Tryd.func52, Tryd.ntmps52
    go_wp2
    go_ret
    exact ⟨by first | rfl | (simp; done) | (simp [*]; done), by repeat (first | exact Drawn0.refl _ | apply Drawn0.step)⟩
  rw [if_pos c4] at H
  have a3 : decide (a1 ≤ a0) = true := decide_eq_true c4
  clear c4
  obtain rfl := Option.some.inj H
  go_enter Tryd.func52, Tryd.ntmps52
  go_wp2
  go_ret
  exact ⟨by first | rfl | (simp; done) | (simp [*]; done), by repeat (first | exact Drawn0.refl _ | apply Drawn0.step)⟩
end Go.Proofs.YtgkjoodlcojkkaaDoor.QD
end
section
namespace Go.Proofs.YtgkjoodlcojkkaaDoor.QD
open Go.RowKit Go.Proofs.YtgkjoodlcojkkaaDoorW.PrintWords Go.Proofs.YtgkjoodlcojkkaaDoorW.PrintLast Go.Proofs.YtgkjoodlcojkkaaDoorW.PrintMore
attribute [local go_sem] zbd_ zbe_ zbm_ zbl_ zaW_ zaX_ zbc_ zbb_
set_option linter.unusedVariables false
set_option linter.unusedSimpArgs false
mutual
def zax_.l0 : Nat → List (S50) → List (S50) → Int → Int → Int → List Int → List Int → List (S53) → Option (Bool)
  | 0, _, _, _, _, _, _, _, _ => none
  | k + 1, x1, x7, x8, x9, b3, b4, b1, b5 => if x9 < x8 then (if 0 ≤ x9 then (if x9 < (x7.length : Int) then ((zaQ_.f ((rd_T50 x7 x9).f0) 1 3).bind fun e1 => (if e1 = true then ((zaQ_.f ((rd_T50 x7 x9).f1) 1 60).bind fun c8 => (zax_.j1 k x1 x7 x8 x9 (!c8) b3 b4 b1 b5 ((rd_T50 x7 x9).f0) ((rd_T50 x7 x9).f1) ((rd_T50 x7 x9).f2))) else (zax_.j1 k x1 x7 x8 x9 true b3 b4 b1 b5 ((rd_T50 x7 x9).f0) ((rd_T50 x7 x9).f1) ((rd_T50 x7 x9).f2)))) else (none)) else (none)) else ((zaQ_.f (x1.length : Int) 1 6).bind fun d9 => (some d9))
def zax_.j1 : Nat → List (S50) → List (S50) → Int → Int → Bool → Int → List Int → List Int → List (S53) → Int → Int → Int → Option (Bool)
  | 0, _, _, _, _, _, _, _, _, _, _, _, _ => none
  | k + 1, x1, x7, x8, x9, x13, b3, b4, b1, b5, c0, c3, c2 => if x13 = true then (some false) else (if c0 = 3 then ((zaQ_.f c2 0 (wrap64 ((b1.length : Int) - 1))).bind fun d8 => (zax_.j2 k x1 x7 x8 x9 d8 b3 b4 b1 b5 c0 c3 c2)) else (zax_.j2 k x1 x7 x8 x9 false b3 b4 b1 b5 c0 c3 c2))
def zax_.j2 : Nat → List (S50) → List (S50) → Int → Int → Bool → Int → List Int → List Int → List (S53) → Int → Int → Int → Option (Bool)
  | 0, _, _, _, _, _, _, _, _, _, _, _, _ => none
  | k + 1, x1, x7, x8, x9, x24, b3, b4, b1, b5, c0, c3, c2 => if x24 = true then (zax_.l0 k x1 x7 x8 (wrap64 (x9 + 1)) b3 b4 b1 b5) else (if c0 = 3 then (some false) else (if c2 = 0 then (zax_.l0 k x1 x7 x8 (wrap64 (x9 + 1)) b3 b4 b1 b5) else (some false)))
end
def zax_.f (k : Nat) (b9 : Int) (b7 : List Int) (b2 : List Int) (b8 : List (S53)) (l1 : List (S50)) : Option (Bool) := zax_.l0 k l1 l1 (l1.length : Int) 0 b9 b7 b2 b8
theorem zax_.mono_l : ∀ k, (∀ y0 y1 y2 y3 y4 y5 y6 y7, LeO (zax_.l0 k y0 y1 y2 y3 y4 y5 y6 y7) (zax_.l0 (k + 1) y0 y1 y2 y3 y4 y5 y6 y7)) ∧ (∀ y0 y1 y2 y3 y4 y5 y6 y7 y8 y9 y10 y11, LeO (zax_.j1 k y0 y1 y2 y3 y4 y5 y6 y7 y8 y9 y10 y11) (zax_.j1 (k + 1) y0 y1 y2 y3 y4 y5 y6 y7 y8 y9 y10 y11)) ∧ (∀ y0 y1 y2 y3 y4 y5 y6 y7 y8 y9 y10 y11, LeO (zax_.j2 k y0 y1 y2 y3 y4 y5 y6 y7 y8 y9 y10 y11) (zax_.j2 (k + 1) y0 y1 y2 y3 y4 y5 y6 y7 y8 y9 y10 y11))
  | 0 => ⟨fun _ _ _ _ _ _ _ _ r h => by simp [zax_.l0] at h, fun _ _ _ _ _ _ _ _ _ _ _ _ r h => by simp [zax_.j1] at h, fun _ _ _ _ _ _ _ _ _ _ _ _ r h => by simp [zax_.j2] at h⟩
  | k + 1 => by
    obtain ⟨ih0, ih1, ih2⟩ := zax_.mono_l k
    refine ⟨?_, ?_, ?_⟩
    · intro y0 y1 y2 y3 y4 y5 y6 y7
      unfold zax_.l0
      repeat' first
      | (with_reducible exact ih0 _ _ _ _ _ _ _ _)
      | (with_reducible exact ih1 _ _ _ _ _ _ _ _ _ _ _ _)
      | (with_reducible exact ih2 _ _ _ _ _ _ _ _ _ _ _ _)
      | (with_reducible exact LeO.refl _)
      | (with_reducible exact LeO.none _)
      | (with_reducible refine LeO.ite ?_ ?_)
      | (with_reducible refine LeO.bind ?_ (fun _ => ?_))
      | exact ih0 _ _ _ _ _ _ _ _
      | exact ih1 _ _ _ _ _ _ _ _ _ _ _ _
      | exact ih2 _ _ _ _ _ _ _ _ _ _ _ _
      | exact LeO.none _
      | refine LeO.ite ?_ ?_
      | refine LeO.bind ?_ (fun _ => ?_)
    · intro y0 y1 y2 y3 y4 y5 y6 y7 y8 y9 y10 y11
      unfold zax_.j1
      repeat' first
      | (with_reducible exact ih0 _ _ _ _ _ _ _ _)
      | (with_reducible exact ih1 _ _ _ _ _ _ _ _ _ _ _ _)
      | (with_reducible exact ih2 _ _ _ _ _ _ _ _ _ _ _ _)
      | (with_reducible exact LeO.refl _)
      | (with_reducible exact LeO.none _)
      | (with_reducible refine LeO.ite ?_ ?_)
      | (with_reducible refine LeO.bind ?_ (fun _ => ?_))
      | exact ih0 _ _ _ _ _ _ _ _
      | exact ih1 _ _ _ _ _ _ _ _ _ _ _ _
      | exact ih2 _ _ _ _ _ _ _ _ _ _ _ _
      | exact LeO.none _
      | refine LeO.ite ?_ ?_
      | refine LeO.bind ?_ (fun _ => ?_)
    · intro y0 y1 y2 y3 y4 y5 y6 y7 y8 y9 y10 y11
      unfold zax_.j2
      repeat' first
      | (with_reducible exact ih0 _ _ _ _ _ _ _ _)
      | (with_reducible exact ih1 _ _ _ _ _ _ _ _ _ _ _ _)
      | (with_reducible exact ih2 _ _ _ _ _ _ _ _ _ _ _ _)
      | (with_reducible exact LeO.refl _)
      | (with_reducible exact LeO.none _)
      | (with_reducible refine LeO.ite ?_ ?_)
      | (with_reducible refine LeO.bind ?_ (fun _ => ?_))
      | exact ih0 _ _ _ _ _ _ _ _
      | exact ih1 _ _ _ _ _ _ _ _ _ _ _ _
      | exact ih2 _ _ _ _ _ _ _ _ _ _ _ _
      | exact LeO.none _
      | refine LeO.ite ?_ ?_
      | refine LeO.bind ?_ (fun _ => ?_)
theorem zax_.mono : ∀ a0 a1 a2 a3 a4 k, LeO (zax_.f k a0 a1 a2 a3 a4) (zax_.f (k + 1) a0 a1 a2 a3 a4) := by
  intro a0 a1 a2 a3 a4 k
  obtain ⟨ih0, ih1, ih2⟩ := zax_.mono_l k
  unfold zax_.f
  repeat' first
      | (with_reducible exact ih0 _ _ _ _ _ _ _ _)
      | (with_reducible exact ih1 _ _ _ _ _ _ _ _ _ _ _ _)
      | (with_reducible exact ih2 _ _ _ _ _ _ _ _ _ _ _ _)
      | (with_reducible exact LeO.refl _)
      | (with_reducible exact LeO.none _)
      | (with_reducible refine LeO.ite ?_ ?_)
      | (with_reducible refine LeO.bind ?_ (fun _ => ?_))
      | exact ih0 _ _ _ _ _ _ _ _
      | exact ih1 _ _ _ _ _ _ _ _ _ _ _ _
      | exact ih2 _ _ _ _ _ _ _ _ _ _ _ _
      | exact LeO.none _
      | refine LeO.ite ?_ ?_
      | refine LeO.bind ?_ (fun _ => ?_)
set_option maxHeartbeats 8000000 in
set_option maxRecDepth 100000 in
theorem zax_.calls (k : Nat) (b9 : Int) (c9 : Option Addr) (d0 : Nat) (b7 : List Int) (d1 : Option Addr) (d2 : Nat) (b2 : List Int) (d3 : Option Addr) (d4 : Nat) (b8 : List (S53)) (A1 : Option Addr) (c1 : Nat) (l1 : List (S50)) (r : Bool) (w : World) (e3 : Kd.C (Kd.int .i64) w c9 b7.length b7) (e4 : b7.length ≤ d0) (e5 : Kd.C (Kd.int .i64) w d1 b2.length b2) (e6 : b2.length ≤ d2) (e7 : Kd.C k53 w d3 b8.length b8) (e8 : b8.length ≤ d4) (hr1 : Kd.C k50 w A1 l1.length l1) (hc1 : l1.length ≤ c1) (h : zax_.f k b9 b7 b2 b8 l1 = some r) :
    Calls Tryd.prog 75 #[.agg #[.int .i64 b9, .slice c9 b7.length d0, .slice d1 b2.length d2, .slice d3 b8.length d4], .slice A1 l1.length c1] w fun e w' => e = .returned (.bool r) ∧ Below w.heap.size w w' := by
  have hu37 := Tryd.underlying37
  have hu50 := Tryd.underlying50
  have HR0_1 := Aside0.mk e3
  have HC0_1 := Aside0.mk e4
  clear e3 e4
  have HR0_2 := Aside0.mk e5
  have HC0_2 := Aside0.mk e6
  clear e5 e6
  have HR0_3 := Aside0.mk e7
  have HC0_3 := Aside0.mk e8
  clear e7 e8
  have q4 := Aside0.mk hr1
  have HC1 := Aside0.mk hc1
  clear hr1 hc1
  have HB := Aside0.mk (Below.refl w.heap.size w)
  have H : (zax_.l0 k l1 l1 (l1.length : Int) 0 b9 b7 b2 b8) = some r := h
  clear h
  have H' := Aside0.mk H
  clear H
  go_enter Tryd.func75, Tryd.ntmps75
  go_wp2_with (first | ((with_reducible refine zaL_ (N := 2) rfl ?_); (try (refine zaF_ (by rfl) ?_; dsimp only)); refine zaD_ ?hg (N := 2) ?hd (cs := #[.int .i64 b9, .slice c9 b7.length d0, .slice d1 b2.length d2, .slice d3 b8.length d4]) (t := 37) ?hr ?_; (case hd => rfl); (case hg => rfl); (case hr => first | (go_simp; done) | (go_simp; rfl)); intro b6 hg w3 hbox hb; have e9 := Aside0.mk (zaj_ (HB.out) hb); have g0 := Aside0.mk (hbox); have g1 := Aside0.mk ((by rw [hg]; exact (zam_ (HB.out)) : w.heap.size ≤ b6)); have g2 := Aside0.mk ((by rw [hg]; exact (zam_ (HB.out)) : w.heap.size ≤ b6)); clear HB; have HB := e9; have a9 := g0; have h0 := g1; have d5 := g2; clear e9 g0 g1 g2; clear hb hbox hg))
  repeat (go_step3; try go_wp2_with (first | ((with_reducible refine zaL_ (N := 2) rfl ?_); (try (refine zaF_ (by rfl) ?_; dsimp only)); refine zaD_ ?hg (N := 2) ?hd (cs := #[.int .i64 b9, .slice c9 b7.length d0, .slice d1 b2.length d2, .slice d3 b8.length d4]) (t := 37) ?hr ?_; (case hd => rfl); (case hg => rfl); (case hr => first | (go_simp; done) | (go_simp; rfl)); intro b6 hg w3 hbox hb; have e9 := Aside0.mk (zaj_ (HB.out) hb); have g0 := Aside0.mk (hbox); have g1 := Aside0.mk ((by rw [hg]; exact (zam_ (HB.out)) : w.heap.size ≤ b6)); have g2 := Aside0.mk ((by rw [hg]; exact (zam_ (HB.out)) : w.heap.size ≤ b6)); clear HB; have HB := e9; have a9 := g0; have h0 := g1; have d5 := g2; clear e9 g0 g1 g2; clear hb hbox hg)))
  go_loopg [9] k (fun kq v9 w' => ∃ (a5 : Int), v9 = .int .i64 a5 ∧ Aside0 (zax_.l0 kq l1 l1 (l1.length : Int) a5 b9 b7 b2 b8 = some r) ∧ Aside0 (kq ≤ k) ∧ Aside0 (w'.heap[b6]? = some (.cells #[.int .i64 b9, (.slice c9 b7.length d0), (.slice d1 b2.length d2), (.slice d3 b8.length d4)] 37 (0, 0))) ∧ Aside0 (Below w.heap.size w w'))
  case atStart => exact ⟨(0), (by first | rfl | (simp; done) | (simp [*]; done)), H', ⟨Nat.le_refl _⟩, ⟨a9.out⟩, ⟨HB.out⟩⟩
  clear H'
  obtain ⟨a5, rfl, HA, g3, a9, HB⟩ := hrel
  cases gk with
  | zero => exact absurd HA.out (by simp [zax_.l0])
  | succ k1 => ?_
  have H := HA.out
  clear HA
  simp only [zax_.l0] at H
  by_cases c4 : a5 < (l1.length : Int)
  rotate_left
  · rw [if_neg c4] at H
    have p5 : decide (a5 < (l1.length : Int)) = false := decide_eq_false c4
    clear c4
    replace H := Option.bind_eq_some_iff.mp H
    obtain ⟨d9, p6, H⟩ := H
    replace H : (some d9) = some r := H
    have A5 := Aside0.mk p6
    clear p6
    obtain rfl := Option.some.inj H
    go_wp2_with (first | ((with_reducible refine zar_ (f := 52) rfl ?_); refine goesL_ (some 49) rfl rfl Tryd.func52 (by kernel_rfl) rfl #[.int .i64 (l1.length : Int), .int .i64 1, .int .i64 6] rfl (by (try simp only [List.map_toArray, List.map_cons, List.map_nil]); first | done | rfl | (simp only [List.length_drop, List.length_take]; rfl)) ?_; (with_reducible refine (zaQ_.calls (l1.length : Int) 1 6 d9 _ A5.out).mono ?_); rintro e w' ⟨rfl, ⟨nd, rfl⟩⟩; refine ⟨_, rfl, ?_⟩))
    repeat (go_step3; try go_wp2_with (first | ((with_reducible refine zar_ (f := 52) rfl ?_); refine goesL_ (some 49) rfl rfl Tryd.func52 (by kernel_rfl) rfl #[.int .i64 (l1.length : Int), .int .i64 1, .int .i64 6] rfl (by (try simp only [List.map_toArray, List.map_cons, List.map_nil]); first | done | rfl | (simp only [List.length_drop, List.length_take]; rfl)) ?_; (with_reducible refine (zaQ_.calls (l1.length : Int) 1 6 d9 _ A5.out).mono ?_); rintro e w' ⟨rfl, ⟨nd, rfl⟩⟩; refine ⟨_, rfl, ?_⟩)))
    go_ret
    exact ⟨by first | rfl | (simp [zal_, zak_] <;> rfl) | (simp [*, zal_, zak_] <;> rfl), by repeat (first | (with_reducible first | exact HB.out | apply zah_ | apply zae_ | apply zag_ | refine zai_ ?_ d5.out) | exact HB.out)⟩
  rw [if_pos c4] at H
  have p5 : decide (a5 < (l1.length : Int)) = true := decide_eq_true c4
  clear c4
  by_cases c6 : 0 ≤ a5
  rotate_left
  · rw [if_neg c6] at H
    exact absurd H (by simp)
  rw [if_pos c6] at H
  have q5 : decide (0 ≤ a5) = true := decide_eq_true c6
  clear c6
  by_cases c7 : a5 < (l1.length : Int)
  rotate_left
  · rw [if_neg c7] at H
    exact absurd H (by simp)
  rw [if_pos c7] at H
  have q6 : decide (a5 < (l1.length : Int)) = true := decide_eq_true c7
  clear c7
  have HC8 := Aside0.mk H
  clear H
  have g4 : 0 ≤ (a5 : Int) := of_decide_eq_true (by first | (with_reducible assumption) | assumption)
  have g5 : a5 < (l1.length : Int) := of_decide_eq_true (by first | (with_reducible assumption) | assumption)
  obtain ⟨ad249, e249, hx249_0, hx249_1, hx249_2⟩ := at_T50 q4.out a5 g4 g5
  cases e249
  replace hx249_0 := (HB.out.cell (World.block_lt_of_cell? w _ hx249_0)).trans hx249_0
  replace hx249_1 := (HB.out.cell (World.block_lt_of_cell? w _ hx249_1)).trans hx249_1
  replace hx249_2 := (HB.out.cell (World.block_lt_of_cell? w _ hx249_2)).trans hx249_2
  replace g4 := eq_true g4
  replace g5 := eq_true g5
  iterate 2 ((try go_step3); (try go_upto_region 4 with (first | ((with_reducible refine zaL_ (N := 6) rfl ?_); (try (refine zaF_ (by rfl) ?_; dsimp only)); refine zaD_ ?hg (N := 6) ?hd (cs := #[.int .i64 0, .int .i64 0, .int .i64 0]) (t := 50) ?hr ?_; (case hd => rfl); (case hg => rfl); (case hr => first | (go_simp; done) | (go_simp; rfl)); intro a8 hg w9 hbox hb; have e9 := Aside0.mk (zan_ a9.out hb); have g0 := Aside0.mk (zaj_ (HB.out) hb); have g1 := Aside0.mk (hbox); have g2 := Aside0.mk ((by rw [hg]; exact (zam_ (HB.out)) : w.heap.size ≤ a8)); have p7 := Aside0.mk ((by rw [hg]; exact (zam_ (HB.out)) : w.heap.size ≤ a8)); have p8 := Aside0.mk ((by rw [hg]; exact Nat.ne_of_lt (blk_lt a9.out) : b6 ≠ a8)); have p9 := Aside0.mk ((by rw [hg]; exact Nat.ne_of_gt (blk_lt a9.out) : a8 ≠ b6)); clear a9; clear HB; have a9 := e9; have HB := g0; have a6 := g1; have q0 := g2; have e0 := p7; have a7 := p8; have b0 := p9; clear e9 g0 g1 g2 p7 p8 p9; clear hb hbox hg; have hnb10 := b0.out; have hnc10 := a7.out; have j0 : w9.cell? ⟨a8, 0, none⟩ = some (.int .i64 0) := (zab_ a6.out 0).trans rfl; have j3 : w9.cell? ⟨a8, 1, none⟩ = some (.int .i64 0) := (zab_ a6.out 1).trans rfl; have j4 : w9.cell? ⟨a8, 2, none⟩ = some (.int .i64 0) := (zab_ a6.out 2).trans rfl; have j5 := zaa_ a6.out 0; have j6 := zaa_ a6.out 1; have j7 := zaa_ a6.out 2))))
  (try simp only [Act.put, List.setIfInBounds_toArray, List.set_cons_zero, List.set_cons_succ])
  go_cut [13] (fun q7 wc => ∃ (kq : Nat) (d7 : Bool), q7 = .bool d7 ∧ Aside0 (zax_.j1 kq l1 l1 (l1.length : Int) a5 d7 b9 b7 b2 b8 ((rd_T50 l1 a5).f0) ((rd_T50 l1 a5).f1) ((rd_T50 l1 a5).f2) = some r) ∧ Aside0 (kq ≤ k1) ∧ Aside0 (wc.heap[b6]? = some (.cells #[.int .i64 b9, (.slice c9 b7.length d0), (.slice d1 b2.length d2), (.slice d3 b8.length d4)] 37 (0, 0))) ∧ Aside0 (wc.heap[a8]? = some (.cells #[.int .i64 ((rd_T50 l1 a5).f0), .int .i64 ((rd_T50 l1 a5).f1), .int .i64 ((rd_T50 l1 a5).f2)] 50 (0, 0))) ∧ Aside0 (Below w.heap.size w wc))
  case first =>
    have H := HC8.out
    clear HC8
    replace H := Option.bind_eq_some_iff.mp H
    obtain ⟨e1, h1, H⟩ := H
    replace H : (if e1 = true then ((zaQ_.f ((rd_T50 l1 a5).f1) 1 60).bind fun c8 => (zax_.j1 k1 l1 l1 (l1.length : Int) a5 (!c8) b9 b7 b2 b8 ((rd_T50 l1 a5).f0) ((rd_T50 l1 a5).f1) ((rd_T50 l1 a5).f2))) else (zax_.j1 k1 l1 l1 (l1.length : Int) a5 true b9 b7 b2 b8 ((rd_T50 l1 a5).f0) ((rd_T50 l1 a5).f1) ((rd_T50 l1 a5).f2))) = some r := H
    have j8 := Aside0.mk h1
    clear h1
    by_cases j9 : e1 = true
    rotate_left
    · replace j9 := Bool.eq_false_iff.mpr j9
      subst j9
      rw [if_neg (show ¬ (false = true) by decide)] at H
      have H' := Aside0.mk H
      clear H
      have hnb14 := b0.out
      have hnc14 := a7.out
      have k0 : w9.cell? ⟨a8, 0, none⟩ = some (.int .i64 0) := (zab_ a6.out 0).trans rfl
      have k2 : w9.cell? ⟨a8, 1, none⟩ = some (.int .i64 0) := (zab_ a6.out 1).trans rfl
      have k3 : w9.cell? ⟨a8, 2, none⟩ = some (.int .i64 0) := (zab_ a6.out 2).trans rfl
      have k4 := zaa_ a6.out 0
      have k5 := zaa_ a6.out 1
      have k6 := zaa_ a6.out 2
      go_wp2_with (first | ((with_reducible refine zar_ (f := 52) rfl ?_); refine goesL_ (some 16) rfl rfl Tryd.func52 (by kernel_rfl) rfl #[.int .i64 ((rd_T50 l1 a5).f0), .int .i64 1, .int .i64 3] rfl (by (try simp only [List.map_toArray, List.map_cons, List.map_nil]); first | done | rfl | (simp only [List.length_drop, List.length_take]; rfl)) ?_; (with_reducible refine (zaQ_.calls ((rd_T50 l1 a5).f0) 1 3 false _ j8.out).mono ?_); rintro e w' ⟨rfl, ⟨nd, rfl⟩⟩; refine ⟨_, rfl, ?_⟩))
      repeat (go_step3; try go_wp2_with (first | ((with_reducible refine zar_ (f := 52) rfl ?_); refine goesL_ (some 16) rfl rfl Tryd.func52 (by kernel_rfl) rfl #[.int .i64 ((rd_T50 l1 a5).f0), .int .i64 1, .int .i64 3] rfl (by (try simp only [List.map_toArray, List.map_cons, List.map_nil]); first | done | rfl | (simp only [List.length_drop, List.length_take]; rfl)) ?_; (with_reducible refine (zaQ_.calls ((rd_T50 l1 a5).f0) 1 3 false _ j8.out).mono ?_); rintro e w' ⟨rfl, ⟨nd, rfl⟩⟩; refine ⟨_, rfl, ?_⟩)))
      go_meet
      case rel => exact ⟨_, (true), (by first | rfl | (simp; done) | (simp [*]; done)), H', ⟨by have := g3.out; first | omega | exact Nat.le_refl _⟩, ⟨by (with_reducible repeat (first | refine zac_ ?_ _ | refine zaf_ ?_ | refine zad_ ?_ _)); refine zaG_ ?_ a7.out _; (with_reducible repeat (first | refine zac_ ?_ _ | refine zaf_ ?_ | refine zad_ ?_ _)); refine zaG_ ?_ a7.out _; (with_reducible repeat (first | refine zac_ ?_ _ | refine zaf_ ?_ | refine zad_ ?_ _)); refine zaG_ ?_ a7.out _; (with_reducible repeat (first | refine zac_ ?_ _ | refine zaf_ ?_ | refine zad_ ?_ _)); exact a9.out⟩, ⟨by (with_reducible repeat (first | refine zac_ ?_ _ | refine zaf_ ?_ | refine zad_ ?_ _)); refine zat_ (cs := #[.int .i64 ((rd_T50 l1 a5).f0), .int .i64 ((rd_T50 l1 a5).f1), .int .i64 0]) ?_ 2 _ rfl; (with_reducible repeat (first | refine zac_ ?_ _ | refine zaf_ ?_ | refine zad_ ?_ _)); refine zat_ (cs := #[.int .i64 ((rd_T50 l1 a5).f0), .int .i64 0, .int .i64 0]) ?_ 1 _ rfl; (with_reducible repeat (first | refine zac_ ?_ _ | refine zaf_ ?_ | refine zad_ ?_ _)); refine zat_ (cs := #[.int .i64 0, .int .i64 0, .int .i64 0]) ?_ 0 _ rfl; (with_reducible repeat (first | refine zac_ ?_ _ | refine zaf_ ?_ | refine zad_ ?_ _)); exact a6.out⟩, ⟨by repeat (first | (with_reducible first | exact HB.out | apply zah_ | apply zae_ | apply zag_ | refine zai_ ?_ d5.out | refine zai_ ?_ e0.out) | exact HB.out)⟩⟩
    subst j9
    rw [if_pos rfl] at H
    replace H := Option.bind_eq_some_iff.mp H
    obtain ⟨c8, h2, H⟩ := H
    replace H : (zax_.j1 k1 l1 l1 (l1.length : Int) a5 (!c8) b9 b7 b2 b8 ((rd_T50 l1 a5).f0) ((rd_T50 l1 a5).f1) ((rd_T50 l1 a5).f2)) = some r := H
    have q1 := Aside0.mk h2
    clear h2
    have H' := Aside0.mk H
    clear H
    have hnb17 := b0.out
    have hnc17 := a7.out
    have k7 : w9.cell? ⟨a8, 0, none⟩ = some (.int .i64 0) := (zab_ a6.out 0).trans rfl
    have k8 : w9.cell? ⟨a8, 1, none⟩ = some (.int .i64 0) := (zab_ a6.out 1).trans rfl
    have k9 : w9.cell? ⟨a8, 2, none⟩ = some (.int .i64 0) := (zab_ a6.out 2).trans rfl
    have l2 := zaa_ a6.out 0
    have l3 := zaa_ a6.out 1
    have l4 := zaa_ a6.out 2
    go_wp2_with (first | ((with_reducible refine zar_ (f := 52) rfl ?_); refine goesL_ (some 16) rfl rfl Tryd.func52 (by kernel_rfl) rfl #[.int .i64 ((rd_T50 l1 a5).f0), .int .i64 1, .int .i64 3] rfl (by (try simp only [List.map_toArray, List.map_cons, List.map_nil]); first | done | rfl | (simp only [List.length_drop, List.length_take]; rfl)) ?_; (with_reducible refine (zaQ_.calls ((rd_T50 l1 a5).f0) 1 3 true _ j8.out).mono ?_); rintro e w' ⟨rfl, ⟨nd, rfl⟩⟩; refine ⟨_, rfl, ?_⟩) | (go_at_call 52; (with_reducible refine (zaQ_.calls ((rd_T50 l1 a5).f1) 1 60 c8 _ q1.out).mono ?_); rintro e w' ⟨rfl, ⟨nd, rfl⟩⟩))
    repeat (go_step3; try go_wp2_with (first | ((with_reducible refine zar_ (f := 52) rfl ?_); refine goesL_ (some 16) rfl rfl Tryd.func52 (by kernel_rfl) rfl #[.int .i64 ((rd_T50 l1 a5).f0), .int .i64 1, .int .i64 3] rfl (by (try simp only [List.map_toArray, List.map_cons, List.map_nil]); first | done | rfl | (simp only [List.length_drop, List.length_take]; rfl)) ?_; (with_reducible refine (zaQ_.calls ((rd_T50 l1 a5).f0) 1 3 true _ j8.out).mono ?_); rintro e w' ⟨rfl, ⟨nd, rfl⟩⟩; refine ⟨_, rfl, ?_⟩) | (go_at_call 52; (with_reducible refine (zaQ_.calls ((rd_T50 l1 a5).f1) 1 60 c8 _ q1.out).mono ?_); rintro e w' ⟨rfl, ⟨nd, rfl⟩⟩)))
    go_meet
    case rel => exact ⟨_, (!c8), (by first | rfl | (simp; done) | (simp [*]; done)), H', ⟨by have := g3.out; first | omega | exact Nat.le_refl _⟩, ⟨by (with_reducible repeat (first | refine zac_ ?_ _ | refine zaf_ ?_ | refine zad_ ?_ _)); refine zaG_ ?_ a7.out _; (with_reducible repeat (first | refine zac_ ?_ _ | refine zaf_ ?_ | refine zad_ ?_ _)); refine zaG_ ?_ a7.out _; (with_reducible repeat (first | refine zac_ ?_ _ | refine zaf_ ?_ | refine zad_ ?_ _)); refine zaG_ ?_ a7.out _; (with_reducible repeat (first | refine zac_ ?_ _ | refine zaf_ ?_ | refine zad_ ?_ _)); exact a9.out⟩, ⟨by (with_reducible repeat (first | refine zac_ ?_ _ | refine zaf_ ?_ | refine zad_ ?_ _)); refine zat_ (cs := #[.int .i64 ((rd_T50 l1 a5).f0), .int .i64 ((rd_T50 l1 a5).f1), .int .i64 0]) ?_ 2 _ rfl; (with_reducible repeat (first | refine zac_ ?_ _ | refine zaf_ ?_ | refine zad_ ?_ _)); refine zat_ (cs := #[.int .i64 ((rd_T50 l1 a5).f0), .int .i64 0, .int .i64 0]) ?_ 1 _ rfl; (with_reducible repeat (first | refine zac_ ?_ _ | refine zaf_ ?_ | refine zad_ ?_ _)); refine zat_ (cs := #[.int .i64 0, .int .i64 0, .int .i64 0]) ?_ 0 _ rfl; (with_reducible repeat (first | refine zac_ ?_ _ | refine zaf_ ?_ | refine zad_ ?_ _)); exact a6.out⟩, ⟨by repeat (first | (with_reducible first | exact HB.out | apply zah_ | apply zae_ | apply zag_ | refine zai_ ?_ d5.out | refine zai_ ?_ e0.out) | exact HB.out)⟩⟩
  clear HC8
  obtain ⟨kq, d7, rfl, HA, g9, a9, a6, HB⟩ := hcut
  cases kq with
  | zero => exact absurd HA.out (by simp [zax_.j1])
  | succ q2 => ?_
  have H := HA.out
  clear HA
  simp only [zax_.j1] at H
  by_cases l5 : d7 = true
  · subst l5
    rw [if_pos rfl] at H
    obtain rfl := Option.some.inj H
    go_wp2
    repeat (go_step3; try go_wp2)
    go_ret
    exact ⟨by first | rfl | (simp [zal_, zak_] <;> rfl) | (simp [*, zal_, zak_] <;> rfl), HB.out⟩
  replace l5 := Bool.eq_false_iff.mpr l5
  subst l5
  rw [if_neg (show ¬ (false = true) by decide)] at H
  have HC20 := Aside0.mk H
  clear H
  go_upto_region 6 with (fail)
  go_cut [24] (fun q8 wc => ∃ (kq : Nat) (c5 : Bool), q8 = .bool c5 ∧ Aside0 (zax_.j2 kq l1 l1 (l1.length : Int) a5 c5 b9 b7 b2 b8 ((rd_T50 l1 a5).f0) ((rd_T50 l1 a5).f1) ((rd_T50 l1 a5).f2) = some r) ∧ Aside0 (kq ≤ q2) ∧ Aside0 (wc.heap[b6]? = some (.cells #[.int .i64 b9, (.slice c9 b7.length d0), (.slice d1 b2.length d2), (.slice d3 b8.length d4)] 37 (0, 0))) ∧ Aside0 (wc.heap[a8]? = some (.cells #[.int .i64 ((rd_T50 l1 a5).f0), .int .i64 ((rd_T50 l1 a5).f1), .int .i64 ((rd_T50 l1 a5).f2)] 50 (0, 0))) ∧ Aside0 (Below w.heap.size w wc))
  case first =>
    have H := HC20.out
    clear HC20
    by_cases g6 : ((rd_T50 l1 a5).f0) = 3
    rotate_left
    · rw [if_neg g6] at H
      have d6 : (((rd_T50 l1 a5).f0) == 3) = false := beq_eq_false_iff_ne.mpr g6
      have h3 : (((rd_T50 l1 a5).f0) != 3) = true := bne_iff_ne.mpr g6
      (first | rw [d6] | (simp only [i64_w, i32_w]; rw [d6]) | skip)
      have H' := Aside0.mk H
      clear H
      have hnb22 := b0.out
      have hnc22 := a7.out
      have l6 : wc.cell? ⟨a8, 0, none⟩ = some (.int .i64 ((rd_T50 l1 a5).f0)) := (zab_ a6.out 0).trans rfl
      have l7 : wc.cell? ⟨a8, 1, none⟩ = some (.int .i64 ((rd_T50 l1 a5).f1)) := (zab_ a6.out 1).trans rfl
      have l8 : wc.cell? ⟨a8, 2, none⟩ = some (.int .i64 ((rd_T50 l1 a5).f2)) := (zab_ a6.out 2).trans rfl
      have l9 := zaa_ a6.out 0
      have m0 := zaa_ a6.out 1
      have m1 := zaa_ a6.out 2
      go_wp2
      repeat (go_step3; try go_wp2)
      go_meet
      case rel => exact ⟨_, (false), (by first | rfl | (simp; done) | (simp [*]; done)), H', ⟨by have := g3.out; have := g9.out; first | omega | exact Nat.le_refl _⟩, ⟨a9.out⟩, ⟨a6.out⟩, ⟨HB.out⟩⟩
    rw [if_pos g6] at H
    have d6 : (((rd_T50 l1 a5).f0) == 3) = true := beq_iff_eq.mpr g6
    have h3 : (((rd_T50 l1 a5).f0) != 3) = false := bne_eq_false_iff_eq.mpr g6
    clear g6
    (first | rw [d6] | (simp only [i64_w, i32_w]; rw [d6]) | skip)
    replace H := Option.bind_eq_some_iff.mp H
    obtain ⟨d8, h4, H⟩ := H
    replace H : (zax_.j2 q2 l1 l1 (l1.length : Int) a5 d8 b9 b7 b2 b8 ((rd_T50 l1 a5).f0) ((rd_T50 l1 a5).f1) ((rd_T50 l1 a5).f2)) = some r := H
    have q3 := Aside0.mk h4
    clear h4
    have H' := Aside0.mk H
    clear H
    have hnb25 := b0.out
    have hnc25 := a7.out
    have m2 : wc.cell? ⟨a8, 0, none⟩ = some (.int .i64 ((rd_T50 l1 a5).f0)) := (zab_ a6.out 0).trans rfl
    have m3 : wc.cell? ⟨a8, 1, none⟩ = some (.int .i64 ((rd_T50 l1 a5).f1)) := (zab_ a6.out 1).trans rfl
    have m4 : wc.cell? ⟨a8, 2, none⟩ = some (.int .i64 ((rd_T50 l1 a5).f2)) := (zab_ a6.out 2).trans rfl
    have m5 := zaa_ a6.out 0
    have m6 := zaa_ a6.out 1
    have m7 := zaa_ a6.out 2
    have m8 : wc.cell? ⟨b6, 0, none⟩ = some (.int .i64 b9) := (zab_ a9.out 0).trans rfl
    have m9 : wc.cell? ⟨b6, 1, none⟩ = some (.slice c9 b7.length d0) := (zab_ a9.out 1).trans rfl
    have n0 : wc.cell? ⟨b6, 2, none⟩ = some (.slice d1 b2.length d2) := (zab_ a9.out 2).trans rfl
    have n1 : wc.cell? ⟨b6, 3, none⟩ = some (.slice d3 b8.length d4) := (zab_ a9.out 3).trans rfl
    have n2 := zaa_ a9.out 0
    have n3 := zaa_ a9.out 1
    have n4 := zaa_ a9.out 2
    have n5 := zaa_ a9.out 3
    go_wp2_with (first | (go_at_call 52; (with_reducible refine (zaQ_.calls ((rd_T50 l1 a5).f2) 0 (wrap64 ((b2.length : Int) - 1)) d8 _ q3.out).mono ?_); rintro e w' ⟨rfl, ⟨nd, rfl⟩⟩))
    repeat (go_step3; try go_wp2_with (first | (go_at_call 52; (with_reducible refine (zaQ_.calls ((rd_T50 l1 a5).f2) 0 (wrap64 ((b2.length : Int) - 1)) d8 _ q3.out).mono ?_); rintro e w' ⟨rfl, ⟨nd, rfl⟩⟩)))
    go_meet
    case rel => exact ⟨_, (d8), (by first | rfl | (simp; done) | (simp [*]; done)), H', ⟨by have := g3.out; have := g9.out; first | omega | exact Nat.le_refl _⟩, ⟨by (with_reducible repeat (first | refine zac_ ?_ _ | refine zaf_ ?_ | refine zad_ ?_ _)); exact a9.out⟩, ⟨by (with_reducible repeat (first | refine zac_ ?_ _ | refine zaf_ ?_ | refine zad_ ?_ _)); exact a6.out⟩, ⟨by repeat (first | (with_reducible first | exact HB.out | apply zah_ | apply zae_ | apply zag_ | refine zai_ ?_ d5.out | refine zai_ ?_ e0.out) | exact HB.out)⟩⟩
  clear HC20
  obtain ⟨kq, c5, rfl, HA, e2, a9, a6, HB⟩ := hcut
  cases kq with
  | zero => exact absurd HA.out (by simp [zax_.j2])
  | succ h5 => ?_
  have H := HA.out
  clear HA
  simp only [zax_.j2] at H
  by_cases n6 : c5 = true
  · subst n6
    rw [if_pos rfl] at H
    have H' := Aside0.mk H
    clear H
    go_wp2
    repeat (go_step3; try go_wp2)
    go_roundg h5
    case measure => have := g3.out; have := g9.out; have := e2.out; omega
    case rel => exact ⟨(wrap64 (a5 + 1)), (by first | rfl | (simp; done) | (simp [*]; done)), H', ⟨by have := g3.out; have := g9.out; have := e2.out; omega⟩, ⟨a9.out⟩, ⟨HB.out⟩⟩
  replace n6 := Bool.eq_false_iff.mpr n6
  subst n6
  rw [if_neg (show ¬ (false = true) by decide)] at H
  by_cases g7 : ((rd_T50 l1 a5).f0) = 3
  · rw [if_pos g7] at H
    have h6 : (((rd_T50 l1 a5).f0) == 3) = true := beq_iff_eq.mpr g7
    have h7 : (((rd_T50 l1 a5).f0) != 3) = false := bne_eq_false_iff_eq.mpr g7
    clear g7
    obtain rfl := Option.some.inj H
    have hnb30 := b0.out
    have hnc30 := a7.out
    have n7 : wc.cell? ⟨a8, 0, none⟩ = some (.int .i64 ((rd_T50 l1 a5).f0)) := (zab_ a6.out 0).trans rfl
    have n8 : wc.cell? ⟨a8, 1, none⟩ = some (.int .i64 ((rd_T50 l1 a5).f1)) := (zab_ a6.out 1).trans rfl
    have n9 : wc.cell? ⟨a8, 2, none⟩ = some (.int .i64 ((rd_T50 l1 a5).f2)) := (zab_ a6.out 2).trans rfl
    have o0 := zaa_ a6.out 0
    have o1 := zaa_ a6.out 1
    have o2 := zaa_ a6.out 2
    go_wp2
    repeat (go_step3; try go_wp2)
    go_ret
    exact ⟨by first | rfl | (simp [zal_, zak_] <;> rfl) | (simp [*, zal_, zak_] <;> rfl), HB.out⟩
  rw [if_neg g7] at H
  have h6 : (((rd_T50 l1 a5).f0) == 3) = false := beq_eq_false_iff_ne.mpr g7
  have h7 : (((rd_T50 l1 a5).f0) != 3) = true := bne_iff_ne.mpr g7
  by_cases g8 : ((rd_T50 l1 a5).f2) = 0
  rotate_left
  · rw [if_neg g8] at H
    have h8 : (((rd_T50 l1 a5).f2) == 0) = false := beq_eq_false_iff_ne.mpr g8
    have h9 : (((rd_T50 l1 a5).f2) != 0) = true := bne_iff_ne.mpr g8
    obtain rfl := Option.some.inj H
    have hnb33 := b0.out
    have hnc33 := a7.out
    have o3 : wc.cell? ⟨a8, 0, none⟩ = some (.int .i64 ((rd_T50 l1 a5).f0)) := (zab_ a6.out 0).trans rfl
    have o4 : wc.cell? ⟨a8, 1, none⟩ = some (.int .i64 ((rd_T50 l1 a5).f1)) := (zab_ a6.out 1).trans rfl
    have o5 : wc.cell? ⟨a8, 2, none⟩ = some (.int .i64 ((rd_T50 l1 a5).f2)) := (zab_ a6.out 2).trans rfl
    have o6 := zaa_ a6.out 0
    have o7 := zaa_ a6.out 1
    have o8 := zaa_ a6.out 2
    go_wp2
    repeat (go_step3; try go_wp2)
    go_ret
    exact ⟨by first | rfl | (simp [zal_, zak_] <;> rfl) | (simp [*, zal_, zak_] <;> rfl), HB.out⟩
  rw [if_pos g8] at H
  have h8 : (((rd_T50 l1 a5).f2) == 0) = true := beq_iff_eq.mpr g8
  have h9 : (((rd_T50 l1 a5).f2) != 0) = false := bne_eq_false_iff_eq.mpr g8
  clear g8
  have H' := Aside0.mk H
  clear H
  have hnb35 := b0.out
  have hnc35 := a7.out
  have o9 : wc.cell? ⟨a8, 0, none⟩ = some (.int .i64 ((rd_T50 l1 a5).f0)) := (zab_ a6.out 0).trans rfl
  have p0 : wc.cell? ⟨a8, 1, none⟩ = some (.int .i64 ((rd_T50 l1 a5).f1)) := (zab_ a6.out 1).trans rfl
  have p1 : wc.cell? ⟨a8, 2, none⟩ = some (.int .i64 ((rd_T50 l1 a5).f2)) := (zab_ a6.out 2).trans rfl
  have p2 := zaa_ a6.out 0
  have p3 := zaa_ a6.out 1
  have p4 := zaa_ a6.out 2
  go_wp2
  repeat (go_step3; try go_wp2)
  go_roundg h5
  case measure => have := g3.out; have := g9.out; have := e2.out; omega
  case rel => exact ⟨(wrap64 (a5 + 1)), (by first | rfl | (simp; done) | (simp [*]; done)), H', ⟨by have := g3.out; have := g9.out; have := e2.out; omega⟩, ⟨a9.out⟩, ⟨HB.out⟩⟩
end Go.Proofs.YtgkjoodlcojkkaaDoor.QD
end
section
namespace Go.Proofs.YtgkjoodlcojkkaaDoor.QD
open Go.RowKit Go.Proofs.YtgkjoodlcojkkaaDoorW.PrintWords Go.Proofs.YtgkjoodlcojkkaaDoorW.PrintLast Go.Proofs.YtgkjoodlcojkkaaDoorW.PrintMore
attribute [local go_sem] zbd_ zbe_ zbm_ zbl_ zaW_ zaX_ zbc_ zbb_
set_option linter.unusedVariables false
set_option linter.unusedSimpArgs false
def btw (a b c : Int) : Bool := decide (b ≤ a) && decide (a ≤ c)
theorem zbr_ (a b c : Int) (w : World) : Calls Tryd.prog 52 #[.int .i64 a, .int .i64 b, .int .i64 c] w fun e w' => e = .returned (.bool (btw a b c)) ∧ Drawn0 w w' := by
  refine zaQ_.calls a b c (btw a b c) w ?_
  unfold zaQ_.f btw
  by_cases h : a ≥ b
  · rw [if_pos h]; have h' : b ≤ a := h; simp [h']
  · rw [if_neg h]; have h' : ¬ b ≤ a := h; simp [h']
theorem core_any (n : Int) (w : World) : Calls Tryd.prog 70 #[.int .i64 n] w fun e w' => e = .returned (.bool (!btw n 1 3)) ∧ Drawn0 w w' := by
  go_enter Tryd.func70, Tryd.ntmps70
  go_wp2_with (go_at_call 52; refine (zbr_ _ _ _ _).mono ?_; rintro e w' ⟨rfl, ⟨nd, rfl⟩⟩)
  go_ret
  exact ⟨rfl, ⟨⟨nd, rfl⟩⟩⟩
def SomeIdx (b : Bool) (w : World) (e : Ending) (w' : World) : Prop := ∃ n : Int, e = .returned (.int .i64 n) ∧ decide (0 ≤ n) = b ∧ Below w.heap.size w w'
theorem any_step (p : Int → Bool) (xs : List Int) (k : Nat) (hk : k < xs.length) (h : (xs.take k).any p = false) (hp : p (rd xs k) = false) : (xs.take (k + 1)).any p = false := by
  rw [List.take_succ_eq_append_getElem hk, List.any_append, h]
  have e : rd xs (k : Int) = xs[k] := by simp [rd, hk]
  rw [e] at hp
  simp [hp]
theorem any_hit (p : Int → Bool) (xs : List Int) (k : Nat) (hk : k < xs.length) (hp : p (rd xs k) = true) : xs.any p = true := by
  have e : rd xs (k : Int) = xs[k] := by simp [rd, hk]
  rw [e] at hp
  exact List.any_eq_true.2 ⟨xs[k], List.getElem_mem hk, hp⟩
set_option maxHeartbeats 1000000 in
theorem index_core (A : Option Addr) (c : Nat) (xs : List Int) (w : World) (hr : Kd.C (Kd.int .i64) w A xs.length xs) (hn : xs.length ≤ 4611686018427387904) :
    Calls Tryd.prog 93 #[.slice A xs.length c, .func (.func 70) #[] #[]] w (SomeIdx (xs.any fun n => !btw n 1 3) w) := by
  have HR := Aside0.mk hr
  clear hr
  go_enter Tryd.func93, Tryd.ntmps93
  go_wp2
  go_loopg [8] xs.length (fun kq v8 w' => ∃ (k : Nat), v8 = .int .i64 k ∧ Aside0 (kq + k = xs.length) ∧ Aside0 ((xs.take k).any (fun n => !btw n 1 3) = false) ∧ Drawn0 w w')
  case atStart => exact ⟨0, rfl, ⟨by omega⟩, ⟨rfl⟩, Drawn0.refl _⟩
  obtain ⟨k, rfl, HK, HN, ⟨m, rfl⟩⟩ := hrel
  by_cases hlt : k < xs.length
  · have p0 : (0 : Int) ≤ (k : Int) := by omega
    have q0 : (k : Int) < (xs.length : Int) := by omega
    obtain ⟨ad, e, hx⟩ := Kd.at_int HR.out (k : Int) p0 q0
    cases e
    simp only [Int.toNat_natCast] at hx
    have HS := Aside0.mk (any_step (fun n => !btw n 1 3) xs k hlt HN.out)
    have HH := Aside0.mk (any_hit (fun n => !btw n 1 3) xs k hlt)
    have HL := Aside0.mk hlt
    cases hb : btw (rd xs (k : Int)) 1 3 with
    | true =>
      have HBT := Aside0.mk hb
      go_wp2_with (go_at_call 70; refine (core_any _ _).mono ?_; rintro e w' ⟨rfl, ⟨nd, rfl⟩⟩)
      go_roundg (gk - 1)
      case measure => have := HL.out; have := HK.out; omega
      case rel => exact ⟨k + 1, by go_num, ⟨by have := HL.out; have := HK.out; omega⟩, ⟨HS.out (by simp [HBT.out])⟩, ⟨⟨_, rfl⟩⟩⟩
    | false =>
      have HBT := Aside0.mk hb
      go_wp2_with (go_at_call 70; refine (core_any _ _).mono ?_; rintro e w' ⟨rfl, ⟨nd, rfl⟩⟩)
      go_ret
      exact ⟨_, rfl, by rw [HH.out (by simp [HBT.out])]; simp, by repeat (first | exact Below.refl _ _ | apply zae_ | apply zag_)⟩
  · have hk : xs.length ≤ k := by omega
    have HE := Aside0.mk (show xs.any (fun n => !btw n 1 3) = false by have h := HN.out; rwa [List.take_of_length_le hk] at h)
    go_wp2
    go_ret
    exact ⟨_, rfl, by rw [HE.out]; simp, by repeat (first | exact Below.refl _ _ | apply zae_ | apply zag_)⟩
theorem home_any (n : Int) (g : Nat) (a0 : Int) (A1 : Option Addr) (n1 c1 : Nat) (A2 : Option Addr) (n2 c2 : Nat) (A3 : Option Addr) (n3 c3 : Nat) (w : World)
    (hbx : w.heap[g]? = some (.cells #[.int .i64 a0, .slice A1 n1 c1, .slice A2 n2 c2, .slice A3 n3 c3] 37 (0, 0))) (hn1 : n1 ≤ 4611686018427387904) :
    Calls Tryd.prog 71 #[.int .i64 n, .pointer (some ⟨g, 0, none⟩)] w fun e w' => e = .returned (.bool (!btw n 0 ((n1 : Int) - 1))) ∧ Drawn0 w w' := by
  have hu37 := Tryd.underlying37
  have hc1 : w.cell? ⟨g, 1, none⟩ = some (.slice A1 n1 c1) := (zab_ hbx 1).trans rfl
  clear hbx
  go_enter Tryd.func71, Tryd.ntmps71
  go_wp2_with (go_at_call 52; refine (zbr_ _ _ _ _).mono ?_; rintro e w' ⟨rfl, ⟨nd, rfl⟩⟩)
  go_ret
  exact ⟨rfl, ⟨⟨nd, rfl⟩⟩⟩
set_option maxHeartbeats 1000000 in
theorem index_home (A : Option Addr) (c : Nat) (xs : List Int) (g : Nat) (a0 : Int) (A1 : Option Addr) (n1 c1 : Nat) (A2 : Option Addr) (n2 c2 : Nat) (A3 : Option Addr) (n3 c3 : Nat) (w : World) (hbx : w.heap[g]? = some (.cells #[.int .i64 a0, .slice A1 n1 c1, .slice A2 n2 c2, .slice A3 n3 c3] 37 (0, 0))) (hn1 : n1 ≤ 4611686018427387904) (hr : Kd.C (Kd.int .i64) w A xs.length xs) (hn : xs.length ≤ 4611686018427387904) :
    Calls Tryd.prog 93 #[.slice A xs.length c, .func (.func 71) #[] #[.pointer (some ⟨g, 0, none⟩)]] w (SomeIdx (xs.any fun n => !btw n 0 ((n1 : Int) - 1)) w) := by
  have HR := Aside0.mk hr
  have HBX := Aside0.mk hbx
  clear hr hbx
  go_enter Tryd.func93, Tryd.ntmps93
  go_wp2
  go_loopg [8] xs.length (fun kq v8 w' => ∃ (k : Nat), v8 = .int .i64 k ∧ Aside0 (kq + k = xs.length) ∧ Aside0 ((xs.take k).any (fun n => !btw n 0 ((n1 : Int) - 1)) = false) ∧ Drawn0 w w')
  case atStart => exact ⟨0, rfl, ⟨by omega⟩, ⟨rfl⟩, Drawn0.refl _⟩
  obtain ⟨k, rfl, HK, HN, ⟨m, rfl⟩⟩ := hrel
  by_cases hlt : k < xs.length
  · have p0 : (0 : Int) ≤ (k : Int) := by omega
    have q0 : (k : Int) < (xs.length : Int) := by omega
    obtain ⟨ad, e, hx⟩ := Kd.at_int HR.out (k : Int) p0 q0
    cases e
    simp only [Int.toNat_natCast] at hx
    have HS := Aside0.mk (any_step (fun n => !btw n 0 ((n1 : Int) - 1)) xs k hlt HN.out)
    have HH := Aside0.mk (any_hit (fun n => !btw n 0 ((n1 : Int) - 1)) xs k hlt)
    have HL := Aside0.mk hlt
    cases hb : btw (rd xs (k : Int)) 0 ((n1 : Int) - 1) with
    | true =>
      have HBT := Aside0.mk hb
      go_wp2_with (go_at_call 71; refine (home_any _ g a0 A1 n1 c1 A2 n2 c2 A3 n3 c3 _ (zac_ HBX.out _) hn1).mono ?_; rintro e w' ⟨rfl, ⟨nd, rfl⟩⟩)
      go_roundg (gk - 1)
      case measure => have := HL.out; have := HK.out; omega
      case rel => exact ⟨k + 1, by go_num, ⟨by have := HL.out; have := HK.out; omega⟩, ⟨HS.out (by simp [HBT.out])⟩, ⟨⟨_, rfl⟩⟩⟩
    | false =>
      have HBT := Aside0.mk hb
      go_wp2_with (go_at_call 71; refine (home_any _ g a0 A1 n1 c1 A2 n2 c2 A3 n3 c3 _ (zac_ HBX.out _) hn1).mono ?_; rintro e w' ⟨rfl, ⟨nd, rfl⟩⟩)
      go_ret
      exact ⟨_, rfl, by rw [HH.out (by simp [HBT.out])]; simp, by repeat (first | exact Below.refl _ _ | apply zae_ | apply zag_)⟩
  · have hk : xs.length ≤ k := by omega
    have HE := Aside0.mk (show xs.any (fun n => !btw n 0 ((n1 : Int) - 1)) = false by have h := HN.out; rwa [List.take_of_length_le hk] at h)
    go_wp2
    go_ret
    exact ⟨_, rfl, by rw [HE.out]; simp, by repeat (first | exact Below.refl _ _ | apply zae_ | apply zag_)⟩
def twb (o0 : ByteArray) (o3 : Int) (t0 : ByteArray) (t3 : Int) : Bool := (o0.toList == t0.toList) || (o3 == t3)
set_option maxHeartbeats 1000000 in
theorem twice_any (o : S53) (Ao : Option Addr) (co : Nat) (g : Nat) (t0 : ByteArray) (t1 t2 t3 t4 : Int) (A5 : Option Addr) (n5 c5 : Nat) (w : World)
    (hbx : w.heap[g]? = some (.cells #[.string t0, .int .i64 t1, .int .i64 t2, .int .i64 t3, .int .i64 t4, .slice A5 n5 c5] 53 (0, 0))) :
    Calls Tryd.prog 73 #[.agg #[.string o.f0, .int .i64 o.f1, .int .i64 o.f2, .int .i64 o.f3, .int .i64 o.f4, .slice Ao o.f5.length co], .pointer (some ⟨g, 0, none⟩)] w fun e w' => e = .returned (.bool (twb o.f0 o.f3 t0 t3)) ∧ Below w.heap.size w w' := by
  have hu53 := Tryd.underlying53
  have HG := Aside0.mk (blk_lt hbx)
  have hc0 : ∀ ob, (w.alloc ob).cell? ⟨g, 0, none⟩ = some (.string t0) := fun ob => (zab_ (zad_ hbx ob) 0).trans rfl
  have hc3 : ∀ ob, (w.alloc ob).cell? ⟨g, 3, none⟩ = some (.int .i64 t3) := fun ob => (zab_ (zad_ hbx ob) 3).trans rfl
  clear hbx
  cases h1 : (o.f0.toList == t0.toList) with
  | true =>
    have HE : Aside0 (twb o.f0 o.f3 t0 t3 = true) := ⟨by unfold twb; simp only [h1, Bool.true_or]⟩
    go_enter Tryd.func73, Tryd.ntmps73
    go_wp2
    go_ret
    exact ⟨by rw [HE.out]; rfl, (Below.refl _ _).alloc (Nat.le_refl _) _⟩
  | false =>
    cases h2 : (o.f3 == t3) with
    | true =>
      have HE : Aside0 (twb o.f0 o.f3 t0 t3 = true) := ⟨by unfold twb; rw [h1, h2]; rfl⟩
      go_enter Tryd.func73, Tryd.ntmps73
      go_wp2
      go_ret
      exact ⟨by rw [HE.out]; rfl, (Below.refl _ _).alloc (Nat.le_refl _) _⟩
    | false =>
      have HE : Aside0 (twb o.f0 o.f3 t0 t3 = false) := ⟨by unfold twb; rw [h1, h2]; rfl⟩
      go_enter Tryd.func73, Tryd.ntmps73
      go_wp2
      go_ret
      exact ⟨by rw [HE.out]; rfl, (Below.refl _ _).alloc (Nat.le_refl _) _⟩
theorem any_stepT (p : S53 → Bool) (xs : List S53) (k : Nat) (hk : k < xs.length) (h : (xs.take k).any p = false) (hp : p (rd_T53 xs k) = false) : (xs.take (k + 1)).any p = false := by
  rw [List.take_succ_eq_append_getElem hk, List.any_append, h]
  have e : rd_T53 xs (k : Int) = xs[k] := by simp [rd_T53, hk]
  rw [e] at hp
  simp [hp]
theorem any_hitT (p : S53 → Bool) (xs : List S53) (k : Nat) (hk : k < xs.length) (hp : p (rd_T53 xs k) = true) : xs.any p = true := by
  have e : rd_T53 xs (k : Int) = xs[k] := by simp [rd_T53, hk]
  rw [e] at hp
  exact List.any_eq_true.2 ⟨xs[k], List.getElem_mem hk, hp⟩
set_option maxHeartbeats 2000000 in
theorem index_twice (A : Option Addr) (c : Nat) (xs : List S53) (g : Nat) (t0 : ByteArray) (t1 t2 t3 t4 : Int) (A5 : Option Addr) (n5 c5 : Nat) (w : World)
    (hbx : w.heap[g]? = some (.cells #[.string t0, .int .i64 t1, .int .i64 t2, .int .i64 t3, .int .i64 t4, .slice A5 n5 c5] 53 (0, 0))) (hr : Kd.C k53 w A xs.length xs) (hn : xs.length ≤ 4611686018427387904) :
    Calls Tryd.prog 94 #[.slice A xs.length c, .func (.func 73) #[] #[.pointer (some ⟨g, 0, none⟩)]] w (SomeIdx (xs.any fun o => twb o.f0 o.f3 t0 t3) w) := by
  have hu53 := Tryd.underlying53
  have HR := Aside0.mk hr
  have HBX := Aside0.mk hbx
  clear hr hbx
  go_enter Tryd.func94, Tryd.ntmps94
  go_wp2
  go_loopg [8] xs.length (fun kq v8 w' => ∃ (k : Nat), v8 = .int .i64 k ∧ Aside0 (kq + k = xs.length) ∧ Aside0 ((xs.take k).any (fun o => twb o.f0 o.f3 t0 t3) = false) ∧ Aside0 (Below w.heap.size w w'))
  case atStart => exact ⟨0, rfl, ⟨by omega⟩, ⟨rfl⟩, ⟨Below.refl _ _⟩⟩
  obtain ⟨k, rfl, HK, HN, HB⟩ := hrel
  by_cases hlt : k < xs.length
  · have p0 : (0 : Int) ≤ (k : Int) := by omega
    have q0 : (k : Int) < (xs.length : Int) := by omega
    obtain ⟨ad, A6, c6, e, c0, c4, c7, c8, c9, d0, hl6, hi6⟩ := at_T53 (Kd.zaB_ HR.out HB.out) (k : Int) p0 q0
    cases e
    simp only [Int.toNat_natCast] at c0 c4 c7 c8 c9 d0
    clear hl6 hi6
    have HS := Aside0.mk (any_stepT (fun o => twb o.f0 o.f3 t0 t3) xs k hlt HN.out)
    have HH := Aside0.mk (any_hitT (fun o => twb o.f0 o.f3 t0 t3) xs k hlt)
    have HL := Aside0.mk hlt
    have HBX2 := Aside0.mk (zan_ HBX.out HB.out)
    cases hb : twb (rd_T53 xs (k : Int)).f0 (rd_T53 xs (k : Int)).f3 t0 t3 with
    | true =>
      have HBT := Aside0.mk hb
      clear hb
      go_wp2_with (go_at_call 73; refine (twice_any (rd_T53 xs (k : Int)) A6 c6 g t0 t1 t2 t3 t4 A5 n5 c5 _ HBX2.out).mono ?_; rintro e w' ⟨rfl, hb⟩; rw [HBT.out]; have HB3 := Aside0.mk hb; clear hb)
      go_ret
      exact ⟨_, rfl, by rw [HH.out HBT.out]; simp, zaj_ HB.out HB3.out⟩
    | false =>
      have HBT := Aside0.mk hb
      clear hb
      go_wp2_with (go_at_call 73; refine (twice_any (rd_T53 xs (k : Int)) A6 c6 g t0 t1 t2 t3 t4 A5 n5 c5 _ HBX2.out).mono ?_; rintro e w' ⟨rfl, hb⟩; rw [HBT.out]; have HB3 := Aside0.mk hb; clear hb)
      go_roundg (gk - 1)
      case measure => have := HL.out; have := HK.out; omega
      case rel => exact ⟨k + 1, by go_num, ⟨by have := HL.out; have := HK.out; omega⟩, ⟨HS.out HBT.out⟩, ⟨zaj_ HB.out HB3.out⟩⟩
  · have hk : xs.length ≤ k := by omega
    have HE := Aside0.mk (show xs.any (fun o => twb o.f0 o.f3 t0 t3) = false by have h := HN.out; rwa [List.take_of_length_le hk] at h)
    go_wp2
    go_ret
    exact ⟨_, rfl, by rw [HE.out]; simp, HB.out⟩
theorem contains_core (A : Option Addr) (c : Nat) (xs : List Int) (w : World) (hr : Kd.C (Kd.int .i64) w A xs.length xs) (hn : xs.length ≤ 4611686018427387904) :
    Calls Tryd.prog 72 #[.slice A xs.length c, .func (.func 70) #[] #[]] w fun e w' => e = .returned (.bool (xs.any fun n => !btw n 1 3)) ∧ Below w.heap.size w w' := by
  have HR := Aside0.mk hr
  clear hr
  go_enter Tryd.func72, Tryd.ntmps72
  go_wp2_with (go_at_call 93; refine (index_core A c xs _ HR.out hn).mono ?_; rintro e w' ⟨n, rfl, hd, hb⟩; have HD := Aside0.mk hd; have HB := Aside0.mk hb; clear hd hb)
  go_ret
  exact ⟨by rw [HD.out]; rfl, HB.out⟩
theorem contains_home (A : Option Addr) (c : Nat) (xs : List Int) (g : Nat) (a0 : Int) (A1 : Option Addr) (n1 c1 : Nat) (A2 : Option Addr) (n2 c2 : Nat) (A3 : Option Addr) (n3 c3 : Nat) (w : World) (hbx : w.heap[g]? = some (.cells #[.int .i64 a0, .slice A1 n1 c1, .slice A2 n2 c2, .slice A3 n3 c3] 37 (0, 0))) (hn1 : n1 ≤ 4611686018427387904) (hr : Kd.C (Kd.int .i64) w A xs.length xs) (hn : xs.length ≤ 4611686018427387904) :
    Calls Tryd.prog 72 #[.slice A xs.length c, .func (.func 71) #[] #[.pointer (some ⟨g, 0, none⟩)]] w fun e w' => e = .returned (.bool (xs.any fun n => !btw n 0 ((n1 : Int) - 1))) ∧ Below w.heap.size w w' := by
  have HR := Aside0.mk hr
  have HBX := Aside0.mk hbx
  clear hr hbx
  go_enter Tryd.func72, Tryd.ntmps72
  go_wp2_with (go_at_call 93; refine (index_home A c xs g a0 A1 n1 c1 A2 n2 c2 A3 n3 c3 _ HBX.out hn1 HR.out hn).mono ?_; rintro e w' ⟨n, rfl, hd, hb⟩; have HD := Aside0.mk hd; have HB := Aside0.mk hb; clear hd hb)
  go_ret
  exact ⟨by rw [HD.out]; rfl, HB.out⟩
theorem contains_twice (A : Option Addr) (c : Nat) (xs : List S53) (g : Nat) (t0 : ByteArray) (t1 t2 t3 t4 : Int) (A5 : Option Addr) (n5 c5 : Nat) (w : World)
    (hbx : w.heap[g]? = some (.cells #[.string t0, .int .i64 t1, .int .i64 t2, .int .i64 t3, .int .i64 t4, .slice A5 n5 c5] 53 (0, 0))) (hr : Kd.C k53 w A xs.length xs) (hn : xs.length ≤ 4611686018427387904) :
    Calls Tryd.prog 74 #[.slice A xs.length c, .func (.func 73) #[] #[.pointer (some ⟨g, 0, none⟩)]] w fun e w' => e = .returned (.bool (xs.any fun o => twb o.f0 o.f3 t0 t3)) ∧ Below w.heap.size w w' := by
  have HR := Aside0.mk hr
  have HBX := Aside0.mk hbx
  clear hr hbx
  go_enter Tryd.func74, Tryd.ntmps74
  go_wp2_with (go_at_call 94; refine (index_twice A c xs g t0 t1 t2 t3 t4 A5 n5 c5 _ HBX.out HR.out hn).mono ?_; rintro e w' ⟨n, rfl, hd, hb⟩; have HD := Aside0.mk hd; have HB := Aside0.mk hb; clear hd hb)
  go_ret
  exact ⟨by rw [HD.out]; rfl, HB.out⟩
def plB (l1 l2 : List Int) : Bool := btw (l1.length : Int) 1 3 && decide (l2.length ≤ 4) && !(l1.any fun n => !btw n 1 3) && !(l2.any fun n => !btw n 0 ((l1.length : Int) - 1))
def zby_.f (a8 : Int) (a1 : List Int) (a2 : List Int) (a7 : List (S53)) : Option (Bool) := some (plB a1 a2)
set_option maxHeartbeats 2000000 in
set_option maxRecDepth 100000 in
theorem zby_.calls (a8 : Int) (a3 : Option Addr) (a4 : Nat) (a1 : List Int) (a5 : Option Addr) (a6 : Nat) (a2 : List Int) (a9 : Option Addr) (b0 : Nat) (a7 : List (S53)) (r : Bool) (w : World) (b2 : Kd.C (Kd.int .i64) w a3 a1.length a1) (b4 : a1.length ≤ a4) (b3 : Kd.C (Kd.int .i64) w a5 a2.length a2) (b5 : a2.length ≤ a6) (b6 : Kd.C k53 w a9 a7.length a7) (b7 : a7.length ≤ b0) (h : zby_.f a8 a1 a2 a7 = some r) :
    Calls Tryd.prog 53 #[.agg #[.int .i64 a8, .slice a3 a1.length a4, .slice a5 a2.length a6, .slice a9 a7.length b0]] w fun e w' => e = .returned (.bool r) ∧ Below w.heap.size w w' := by
  have hu37 := Tryd.underlying37
  have b8 := Aside0.mk b2
  have b9 := Aside0.mk b3
  clear b2 b3 b6 b4 b5 b7
  obtain rfl := Option.some.inj h
  clear h
  cases hf1 : btw (a1.length : Int) 1 3 with
  | false =>
    have HE : Aside0 (plB a1 a2 = false) := ⟨by unfold plB; rw [hf1]; rfl⟩
    have HF := Aside0.mk hf1
    clear hf1
    go_enter Tryd.func53, Tryd.ntmps53
    go_wp2_with (first | ((with_reducible refine zaL_ (N := 1) rfl ?_); (try (refine zaF_ (by rfl) ?_; dsimp only)); refine zaD_ ?hg (N := 1) ?hd (cs := #[.int .i64 a8, .slice a3 a1.length a4, .slice a5 a2.length a6, .slice a9 a7.length b0]) (t := 37) ?hr ?_; (case hd => rfl); (case hg => rfl); (case hr => first | (go_simp; done) | (go_simp; rfl)); intro gb hg w1 hbox hb; have BK := Aside0.mk hbox; have HB := Aside0.mk hb; clear hg hbox hb; have hza_1 : w1.cell? ⟨gb, 1, none⟩ = some (.slice a3 a1.length a4) := (zab_ BK.out 1).trans rfl; have hza_2 : w1.cell? ⟨gb, 2, none⟩ = some (.slice a5 a2.length a6) := (zab_ BK.out 2).trans rfl) | (go_at_call 52; refine (zbr_ _ _ _ _).mono ?_; rintro e w' ⟨rfl, ⟨nd, rfl⟩⟩; rw [HF.out]))
    go_ret
    exact ⟨by rw [HE.out]; rfl, by repeat (first | exact HB.out | apply zae_)⟩
  | true =>
    have HF := Aside0.mk hf1
    have HL1 : Aside0 (a1.length ≤ 4611686018427387904) := ⟨by have h := hf1; unfold btw at h; simp only [Bool.and_eq_true, decide_eq_true_eq] at h; omega⟩
    by_cases hf2 : a2.length ≤ 4
    rotate_left
    · have HE : Aside0 (plB a1 a2 = false) := ⟨by unfold plB; rw [hf1]; simp [hf2]⟩
      clear hf1
      go_enter Tryd.func53, Tryd.ntmps53
      go_wp2_with (first | ((with_reducible refine zaL_ (N := 1) rfl ?_); (try (refine zaF_ (by rfl) ?_; dsimp only)); refine zaD_ ?hg (N := 1) ?hd (cs := #[.int .i64 a8, .slice a3 a1.length a4, .slice a5 a2.length a6, .slice a9 a7.length b0]) (t := 37) ?hr ?_; (case hd => rfl); (case hg => rfl); (case hr => first | (go_simp; done) | (go_simp; rfl)); intro gb hg w1 hbox hb; have BK := Aside0.mk hbox; have HB := Aside0.mk hb; clear hg hbox hb; have hza_1 : w1.cell? ⟨gb, 1, none⟩ = some (.slice a3 a1.length a4) := (zab_ BK.out 1).trans rfl; have hza_2 : w1.cell? ⟨gb, 2, none⟩ = some (.slice a5 a2.length a6) := (zab_ BK.out 2).trans rfl) | (go_at_call 52; refine (zbr_ _ _ _ _).mono ?_; rintro e w' ⟨rfl, ⟨nd, rfl⟩⟩; rw [HF.out]))
      go_ret
      exact ⟨by rw [HE.out]; rfl, by repeat (first | exact HB.out | apply zae_)⟩
    have HL2 : Aside0 (a2.length ≤ 4611686018427387904) := ⟨by omega⟩
    cases hf3 : (a1.any fun n => !btw n 1 3) with
    | true =>
      have HE : Aside0 (plB a1 a2 = false) := ⟨by unfold plB; rw [hf1, hf3]; simp⟩
      have HA := Aside0.mk hf3
      clear hf1 hf3
      go_enter Tryd.func53, Tryd.ntmps53
      go_wp2_with (first | ((with_reducible refine zaL_ (N := 1) rfl ?_); (try (refine zaF_ (by rfl) ?_; dsimp only)); refine zaD_ ?hg (N := 1) ?hd (cs := #[.int .i64 a8, .slice a3 a1.length a4, .slice a5 a2.length a6, .slice a9 a7.length b0]) (t := 37) ?hr ?_; (case hd => rfl); (case hg => rfl); (case hr => first | (go_simp; done) | (go_simp; rfl)); intro gb hg w1 hbox hb; have BK := Aside0.mk hbox; have HB := Aside0.mk hb; clear hg hbox hb; have hza_1 : w1.cell? ⟨gb, 1, none⟩ = some (.slice a3 a1.length a4) := (zab_ BK.out 1).trans rfl; have hza_2 : w1.cell? ⟨gb, 2, none⟩ = some (.slice a5 a2.length a6) := (zab_ BK.out 2).trans rfl) | (go_at_call 52; refine (zbr_ _ _ _ _).mono ?_; rintro e w' ⟨rfl, ⟨nd, rfl⟩⟩; rw [HF.out]) | ((go_at_call 72); (with_reducible refine (contains_core a3 a4 a1 _ (Kd.zaB_ b8.out (zae_ HB.out _)) HL1.out).mono ?_); rintro e w2 ⟨rfl, hb⟩; have HB4 := Aside0.mk (zaj_ (zae_ HB.out nd) hb); have b1 := Aside0.mk (zan_ (zac_ BK.out nd) hb); clear hb; rw [HA.out]; have hzb_1 : w2.cell? ⟨gb, 1, none⟩ = some (.slice a3 a1.length a4) := (zab_ b1.out 1).trans rfl; have hzb_2 : w2.cell? ⟨gb, 2, none⟩ = some (.slice a5 a2.length a6) := (zab_ b1.out 2).trans rfl))
      go_ret
      exact ⟨by rw [HE.out]; rfl, HB4.out⟩
    | false =>
      have HA := Aside0.mk hf3
      cases hf4 : (a2.any fun n => !btw n 0 ((a1.length : Int) - 1)) with
      | true =>
        have HE : Aside0 (plB a1 a2 = false) := ⟨by unfold plB; rw [hf1, hf3, hf4]; simp⟩
        have HC := Aside0.mk hf4
        clear hf1 hf3 hf4
        go_enter Tryd.func53, Tryd.ntmps53
        go_wp2_with (first | ((with_reducible refine zaL_ (N := 1) rfl ?_); (try (refine zaF_ (by rfl) ?_; dsimp only)); refine zaD_ ?hg (N := 1) ?hd (cs := #[.int .i64 a8, .slice a3 a1.length a4, .slice a5 a2.length a6, .slice a9 a7.length b0]) (t := 37) ?hr ?_; (case hd => rfl); (case hg => rfl); (case hr => first | (go_simp; done) | (go_simp; rfl)); intro gb hg w1 hbox hb; have BK := Aside0.mk hbox; have HB := Aside0.mk hb; clear hg hbox hb; have hza_1 : w1.cell? ⟨gb, 1, none⟩ = some (.slice a3 a1.length a4) := (zab_ BK.out 1).trans rfl; have hza_2 : w1.cell? ⟨gb, 2, none⟩ = some (.slice a5 a2.length a6) := (zab_ BK.out 2).trans rfl) | (go_at_call 52; refine (zbr_ _ _ _ _).mono ?_; rintro e w' ⟨rfl, ⟨nd, rfl⟩⟩; rw [HF.out]) | ((go_at_call 72); (with_reducible refine (contains_core a3 a4 a1 _ (Kd.zaB_ b8.out (zae_ HB.out _)) HL1.out).mono ?_); rintro e w2 ⟨rfl, hb⟩; have HB4 := Aside0.mk (zaj_ (zae_ HB.out nd) hb); have b1 := Aside0.mk (zan_ (zac_ BK.out nd) hb); clear hb; rw [HA.out]; have hzb_1 : w2.cell? ⟨gb, 1, none⟩ = some (.slice a3 a1.length a4) := (zab_ b1.out 1).trans rfl; have hzb_2 : w2.cell? ⟨gb, 2, none⟩ = some (.slice a5 a2.length a6) := (zab_ b1.out 2).trans rfl) | ((go_at_call 72); (with_reducible refine (contains_home a5 a6 a2 gb a8 a3 a1.length a4 a5 a2.length a6 a9 a7.length b0 _ b1.out HL1.out (Kd.zaB_ b9.out HB4.out) HL2.out).mono ?_); rintro e w3 ⟨rfl, hb⟩; have HB5 := Aside0.mk (zaj_ HB4.out hb); clear hb; rw [HC.out]))
        go_ret
        exact ⟨by rw [HE.out]; rfl, HB5.out⟩
      | false =>
        have HE : Aside0 (plB a1 a2 = true) := ⟨by unfold plB; rw [hf1, hf3, hf4]; simp [hf2]⟩
        have HC := Aside0.mk hf4
        clear hf1 hf3 hf4
        go_enter Tryd.func53, Tryd.ntmps53
        go_wp2_with (first | ((with_reducible refine zaL_ (N := 1) rfl ?_); (try (refine zaF_ (by rfl) ?_; dsimp only)); refine zaD_ ?hg (N := 1) ?hd (cs := #[.int .i64 a8, .slice a3 a1.length a4, .slice a5 a2.length a6, .slice a9 a7.length b0]) (t := 37) ?hr ?_; (case hd => rfl); (case hg => rfl); (case hr => first | (go_simp; done) | (go_simp; rfl)); intro gb hg w1 hbox hb; have BK := Aside0.mk hbox; have HB := Aside0.mk hb; clear hg hbox hb; have hza_1 : w1.cell? ⟨gb, 1, none⟩ = some (.slice a3 a1.length a4) := (zab_ BK.out 1).trans rfl; have hza_2 : w1.cell? ⟨gb, 2, none⟩ = some (.slice a5 a2.length a6) := (zab_ BK.out 2).trans rfl) | (go_at_call 52; refine (zbr_ _ _ _ _).mono ?_; rintro e w' ⟨rfl, ⟨nd, rfl⟩⟩; rw [HF.out]) | ((go_at_call 72); (with_reducible refine (contains_core a3 a4 a1 _ (Kd.zaB_ b8.out (zae_ HB.out _)) HL1.out).mono ?_); rintro e w2 ⟨rfl, hb⟩; have HB4 := Aside0.mk (zaj_ (zae_ HB.out nd) hb); have b1 := Aside0.mk (zan_ (zac_ BK.out nd) hb); clear hb; rw [HA.out]; have hzb_1 : w2.cell? ⟨gb, 1, none⟩ = some (.slice a3 a1.length a4) := (zab_ b1.out 1).trans rfl; have hzb_2 : w2.cell? ⟨gb, 2, none⟩ = some (.slice a5 a2.length a6) := (zab_ b1.out 2).trans rfl) | ((go_at_call 72); (with_reducible refine (contains_home a5 a6 a2 gb a8 a3 a1.length a4 a5 a2.length a6 a9 a7.length b0 _ b1.out HL1.out (Kd.zaB_ b9.out HB4.out) HL2.out).mono ?_); rintro e w3 ⟨rfl, hb⟩; have HB5 := Aside0.mk (zaj_ HB4.out hb); clear hb; rw [HC.out]))
        go_ret
        exact ⟨by rw [HE.out]; rfl, HB5.out⟩
end Go.Proofs.YtgkjoodlcojkkaaDoor.QD
end
section
namespace Go.Proofs.YtgkjoodlcojkkaaDoor.QD
open Go.RowKit Go.Proofs.YtgkjoodlcojkkaaDoorW.PrintWords Go.Proofs.YtgkjoodlcojkkaaDoorW.PrintLast Go.Proofs.YtgkjoodlcojkkaaDoorW.PrintMore
attribute [local go_sem] zbd_ zbe_ zbm_ zbl_ zaW_ zaX_ zbc_ zbb_
set_option linter.unusedVariables false
set_option linter.unusedSimpArgs false
def badForm (nm : Bool) (t : S53) : Bool := !nm || !btw t.f1 1 3000 || !btw t.f2 1 t.f1 || !btw t.f3 1 1000
def zbA_.f (k : Nat) (a9 : Int) (a6 : List Int) (a7 : List Int) (a5 : List (S53)) (a1 : Int) : Option (Int) :=
  if a6.length ≤ 4611686018427387904 then (if a5.length ≤ 4611686018427387904 then (if 0 ≤ a1 then (if a1 < (a5.length : Int) then
    ((zaO_.f k (rd_T53 a5 a1).f0).bind fun nm =>
      (if badForm nm (rd_T53 a5 a1) = true then some 10
      else (if btw (rd_T53 a5 a1).f4 0 ((a6.length : Int) - 1) = false then some 16
      else (if ((a5.take a1.toNat).any fun o => twb o.f0 o.f3 (rd_T53 a5 a1).f0 (rd_T53 a5 a1).f3) = true then some 17
      else (zax_.f k a9 a6 a7 a5 (rd_T53 a5 a1).f5).bind fun b => (if b = true then some 0 else some 15)))))
  else none) else none) else none) else none
theorem zbA_.mono : ∀ a0 a1 a2 a3 a4 k, LeO (zbA_.f k a0 a1 a2 a3 a4) (zbA_.f (k + 1) a0 a1 a2 a3 a4) := by
  intro a0 a1 a2 a3 a4 k
  unfold zbA_.f
  repeat' first
      | (with_reducible exact zaO_.mono _ _)
      | (with_reducible exact zax_.mono _ _ _ _ _ _)
      | (with_reducible exact LeO.refl _)
      | (with_reducible exact LeO.none _)
      | (with_reducible refine LeO.ite ?_ ?_)
      | (with_reducible refine LeO.bind ?_ (fun _ => ?_))
      | exact zaO_.mono _ _
      | exact zax_.mono _ _ _ _ _ _
      | exact LeO.none _
      | refine LeO.ite ?_ ?_
      | refine LeO.bind ?_ (fun _ => ?_)
theorem contains_twice' (A : Option Addr) (n c : Nat) (xs : List S53) (g : Nat) (t0 : ByteArray) (t1 t2 t3 t4 : Int) (A5 : Option Addr) (n5 c5 : Nat) (w : World)
    (hbx : w.heap[g]? = some (.cells #[.string t0, .int .i64 t1, .int .i64 t2, .int .i64 t3, .int .i64 t4, .slice A5 n5 c5] 53 (0, 0))) (hr : Kd.C k53 w A xs.length xs) (hl : xs.length = n) (hn : n ≤ 4611686018427387904) :
    Calls Tryd.prog 74 #[.slice A n c, .func (.func 73) #[] #[.pointer (some ⟨g, 0, none⟩)]] w fun e w' => e = .returned (.bool (xs.any fun o => twb o.f0 o.f3 t0 t3)) ∧ Below w.heap.size w w' := by
  subst hl
  exact contains_twice A c xs g t0 t1 t2 t3 t4 A5 n5 c5 w hbx hr hn
set_option maxHeartbeats 4000000 in
set_option maxRecDepth 100000 in
theorem zbA_.calls (k : Nat) (a9 : Int) (b0 : Option Addr) (b1 : Nat) (a6 : List Int) (b2 : Option Addr) (b3 : Nat) (a7 : List Int) (c0 : Option Addr) (a8 : Nat) (a5 : List (S53)) (a1 : Int) (r : Int) (w : World) (b5 : Kd.C (Kd.int .i64) w b0 a6.length a6) (b6 : a6.length ≤ b1) (b7 : Kd.C (Kd.int .i64) w b2 a7.length a7) (b8 : a7.length ≤ b3) (b4 : Kd.C k53 w c0 a5.length a5) (b9 : a5.length ≤ a8) (h : zbA_.f k a9 a6 a7 a5 a1 = some r) :
    Calls Tryd.prog 54 #[.agg #[.int .i64 a9, .slice b0 a6.length b1, .slice b2 a7.length b3, .slice c0 a5.length a8], .int .i64 a1] w fun e w' => e = .returned (.int .i64 r) ∧ Below w.heap.size w w' := by
  have hu37 := Tryd.underlying37
  have hu53 := Tryd.underlying53
  unfold zbA_.f at h
  by_cases g1 : a6.length ≤ 4611686018427387904
  rotate_left
  · rw [if_neg g1] at h; exact absurd h (by simp)
  rw [if_pos g1] at h
  by_cases g2 : a5.length ≤ 4611686018427387904
  rotate_left
  · rw [if_neg g2] at h; exact absurd h (by simp)
  rw [if_pos g2] at h
  by_cases g3 : 0 ≤ a1
  rotate_left
  · rw [if_neg g3] at h; exact absurd h (by simp)
  rw [if_pos g3] at h
  by_cases g4 : a1 < (a5.length : Int)
  rotate_left
  · rw [if_neg g4] at h; exact absurd h (by simp)
  rw [if_pos g4] at h
  obtain ⟨nm, hnm, h⟩ := Option.bind_eq_some_iff.1 h
  obtain ⟨ad, A6, c6, e, c2, c3, c4, c7, c8, c9, hl6, hi6⟩ := at_T53 b4 a1 g3 g4
  cases e
  have HC6 := Aside0.mk hl6
  have HI6 := Aside0.mk hi6
  have HN := Aside0.mk hnm
  have d0 := Aside0.mk b5
  have d1 := Aside0.mk b7
  have c1 := Aside0.mk b4
  have HC1 := Aside0.mk b6
  have HC2 := Aside0.mk b8
  have HC3 := Aside0.mk b9
  have H := Aside0.mk h
  clear h hnm b5 b7 b4 b6 b8 b9 hl6 hi6
  go_enter Tryd.func54, Tryd.ntmps54
  go_wp2_with (first | ((with_reducible refine zaL_ (N := 2) rfl ?_); (try (refine zaF_ (by rfl) ?_; dsimp only)); refine zaD_ ?hg (N := 2) ?hd (cs := #[.int .i64 a9, .slice b0 a6.length b1, .slice b2 a7.length b3, .slice (some ad) a5.length a8]) (t := 37) ?hr ?_; (case hd => rfl); (case hg => rfl); (case hr => first | (go_simp; done) | (go_simp; rfl)); intro gb hg w1 hbox hb; have BK := Aside0.mk hbox; have HB := Aside0.mk hb; clear hg hbox hb; have hz_1 : w1.cell? ⟨gb, 1, none⟩ = some (.slice b0 a6.length b1) := (zab_ BK.out 1).trans rfl; have hz_3 : w1.cell? ⟨gb, 3, none⟩ = some (.slice (some ad) a5.length a8) := (zab_ BK.out 3).trans rfl; have hy_0 : w1.cell? (ad.add (a1.toNat * 6)) = some (.string (rd_T53 a5 a1).f0) := (HB.out.cell (World.block_lt_of_cell? w _ c2)).trans c2; have hy_1 : w1.cell? ⟨(ad.add (a1.toNat * 6)).block, (ad.add (a1.toNat * 6)).off + 1, none⟩ = some (.int .i64 (rd_T53 a5 a1).f1) := (HB.out.cell (World.block_lt_of_cell? w _ c3)).trans c3; have hy_2 : w1.cell? ⟨(ad.add (a1.toNat * 6)).block, (ad.add (a1.toNat * 6)).off + 2, none⟩ = some (.int .i64 (rd_T53 a5 a1).f2) := (HB.out.cell (World.block_lt_of_cell? w _ c4)).trans c4; have hy_3 : w1.cell? ⟨(ad.add (a1.toNat * 6)).block, (ad.add (a1.toNat * 6)).off + 3, none⟩ = some (.int .i64 (rd_T53 a5 a1).f3) := (HB.out.cell (World.block_lt_of_cell? w _ c7)).trans c7; have hy_4 : w1.cell? ⟨(ad.add (a1.toNat * 6)).block, (ad.add (a1.toNat * 6)).off + 4, none⟩ = some (.int .i64 (rd_T53 a5 a1).f4) := (HB.out.cell (World.block_lt_of_cell? w _ c8)).trans c8; have hy_5 : w1.cell? ⟨(ad.add (a1.toNat * 6)).block, (ad.add (a1.toNat * 6)).off + 5, none⟩ = some (.slice A6 (rd_T53 a5 a1).f5.length c6) := (HB.out.cell (World.block_lt_of_cell? w _ c9)).trans c9))
  have bt := blk_new w1 (.cells #[.string (rd_T53 a5 a1).f0, .int .i64 (rd_T53 a5 a1).f1, .int .i64 (rd_T53 a5 a1).f2, .int .i64 (rd_T53 a5 a1).f3, .int .i64 (rd_T53 a5 a1).f4, .slice A6 (rd_T53 a5 a1).f5.length c6] 53 (0, 0))
  have hb2 := zaj_ HB.out (zah_ (Below.refl w1.heap.size w1) (.cells #[.string (rd_T53 a5 a1).f0, .int .i64 (rd_T53 a5 a1).f1, .int .i64 (rd_T53 a5 a1).f2, .int .i64 (rd_T53 a5 a1).f3, .int .i64 (rd_T53 a5 a1).f4, .slice A6 (rd_T53 a5 a1).f5.length c6] 53 (0, 0)))
  have bs := zad_ BK.out (.cells #[.string (rd_T53 a5 a1).f0, .int .i64 (rd_T53 a5 a1).f1, .int .i64 (rd_T53 a5 a1).f2, .int .i64 (rd_T53 a5 a1).f3, .int .i64 (rd_T53 a5 a1).f4, .slice A6 (rd_T53 a5 a1).f5.length c6] 53 (0, 0))
  generalize w1.alloc (.cells #[.string (rd_T53 a5 a1).f0, .int .i64 (rd_T53 a5 a1).f1, .int .i64 (rd_T53 a5 a1).f2, .int .i64 (rd_T53 a5 a1).f3, .int .i64 (rd_T53 a5 a1).f4, .slice A6 (rd_T53 a5 a1).f5.length c6] 53 (0, 0)) = w2 at bt hb2 bs ⊢
  generalize w1.heap.size = gt at bt ⊢
  have BT := Aside0.mk bt
  have HB2 := Aside0.mk hb2
  have BS := Aside0.mk bs
  clear bt hb2 bs
  have ht_0 : w2.cell? ⟨gt, 0, none⟩ = some (.string (rd_T53 a5 a1).f0) := (zab_ BT.out 0).trans rfl
  have ht_1 : w2.cell? ⟨gt, 1, none⟩ = some (.int .i64 (rd_T53 a5 a1).f1) := (zab_ BT.out 1).trans rfl
  have ht_2 : w2.cell? ⟨gt, 2, none⟩ = some (.int .i64 (rd_T53 a5 a1).f2) := (zab_ BT.out 2).trans rfl
  have ht_3 : w2.cell? ⟨gt, 3, none⟩ = some (.int .i64 (rd_T53 a5 a1).f3) := (zab_ BT.out 3).trans rfl
  have ht_4 : w2.cell? ⟨gt, 4, none⟩ = some (.int .i64 (rd_T53 a5 a1).f4) := (zab_ BT.out 4).trans rfl
  have ht_5 : w2.cell? ⟨gt, 5, none⟩ = some (.slice A6 (rd_T53 a5 a1).f5.length c6) := (zab_ BT.out 5).trans rfl
  have hs_0 : w2.cell? ⟨gb, 0, none⟩ = some (.int .i64 a9) := (zab_ BS.out 0).trans rfl
  have hs_1 : w2.cell? ⟨gb, 1, none⟩ = some (.slice b0 a6.length b1) := (zab_ BS.out 1).trans rfl
  have hs_2 : w2.cell? ⟨gb, 2, none⟩ = some (.slice b2 a7.length b3) := (zab_ BS.out 2).trans rfl
  have hs_3 : w2.cell? ⟨gb, 3, none⟩ = some (.slice (some ad) a5.length a8) := (zab_ BS.out 3).trans rfl
  cases nm with
  | false =>
    have HRV : Aside0 (r = 10) := ⟨by have h := H.out; rw [if_pos (by unfold badForm; rfl)] at h; exact (Option.some.inj h).symm⟩
    clear H
    go_wp2_with (first | (go_at_call 17; (with_reducible refine (zaO_.calls k _ false _ HN.out).mono ?_); rintro e w' ⟨rfl, ⟨⟨nd, rfl⟩⟩⟩))
    go_ret
    exact ⟨by rw [HRV.out]; rfl, by repeat (first | exact HB2.out | apply zae_)⟩
  | true =>
    cases h1 : btw (rd_T53 a5 a1).f1 1 3000 with
    | false =>
      have HRV : Aside0 (r = 10) := ⟨by have h := H.out; rw [if_pos (by unfold badForm; simp [h1])] at h; exact (Option.some.inj h).symm⟩
      have H1 := Aside0.mk h1
      clear H h1
      go_wp2_with (first | (go_at_call 17; (with_reducible refine (zaO_.calls k _ true _ HN.out).mono ?_); rintro e w' ⟨rfl, ⟨⟨nd, rfl⟩⟩⟩) | (go_at_call 52; refine (zbr_ _ _ _ _).mono ?_; rintro e w' ⟨rfl, ⟨⟨nd, rfl⟩⟩⟩; (first | rw [H1.out])))
      go_ret
      exact ⟨by rw [HRV.out]; rfl, by repeat (first | exact HB2.out | apply zae_)⟩
    | true =>
      cases h2 : btw (rd_T53 a5 a1).f2 1 (rd_T53 a5 a1).f1 with
      | false =>
        have HRV : Aside0 (r = 10) := ⟨by have h := H.out; rw [if_pos (by unfold badForm; simp [h1, h2])] at h; exact (Option.some.inj h).symm⟩
        have H1 := Aside0.mk h1
        have H2 := Aside0.mk h2
        clear H h1 h2
        go_wp2_with (first | (go_at_call 17; (with_reducible refine (zaO_.calls k _ true _ HN.out).mono ?_); rintro e w' ⟨rfl, ⟨⟨nd, rfl⟩⟩⟩) | (go_at_call 52; refine (zbr_ _ _ _ _).mono ?_; rintro e w' ⟨rfl, ⟨⟨nd, rfl⟩⟩⟩; (first | rw [H1.out] | rw [H2.out])))
        go_ret
        exact ⟨by rw [HRV.out]; rfl, by repeat (first | exact HB2.out | apply zae_)⟩
      | true =>
        cases h3 : btw (rd_T53 a5 a1).f3 1 1000 with
        | false =>
          have HRV : Aside0 (r = 10) := ⟨by have h := H.out; rw [if_pos (by unfold badForm; simp [h1, h2, h3])] at h; exact (Option.some.inj h).symm⟩
          have H1 := Aside0.mk h1
          have H2 := Aside0.mk h2
          have H3 := Aside0.mk h3
          clear H h1 h2 h3
          go_wp2_with (first | (go_at_call 17; (with_reducible refine (zaO_.calls k _ true _ HN.out).mono ?_); rintro e w' ⟨rfl, ⟨⟨nd, rfl⟩⟩⟩) | (go_at_call 52; refine (zbr_ _ _ _ _).mono ?_; rintro e w' ⟨rfl, ⟨⟨nd, rfl⟩⟩⟩; (first | rw [H1.out] | rw [H2.out] | rw [H3.out])))
          go_ret
          exact ⟨by rw [HRV.out]; rfl, by repeat (first | exact HB2.out | apply zae_)⟩
        | true =>
          have h0 := H.out
          clear H
          rw [if_neg (by unfold badForm; simp [h1, h2, h3])] at h0
          have H1 := Aside0.mk h1
          have H2 := Aside0.mk h2
          have H3 := Aside0.mk h3
          clear h1 h2 h3
          cases h4 : btw (rd_T53 a5 a1).f4 0 ((a6.length : Int) - 1) with
          | false =>
            have HRV : Aside0 (r = 16) := ⟨by have h := h0; rw [if_pos h4] at h; exact (Option.some.inj h).symm⟩
            have H4 := Aside0.mk h4
            clear h0 h4
            go_wp2_with (first | (go_at_call 17; (with_reducible refine (zaO_.calls k _ true _ HN.out).mono ?_); rintro e w' ⟨rfl, ⟨⟨nd, rfl⟩⟩⟩) | (go_at_call 52; refine (zbr_ _ _ _ _).mono ?_; rintro e w' ⟨rfl, ⟨⟨nd, rfl⟩⟩⟩; (first | rw [H1.out] | rw [H2.out] | rw [H3.out] | rw [H4.out])))
            go_ret
            exact ⟨by rw [HRV.out]; rfl, by repeat (first | exact HB2.out | apply zae_)⟩
          | true =>
            rw [if_neg (by rw [h4]; simp)] at h0
            have H4 := Aside0.mk h4
            clear h4
            have HTL : Aside0 (a1.toNat ≤ a5.length) := ⟨by omega⟩
            have HTN : Aside0 ((a5.take a1.toNat).length = a1.toNat) := ⟨by rw [List.length_take]; exact Nat.min_eq_left HTL.out⟩
            have HTB : Aside0 (a1.toNat ≤ 4611686018427387904) := ⟨by omega⟩
            have hs1 : a1 ≤ (a8 : Int) := by have := HC3.out; omega
            cases h5 : ((a5.take a1.toNat).any fun o => twb o.f0 o.f3 (rd_T53 a5 a1).f0 (rd_T53 a5 a1).f3) with
            | true =>
              have HRV : Aside0 (r = 17) := ⟨by have h := h0; rw [if_pos h5] at h; exact (Option.some.inj h).symm⟩
              have HTW := Aside0.mk h5
              clear h0 h5
              go_wp2_with (first | (go_at_call 17; (with_reducible refine (zaO_.calls k _ true _ HN.out).mono ?_); rintro e w' ⟨rfl, ⟨⟨nd, rfl⟩⟩⟩) | (go_at_call 52; refine (zbr_ _ _ _ _).mono ?_; rintro e w' ⟨rfl, ⟨⟨nd, rfl⟩⟩⟩; (first | rw [H1.out] | rw [H2.out] | rw [H3.out] | rw [H4.out])) | (go_at_call 74; (with_reducible refine (contains_twice' (some ad) a1.toNat a8 (a5.take a1.toNat) gt (rd_T53 a5 a1).f0 (rd_T53 a5 a1).f1 (rd_T53 a5 a1).f2 (rd_T53 a5 a1).f3 (rd_T53 a5 a1).f4 A6 (rd_T53 a5 a1).f5.length c6 _ (zac_ BT.out _) (Kd.zaB_ (Kd.C_take c1.out HTL.out) (zae_ HB2.out _)) HTN.out HTB.out).mono ?_); rintro e w4 ⟨rfl, hb⟩; rw [HTW.out]; have HB4 := Aside0.mk (zaj_ (zae_ HB2.out _) hb); have BT4 := Aside0.mk (zan_ (zac_ BT.out _) hb); have BS4 := Aside0.mk (zan_ (zac_ BS.out _) hb); clear hb; have htd_0 : w4.cell? ⟨gt, 0, none⟩ = some (.string (rd_T53 a5 a1).f0) := (zab_ BT4.out 0).trans rfl; have htd_1 : w4.cell? ⟨gt, 1, none⟩ = some (.int .i64 (rd_T53 a5 a1).f1) := (zab_ BT4.out 1).trans rfl; have htd_2 : w4.cell? ⟨gt, 2, none⟩ = some (.int .i64 (rd_T53 a5 a1).f2) := (zab_ BT4.out 2).trans rfl; have htd_3 : w4.cell? ⟨gt, 3, none⟩ = some (.int .i64 (rd_T53 a5 a1).f3) := (zab_ BT4.out 3).trans rfl; have htd_4 : w4.cell? ⟨gt, 4, none⟩ = some (.int .i64 (rd_T53 a5 a1).f4) := (zab_ BT4.out 4).trans rfl; have htd_5 : w4.cell? ⟨gt, 5, none⟩ = some (.slice A6 (rd_T53 a5 a1).f5.length c6) := (zab_ BT4.out 5).trans rfl; have hsd_0 : w4.cell? ⟨gb, 0, none⟩ = some (.int .i64 a9) := (zab_ BS4.out 0).trans rfl; have hsd_1 : w4.cell? ⟨gb, 1, none⟩ = some (.slice b0 a6.length b1) := (zab_ BS4.out 1).trans rfl; have hsd_2 : w4.cell? ⟨gb, 2, none⟩ = some (.slice b2 a7.length b3) := (zab_ BS4.out 2).trans rfl; have hsd_3 : w4.cell? ⟨gb, 3, none⟩ = some (.slice (some ad) a5.length a8) := (zab_ BS4.out 3).trans rfl))
              go_ret
              exact ⟨by rw [HRV.out]; rfl, HB4.out⟩
            | false =>
              rw [if_neg (by rw [h5]; simp)] at h0
              have HTW := Aside0.mk h5
              clear h5
              obtain ⟨b, hb0, h0⟩ := Option.bind_eq_some_iff.1 h0
              cases b with
              | true =>
                have HRV : Aside0 (r = 0) := ⟨by have h := h0; rw [if_pos (by simp)] at h; exact (Option.some.inj h).symm⟩
                have HPT := Aside0.mk hb0
                clear h0 hb0
                go_wp2_with (first | (go_at_call 17; (with_reducible refine (zaO_.calls k _ true _ HN.out).mono ?_); rintro e w' ⟨rfl, ⟨⟨nd, rfl⟩⟩⟩) | (go_at_call 52; refine (zbr_ _ _ _ _).mono ?_; rintro e w' ⟨rfl, ⟨⟨nd, rfl⟩⟩⟩; (first | rw [H1.out] | rw [H2.out] | rw [H3.out] | rw [H4.out])) | (go_at_call 74; (with_reducible refine (contains_twice' (some ad) a1.toNat a8 (a5.take a1.toNat) gt (rd_T53 a5 a1).f0 (rd_T53 a5 a1).f1 (rd_T53 a5 a1).f2 (rd_T53 a5 a1).f3 (rd_T53 a5 a1).f4 A6 (rd_T53 a5 a1).f5.length c6 _ (zac_ BT.out _) (Kd.zaB_ (Kd.C_take c1.out HTL.out) (zae_ HB2.out _)) HTN.out HTB.out).mono ?_); rintro e w4 ⟨rfl, hb⟩; rw [HTW.out]; have HB4 := Aside0.mk (zaj_ (zae_ HB2.out _) hb); have BT4 := Aside0.mk (zan_ (zac_ BT.out _) hb); have BS4 := Aside0.mk (zan_ (zac_ BS.out _) hb); clear hb; have htd_0 : w4.cell? ⟨gt, 0, none⟩ = some (.string (rd_T53 a5 a1).f0) := (zab_ BT4.out 0).trans rfl; have htd_1 : w4.cell? ⟨gt, 1, none⟩ = some (.int .i64 (rd_T53 a5 a1).f1) := (zab_ BT4.out 1).trans rfl; have htd_2 : w4.cell? ⟨gt, 2, none⟩ = some (.int .i64 (rd_T53 a5 a1).f2) := (zab_ BT4.out 2).trans rfl; have htd_3 : w4.cell? ⟨gt, 3, none⟩ = some (.int .i64 (rd_T53 a5 a1).f3) := (zab_ BT4.out 3).trans rfl; have htd_4 : w4.cell? ⟨gt, 4, none⟩ = some (.int .i64 (rd_T53 a5 a1).f4) := (zab_ BT4.out 4).trans rfl; have htd_5 : w4.cell? ⟨gt, 5, none⟩ = some (.slice A6 (rd_T53 a5 a1).f5.length c6) := (zab_ BT4.out 5).trans rfl; have hsd_0 : w4.cell? ⟨gb, 0, none⟩ = some (.int .i64 a9) := (zab_ BS4.out 0).trans rfl; have hsd_1 : w4.cell? ⟨gb, 1, none⟩ = some (.slice b0 a6.length b1) := (zab_ BS4.out 1).trans rfl; have hsd_2 : w4.cell? ⟨gb, 2, none⟩ = some (.slice b2 a7.length b3) := (zab_ BS4.out 2).trans rfl; have hsd_3 : w4.cell? ⟨gb, 3, none⟩ = some (.slice (some ad) a5.length a8) := (zab_ BS4.out 3).trans rfl) | (go_at_call 75; (with_reducible refine (zax_.calls k a9 b0 b1 a6 b2 b3 a7 (some ad) a8 a5 A6 c6 (rd_T53 a5 a1).f5 true _ (Kd.zaB_ d0.out HB4.out) HC1.out (Kd.zaB_ d1.out HB4.out) HC2.out (Kd.zaB_ c1.out HB4.out) HC3.out (Kd.zaB_ HI6.out HB4.out) HC6.out HPT.out).mono ?_); rintro e w5 ⟨rfl, hb⟩; have HB5 := Aside0.mk (zaj_ HB4.out hb); clear hb))
                go_ret
                exact ⟨by rw [HRV.out]; rfl, HB5.out⟩
              | false =>
                have HRV : Aside0 (r = 15) := ⟨by have h := h0; rw [if_neg (by simp)] at h; exact (Option.some.inj h).symm⟩
                have HPT := Aside0.mk hb0
                clear h0 hb0
                go_wp2_with (first | (go_at_call 17; (with_reducible refine (zaO_.calls k _ true _ HN.out).mono ?_); rintro e w' ⟨rfl, ⟨⟨nd, rfl⟩⟩⟩) | (go_at_call 52; refine (zbr_ _ _ _ _).mono ?_; rintro e w' ⟨rfl, ⟨⟨nd, rfl⟩⟩⟩; (first | rw [H1.out] | rw [H2.out] | rw [H3.out] | rw [H4.out])) | (go_at_call 74; (with_reducible refine (contains_twice' (some ad) a1.toNat a8 (a5.take a1.toNat) gt (rd_T53 a5 a1).f0 (rd_T53 a5 a1).f1 (rd_T53 a5 a1).f2 (rd_T53 a5 a1).f3 (rd_T53 a5 a1).f4 A6 (rd_T53 a5 a1).f5.length c6 _ (zac_ BT.out _) (Kd.zaB_ (Kd.C_take c1.out HTL.out) (zae_ HB2.out _)) HTN.out HTB.out).mono ?_); rintro e w4 ⟨rfl, hb⟩; rw [HTW.out]; have HB4 := Aside0.mk (zaj_ (zae_ HB2.out _) hb); have BT4 := Aside0.mk (zan_ (zac_ BT.out _) hb); have BS4 := Aside0.mk (zan_ (zac_ BS.out _) hb); clear hb; have htd_0 : w4.cell? ⟨gt, 0, none⟩ = some (.string (rd_T53 a5 a1).f0) := (zab_ BT4.out 0).trans rfl; have htd_1 : w4.cell? ⟨gt, 1, none⟩ = some (.int .i64 (rd_T53 a5 a1).f1) := (zab_ BT4.out 1).trans rfl; have htd_2 : w4.cell? ⟨gt, 2, none⟩ = some (.int .i64 (rd_T53 a5 a1).f2) := (zab_ BT4.out 2).trans rfl; have htd_3 : w4.cell? ⟨gt, 3, none⟩ = some (.int .i64 (rd_T53 a5 a1).f3) := (zab_ BT4.out 3).trans rfl; have htd_4 : w4.cell? ⟨gt, 4, none⟩ = some (.int .i64 (rd_T53 a5 a1).f4) := (zab_ BT4.out 4).trans rfl; have htd_5 : w4.cell? ⟨gt, 5, none⟩ = some (.slice A6 (rd_T53 a5 a1).f5.length c6) := (zab_ BT4.out 5).trans rfl; have hsd_0 : w4.cell? ⟨gb, 0, none⟩ = some (.int .i64 a9) := (zab_ BS4.out 0).trans rfl; have hsd_1 : w4.cell? ⟨gb, 1, none⟩ = some (.slice b0 a6.length b1) := (zab_ BS4.out 1).trans rfl; have hsd_2 : w4.cell? ⟨gb, 2, none⟩ = some (.slice b2 a7.length b3) := (zab_ BS4.out 2).trans rfl; have hsd_3 : w4.cell? ⟨gb, 3, none⟩ = some (.slice (some ad) a5.length a8) := (zab_ BS4.out 3).trans rfl) | (go_at_call 75; (with_reducible refine (zax_.calls k a9 b0 b1 a6 b2 b3 a7 (some ad) a8 a5 A6 c6 (rd_T53 a5 a1).f5 false _ (Kd.zaB_ d0.out HB4.out) HC1.out (Kd.zaB_ d1.out HB4.out) HC2.out (Kd.zaB_ c1.out HB4.out) HC3.out (Kd.zaB_ HI6.out HB4.out) HC6.out HPT.out).mono ?_); rintro e w5 ⟨rfl, hb⟩; have HB5 := Aside0.mk (zaj_ HB4.out hb); clear hb))
                go_ret
                exact ⟨by rw [HRV.out]; rfl, HB5.out⟩
end Go.Proofs.YtgkjoodlcojkkaaDoor.QD
end
section
namespace Go.Proofs.YtgkjoodlcojkkaaDoor.QD
open Go.RowKit Go.Proofs.YtgkjoodlcojkkaaDoorW.PrintWords Go.Proofs.YtgkjoodlcojkkaaDoorW.PrintLast Go.Proofs.YtgkjoodlcojkkaaDoorW.PrintMore
attribute [local go_sem] zbd_ zbe_ zbm_ zbl_ zaW_ zaX_ zbc_ zbb_
set_option linter.unusedVariables false
set_option linter.unusedSimpArgs false
def zaR_.l0 : Nat → Int → Int → Int → List Int → List Int → List (S53) → Option (Int × Int)
  | 0, _, _, _, _, _, _ => none
  | k + 1, x27, x28, c4, c5, c6, c8 => if x28 < x27 then ((zbA_.f k c4 c5 c6 c8 x28).bind fun c0 => (if c0 = 0 then (zaR_.l0 k x27 (wrap64 (x28 + 1)) c4 c5 c6 c8) else (some (x28, c0)))) else (some ((-1), 0))
def zaR_.f (k : Nat) (a7 : Int) (a8 : List Int) (a9 : List Int) (a6 : List (S53)) : Option (Int × Int) := (zaQ_.f a7 1 3).bind fun d1 => (if d1 = true then ((zby_.f a7 a8 a9 a6).bind fun c2 => (if c2 = true then (if (a6.length : Int) > 6 then (some ((-1), 11)) else (if (a6.length : Int) = 0 then (some ((-1), 14)) else (zaR_.l0 k (a6.length : Int) 0 a7 a8 a9 a6))) else (some ((-1), 16)))) else (some ((-1), 10)))
theorem zaR_.mono_l : ∀ k, (∀ y0 y1 y2 y3 y4 y5, LeO (zaR_.l0 k y0 y1 y2 y3 y4 y5) (zaR_.l0 (k + 1) y0 y1 y2 y3 y4 y5))
  | 0 => fun _ _ _ _ _ _ r h => by simp [zaR_.l0] at h
  | k + 1 => by
    have ih0 := zaR_.mono_l k
    · intro y0 y1 y2 y3 y4 y5
      unfold zaR_.l0
      repeat' first
      | (with_reducible exact ih0 _ _ _ _ _ _)
      | (with_reducible exact zbA_.mono _ _ _ _ _ _)
      | (with_reducible exact LeO.refl _)
      | (with_reducible exact LeO.none _)
      | (with_reducible refine LeO.ite ?_ ?_)
      | (with_reducible refine LeO.bind ?_ (fun _ => ?_))
      | exact ih0 _ _ _ _ _ _
      | exact zbA_.mono _ _ _ _ _ _
      | exact LeO.none _
      | refine LeO.ite ?_ ?_
      | refine LeO.bind ?_ (fun _ => ?_)
theorem zaR_.mono : ∀ a0 a1 a2 a3 k, LeO (zaR_.f k a0 a1 a2 a3) (zaR_.f (k + 1) a0 a1 a2 a3) := by
  intro a0 a1 a2 a3 k
  have ih0 := zaR_.mono_l k
  unfold zaR_.f
  repeat' first
      | (with_reducible exact ih0 _ _ _ _ _ _)
      | (with_reducible exact zbA_.mono _ _ _ _ _ _)
      | (with_reducible exact LeO.refl _)
      | (with_reducible exact LeO.none _)
      | (with_reducible refine LeO.ite ?_ ?_)
      | (with_reducible refine LeO.bind ?_ (fun _ => ?_))
      | exact ih0 _ _ _ _ _ _
      | exact zbA_.mono _ _ _ _ _ _
      | exact LeO.none _
      | refine LeO.ite ?_ ?_
      | refine LeO.bind ?_ (fun _ => ?_)
set_option maxHeartbeats 8000000 in
set_option maxRecDepth 100000 in
theorem zaR_.calls (k : Nat) (a7 : Int) (b1 : Option Addr) (b2 : Nat) (a8 : List Int) (b3 : Option Addr) (b4 : Nat) (a9 : List Int) (b5 : Option Addr) (b6 : Nat) (a6 : List (S53)) (r1 : Int) (r2 : Int) (w : World) (d2 : Kd.C (Kd.int .i64) w b1 a8.length a8) (d3 : a8.length ≤ b2) (d4 : Kd.C (Kd.int .i64) w b3 a9.length a9) (d5 : a9.length ≤ b4) (d6 : Kd.C k53 w b5 a6.length a6) (d7 : a6.length ≤ b6) (h : zaR_.f k a7 a8 a9 a6 = some (r1, r2)) :
    Calls Tryd.prog 33 #[.agg #[.int .i64 a7, .slice b1 a8.length b2, .slice b3 a9.length b4, .slice b5 a6.length b6]] w fun e w' => e = .returned (.tuple #[.int .i64 r1, .int .i64 r2]) ∧ Below w.heap.size w w' := by
  have hu37 := Tryd.underlying37
  have HR0_1 := Aside0.mk d2
  have HC0_1 := Aside0.mk d3
  clear d2 d3
  have HR0_2 := Aside0.mk d4
  have HC0_2 := Aside0.mk d5
  clear d4 d5
  have HR0_3 := Aside0.mk d6
  have HC0_3 := Aside0.mk d7
  clear d6 d7
  have HB := Aside0.mk (Below.refl w.heap.size w)
  have H : ((zaQ_.f a7 1 3).bind fun d1 => (if d1 = true then ((zby_.f a7 a8 a9 a6).bind fun c2 => (if c2 = true then (if (a6.length : Int) > 6 then (some ((-1), 11)) else (if (a6.length : Int) = 0 then (some ((-1), 14)) else (zaR_.l0 k (a6.length : Int) 0 a7 a8 a9 a6))) else (some ((-1), 16)))) else (some ((-1), 10)))) = some (r1, r2) := h
  clear h
  replace H := Option.bind_eq_some_iff.mp H
  obtain ⟨d1, p8, H⟩ := H
  replace H : (if d1 = true then ((zby_.f a7 a8 a9 a6).bind fun c2 => (if c2 = true then (if (a6.length : Int) > 6 then (some ((-1), 11)) else (if (a6.length : Int) = 0 then (some ((-1), 14)) else (zaR_.l0 k (a6.length : Int) 0 a7 a8 a9 a6))) else (some ((-1), 16)))) else (some ((-1), 10))) = some (r1, r2) := H
  have A2 := Aside0.mk p8
  clear p8
  by_cases c3 : d1 = true
  rotate_left
  · replace c3 := Bool.eq_false_iff.mpr c3
    subst c3
    rw [if_neg (show ¬ (false = true) by decide)] at H
    simp only [Option.some.injEq, Prod.mk.injEq] at H
    obtain ⟨rfl, rfl⟩ := H
    go_enter Tryd.func33, Tryd.ntmps33
    go_wp2_with (first | ((with_reducible refine zaL_ (N := 1) rfl ?_); refine zaD_ ?hg (N := 1) ?hd (cs := #[.int .i64 a7, .slice b1 a8.length b2, .slice b3 a9.length b4, .slice b5 a6.length b6]) (t := 37) ?hr ?_; (case hd => rfl); (case hg => rfl); (case hr => first | (go_simp; done) | (go_simp; rfl)); intro a5 hg w4 hbox hb; have b8 := Aside0.mk (zaj_ (HB.out) hb); have b9 := Aside0.mk (hbox); have c1 := Aside0.mk ((by rw [hg]; exact (zam_ (HB.out)) : w.heap.size ≤ a5)); have c9 := Aside0.mk ((by rw [hg]; exact (zam_ (HB.out)) : w.heap.size ≤ a5)); clear HB; have HB := b8; have a4 := b9; have d0 := c1; have b0 := c9; clear b8 b9 c1 c9; clear hb hbox hg; have o2 : w4.cell? ⟨a5, 0, none⟩ = some (.int .i64 a7) := (zab_ a4.out 0).trans rfl; have o3 : w4.cell? ⟨a5, 1, none⟩ = some (.slice b1 a8.length b2) := (zab_ a4.out 1).trans rfl; have o4 : w4.cell? ⟨a5, 2, none⟩ = some (.slice b3 a9.length b4) := (zab_ a4.out 2).trans rfl; have o5 : w4.cell? ⟨a5, 3, none⟩ = some (.slice b5 a6.length b6) := (zab_ a4.out 3).trans rfl; have o6 := zaa_ a4.out 0; have o7 := zaa_ a4.out 1; have o8 := zaa_ a4.out 2; have o9 := zaa_ a4.out 3) | ((with_reducible refine zar_ (f := 52) rfl ?_); refine goesL_ (some 9) rfl rfl Tryd.func52 (by kernel_rfl) rfl #[.int .i64 a7, .int .i64 1, .int .i64 3] rfl (by (try simp only [List.map_toArray, List.map_cons, List.map_nil]); first | done | rfl | (simp only [List.length_drop, List.length_take]; rfl)) ?_; (with_reducible refine (zaQ_.calls a7 1 3 false _ A2.out).mono ?_); rintro e w' ⟨rfl, ⟨nd, rfl⟩⟩; refine ⟨_, rfl, ?_⟩))
    go_ret2
    exact ⟨by first | rfl | (simp [zal_, zak_] <;> rfl) | (simp [*, zal_, zak_] <;> rfl), by repeat (first | (with_reducible first | exact HB.out | apply zah_ | apply zae_ | apply zag_ | refine zai_ ?_ b0.out) | exact HB.out)⟩
  subst c3
  rw [if_pos rfl] at H
  replace H := Option.bind_eq_some_iff.mp H
  obtain ⟨c2, p9, H⟩ := H
  replace H : (if c2 = true then (if (a6.length : Int) > 6 then (some ((-1), 11)) else (if (a6.length : Int) = 0 then (some ((-1), 14)) else (zaR_.l0 k (a6.length : Int) 0 a7 a8 a9 a6))) else (some ((-1), 16))) = some (r1, r2) := H
  have A6 := Aside0.mk p9
  clear p9
  by_cases c7 : c2 = true
  rotate_left
  · replace c7 := Bool.eq_false_iff.mpr c7
    subst c7
    rw [if_neg (show ¬ (false = true) by decide)] at H
    simp only [Option.some.injEq, Prod.mk.injEq] at H
    obtain ⟨rfl, rfl⟩ := H
    go_enter Tryd.func33, Tryd.ntmps33
    go_wp2_with (first | ((with_reducible refine zaL_ (N := 1) rfl ?_); refine zaD_ ?hg (N := 1) ?hd (cs := #[.int .i64 a7, .slice b1 a8.length b2, .slice b3 a9.length b4, .slice b5 a6.length b6]) (t := 37) ?hr ?_; (case hd => rfl); (case hg => rfl); (case hr => first | (go_simp; done) | (go_simp; rfl)); intro a5 hg w8 hbox hb; have b8 := Aside0.mk (zaj_ (HB.out) hb); have b9 := Aside0.mk (hbox); have c1 := Aside0.mk ((by rw [hg]; exact (zam_ (HB.out)) : w.heap.size ≤ a5)); have c9 := c1; clear HB; have HB := b8; have a4 := b9; have d0 := c1; have b0 := c9; clear b8 b9 c1 c9; clear hb hbox hg; have p0 : w8.cell? ⟨a5, 0, none⟩ = some (.int .i64 a7) := (zab_ a4.out 0).trans rfl; have p1 : w8.cell? ⟨a5, 1, none⟩ = some (.slice b1 a8.length b2) := (zab_ a4.out 1).trans rfl; have p2 : w8.cell? ⟨a5, 2, none⟩ = some (.slice b3 a9.length b4) := (zab_ a4.out 2).trans rfl; have p3 : w8.cell? ⟨a5, 3, none⟩ = some (.slice b5 a6.length b6) := (zab_ a4.out 3).trans rfl; have p4 := zaa_ a4.out 0; have p5 := zaa_ a4.out 1; have p6 := zaa_ a4.out 2; have p7 := zaa_ a4.out 3) | ((with_reducible refine zar_ (f := 52) rfl ?_); refine goesL_ (some 9) rfl rfl Tryd.func52 (by kernel_rfl) rfl #[.int .i64 a7, .int .i64 1, .int .i64 3] rfl (by (try simp only [List.map_toArray, List.map_cons, List.map_nil]); first | done | rfl | (simp only [List.length_drop, List.length_take]; rfl)) ?_; (with_reducible refine (zaQ_.calls a7 1 3 true _ A2.out).mono ?_); rintro e w' ⟨rfl, ⟨nd, rfl⟩⟩; refine ⟨_, rfl, ?_⟩) | ((with_reducible refine zar_ (f := 53) rfl ?_); refine goesL_ (some 13) rfl rfl Tryd.func53 (by kernel_rfl) rfl #[.agg #[.int .i64 a7, .slice b1 a8.length b2, .slice b3 a9.length b4, .slice b5 a6.length b6]] rfl (by (try simp only [List.map_toArray, List.map_cons, List.map_nil]); first | done | rfl | (simp only [List.length_drop, List.length_take]; rfl)) ?_; (with_reducible refine (zby_.calls a7 _ _ a8 _ _ a9 _ _ a6 false _ ?side1 ?side2 ?side3 ?side4 ?side5 ?side6 A6.out).mono ?_); (case side1 => repeat (first | exact (Kd.zaB_ HR0_1.out (by repeat (first | (with_reducible first | exact HB.out | apply zah_ | apply zae_ | apply zag_ | refine zai_ ?_ b0.out) | exact HB.out))) | (with_reducible refine Kd.zaI_ ?_ _) | (with_reducible refine Kd.zaJ_ ?_ _) | (with_reducible refine Kd.C_drew ?_))); (case side2 => exact HC0_1.out); (case side3 => repeat (first | exact (Kd.zaB_ HR0_2.out (by repeat (first | (with_reducible first | exact HB.out | apply zah_ | apply zae_ | apply zag_ | refine zai_ ?_ b0.out) | exact HB.out))) | (with_reducible refine Kd.zaI_ ?_ _) | (with_reducible refine Kd.zaJ_ ?_ _) | (with_reducible refine Kd.C_drew ?_))); (case side4 => exact HC0_2.out); (case side5 => repeat (first | exact (Kd.zaB_ HR0_3.out (by repeat (first | (with_reducible first | exact HB.out | apply zah_ | apply zae_ | apply zag_ | refine zai_ ?_ b0.out) | exact HB.out))) | (with_reducible refine Kd.zaI_ ?_ _) | (with_reducible refine Kd.zaJ_ ?_ _) | (with_reducible refine Kd.C_drew ?_))); (case side6 => exact HC0_3.out); rintro e q4 ⟨rfl, hb⟩; refine ⟨_, rfl, ?_⟩; have b8 := Aside0.mk (zan_ (g := a5) (o := .cells #[.int .i64 a7, .slice b1 a8.length b2, .slice b3 a9.length b4, .slice b5 a6.length b6] 37 (0, 0)) (by (with_reducible repeat (first | refine zac_ ?_ _ | refine zaf_ ?_ | refine zad_ ?_ _)); exact a4.out) hb); have b9 := Aside0.mk (zaj_ (by repeat (first | (with_reducible first | exact HB.out | apply zah_ | apply zae_ | apply zag_ | refine zai_ ?_ b0.out) | exact HB.out)) hb); clear a4; clear HB; have a4 := b8; have HB := b9; clear b8 b9; (try clear hb); (try clear hb2); (try clear hk); (try clear hi)))
    go_ret2
    exact ⟨by first | rfl | (simp [zal_, zak_] <;> rfl) | (simp [*, zal_, zak_] <;> rfl), HB.out⟩
  subst c7
  rw [if_pos rfl] at H
  by_cases e0 : (a6.length : Int) > 6
  · rw [if_pos e0] at H
    have e2 : decide (6 < (a6.length : Int)) = true := decide_eq_true e0
    have e3 : decide (6 < a6.length) = true := decide_eq_true (by omega)
    clear e0
    simp only [Option.some.injEq, Prod.mk.injEq] at H
    obtain ⟨rfl, rfl⟩ := H
    go_enter Tryd.func33, Tryd.ntmps33
    go_wp2_with (first | ((with_reducible refine zaL_ (N := 1) rfl ?_); refine zaD_ ?hg (N := 1) ?hd (cs := #[.int .i64 a7, .slice b1 a8.length b2, .slice b3 a9.length b4, .slice b5 a6.length b6]) (t := 37) ?hr ?_; (case hd => rfl); (case hg => rfl); (case hr => first | (go_simp; done) | (go_simp; rfl)); intro a5 hg g0 hbox hb; have b8 := Aside0.mk (zaj_ (HB.out) hb); have b9 := Aside0.mk (hbox); have c1 := Aside0.mk ((by rw [hg]; exact (zam_ (HB.out)) : w.heap.size ≤ a5)); have c9 := c1; clear HB; have HB := b8; have a4 := b9; have d0 := c1; have b0 := c9; clear b8 b9 c1 c9; clear hb hbox hg; have g1 : g0.cell? ⟨a5, 0, none⟩ = some (.int .i64 a7) := (zab_ a4.out 0).trans rfl; have g2 : g0.cell? ⟨a5, 1, none⟩ = some (.slice b1 a8.length b2) := (zab_ a4.out 1).trans rfl; have g3 : g0.cell? ⟨a5, 2, none⟩ = some (.slice b3 a9.length b4) := (zab_ a4.out 2).trans rfl; have g4 : g0.cell? ⟨a5, 3, none⟩ = some (.slice b5 a6.length b6) := (zab_ a4.out 3).trans rfl; have g5 := zaa_ a4.out 0; have g6 := zaa_ a4.out 1; have g7 := zaa_ a4.out 2; have g8 := zaa_ a4.out 3) | ((with_reducible refine zar_ (f := 52) rfl ?_); refine goesL_ (some 9) rfl rfl Tryd.func52 (by kernel_rfl) rfl #[.int .i64 a7, .int .i64 1, .int .i64 3] rfl (by (try simp only [List.map_toArray, List.map_cons, List.map_nil]); first | done | rfl | (simp only [List.length_drop, List.length_take]; rfl)) ?_; (with_reducible refine (zaQ_.calls a7 1 3 true _ A2.out).mono ?_); rintro e w' ⟨rfl, ⟨nd, rfl⟩⟩; refine ⟨_, rfl, ?_⟩) | ((with_reducible refine zar_ (f := 53) rfl ?_); refine goesL_ (some 13) rfl rfl Tryd.func53 (by kernel_rfl) rfl #[.agg #[.int .i64 a7, .slice b1 a8.length b2, .slice b3 a9.length b4, .slice b5 a6.length b6]] rfl (by (try simp only [List.map_toArray, List.map_cons, List.map_nil]); first | done | rfl | (simp only [List.length_drop, List.length_take]; rfl)) ?_; (with_reducible refine (zby_.calls a7 _ _ a8 _ _ a9 _ _ a6 true _ ?side1 ?side2 ?side3 ?side4 ?side5 ?side6 A6.out).mono ?_); (case side1 => repeat (first | exact (Kd.zaB_ HR0_1.out (by repeat (first | (with_reducible first | exact HB.out | apply zah_ | apply zae_ | apply zag_ | refine zai_ ?_ b0.out) | exact HB.out))) | (with_reducible refine Kd.zaI_ ?_ _) | (with_reducible refine Kd.zaJ_ ?_ _) | (with_reducible refine Kd.C_drew ?_))); (case side2 => exact HC0_1.out); (case side3 => repeat (first | exact (Kd.zaB_ HR0_2.out (by repeat (first | (with_reducible first | exact HB.out | apply zah_ | apply zae_ | apply zag_ | refine zai_ ?_ b0.out) | exact HB.out))) | (with_reducible refine Kd.zaI_ ?_ _) | (with_reducible refine Kd.zaJ_ ?_ _) | (with_reducible refine Kd.C_drew ?_))); (case side4 => exact HC0_2.out); (case side5 => repeat (first | exact (Kd.zaB_ HR0_3.out (by repeat (first | (with_reducible first | exact HB.out | apply zah_ | apply zae_ | apply zag_ | refine zai_ ?_ b0.out) | exact HB.out))) | (with_reducible refine Kd.zaI_ ?_ _) | (with_reducible refine Kd.zaJ_ ?_ _) | (with_reducible refine Kd.C_drew ?_))); (case side6 => exact HC0_3.out); rintro e g9 ⟨rfl, hb⟩; refine ⟨_, rfl, ?_⟩; have b8 := Aside0.mk (zan_ (g := a5) (o := .cells #[.int .i64 a7, .slice b1 a8.length b2, .slice b3 a9.length b4, .slice b5 a6.length b6] 37 (0, 0)) (by (with_reducible repeat (first | refine zac_ ?_ _ | refine zaf_ ?_ | refine zad_ ?_ _)); exact a4.out) hb); have b9 := Aside0.mk (zaj_ (by repeat (first | (with_reducible first | exact HB.out | apply zah_ | apply zae_ | apply zag_ | refine zai_ ?_ b0.out) | exact HB.out)) hb); clear a4; clear HB; have a4 := b8; have HB := b9; clear b8 b9; (try clear hb); (try clear hb2); (try clear hk); (try clear hi); have h0 : g9.cell? ⟨a5, 0, none⟩ = some (.int .i64 a7) := (zab_ a4.out 0).trans rfl; have h1 : g9.cell? ⟨a5, 1, none⟩ = some (.slice b1 a8.length b2) := (zab_ a4.out 1).trans rfl; have h2 : g9.cell? ⟨a5, 2, none⟩ = some (.slice b3 a9.length b4) := (zab_ a4.out 2).trans rfl; have h3 : g9.cell? ⟨a5, 3, none⟩ = some (.slice b5 a6.length b6) := (zab_ a4.out 3).trans rfl; have h4 := zaa_ a4.out 0; have h5 := zaa_ a4.out 1; have h6 := zaa_ a4.out 2; have h7 := zaa_ a4.out 3))
    go_ret2
    exact ⟨by first | rfl | (simp [zal_, zak_] <;> rfl) | (simp [*, zal_, zak_] <;> rfl), HB.out⟩
  rw [if_neg e0] at H
  have e2 : decide (6 < (a6.length : Int)) = false := decide_eq_false e0
  have e3 : decide (6 < a6.length) = false := decide_eq_false (by omega)
  clear e0
  by_cases d8 : (a6.length : Int) = 0
  · rw [if_pos d8] at H
    have e4 : ((a6.length : Int) == 0) = true := beq_iff_eq.mpr d8
    have e5 : ((a6.length : Int) != 0) = false := bne_eq_false_iff_eq.mpr d8
    clear d8
    simp only [Option.some.injEq, Prod.mk.injEq] at H
    obtain ⟨rfl, rfl⟩ := H
    go_enter Tryd.func33, Tryd.ntmps33
    go_wp2_with (first | ((with_reducible refine zaL_ (N := 1) rfl ?_); refine zaD_ ?hg (N := 1) ?hd (cs := #[.int .i64 a7, .slice b1 a8.length b2, .slice b3 a9.length b4, .slice b5 a6.length b6]) (t := 37) ?hr ?_; (case hd => rfl); (case hg => rfl); (case hr => first | (go_simp; done) | (go_simp; rfl)); intro a5 hg h8 hbox hb; have b8 := Aside0.mk (zaj_ (HB.out) hb); have b9 := Aside0.mk (hbox); have c1 := Aside0.mk ((by rw [hg]; exact (zam_ (HB.out)) : w.heap.size ≤ a5)); have c9 := c1; clear HB; have HB := b8; have a4 := b9; have d0 := c1; have b0 := c9; clear b8 b9 c1 c9; clear hb hbox hg; have h9 : h8.cell? ⟨a5, 0, none⟩ = some (.int .i64 a7) := (zab_ a4.out 0).trans rfl; have j0 : h8.cell? ⟨a5, 1, none⟩ = some (.slice b1 a8.length b2) := (zab_ a4.out 1).trans rfl; have j1 : h8.cell? ⟨a5, 2, none⟩ = some (.slice b3 a9.length b4) := (zab_ a4.out 2).trans rfl; have j2 : h8.cell? ⟨a5, 3, none⟩ = some (.slice b5 a6.length b6) := (zab_ a4.out 3).trans rfl; have j3 := zaa_ a4.out 0; have j4 := zaa_ a4.out 1; have j5 := zaa_ a4.out 2; have j6 := zaa_ a4.out 3) | ((with_reducible refine zar_ (f := 52) rfl ?_); refine goesL_ (some 9) rfl rfl Tryd.func52 (by kernel_rfl) rfl #[.int .i64 a7, .int .i64 1, .int .i64 3] rfl (by (try simp only [List.map_toArray, List.map_cons, List.map_nil]); first | done | rfl | (simp only [List.length_drop, List.length_take]; rfl)) ?_; (with_reducible refine (zaQ_.calls a7 1 3 true _ A2.out).mono ?_); rintro e w' ⟨rfl, ⟨nd, rfl⟩⟩; refine ⟨_, rfl, ?_⟩) | ((with_reducible refine zar_ (f := 53) rfl ?_); refine goesL_ (some 13) rfl rfl Tryd.func53 (by kernel_rfl) rfl #[.agg #[.int .i64 a7, .slice b1 a8.length b2, .slice b3 a9.length b4, .slice b5 a6.length b6]] rfl (by (try simp only [List.map_toArray, List.map_cons, List.map_nil]); first | done | rfl | (simp only [List.length_drop, List.length_take]; rfl)) ?_; (with_reducible refine (zby_.calls a7 _ _ a8 _ _ a9 _ _ a6 true _ ?side1 ?side2 ?side3 ?side4 ?side5 ?side6 A6.out).mono ?_); (case side1 => repeat (first | exact (Kd.zaB_ HR0_1.out (by repeat (first | (with_reducible first | exact HB.out | apply zah_ | apply zae_ | apply zag_ | refine zai_ ?_ b0.out) | exact HB.out))) | (with_reducible refine Kd.zaI_ ?_ _) | (with_reducible refine Kd.zaJ_ ?_ _) | (with_reducible refine Kd.C_drew ?_))); (case side2 => exact HC0_1.out); (case side3 => repeat (first | exact (Kd.zaB_ HR0_2.out (by repeat (first | (with_reducible first | exact HB.out | apply zah_ | apply zae_ | apply zag_ | refine zai_ ?_ b0.out) | exact HB.out))) | (with_reducible refine Kd.zaI_ ?_ _) | (with_reducible refine Kd.zaJ_ ?_ _) | (with_reducible refine Kd.C_drew ?_))); (case side4 => exact HC0_2.out); (case side5 => repeat (first | exact (Kd.zaB_ HR0_3.out (by repeat (first | (with_reducible first | exact HB.out | apply zah_ | apply zae_ | apply zag_ | refine zai_ ?_ b0.out) | exact HB.out))) | (with_reducible refine Kd.zaI_ ?_ _) | (with_reducible refine Kd.zaJ_ ?_ _) | (with_reducible refine Kd.C_drew ?_))); (case side6 => exact HC0_3.out); rintro e j7 ⟨rfl, hb⟩; refine ⟨_, rfl, ?_⟩; have b8 := Aside0.mk (zan_ (g := a5) (o := .cells #[.int .i64 a7, .slice b1 a8.length b2, .slice b3 a9.length b4, .slice b5 a6.length b6] 37 (0, 0)) (by (with_reducible repeat (first | refine zac_ ?_ _ | refine zaf_ ?_ | refine zad_ ?_ _)); exact a4.out) hb); have b9 := Aside0.mk (zaj_ (by repeat (first | (with_reducible first | exact HB.out | apply zah_ | apply zae_ | apply zag_ | refine zai_ ?_ b0.out) | exact HB.out)) hb); clear a4; clear HB; have a4 := b8; have HB := b9; clear b8 b9; (try clear hb); (try clear hb2); (try clear hk); (try clear hi); have j8 : j7.cell? ⟨a5, 0, none⟩ = some (.int .i64 a7) := (zab_ a4.out 0).trans rfl; have j9 : j7.cell? ⟨a5, 1, none⟩ = some (.slice b1 a8.length b2) := (zab_ a4.out 1).trans rfl; have k0 : j7.cell? ⟨a5, 2, none⟩ = some (.slice b3 a9.length b4) := (zab_ a4.out 2).trans rfl; have k2 : j7.cell? ⟨a5, 3, none⟩ = some (.slice b5 a6.length b6) := (zab_ a4.out 3).trans rfl; have k3 := zaa_ a4.out 0; have k4 := zaa_ a4.out 1; have k5 := zaa_ a4.out 2; have k6 := zaa_ a4.out 3))
    go_ret2
    exact ⟨by first | rfl | (simp [zal_, zak_] <;> rfl) | (simp [*, zal_, zak_] <;> rfl), HB.out⟩
  rw [if_neg d8] at H
  have e4 : ((a6.length : Int) == 0) = false := beq_eq_false_iff_ne.mpr d8
  have e5 : ((a6.length : Int) != 0) = true := bne_iff_ne.mpr d8
  have q0 : ¬ (a6 = []) := fun h_ => d8 (by rw [h_]; rfl)
  have H' := Aside0.mk H
  clear H
  go_enter Tryd.func33, Tryd.ntmps33
  go_wp2_with (first | ((with_reducible refine zaL_ (N := 1) rfl ?_); refine zaD_ ?hg (N := 1) ?hd (cs := #[.int .i64 a7, .slice b1 a8.length b2, .slice b3 a9.length b4, .slice b5 a6.length b6]) (t := 37) ?hr ?_; (case hd => rfl); (case hg => rfl); (case hr => first | (go_simp; done) | (go_simp; rfl)); intro a5 hg k7 hbox hb; have b8 := Aside0.mk (zaj_ (HB.out) hb); have b9 := Aside0.mk (hbox); have c1 := Aside0.mk ((by rw [hg]; exact (zam_ (HB.out)) : w.heap.size ≤ a5)); have c9 := c1; clear HB; have HB := b8; have a4 := b9; have d0 := c1; have b0 := c9; clear b8 b9 c1 c9; clear hb hbox hg; have k8 : k7.cell? ⟨a5, 0, none⟩ = some (.int .i64 a7) := (zab_ a4.out 0).trans rfl; have k9 : k7.cell? ⟨a5, 1, none⟩ = some (.slice b1 a8.length b2) := (zab_ a4.out 1).trans rfl; have l1 : k7.cell? ⟨a5, 2, none⟩ = some (.slice b3 a9.length b4) := (zab_ a4.out 2).trans rfl; have l2 : k7.cell? ⟨a5, 3, none⟩ = some (.slice b5 a6.length b6) := (zab_ a4.out 3).trans rfl; have l3 := zaa_ a4.out 0; have l4 := zaa_ a4.out 1; have l5 := zaa_ a4.out 2; have l6 := zaa_ a4.out 3) | ((with_reducible refine zar_ (f := 52) rfl ?_); refine goesL_ (some 9) rfl rfl Tryd.func52 (by kernel_rfl) rfl #[.int .i64 a7, .int .i64 1, .int .i64 3] rfl (by (try simp only [List.map_toArray, List.map_cons, List.map_nil]); first | done | rfl | (simp only [List.length_drop, List.length_take]; rfl)) ?_; (with_reducible refine (zaQ_.calls a7 1 3 true _ A2.out).mono ?_); rintro e w' ⟨rfl, ⟨nd, rfl⟩⟩; refine ⟨_, rfl, ?_⟩) | ((with_reducible refine zar_ (f := 53) rfl ?_); refine goesL_ (some 13) rfl rfl Tryd.func53 (by kernel_rfl) rfl #[.agg #[.int .i64 a7, .slice b1 a8.length b2, .slice b3 a9.length b4, .slice b5 a6.length b6]] rfl (by (try simp only [List.map_toArray, List.map_cons, List.map_nil]); first | done | rfl | (simp only [List.length_drop, List.length_take]; rfl)) ?_; (with_reducible refine (zby_.calls a7 _ _ a8 _ _ a9 _ _ a6 true _ ?side1 ?side2 ?side3 ?side4 ?side5 ?side6 A6.out).mono ?_); (case side1 => repeat (first | exact (Kd.zaB_ HR0_1.out (by repeat (first | (with_reducible first | exact HB.out | apply zah_ | apply zae_ | apply zag_ | refine zai_ ?_ b0.out) | exact HB.out))) | (with_reducible refine Kd.zaI_ ?_ _) | (with_reducible refine Kd.zaJ_ ?_ _) | (with_reducible refine Kd.C_drew ?_))); (case side2 => exact HC0_1.out); (case side3 => repeat (first | exact (Kd.zaB_ HR0_2.out (by repeat (first | (with_reducible first | exact HB.out | apply zah_ | apply zae_ | apply zag_ | refine zai_ ?_ b0.out) | exact HB.out))) | (with_reducible refine Kd.zaI_ ?_ _) | (with_reducible refine Kd.zaJ_ ?_ _) | (with_reducible refine Kd.C_drew ?_))); (case side4 => exact HC0_2.out); (case side5 => repeat (first | exact (Kd.zaB_ HR0_3.out (by repeat (first | (with_reducible first | exact HB.out | apply zah_ | apply zae_ | apply zag_ | refine zai_ ?_ b0.out) | exact HB.out))) | (with_reducible refine Kd.zaI_ ?_ _) | (with_reducible refine Kd.zaJ_ ?_ _) | (with_reducible refine Kd.C_drew ?_))); (case side6 => exact HC0_3.out); rintro e l7 ⟨rfl, hb⟩; refine ⟨_, rfl, ?_⟩; have b8 := Aside0.mk (zan_ (g := a5) (o := .cells #[.int .i64 a7, .slice b1 a8.length b2, .slice b3 a9.length b4, .slice b5 a6.length b6] 37 (0, 0)) (by (with_reducible repeat (first | refine zac_ ?_ _ | refine zaf_ ?_ | refine zad_ ?_ _)); exact a4.out) hb); have b9 := Aside0.mk (zaj_ (by repeat (first | (with_reducible first | exact HB.out | apply zah_ | apply zae_ | apply zag_ | refine zai_ ?_ b0.out) | exact HB.out)) hb); clear a4; clear HB; have a4 := b8; have HB := b9; clear b8 b9; (try clear hb); (try clear hb2); (try clear hk); (try clear hi); have l8 : l7.cell? ⟨a5, 0, none⟩ = some (.int .i64 a7) := (zab_ a4.out 0).trans rfl; have l9 : l7.cell? ⟨a5, 1, none⟩ = some (.slice b1 a8.length b2) := (zab_ a4.out 1).trans rfl; have m0 : l7.cell? ⟨a5, 2, none⟩ = some (.slice b3 a9.length b4) := (zab_ a4.out 2).trans rfl; have m1 : l7.cell? ⟨a5, 3, none⟩ = some (.slice b5 a6.length b6) := (zab_ a4.out 3).trans rfl; have m2 := zaa_ a4.out 0; have m3 := zaa_ a4.out 1; have m4 := zaa_ a4.out 2; have m5 := zaa_ a4.out 3))
  go_loopg [28] k (fun kq q3 w' => ∃ (b7 : Int), q3 = .int .i64 b7 ∧ Aside0 (zaR_.l0 kq (a6.length : Int) b7 a7 a8 a9 a6 = some (r1, r2)) ∧ Aside0 (kq ≤ k) ∧ Aside0 (w'.heap[a5]? = some (.cells #[.int .i64 a7, (.slice b1 a8.length b2), (.slice b3 a9.length b4), (.slice b5 a6.length b6)] 37 (0, 0))) ∧ Aside0 (Below w.heap.size w w'))
  case atStart => exact ⟨(0), (by first | rfl | (simp; done) | (simp [*]; done)), H', ⟨Nat.le_refl _⟩, ⟨a4.out⟩, ⟨HB.out⟩⟩
  clear H'
  obtain ⟨b7, rfl, HA, q1, a4, HB⟩ := hrel
  cases gk with
  | zero => exact absurd HA.out (by simp [zaR_.l0])
  | succ k1 => ?_
  have H := HA.out
  clear HA
  simp only [zaR_.l0] at H
  by_cases e1 : b7 < (a6.length : Int)
  rotate_left
  · rw [if_neg e1] at H
    have e6 : decide (b7 < (a6.length : Int)) = false := decide_eq_false e1
    clear e1
    simp only [Option.some.injEq, Prod.mk.injEq] at H
    obtain ⟨rfl, rfl⟩ := H
    go_wp2
    go_ret2
    exact ⟨by first | rfl | (simp [zal_, zak_] <;> rfl) | (simp [*, zal_, zak_] <;> rfl), HB.out⟩
  rw [if_pos e1] at H
  have e6 : decide (b7 < (a6.length : Int)) = true := decide_eq_true e1
  clear e1
  replace H := Option.bind_eq_some_iff.mp H
  obtain ⟨c0, e7, H⟩ := H
  replace H : (if c0 = 0 then (zaR_.l0 k1 (a6.length : Int) (wrap64 (b7 + 1)) a7 a8 a9 a6) else (some (b7, c0))) = some (r1, r2) := H
  have q2 := Aside0.mk e7
  clear e7
  by_cases d9 : c0 = 0
  rotate_left
  · rw [if_neg d9] at H
    have e8 : (c0 == 0) = false := beq_eq_false_iff_ne.mpr d9
    have e9 : (c0 != 0) = true := bne_iff_ne.mpr d9
    simp only [Option.some.injEq, Prod.mk.injEq] at H
    obtain ⟨rfl, rfl⟩ := H
    have m6 : wr.cell? ⟨a5, 0, none⟩ = some (.int .i64 a7) := (zab_ a4.out 0).trans rfl
    have m7 : wr.cell? ⟨a5, 1, none⟩ = some (.slice b1 a8.length b2) := (zab_ a4.out 1).trans rfl
    have m8 : wr.cell? ⟨a5, 2, none⟩ = some (.slice b3 a9.length b4) := (zab_ a4.out 2).trans rfl
    have m9 : wr.cell? ⟨a5, 3, none⟩ = some (.slice b5 a6.length b6) := (zab_ a4.out 3).trans rfl
    have n0 := zaa_ a4.out 0
    have n1 := zaa_ a4.out 1
    have n2 := zaa_ a4.out 2
    have n3 := zaa_ a4.out 3
    go_wp2_with (first | ((with_reducible refine zar_ (f := 54) rfl ?_); refine goesL_ (some 33) rfl rfl Tryd.func54 (by kernel_rfl) rfl #[.agg #[.int .i64 a7, .slice b1 a8.length b2, .slice b3 a9.length b4, .slice b5 a6.length b6], .int .i64 b7] rfl (by (try simp only [List.map_toArray, List.map_cons, List.map_nil]); first | done | rfl | (simp only [List.length_drop, List.length_take]; rfl)) ?_; (with_reducible refine (zbA_.calls k1 a7 _ _ a8 _ _ a9 _ _ a6 b7 c0 _ ?side1 ?side2 ?side3 ?side4 ?side5 ?side6 q2.out).mono ?_); (case side1 => repeat (first | exact (Kd.zaB_ HR0_1.out HB.out) | (with_reducible refine Kd.zaI_ ?_ _) | (with_reducible refine Kd.zaJ_ ?_ _) | (with_reducible refine Kd.C_drew ?_))); (case side2 => exact HC0_1.out); (case side3 => repeat (first | exact (Kd.zaB_ HR0_2.out HB.out) | (with_reducible refine Kd.zaI_ ?_ _) | (with_reducible refine Kd.zaJ_ ?_ _) | (with_reducible refine Kd.C_drew ?_))); (case side4 => exact HC0_2.out); (case side5 => repeat (first | exact (Kd.zaB_ HR0_3.out HB.out) | (with_reducible refine Kd.zaI_ ?_ _) | (with_reducible refine Kd.zaJ_ ?_ _) | (with_reducible refine Kd.C_drew ?_))); (case side6 => exact HC0_3.out); rintro e q5 ⟨rfl, hb⟩; refine ⟨_, rfl, ?_⟩; have b8 := Aside0.mk (zan_ a4.out hb); have b9 := Aside0.mk (zaj_ (HB.out) hb); clear a4; clear HB; have a4 := b8; have HB := b9; clear b8 b9; (try clear hb); (try clear hb2); (try clear hk); (try clear hi)))
    go_ret2
    exact ⟨by first | rfl | (simp [zal_, zak_] <;> rfl) | (simp [*, zal_, zak_] <;> rfl), HB.out⟩
  rw [if_pos d9] at H
  have e8 : (c0 == 0) = true := beq_iff_eq.mpr d9
  have e9 : (c0 != 0) = false := bne_eq_false_iff_eq.mpr d9
  clear d9
  have H' := Aside0.mk H
  clear H
  have n4 : wr.cell? ⟨a5, 0, none⟩ = some (.int .i64 a7) := (zab_ a4.out 0).trans rfl
  have n5 : wr.cell? ⟨a5, 1, none⟩ = some (.slice b1 a8.length b2) := (zab_ a4.out 1).trans rfl
  have n6 : wr.cell? ⟨a5, 2, none⟩ = some (.slice b3 a9.length b4) := (zab_ a4.out 2).trans rfl
  have n7 : wr.cell? ⟨a5, 3, none⟩ = some (.slice b5 a6.length b6) := (zab_ a4.out 3).trans rfl
  have n8 := zaa_ a4.out 0
  have n9 := zaa_ a4.out 1
  have o0 := zaa_ a4.out 2
  have o1 := zaa_ a4.out 3
  go_wp2_with (first | ((with_reducible refine zar_ (f := 54) rfl ?_); refine goesL_ (some 33) rfl rfl Tryd.func54 (by kernel_rfl) rfl #[.agg #[.int .i64 a7, .slice b1 a8.length b2, .slice b3 a9.length b4, .slice b5 a6.length b6], .int .i64 b7] rfl (by (try simp only [List.map_toArray, List.map_cons, List.map_nil]); first | done | rfl | (simp only [List.length_drop, List.length_take]; rfl)) ?_; (with_reducible refine (zbA_.calls k1 a7 _ _ a8 _ _ a9 _ _ a6 b7 c0 _ ?side1 ?side2 ?side3 ?side4 ?side5 ?side6 q2.out).mono ?_); (case side1 => repeat (first | exact (Kd.zaB_ HR0_1.out HB.out) | (with_reducible refine Kd.zaI_ ?_ _) | (with_reducible refine Kd.zaJ_ ?_ _) | (with_reducible refine Kd.C_drew ?_))); (case side2 => exact HC0_1.out); (case side3 => repeat (first | exact (Kd.zaB_ HR0_2.out HB.out) | (with_reducible refine Kd.zaI_ ?_ _) | (with_reducible refine Kd.zaJ_ ?_ _) | (with_reducible refine Kd.C_drew ?_))); (case side4 => exact HC0_2.out); (case side5 => repeat (first | exact (Kd.zaB_ HR0_3.out HB.out) | (with_reducible refine Kd.zaI_ ?_ _) | (with_reducible refine Kd.zaJ_ ?_ _) | (with_reducible refine Kd.C_drew ?_))); (case side6 => exact HC0_3.out); rintro e q6 ⟨rfl, hb⟩; refine ⟨_, rfl, ?_⟩; have b8 := Aside0.mk (zan_ a4.out hb); have b9 := Aside0.mk (zaj_ (HB.out) hb); clear a4; clear HB; have a4 := b8; have HB := b9; clear b8 b9; (try clear hb); (try clear hb2); (try clear hk); (try clear hi)))
  go_roundg k1
  case measure => have := q1.out; omega
  case rel => exact ⟨(wrap64 (b7 + 1)), (by first | rfl | (simp; done) | (simp [*]; done)), H', ⟨by have := q1.out; omega⟩, ⟨a4.out⟩, ⟨HB.out⟩⟩
end Go.Proofs.YtgkjoodlcojkkaaDoor.QD
end
section
namespace Go.Proofs.YtgkjoodlcojkkaaDoor.QD
open Go.RowKit Go.Proofs.YtgkjoodlcojkkaaDoorW.PrintWords Go.Proofs.YtgkjoodlcojkkaaDoorW.PrintLast Go.Proofs.YtgkjoodlcojkkaaDoorW.PrintMore
attribute [local go_sem] zbd_ zbe_ zbm_ zbl_ zaW_ zaX_ zbc_ zbb_
set_option linter.unusedVariables false
set_option linter.unusedSimpArgs false
def zaZ_.l0 : Nat → ByteArray → List Int → Int → Int → Option (ByteArray)
  | 0, _, _, _, _ => none
  | k + 1, x3, x6, x7, x8 => if x8 < x7 then (if 0 ≤ x8 then (if x8 < (x6.length : Int) then ((zbn_.f (rd x6 x8)).bind fun a2 => (if 1 + a2.size ≤ 9223372036854775807 then (if x3.size + ((⟨#[32]⟩ : ByteArray) ++ a2).size ≤ 9223372036854775807 then (zaZ_.l0 k (x3 ++ ((⟨#[32]⟩ : ByteArray) ++ a2)) x6 x7 (wrap64 (x8 + 1))) else (none)) else (none))) else (none)) else (none)) else (some x3)
def zaZ_.f (k : Nat) (l0 : List Int) : Option (ByteArray) := zaZ_.l0 k (⟨#[]⟩ : ByteArray) l0 (l0.length : Int) 0
theorem zaZ_.mono_l : ∀ k, (∀ y0 y1 y2 y3, LeO (zaZ_.l0 k y0 y1 y2 y3) (zaZ_.l0 (k + 1) y0 y1 y2 y3))
  | 0 => fun _ _ _ _ r h => by simp [zaZ_.l0] at h
  | k + 1 => by
    have ih0 := zaZ_.mono_l k
    · intro y0 y1 y2 y3
      unfold zaZ_.l0
      repeat' first
      | (with_reducible exact ih0 _ _ _ _)
      | (with_reducible exact LeO.refl _)
      | (with_reducible exact LeO.none _)
      | (with_reducible refine LeO.ite ?_ ?_)
      | (with_reducible refine LeO.bind ?_ (fun _ => ?_))
      | exact ih0 _ _ _ _
      | exact LeO.none _
      | refine LeO.ite ?_ ?_
      | refine LeO.bind ?_ (fun _ => ?_)
theorem zaZ_.mono : ∀ a0 k, LeO (zaZ_.f k a0) (zaZ_.f (k + 1) a0) := by
  intro a0 k
  have ih0 := zaZ_.mono_l k
  unfold zaZ_.f
  repeat' first
      | (with_reducible exact ih0 _ _ _ _)
      | (with_reducible exact LeO.refl _)
      | (with_reducible exact LeO.none _)
      | (with_reducible refine LeO.ite ?_ ?_)
      | (with_reducible refine LeO.bind ?_ (fun _ => ?_))
      | exact ih0 _ _ _ _
      | exact LeO.none _
      | refine LeO.ite ?_ ?_
      | refine LeO.bind ?_ (fun _ => ?_)
set_option maxHeartbeats 8000000 in
set_option maxRecDepth 100000 in
theorem zaZ_.calls (k : Nat) (A0 : Option Addr) (c0 : Nat) (l0 : List Int) (r : ByteArray) (w : World) (hr0 : Kd.C (Kd.int .i64) w A0 l0.length l0) (hc0 : l0.length ≤ c0) (hG : Glob w) (h : zaZ_.f k l0 = some r) :
    Calls Tryd.prog 36 #[.slice A0 l0.length c0] w fun e w' => e = .returned (.string r) ∧ Below w.heap.size w w' := by
  have b2 := Aside0.mk hr0
  have HC0 := Aside0.mk hc0
  clear hr0 hc0
  have HG := Aside0.mk hG
  clear hG
  have HB := Aside0.mk (Below.refl w.heap.size w)
  have H : (zaZ_.l0 k (⟨#[]⟩ : ByteArray) l0 (l0.length : Int) 0) = some r := h
  clear h
  have H' := Aside0.mk H
  clear H
  go_enter Tryd.func36, Tryd.ntmps36
  go_wp2
  go_loopg [3, 8] k (fun kq v3 v8 w' => ∃ (a3 : ByteArray) (a1 : Int), v3 = .string a3 ∧ v8 = .int .i64 a1 ∧ Aside0 (zaZ_.l0 kq a3 l0 (l0.length : Int) a1 = some r) ∧ Aside0 (kq ≤ k) ∧ Aside0 (Below w.heap.size w w'))
  case atStart => exact ⟨((⟨#[]⟩ : ByteArray)), (0), (by first | rfl | (simp; done) | (simp [*]; done)), (by first | rfl | (simp; done) | (simp [*]; done)), H', ⟨Nat.le_refl _⟩, ⟨HB.out⟩⟩
  clear H'
  obtain ⟨a3, a1, rfl, rfl, HA, a9, HB⟩ := hrel
  cases gk with
  | zero => exact absurd HA.out (by simp [zaZ_.l0])
  | succ k1 => ?_
  have H := HA.out
  clear HA
  simp only [zaZ_.l0] at H
  by_cases c2 : a1 < (l0.length : Int)
  rotate_left
  · rw [if_neg c2] at H
    have a6 : decide (a1 < (l0.length : Int)) = false := decide_eq_false c2
    clear c2
    obtain rfl := Option.some.inj H
    go_wp2
    go_ret
    exact ⟨by first | rfl | (simp [zal_, zak_] <;> rfl) | (simp [*, zal_, zak_] <;> rfl), HB.out⟩
  rw [if_pos c2] at H
  have a6 : decide (a1 < (l0.length : Int)) = true := decide_eq_true c2
  clear c2
  by_cases c3 : 0 ≤ a1
  rotate_left
  · rw [if_neg c3] at H
    exact absurd H (by simp)
  rw [if_pos c3] at H
  have b3 : decide (0 ≤ a1) = true := decide_eq_true c3
  clear c3
  by_cases c4 : a1 < (l0.length : Int)
  rotate_left
  · rw [if_neg c4] at H
    exact absurd H (by simp)
  rw [if_pos c4] at H
  have b4 : decide (a1 < (l0.length : Int)) = true := decide_eq_true c4
  clear c4
  replace H := Option.bind_eq_some_iff.mp H
  obtain ⟨a2, b0, H⟩ := H
  replace H : (if 1 + a2.size ≤ 9223372036854775807 then (if a3.size + ((⟨#[32]⟩ : ByteArray) ++ a2).size ≤ 9223372036854775807 then (zaZ_.l0 k1 (a3 ++ ((⟨#[32]⟩ : ByteArray) ++ a2)) l0 (l0.length : Int) (wrap64 (a1 + 1))) else (none)) else (none)) = some r := H
  have A5 := Aside0.mk b0
  clear b0
  by_cases c6 : 1 + a2.size ≤ 9223372036854775807
  rotate_left
  · rw [if_neg c6] at H
    exact absurd H (by simp)
  rw [if_pos c6] at H
  have b5 := eq_true c6
  have b6 : decide (1 + a2.size ≤ 9223372036854775807) = true := decide_eq_true c6
  try have b7 : (9223372036854775807 < 1 + a2.size) = False := eq_false (Nat.not_lt.2 c6)
  by_cases c7 : a3.size + ((⟨#[32]⟩ : ByteArray) ++ a2).size ≤ 9223372036854775807
  rotate_left
  · rw [if_neg c7] at H
    exact absurd H (by simp)
  rw [if_pos c7] at H
  have b8 := eq_true c7
  have b9 : decide (a3.size + ((⟨#[32]⟩ : ByteArray) ++ a2).size ≤ 9223372036854775807) = true := decide_eq_true c7
  try have a7 : (9223372036854775807 < a3.size + ((⟨#[32]⟩ : ByteArray) ++ a2).size) = False := eq_false (Nat.not_lt.2 c7)
  try (have a8 := a7; rw [ByteArray.size_append] at a8)
  have H' := Aside0.mk H
  clear H
  have a4 : 0 ≤ (a1 : Int) := of_decide_eq_true (by first | (with_reducible assumption) | assumption)
  have a5 : a1 < (l0.length : Int) := of_decide_eq_true (by first | (with_reducible assumption) | assumption)
  obtain ⟨ad258, e258, hx258_0⟩ := Kd.at_int b2.out a1 a4 a5
  cases e258
  replace hx258_0 := (HB.out.cell (World.block_lt_of_cell? w _ hx258_0)).trans hx258_0
  replace a4 := eq_true a4
  replace a5 := eq_true a5
  go_wp2_with (first | ((with_reducible refine zar_ (f := 19) rfl ?_); refine goesL_ (some 14) rfl rfl Tryd.func19 (by kernel_rfl) rfl #[.int .i64 (rd l0 a1)] rfl (by (try simp only [List.map_toArray, List.map_cons, List.map_nil]); first | done | rfl | (simp only [List.length_drop, List.length_take]; rfl)) ?_; (with_reducible refine (zbn_.calls (rd l0 a1) a2 _ ?side1 A5.out).mono ?_); (case side1 => first | exact Glob.below HG.out (HB.out) | (repeat (first | exact Glob.below HG.out HB.out | (with_reducible refine Glob.alloc ?_ _) | (with_reducible refine Glob.drewN ?_ _) | (with_reducible refine Glob.drew ?_)))); rintro e w8 ⟨rfl, hb⟩; refine ⟨_, rfl, ?_⟩; have b1 := Aside0.mk (zaj_ (HB.out) hb); clear HB; have HB := b1; clear b1; (try clear hb); (try clear hb2); (try clear hk); (try clear hi)))
  go_roundg k1
  case measure => have := a9.out; omega
  case rel => exact ⟨(a3 ++ ((⟨#[32]⟩ : ByteArray) ++ a2)), (wrap64 (a1 + 1)), (by first | rfl | (simp; done) | (simp [*]; done)), (by first | rfl | (simp; done) | (simp [*]; done)), H', ⟨by have := a9.out; omega⟩, ⟨HB.out⟩⟩
end Go.Proofs.YtgkjoodlcojkkaaDoor.QD
end
section
namespace Go.Proofs.YtgkjoodlcojkkaaDoor.QD
open Go.RowKit Go.Proofs.YtgkjoodlcojkkaaDoorW.PrintWords Go.Proofs.YtgkjoodlcojkkaaDoorW.PrintLast Go.Proofs.YtgkjoodlcojkkaaDoorW.PrintMore
attribute [local go_sem] zbd_ zbe_ zbm_ zbl_ zaW_ zaX_ zbc_ zbb_
set_option linter.unusedVariables false
set_option linter.unusedSimpArgs false
def zba_.l0 : Nat → List (S81) → List ByteArray → Int → Int → Option ((List (S81)))
  | 0, _, _, _, _ => none
  | k + 1, x3, x7, x8, x9 => if x9 < x8 then (if 0 ≤ x9 then (if x9 < (x7.length : Int) then ((zaM_.f k (rdOf ByteArray.empty x7 x9)).bind fun a2 => (if (a2.length : Int) = 0 then (zba_.l0 k x3 x7 x8 (wrap64 (x9 + 1))) else (if x3.length < 4398046511104 then (zba_.l0 k (x3 ++ [(⟨x9, a2⟩ : S81)]) x7 x8 (wrap64 (x9 + 1))) else (none)))) else (none)) else (none)) else (some x3)
def zba_.f (k : Nat) (l0 : List ByteArray) : Option ((List (S81))) := zba_.l0 k ([] : List (S81)) l0 (l0.length : Int) 0
theorem zba_.mono_l : ∀ k, (∀ y0 y1 y2 y3, LeO (zba_.l0 k y0 y1 y2 y3) (zba_.l0 (k + 1) y0 y1 y2 y3))
  | 0 => fun _ _ _ _ r h => by simp [zba_.l0] at h
  | k + 1 => by
    have ih0 := zba_.mono_l k
    · intro y0 y1 y2 y3
      unfold zba_.l0
      repeat' first
      | (with_reducible exact ih0 _ _ _ _)
      | (with_reducible exact zaM_.mono _ _)
      | (with_reducible exact LeO.refl _)
      | (with_reducible exact LeO.none _)
      | (with_reducible refine LeO.ite ?_ ?_)
      | (with_reducible refine LeO.bind ?_ (fun _ => ?_))
      | exact ih0 _ _ _ _
      | exact zaM_.mono _ _
      | exact LeO.none _
      | refine LeO.ite ?_ ?_
      | refine LeO.bind ?_ (fun _ => ?_)
theorem zba_.mono : ∀ a0 k, LeO (zba_.f k a0) (zba_.f (k + 1) a0) := by
  intro a0 k
  have ih0 := zba_.mono_l k
  unfold zba_.f
  repeat' first
      | (with_reducible exact ih0 _ _ _ _)
      | (with_reducible exact zaM_.mono _ _)
      | (with_reducible exact LeO.refl _)
      | (with_reducible exact LeO.none _)
      | (with_reducible refine LeO.ite ?_ ?_)
      | (with_reducible refine LeO.bind ?_ (fun _ => ?_))
      | exact ih0 _ _ _ _
      | exact zaM_.mono _ _
      | exact LeO.none _
      | refine LeO.ite ?_ ?_
      | refine LeO.bind ?_ (fun _ => ?_)
set_option maxHeartbeats 8000000 in
set_option maxRecDepth 100000 in
theorem zba_.calls (k : Nat) (A0 : Option Addr) (c0 : Nat) (l0 : List ByteArray) (r : List (S81)) (w : World) (hr0 : Kd.C Kd.string w A0 l0.length l0) (hc0 : l0.length ≤ c0) (hG : Glob w) (h : zba_.f k l0 = some r) :
    Calls Tryd.prog 39 #[.slice A0 l0.length c0] w fun e w' => ∃ v0_ : Value, e = .returned (v0_) ∧ Kd.S k81 81 w' w.heap.size (fun _ => True) v0_ r ∧ Below w.heap.size w w' := by
  have hu81 := Tryd.underlying81
  have d1 := Aside0.mk hr0
  have HC0 := Aside0.mk hc0
  clear hr0 hc0
  have HG := Aside0.mk hG
  clear hG
  have HB := Aside0.mk (Below.refl w.heap.size w)
  have H : (zba_.l0 k ([] : List (S81)) l0 (l0.length : Int) 0) = some r := h
  clear h
  have H' := Aside0.mk H
  clear H
  go_enter Tryd.func39, Tryd.ntmps39
  go_wp2
  repeat (go_step3; try go_wp2)
  go_loopg [3, 9] k (fun kq v3 v9 w' => ∃ (a4 : List (S81)) (a1 : Int), v9 = .int .i64 a1 ∧ Aside0 (zba_.l0 kq a4 l0 (l0.length : Int) a1 = some r) ∧ Aside0 (kq ≤ k) ∧ Aside0 (Kd.S k81 81 w' w.heap.size (fun _ => True) v3 a4) ∧ Aside0 (Below w.heap.size w w'))
  case atStart => exact ⟨(([] : List (S81))), (0), (by first | rfl | (simp; done) | (simp [*]; done)), H', ⟨Nat.le_refl _⟩, ⟨by first | exact Kd.S_nil _ _ _ _ _ | exact Kd.N_nil _ _ _ _ _ | exact Kd.V_nil _ _ _ _ _ | exact Kd.Q_nil _ _ _ _ _ | exact Kd.R_nil _ _ _ _ _⟩, ⟨HB.out⟩⟩
  clear H'
  obtain ⟨a4, a1, rfl, HA, b9, HO_3, HB⟩ := hrel
  cases gk with
  | zero => exact absurd HA.out (by simp [zba_.l0])
  | succ k1 => ?_
  have H := HA.out
  clear HA
  simp only [zba_.l0] at H
  by_cases c2 : a1 < (l0.length : Int)
  rotate_left
  · rw [if_neg c2] at H
    have c1 : decide (a1 < (l0.length : Int)) = false := decide_eq_false c2
    clear c2
    obtain rfl := Option.some.inj H
    go_wp2
    repeat (go_step3; try go_wp2)
    go_ret
    exact ⟨_, by first | rfl | (simp [zal_, zak_] <;> rfl) | (simp [*, zal_, zak_] <;> rfl), by (with_reducible repeat (first | apply Kd.zbg_ | apply Kd.zbi_ | apply Kd.S_drew)); exact HO_3.out, HB.out⟩
  rw [if_pos c2] at H
  have c1 : decide (a1 < (l0.length : Int)) = true := decide_eq_true c2
  clear c2
  by_cases c3 : 0 ≤ a1
  rotate_left
  · rw [if_neg c3] at H
    exact absurd H (by simp)
  rw [if_pos c3] at H
  have d3 : decide (0 ≤ a1) = true := decide_eq_true c3
  clear c3
  by_cases c4 : a1 < (l0.length : Int)
  rotate_left
  · rw [if_neg c4] at H
    exact absurd H (by simp)
  rw [if_pos c4] at H
  have d4 : decide (a1 < (l0.length : Int)) = true := decide_eq_true c4
  clear c4
  replace H := Option.bind_eq_some_iff.mp H
  obtain ⟨a2, d2, H⟩ := H
  replace H : (if (a2.length : Int) = 0 then (zba_.l0 k1 a4 l0 (l0.length : Int) (wrap64 (a1 + 1))) else (if a4.length < 4398046511104 then (zba_.l0 k1 (a4 ++ [(⟨a1, a2⟩ : S81)]) l0 (l0.length : Int) (wrap64 (a1 + 1))) else (none))) = some r := H
  have A5 := Aside0.mk d2
  clear d2
  by_cases c6 : (a2.length : Int) = 0
  · rw [if_pos c6] at H
    have c5 : ((a2.length : Int) == 0) = true := beq_iff_eq.mpr c6
    have c7 : ((a2.length : Int) != 0) = false := bne_eq_false_iff_eq.mpr c6
    clear c6
    have H' := Aside0.mk H
    clear H
    have a8 : 0 ≤ (a1 : Int) := of_decide_eq_true (by first | (with_reducible assumption) | assumption)
    have a9 : a1 < (l0.length : Int) := of_decide_eq_true (by first | (with_reducible assumption) | assumption)
    obtain ⟨ad265, e265, hx265_0⟩ := Kd.zbj_ d1.out a1 a8 a9
    cases e265
    replace hx265_0 := (HB.out.cell (World.block_lt_of_cell? w _ hx265_0)).trans hx265_0
    replace a8 := eq_true a8
    replace a9 := eq_true a9
    go_wp2_with (first | ((with_reducible refine zar_ (f := 15) rfl ?_); refine goesL_ (some 15) rfl rfl Tryd.func15 (by kernel_rfl) rfl #[.string (rdOf ByteArray.empty l0 a1)] rfl (by (try simp only [List.map_toArray, List.map_cons, List.map_nil]); first | done | rfl | (simp only [List.length_drop, List.length_take]; rfl)) ?_; (with_reducible refine (zaM_.calls k1 (rdOf ByteArray.empty l0 a1) a2 _ ?side1 A5.out).mono ?_); (case side1 => first | exact Glob.below HG.out (HB.out) | (repeat (first | exact Glob.below HG.out HB.out | (with_reducible refine Glob.alloc ?_ _) | (with_reducible refine Glob.drewN ?_ _) | (with_reducible refine Glob.drew ?_)))); rintro e w7 ⟨b6, rfl, b0, hb⟩; refine ⟨_, rfl, ?_⟩; have a5 := Aside0.mk (Kd.S_elder' (by (with_reducible repeat (first | apply Kd.zbg_ | apply Kd.zbi_ | apply Kd.S_drew)); exact HO_3.out) (Kd.R_base b0) hb); have a6 := Aside0.mk (Kd.zbp_ b0 (zam_ (HB.out))); have b1 := Aside0.mk (zaj_ (HB.out) hb); clear HO_3; clear HB; have HO_3 := a5; have a3 := a6; have HB := b1; clear a5 a6 b1; (try clear hb); (try clear hb2); (try clear hk); (try clear hi); (try clear b0); obtain ⟨d5, d6, c8⟩ := Kd.zbf_ a3.out; subst c8))
    repeat (go_step3; try go_wp2_with (first | ((with_reducible refine zar_ (f := 15) rfl ?_); refine goesL_ (some 15) rfl rfl Tryd.func15 (by kernel_rfl) rfl #[.string (rdOf ByteArray.empty l0 a1)] rfl (by (try simp only [List.map_toArray, List.map_cons, List.map_nil]); first | done | rfl | (simp only [List.length_drop, List.length_take]; rfl)) ?_; (with_reducible refine (zaM_.calls k1 (rdOf ByteArray.empty l0 a1) a2 _ ?side1 A5.out).mono ?_); (case side1 => first | exact Glob.below HG.out (HB.out) | (repeat (first | exact Glob.below HG.out HB.out | (with_reducible refine Glob.alloc ?_ _) | (with_reducible refine Glob.drewN ?_ _) | (with_reducible refine Glob.drew ?_)))); rintro e w7 ⟨b6, rfl, b0, hb⟩; refine ⟨_, rfl, ?_⟩; have a5 := Aside0.mk (Kd.S_elder' (by (with_reducible repeat (first | apply Kd.zbg_ | apply Kd.zbi_ | apply Kd.S_drew)); exact HO_3.out) (Kd.R_base b0) hb); have a6 := Aside0.mk (Kd.zbp_ b0 (zam_ (HB.out))); have b1 := Aside0.mk (zaj_ (HB.out) hb); clear HO_3; clear HB; have HO_3 := a5; have a3 := a6; have HB := b1; clear a5 a6 b1; (try clear hb); (try clear hb2); (try clear hk); (try clear hi); (try clear b0); obtain ⟨d5, d6, c8⟩ := Kd.zbf_ a3.out; subst c8)))
    go_roundg k1
    case measure => have := b9.out; omega
    case rel => exact ⟨(a4), (wrap64 (a1 + 1)), (by first | rfl | (simp; done) | (simp [*]; done)), H', ⟨by have := b9.out; omega⟩, ⟨by (with_reducible repeat (first | apply Kd.zbg_ | apply Kd.zbi_ | apply Kd.S_drew)); exact Kd.S_mono HO_3.out (fun _ hk => trivial)⟩, ⟨HB.out⟩⟩
  rw [if_neg c6] at H
  have c5 : ((a2.length : Int) == 0) = false := beq_eq_false_iff_ne.mpr c6
  have c7 : ((a2.length : Int) != 0) = true := bne_iff_ne.mpr c6
  have d7 : ¬ (a2 = []) := fun h_ => c6 (by rw [h_]; rfl)
  by_cases c9 : a4.length < 4398046511104
  rotate_left
  · rw [if_neg c9] at H
    exact absurd H (by simp)
  rw [if_pos c9] at H
  have LMc9 := Aside0.mk c9
  clear c9
  obtain ⟨b8, a7⟩ : ∃ y_ : List (S81), y_ = (a4 ++ [(⟨a1, a2⟩ : S81)]) := ⟨_, rfl⟩
  replace H : (zba_.l0 k1 b8 l0 (l0.length : Int) (wrap64 (a1 + 1))) = some r := by first | (rw [a7]; with_reducible exact H) | (have H2_ := (Option.bind_some _ _).symm.trans H; rw [a7]; with_reducible exact H2_) | (have H2_ := (Option.bind_some _ _).symm.trans H; with_reducible exact H2_) | with_reducible exact H | (rw [a7]; exact H) | exact H
  have b4 := Aside0.mk a7
  clear a7
  have H' := Aside0.mk H
  clear H
  have a8 : 0 ≤ (a1 : Int) := of_decide_eq_true (by first | (with_reducible assumption) | assumption)
  have a9 : a1 < (l0.length : Int) := of_decide_eq_true (by first | (with_reducible assumption) | assumption)
  obtain ⟨ad265, e265, hx265_0⟩ := Kd.zbj_ d1.out a1 a8 a9
  cases e265
  replace hx265_0 := (HB.out.cell (World.block_lt_of_cell? w _ hx265_0)).trans hx265_0
  replace a8 := eq_true a8
  replace a9 := eq_true a9
  go_wp2_with (first | ((with_reducible refine zar_ (f := 15) rfl ?_); refine goesL_ (some 15) rfl rfl Tryd.func15 (by kernel_rfl) rfl #[.string (rdOf ByteArray.empty l0 a1)] rfl (by (try simp only [List.map_toArray, List.map_cons, List.map_nil]); first | done | rfl | (simp only [List.length_drop, List.length_take]; rfl)) ?_; (with_reducible refine (zaM_.calls k1 (rdOf ByteArray.empty l0 a1) a2 _ ?side1 A5.out).mono ?_); (case side1 => first | exact Glob.below HG.out (HB.out) | (repeat (first | exact Glob.below HG.out HB.out | (with_reducible refine Glob.alloc ?_ _) | (with_reducible refine Glob.drewN ?_ _) | (with_reducible refine Glob.drew ?_)))); rintro e d8 ⟨b6, rfl, b0, hb⟩; refine ⟨_, rfl, ?_⟩; have a5 := Aside0.mk (Kd.S_elder' (by (with_reducible repeat (first | apply Kd.zbg_ | apply Kd.zbi_ | apply Kd.S_drew)); exact HO_3.out) (Kd.R_base b0) hb); have a6 := Aside0.mk (Kd.zbp_ b0 (zam_ (HB.out))); have b1 := Aside0.mk (zaj_ (HB.out) hb); clear HO_3; clear HB; have HO_3 := a5; have a3 := a6; have HB := b1; clear a5 a6 b1; (try clear hb); (try clear hb2); (try clear hk); (try clear hi); (try clear b0); obtain ⟨b2, b3, b7⟩ := Kd.zbf_ a3.out; subst b7) | ((with_reducible refine zbD_ (b := .append) (xs := #[.tmp 19, .tmp 23]) rfl ?_); at_builtin; refine Kd.S_append k81 (w0 := w) w.heap.size rfl (.tmp 19) (.tmp 23) 75 81 (.agg #[(.int .i64 0), (.slice none 0 0)]) 32 rfl Tryd.underlying75 info81 rfl (by decide) (by omega) u3 a4 (⟨a1, a2⟩ : S81) [.int .i64 a1, .slice b2 a2.length b3] (fun _ => True) (fun k_ => some k_ = (.slice b2 a2.length b3 : Value).ownBlock) rfl rfl ?aP (fun k_ hk_ => ((Kd.R_mono (ok' := fun k_ => ((fun _ => True)) k_ ∧ some k_ ≠ (u3 : Value).ownBlock) (Kd.R_apart' (a3.out) (Kd.S_typed HO_3.out) (by decide)) (fun k_ hk => ⟨trivial, hk.2⟩))).1 k_ hk_.symm) ?aF ?aO ?aB ?aS ?aL ?_; (case aP => exact k81_mkM _ _ _ (⟨a1, a2⟩ : S81) (Kd.R_mono (Kd.R_tight rfl (Kd.R_mono (ok' := fun k_ => ((fun _ => True)) k_ ∧ some k_ ≠ (u3 : Value).ownBlock) (Kd.R_apart' (a3.out) (Kd.S_typed HO_3.out) (by decide)) (fun k_ hk => ⟨trivial, hk.2⟩))) (fun _ h_ => h_))); (case aB => exact (HB.out)); (case aF => exact (fun _ _ => trivial)); (case aO => exact (by (with_reducible repeat (first | apply Kd.zbg_ | apply Kd.zbi_ | apply Kd.S_drew)); exact Kd.S_mono HO_3.out (fun k_ hk => ⟨trivial, fun e_ => hk.2 e_⟩))); (case aS => exact (zam_ (HB.out))); (case aL => have := LMc9.out; omega); intro d0 d9 ho hb hg hat; rw [← b4.out] at ho; have a5 := Aside0.mk (hb); have a6 := Aside0.mk (ho); clear HB; clear HO_3; clear a3; have HB := a5; have b5 := a6; clear a5 a6; clear ho hb hg hat))
  repeat (go_step3; try go_wp2_with (first | ((with_reducible refine zar_ (f := 15) rfl ?_); refine goesL_ (some 15) rfl rfl Tryd.func15 (by kernel_rfl) rfl #[.string (rdOf ByteArray.empty l0 a1)] rfl (by (try simp only [List.map_toArray, List.map_cons, List.map_nil]); first | done | rfl | (simp only [List.length_drop, List.length_take]; rfl)) ?_; (with_reducible refine (zaM_.calls k1 (rdOf ByteArray.empty l0 a1) a2 _ ?side1 A5.out).mono ?_); (case side1 => first | exact Glob.below HG.out (HB.out) | (repeat (first | exact Glob.below HG.out HB.out | (with_reducible refine Glob.alloc ?_ _) | (with_reducible refine Glob.drewN ?_ _) | (with_reducible refine Glob.drew ?_)))); rintro e d8 ⟨b6, rfl, b0, hb⟩; refine ⟨_, rfl, ?_⟩; have a5 := Aside0.mk (Kd.S_elder' (by (with_reducible repeat (first | apply Kd.zbg_ | apply Kd.zbi_ | apply Kd.S_drew)); exact HO_3.out) (Kd.R_base b0) hb); have a6 := Aside0.mk (Kd.zbp_ b0 (zam_ (HB.out))); have b1 := Aside0.mk (zaj_ (HB.out) hb); clear HO_3; clear HB; have HO_3 := a5; have a3 := a6; have HB := b1; clear a5 a6 b1; (try clear hb); (try clear hb2); (try clear hk); (try clear hi); (try clear b0); obtain ⟨b2, b3, b7⟩ := Kd.zbf_ a3.out; subst b7) | ((with_reducible refine zbD_ (b := .append) (xs := #[.tmp 19, .tmp 23]) rfl ?_); at_builtin; refine Kd.S_append k81 (w0 := w) w.heap.size rfl (.tmp 19) (.tmp 23) 75 81 (.agg #[(.int .i64 0), (.slice none 0 0)]) 32 rfl Tryd.underlying75 info81 rfl (by decide) (by omega) u3 a4 (⟨a1, a2⟩ : S81) [.int .i64 a1, .slice b2 a2.length b3] (fun _ => True) (fun k_ => some k_ = (.slice b2 a2.length b3 : Value).ownBlock) rfl rfl ?aP (fun k_ hk_ => ((Kd.R_mono (ok' := fun k_ => ((fun _ => True)) k_ ∧ some k_ ≠ (u3 : Value).ownBlock) (Kd.R_apart' (a3.out) (Kd.S_typed HO_3.out) (by decide)) (fun k_ hk => ⟨trivial, hk.2⟩))).1 k_ hk_.symm) ?aF ?aO ?aB ?aS ?aL ?_; (case aP => exact k81_mkM _ _ _ (⟨a1, a2⟩ : S81) (Kd.R_mono (Kd.R_tight rfl (Kd.R_mono (ok' := fun k_ => ((fun _ => True)) k_ ∧ some k_ ≠ (u3 : Value).ownBlock) (Kd.R_apart' (a3.out) (Kd.S_typed HO_3.out) (by decide)) (fun k_ hk => ⟨trivial, hk.2⟩))) (fun _ h_ => h_))); (case aB => exact (HB.out)); (case aF => exact (fun _ _ => trivial)); (case aO => exact (by (with_reducible repeat (first | apply Kd.zbg_ | apply Kd.zbi_ | apply Kd.S_drew)); exact Kd.S_mono HO_3.out (fun k_ hk => ⟨trivial, fun e_ => hk.2 e_⟩))); (case aS => exact (zam_ (HB.out))); (case aL => have := LMc9.out; omega); intro d0 d9 ho hb hg hat; rw [← b4.out] at ho; have a5 := Aside0.mk (hb); have a6 := Aside0.mk (ho); clear HB; clear HO_3; clear a3; have HB := a5; have b5 := a6; clear a5 a6; clear ho hb hg hat)))
  go_roundg k1
  case measure => have := b9.out; omega
  case rel => exact ⟨(b8), (wrap64 (a1 + 1)), (by first | rfl | (simp; done) | (simp [*]; done)), H', ⟨by have := b9.out; omega⟩, ⟨by (with_reducible repeat (first | apply Kd.zbg_ | apply Kd.zbi_ | apply Kd.S_drew)); exact b5.out⟩, ⟨HB.out⟩⟩
end Go.Proofs.YtgkjoodlcojkkaaDoor.QD
end
