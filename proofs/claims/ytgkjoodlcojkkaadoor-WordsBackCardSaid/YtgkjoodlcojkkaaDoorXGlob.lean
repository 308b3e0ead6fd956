/- What the program's package variables hold while it runs (the table of powers of ten, the two errors of strconv, MaxLen): a fact that whatever the call does below its own memory keeps. No conditions. -/
import Derived.Test.YtgkjoodlcojkkaaDoorProg
import Derived.WalkSmall
import Derived.Lib.LaidTab
import Derived.Shelf.Strconv.AtoiAll
import Derived.Shelf.Strconv.Itoa3
namespace Go.Proofs.YtgkjoodlcojkkaaDoor
open Go Go.RowKit

structure GlobAt (w : World) : Prop where
  maxlen : ∃ m : Int, w.cell? ⟨2, 0, none⟩ = some (.int .i64 m)
  pow : Lib.TabIs Tryd.prog w "internal/strconv.uint64pow10" .u64 Lib.pow10Tab
  esyn : ∃ t p, w.var? Tryd.prog "strconv.ErrSyntax" = some #[.iface t p]
  eran : ∃ t p, w.var? Tryd.prog "strconv.ErrRange" = some #[.iface t p]

def Glob (w : World) : Prop := ∃ u, GlobAt u ∧ Below u.heap.size u w

theorem GlobAt.glob {w : World} (h : GlobAt w) : Glob w := ⟨w, h, Below.refl _ _⟩
theorem Glob.below {w w' : World} (h : Glob w) (hb : Below w.heap.size w w') : Glob w' := by
  obtain ⟨u, hu, h⟩ := h
  exact ⟨u, hu, h.trans (hb.mono h.size)⟩
theorem Glob.alloc {w : World} (h : Glob w) (o : Obj) : Glob (w.alloc o) := h.below ((Below.refl _ _).alloc (Nat.le_refl _) o)
theorem Glob.drew {w : World} (h : Glob w) : Glob w.drew := h.below (Below.refl _ _).drew
theorem Glob.drewN {w : World} (h : Glob w) (n : Nat) : Glob (w.drewN n) := h.below ⟨rfl, rfl, rfl, Nat.le_refl _, fun _ _ => rfl⟩

theorem var_kept {u w : World} {n : String} {cs : Array Value} (hv : u.var? Tryd.prog n = some cs) (hb : Below u.heap.size u w) : w.var? Tryd.prog n = some cs := by
  have hv' := hv
  unfold World.var? at hv
  obtain ⟨g, hg, hv⟩ := Option.bind_eq_some_iff.1 hv
  have hlt : g < u.heap.size := by
    by_cases h : g < u.heap.size
    · exact h
    · have : u.heap[g]? = none := Array.getElem?_eq_none_iff.2 (by omega)
      rw [this] at hv; cases hv
  exact var?_below hb hg hlt hv'

theorem Glob.at {w : World} (h : Glob w) : GlobAt w := by
  obtain ⟨u, ⟨⟨m, h1⟩, h2, ⟨t3, p3, h3⟩, ⟨t4, p4, h4⟩⟩, hb⟩ := h
  exact ⟨⟨m, (hb.cell (World.block_lt_of_cell? u _ h1)).trans h1⟩, var_kept h2 hb, ⟨t3, p3, var_kept h3 hb⟩, ⟨t4, p4, var_kept h4 hb⟩⟩

end Go.Proofs.YtgkjoodlcojkkaaDoor
