-- written by a program of this session (wip/tools): the functions that the laws reach, as plain Lean, and their walks
import Derived.Test.YtgkjoodlcojkkaaDoorXGlob
import Derived.Test.YtgkjoodlcojkkaaDoorProg
import Derived.Below
import Derived.Deep.Draws
import Derived.Deep.AppendLies
import Derived.Maps.AppendAt
import Derived.OwnWalk
import Derived.Laws.BytesArg
import Derived.Laws.MakeOwn
import Derived.Laws.OwnMore
import Derived.Deep.OwnRows
import Derived.Tactics
import Derived.Lib.ConvBytes
import Derived.Laws.Slices
import Derived.WalkKit
import Derived.KernelRfl
import Derived.RowKit3
import Derived.Deep.LoopGhost
import Derived.Deep.QuietTactic
import Derived.BigQuiet
import Derived.WideLaws
import Derived.Deep.DeepCutAuto
import Derived.Deep.CutBlock
import Derived.Deep.RegionHeld3
import Derived.Laws.Rows
import Derived.Lib.AppendStr
import Derived.ArgAppend
import Derived.Laws.IdiomCopy
import Derived.OrdersHeld
import Derived.Laws.BitsLemmas
import Derived.RowKit
import Derived.WalkMore
import Derived.Test.YtgkjoodlcojkkaaDoorWWords
import Derived.Test.YtgkjoodlcojkkaaDoorWLast
import Derived.Test.YtgkjoodlcojkkaaDoorWTab
import Derived.Test.YtgkjoodlcojkkaaDoorWFour
import Derived.Test.YtgkjoodlcojkkaaDoorWQPut
import Derived.Test.YtgkjoodlcojkkaaDoorWApart
import Derived.Test.YtgkjoodlcojkkaaDoorWArr
import Derived.Test.YtgkjoodlcojkkaaDoorWZeros
import Derived.Test.YtgkjoodlcojkkaaDoorWFoot
import Derived.Test.YtgkjoodlcojkkaaDoorWKept
import Derived.Test.YtgkjoodlcojkkaaDoorWShare
import Derived.Test.YtgkjoodlcojkkaaDoorWN
import Derived.Test.YtgkjoodlcojkkaaDoorWFootNe
import Derived.Test.YtgkjoodlcojkkaaDoorWAt
import Derived.Test.YtgkjoodlcojkkaaDoorWEqStruct
import Derived.Test.YtgkjoodlcojkkaaDoorWRepsOne
import Derived.Test.YtgkjoodlcojkkaaDoorWInv
import Derived.Test.YtgkjoodlcojkkaaDoorWInvWords
import Derived.Test.YtgkjoodlcojkkaaDoorWGuard
import Derived.Test.YtgkjoodlcojkkaaDoorWNEv
import Derived.Test.YtgkjoodlcojkkaaDoorWMore
namespace Go.Proofs.YtgkjoodlcojkkaaDoor.QD
open Go.RowKit Go.Proofs.YtgkjoodlcojkkaaDoorW.PrintWords Go.Proofs.YtgkjoodlcojkkaaDoorW.PrintLast Go.Proofs.YtgkjoodlcojkkaaDoorW.PrintMore
attribute [local go_sem] max2_int min2_int max_two min_two max_three min_three max_four min_four   -- for this text's walks alone
set_option linter.unusedVariables false
set_option linter.unusedSimpArgs false

def bs (n m : Nat) : Array Bool := ((List.range n).map fun i => m.testBit i).toArray
class IsTrue (b : Bool) : Prop where
  out : b = true
instance : IsTrue true := ⟨rfl⟩



def errW : Option Int → Value
  | none => .nilIface
  | some c => .iface 98 (.int .i64 c)
theorem errW_none : errW none = .nilIface := rfl
theorem errW_some (c : Int) : errW (some c) = .iface 98 (.int .i64 c) := rfl

theorem info5 : (Tryd.prog.info? 5).map (fun i => (i.zero, i.size, i.bytes)) = some (some (.int .u8 0), 1, 1) := by kernel_rfl
theorem info9 : (Tryd.prog.info? 9).map (fun i => (i.zero, i.size, i.bytes)) = some (some (.string ⟨#[]⟩), 1, 16) := by kernel_rfl
-- the values' own types

end Go.Proofs.YtgkjoodlcojkkaaDoor.QD
