import Derived.Test.YtldcahhhibgofaaDoorRows
import Derived.Test.YtldcahhhibgofaaDoorTie
import Derived.Lib.LaidIn
import Derived.Lib.LaidU8
import Derived.LaidHandle
import Derived.LaidLaws
import Derived.Stop.Joined
import Derived.MakeChecks
import Derived.Handed
import Derived.ProofKit
/-! A world in which the two listed tables read as listed: the rows' witness. -/
namespace Go.Proofs.YtldcahhhibgofaaDoor.Laid
set_option maxRecDepth 100000
open Go.Lib
theorem acc_eq : (Rows.laid_unicode_utf8_acceptRanges : DataW Unit) = acceptData := by kernel_rfl
theorem first_eq : Rows.laid_unicode_utf8_first = firstData := by kernel_rfl
theorem own : ownKnob Tryd.prog.godebug = none := by kernel_rfl
noncomputable def laidWorld (os : Os) : World :=
  let w0 := World.holding Tryd.prog os ⟨#[], #[], []⟩
  let put (h : Array Obj) (g : Nat) (cs : Array Value) : Array Obj := h.modify g fun
    | .cells _ t frozen => .cells cs t frozen
    | o => o
  let h1 := put w0.heap 1 (Lib.firstTab.map fun z => Value.int .u8 z).toArray
  let h2 := put h1 2 ((List.range 16).flatMap fun i => [Value.int .u8 (Lib.accLo i), Value.int .u8 (Lib.accHi i)]).toArray
  { w0 with heap := h2 }
theorem laid_met (os : Os) (args : Array Value) : laidMet Tryd.prog [("unicode/utf8.acceptRanges", acceptData), ("unicode/utf8.first", firstData)] ((laidWorld os).forCall (fun _ _ => 0) ⟨#[], args, []⟩).memory :=
  (LaidIn.of_run (l := [("unicode/utf8.acceptRanges", acceptData), ("unicode/utf8.first", firstData)]) [2, 1] 8 (by kernel_rfl) (by kernel_rfl) (by kernel_rfl) (by kernel_rfl)).met
theorem laid_metH (os : Os) (args : Array Value) : laidMetH Tryd.prog [("unicode/utf8.acceptRanges", Rows.laid_unicode_utf8_acceptRanges), ("unicode/utf8.first", Rows.laid_unicode_utf8_first)] ((laidWorld os).forCall (fun _ _ => 0) ⟨#[], args, []⟩).memory := by
  rw [acc_eq, first_eq, Go.MakeChecks.laidMetH_plain _ _ _ (by kernel_rfl)]
  exact laid_met os args
end Go.Proofs.YtldcahhhibgofaaDoor.Laid
