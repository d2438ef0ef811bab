/- What the rows list gives what the walks take; a world for the witness. -/
import Derived.Test.YtckdbdbbnlodiaaDoorRows
import Derived.Test.YtckdbdbbnlodiaaDoorShelf
import Derived.Test.YtckdbdbbnlodiaaDoorTabs
import Derived.Lib.LaidU8
import Derived.Deep.DeepHandedRow
import Derived.Lib.LaidTab
import Derived.MakeChecks
namespace Go.Proofs.YtckdbdbbnlodiaaDoor
open Go Go.RowKit
theorem first_eq : Rows.laid_unicode_utf8_first = Lib.firstData := by kernel_rfl
theorem accept_eq : (Rows.laid_unicode_utf8_acceptRanges : DataW Unit) = Lib.acceptData := by kernel_rfl
def layCells (cs : Array Value) : Obj → Obj
  | .cells _ t f => .cells cs t f
  | o => o
noncomputable def laidWorld (os : Os) : World :=
  { World.holding Tryd.prog os ⟨#[], #[], []⟩ with heap := ((World.holding Tryd.prog os ⟨#[], #[], []⟩).heap.modify 0 (layCells ((Array.range 256).map fun c => .int .u8 (Lib.firstT c)))).modify 1 (layCells ((Array.range 32).map fun c => .int .u8 ((if c % 2 = 0 then Lib.accLo (c / 2) else Lib.accHi (c / 2) : Nat) : Int))) }
theorem extra : U8Extra Tryd.prog Tryd.lays260_ren := ⟨by kernel_rfl, by kernel_rfl, by kernel_rfl, by kernel_rfl, by kernel_rfl, by kernel_rfl, by kernel_rfl⟩
theorem tabs_of {W : World} (hL : laidMetH Tryd.prog [("unicode/utf8.acceptRanges", Rows.laid_unicode_utf8_acceptRanges), ("unicode/utf8.first", Rows.laid_unicode_utf8_first)] W) : Tabs W := by
  rw [Go.MakeChecks.laidMetH_plain _ _ _ (by kernel_rfl)] at hL
  have h3 := Lib.laidMet.reads hL (n := "unicode/utf8.first") (d := Rows.laid_unicode_utf8_first) (by simp)
  have h4 := Lib.laidMet.reads hL (n := "unicode/utf8.acceptRanges") (d := Rows.laid_unicode_utf8_acceptRanges) (by simp)
  rw [first_eq] at h3
  rw [accept_eq] at h4
  exact utf8Tabs_of_reads Tryd.lays260 extra h3 h4
end Go.Proofs.YtckdbdbbnlodiaaDoor
