/- What the tables of unicode/utf8 hold, as a premise that every call hands on. -/
import Derived.Test.YtckdbdbbnlodiaaDoorProg
import Derived.Test.YtckdbdbbnlodiaaDoorShelf
import Derived.Test.YtckdbdbbnlodiaaDoorWWords
namespace Go.Proofs.YtckdbdbbnlodiaaDoor
open Go Go.RowKit Go.Proofs.YtckdbdbbnlodiaaDoorW.PrintWords
def Tabs (w : World) : Prop := Lib.Utf8Tabs 0 1 w
theorem Tabs.below {w w1 : World} (h : Tabs w) (hb : Below w.heap.size w w1) : Tabs w1 := by
  unfold Tabs Lib.Utf8Tabs at *
  exact ⟨fun c hc => pw_cell_below hb (h.1 c hc), fun i hi => ⟨pw_cell_below hb (h.2 i hi).1, pw_cell_below hb (h.2 i hi).2⟩⟩
end Go.Proofs.YtckdbdbbnlodiaaDoor
