/- What the tables of suffix hold, and that the library's own number is a number: a premise that every call hands on. -/
import Derived.Test.YtnpbgegllphfkaaDoorProg
import Derived.Test.YtnpbgegllphfkaaDoorShelf
import Derived.Test.YtnpbgegllphfkaaDoorWWords
import Derived.SliceStrings
import Derived.Lib.LaidU8
import Derived.Lib.SlicesS
namespace Go.Proofs.YtnpbgegllphfkaaDoor
open Go Go.RowKit Go.Proofs.YtnpbgegllphfkaaDoorW.PrintWords
def sysL : List ByteArray := [⟨#[97, 105, 120]⟩, ⟨#[97, 110, 100, 114, 111, 105, 100]⟩, ⟨#[100, 97, 114, 119, 105, 110]⟩, ⟨#[100, 114, 97, 103, 111, 110, 102, 108, 121]⟩, ⟨#[102, 114, 101, 101, 98, 115, 100]⟩, ⟨#[105, 108, 108, 117, 109, 111, 115]⟩, ⟨#[105, 111, 115]⟩, ⟨#[106, 115]⟩, ⟨#[108, 105, 110, 117, 120]⟩, ⟨#[110, 101, 116, 98, 115, 100]⟩, ⟨#[111, 112, 101, 110, 98, 115, 100]⟩, ⟨#[112, 108, 97, 110, 57]⟩, ⟨#[115, 111, 108, 97, 114, 105, 115]⟩, ⟨#[119, 97, 115, 105, 112, 49]⟩, ⟨#[119, 105, 110, 100, 111, 119, 115]⟩]
def procL : List ByteArray := [⟨#[51, 56, 54]⟩, ⟨#[97, 109, 100, 54, 52]⟩, ⟨#[97, 114, 109]⟩, ⟨#[97, 114, 109, 54, 52]⟩, ⟨#[108, 111, 111, 110, 103, 54, 52]⟩, ⟨#[109, 105, 112, 115]⟩, ⟨#[109, 105, 112, 115, 54, 52]⟩, ⟨#[109, 105, 112, 115, 54, 52, 108, 101]⟩, ⟨#[109, 105, 112, 115, 108, 101]⟩, ⟨#[112, 112, 99, 54, 52]⟩, ⟨#[112, 112, 99, 54, 52, 108, 101]⟩, ⟨#[114, 105, 115, 99, 118, 54, 52]⟩, ⟨#[115, 51, 57, 48, 120]⟩, ⟨#[119, 97, 115, 109]⟩]
def alikeL : List ByteArray := [⟨#[97, 105, 120]⟩, ⟨#[97, 110, 100, 114, 111, 105, 100]⟩, ⟨#[100, 97, 114, 119, 105, 110]⟩, ⟨#[100, 114, 97, 103, 111, 110, 102, 108, 121]⟩, ⟨#[102, 114, 101, 101, 98, 115, 100]⟩, ⟨#[105, 108, 108, 117, 109, 111, 115]⟩, ⟨#[105, 111, 115]⟩, ⟨#[108, 105, 110, 117, 120]⟩, ⟨#[110, 101, 116, 98, 115, 100]⟩, ⟨#[111, 112, 101, 110, 98, 115, 100]⟩, ⟨#[115, 111, 108, 97, 114, 105, 115]⟩]
def VarIs (g : Nat) (l : List ByteArray) (w : World) : Prop := ∃ R o cap, w.cell? ⟨g, 0, none⟩ = some (.slice (some ⟨R, o, none⟩) l.length cap) ∧ ∀ j, j < l.length → w.cell? ⟨R, o + j, none⟩ = some (.string (l.getD j ByteArray.empty))
def Tabs (w : World) : Prop := (∃ m, w.cell? ⟨3, 0, none⟩ = some (.int .i64 m)) ∧ VarIs 0 sysL w ∧ VarIs 1 procL w ∧ VarIs 2 alikeL w
theorem VarIs.below {g : Nat} {l : List ByteArray} {w w1 : World} (h : VarIs g l w) (hb : Below w.heap.size w w1) : VarIs g l w1 := by
  obtain ⟨R, o, cap, h1, h2⟩ := h
  exact ⟨R, o, cap, pw_cell_below hb h1, fun j hj => pw_cell_below hb (h2 j hj)⟩
theorem Tabs.below {w w1 : World} (h : Tabs w) (hb : Below w.heap.size w w1) : Tabs w1 := by
  obtain ⟨⟨m, h0⟩, h1, h2, h3⟩ := h
  exact ⟨⟨m, pw_cell_below hb h0⟩, h1.below hb, h2.below hb, h3.below hb⟩
end Go.Proofs.YtnpbgegllphfkaaDoor
