/- What the tables of golex and of unicode/utf8 hold: a premise that every call hands on. -/
import Derived.Test.YtfolmcfcmonkhaaDoorProg
import Derived.Test.YtfolmcfcmonkhaaDoorShelf
import Derived.Test.YtfolmcfcmonkhaaDoorWWords
import Derived.SliceStrings
import Derived.Lib.LaidU8
import Derived.Lib.SlicesS
namespace Go.Proofs.YtfolmcfcmonkhaaDoor
open Go Go.RowKit Go.Proofs.YtfolmcfcmonkhaaDoorW.PrintWords
def signsL : List ByteArray := [⟨#[60, 60, 61]⟩, ⟨#[62, 62, 61]⟩, ⟨#[38, 94, 61]⟩, ⟨#[46, 46, 46]⟩, ⟨#[38, 38]⟩, ⟨#[124, 124]⟩, ⟨#[60, 45]⟩, ⟨#[43, 43]⟩, ⟨#[45, 45]⟩, ⟨#[61, 61]⟩, ⟨#[33, 61]⟩, ⟨#[60, 61]⟩, ⟨#[62, 61]⟩, ⟨#[58, 61]⟩, ⟨#[43, 61]⟩, ⟨#[45, 61]⟩, ⟨#[42, 61]⟩, ⟨#[47, 61]⟩, ⟨#[37, 61]⟩, ⟨#[38, 61]⟩, ⟨#[124, 61]⟩, ⟨#[94, 61]⟩, ⟨#[60, 60]⟩, ⟨#[62, 62]⟩, ⟨#[38, 94]⟩, ⟨#[43]⟩, ⟨#[45]⟩, ⟨#[42]⟩, ⟨#[47]⟩, ⟨#[37]⟩, ⟨#[38]⟩, ⟨#[124]⟩, ⟨#[94]⟩, ⟨#[60]⟩, ⟨#[62]⟩, ⟨#[61]⟩, ⟨#[33]⟩, ⟨#[126]⟩, ⟨#[40]⟩, ⟨#[41]⟩, ⟨#[91]⟩, ⟨#[93]⟩, ⟨#[123]⟩, ⟨#[125]⟩, ⟨#[44]⟩, ⟨#[46]⟩, ⟨#[58]⟩]
def wordsL : List ByteArray := [⟨#[99, 97, 115, 101]⟩, ⟨#[99, 104, 97, 110]⟩, ⟨#[99, 111, 110, 115, 116]⟩, ⟨#[100, 101, 102, 97, 117, 108, 116]⟩, ⟨#[100, 101, 102, 101, 114]⟩, ⟨#[101, 108, 115, 101]⟩, ⟨#[102, 111, 114]⟩, ⟨#[102, 117, 110, 99]⟩, ⟨#[103, 111]⟩, ⟨#[103, 111, 116, 111]⟩, ⟨#[105, 102]⟩, ⟨#[105, 109, 112, 111, 114, 116]⟩, ⟨#[105, 110, 116, 101, 114, 102, 97, 99, 101]⟩, ⟨#[109, 97, 112]⟩, ⟨#[112, 97, 99, 107, 97, 103, 101]⟩, ⟨#[114, 97, 110, 103, 101]⟩, ⟨#[115, 101, 108, 101, 99, 116]⟩, ⟨#[115, 116, 114, 117, 99, 116]⟩, ⟨#[115, 119, 105, 116, 99, 104]⟩, ⟨#[116, 121, 112, 101]⟩, ⟨#[118, 97, 114]⟩]
def othersL : List ByteArray := [⟨#[98, 114, 101, 97, 107]⟩, ⟨#[99, 111, 110, 116, 105, 110, 117, 101]⟩, ⟨#[102, 97, 108, 108, 116, 104, 114, 111, 117, 103, 104]⟩, ⟨#[114, 101, 116, 117, 114, 110]⟩]
def VarIs (g : Nat) (l : List ByteArray) (w : World) : Prop := ∃ R o cap, w.cell? ⟨g, 0, none⟩ = some (.slice (some ⟨R, o, none⟩) l.length cap) ∧ ∀ j, j < l.length → w.cell? ⟨R, o + j, none⟩ = some (.string (l.getD j ByteArray.empty))
structure Tabs (w : World) : Prop where
  utf : Lib.Utf8Tabs 3 4 w
  signs : VarIs 2 signsL w
  words : VarIs 0 wordsL w
theorem VarIs.below {g : Nat} {l : List ByteArray} {w w1 : World} (h : VarIs g l w) (hb : Below w.heap.size w w1) : VarIs g l w1 := by
  obtain ⟨R, o, cap, h1, h2⟩ := h
  exact ⟨R, o, cap, pw_cell_below hb h1, fun j hj => pw_cell_below hb (h2 j hj)⟩
theorem Tabs.below {w w1 : World} (h : Tabs w) (hb : Below w.heap.size w w1) : Tabs w1 :=
  ⟨by
    have h0 := h.utf
    unfold Lib.Utf8Tabs at *
    exact ⟨fun c hc => pw_cell_below hb (h0.1 c hc), fun i hi => ⟨pw_cell_below hb (h0.2 i hi).1, pw_cell_below hb (h0.2 i hi).2⟩⟩, h.signs.below hb, h.words.below hb⟩
end Go.Proofs.YtfolmcfcmonkhaaDoor
