/- What the rows list gives what the walks take; a world for the witness. -/
import Derived.Test.YtfolmcfcmonkhaaDoorRows
import Derived.Test.YtfolmcfcmonkhaaDoorShelf
import Derived.Test.YtfolmcfcmonkhaaDoorTabs
import Derived.Lib.LaidU8
import Derived.Deep.DeepHandedRow
import Derived.Lib.LaidTab
import Derived.MakeChecks
import Derived.Shelf.Vars
namespace Go.Proofs.YtfolmcfcmonkhaaDoor
open Go Go.RowKit Go.ChangeShapes
theorem strs_of_reads {P : Program} {w : World} {name : String} {g : Nat} {t e : TypeId} {l : List ByteArray} (hn : P.globalNamed name = some g) (hy : (P.globals[g]?).map (·.type) = some t)
    (ht : P.underlying t = some (.slice e)) (he : P.underlying e = some .string) (hc : P.cellsOf e = 1) (hl : 0 < l.length) (h : Lib.VarReads P w name (.slice (l.map fun s => .lit (.string s.data.toList)) [])) : VarIs g l w := by
  obtain ⟨g', t', cs, fuel, p, hg, hty, hvar, hd⟩ := h
  obtain rfl := Option.some.inj (hn.symm.trans hg)
  obtain rfl := Option.some.inj (hy.symm.trans hty)
  rcases open_strings ht he hc hd with ⟨_, hx⟩ | ⟨a, len, cap, ss, hcs, _, hlc, _, hss, hx, hcell, _⟩
  · cases hx
  have e0 := congrArg Prod.fst hx
  simp only [strs, DataW.slice.injEq] at e0
  obtain ⟨eE, eR⟩ := e0
  have hdrop : ss.drop len = [] := by
    have := congrArg List.length eR
    simp at this
    exact List.drop_eq_nil_of_le (by omega)
  have inj : ∀ (x y : List ByteArray), (x.map fun s => (DataW.lit (.string s.data.toList) : DataW Unit)) = (y.map fun s => DataW.lit (.string s.data.toList)) → x = y := by
    intro x
    induction x with
    | nil => intro y hy; cases y with | nil => rfl | cons _ _ => simp at hy
    | cons a x ih =>
      intro y hy
      cases y with
      | nil => simp at hy
      | cons b y =>
        simp only [List.map_cons, List.cons.injEq, DataW.lit.injEq, Lit.string.injEq] at hy
        obtain ⟨h1, h2⟩ := hy
        have : a = b := by
          obtain ⟨⟨a⟩⟩ := a
          obtain ⟨⟨b⟩⟩ := b
          simp at h1
          rw [h1]
        rw [this, ih y h2]
  have hlt := inj _ _ eE
  have htake : ss.take len = ss := List.take_of_length_le (by
    have := congrArg List.length hdrop
    simp at this
    omega)
  rw [htake] at hlt
  subst hlt
  have hlen : len = l.length := by
    have h1 : (l.take len).length = l.length := by rw [htake]
    rw [List.length_take] at h1
    split at hss <;> omega
  obtain ⟨R, o, sR⟩ := a
  obtain rfl : sR = none := by
    have h00 := hcell 0 hl
    have : (Addr.add ⟨R, o, sR⟩ 0) = ⟨R, o, sR⟩ := by simp [Addr.add]
    rw [this] at h00
    exact Go.Proofs.cell_spot h00
  refine ⟨R, o, cap, ?_, fun j hj => ?_⟩
  · rw [World.var?_cell hg hvar 0, ← Array.getElem?_toList, hcs, hlen]
    rfl
  · have := hcell j hj
    rwa [Addr.add_lit] at this
theorem first_eq : Rows.laid_unicode_utf8_first = Lib.firstData := by kernel_rfl
theorem accept_eq : (Rows.laid_unicode_utf8_acceptRanges : DataW Unit) = Lib.acceptData := by kernel_rfl
theorem signs_eq : (Rows.laid_seiche_golex_signs : DataW Unit) = .slice (signsL.map fun s => .lit (.string s.data.toList)) [] := by kernel_rfl
theorem words_eq : (Rows.laid_seiche_golex_words : DataW Unit) = .slice (wordsL.map fun s => .lit (.string s.data.toList)) [] := by kernel_rfl
theorem extra : U8Extra Tryd.prog Tryd.lays260_ren := ⟨by kernel_rfl, by kernel_rfl, by kernel_rfl, by kernel_rfl, by kernel_rfl, by kernel_rfl, by kernel_rfl⟩
def layCells (cs : Array Value) : Obj → Obj
  | .cells _ t f => .cells cs t f
  | o => o
def rowOf (l : List ByteArray) : Obj := .cells (l.map Value.string).toArray 9 (0, 0)
noncomputable def laidHeap (h : Array Obj) : Array Obj :=
  (((((((h.modify 3 (layCells ((Array.range 256).map fun c => .int .u8 (Lib.firstT c)))).modify 4 (layCells ((Array.range 32).map fun c => .int .u8 ((if c % 2 = 0 then Lib.accLo (c / 2) else Lib.accHi (c / 2) : Nat) : Int)))).modify
    2 (layCells #[.slice (some ⟨h.size, 0, none⟩) 47 47])).modify 0 (layCells #[.slice (some ⟨h.size + 1, 0, none⟩) 21 21])).modify 1 (layCells #[.slice (some ⟨h.size + 2, 0, none⟩) 4 4])).push (rowOf signsL)).push (rowOf wordsL)).push (rowOf othersL)
noncomputable def laidWorld (os : Os) : World :=
  { World.holding Tryd.prog os ⟨#[], #[], []⟩ with heap := laidHeap (World.holding Tryd.prog os ⟨#[], #[], []⟩).heap }
theorem tabs_of {W : World} (hL : laidMetH Tryd.prog [("unicode/utf8.acceptRanges", Rows.laid_unicode_utf8_acceptRanges), ("seiche/golex.signs", Rows.laid_seiche_golex_signs), ("seiche/golex.words", Rows.laid_seiche_golex_words), ("unicode/utf8.first", Rows.laid_unicode_utf8_first)] W) (_ : W.ShapedOpen Tryd.prog) : Tabs W := by
  rw [Go.MakeChecks.laidMetH_plain _ _ _ (by kernel_rfl)] at hL
  have h1 := Lib.laidMet.reads hL (n := "seiche/golex.signs") (d := Rows.laid_seiche_golex_signs) (by simp)
  have h2 := Lib.laidMet.reads hL (n := "seiche/golex.words") (d := Rows.laid_seiche_golex_words) (by simp)
  have h3 := Lib.laidMet.reads hL (n := "unicode/utf8.first") (d := Rows.laid_unicode_utf8_first) (by simp)
  have h4 := Lib.laidMet.reads hL (n := "unicode/utf8.acceptRanges") (d := Rows.laid_unicode_utf8_acceptRanges) (by simp)
  rw [signs_eq] at h1
  rw [words_eq] at h2
  rw [first_eq] at h3
  rw [accept_eq] at h4
  exact ⟨utf8Tabs_of_reads Tryd.lays260 extra h3 h4,
    strs_of_reads (t := 45) (e := 9) (by kernel_rfl) (by kernel_rfl) Tryd.underlying45 Tryd.underlying9 (by kernel_rfl) (by decide) h1,
    strs_of_reads (t := 45) (e := 9) (by kernel_rfl) (by kernel_rfl) Tryd.underlying45 Tryd.underlying9 (by kernel_rfl) (by decide) h2⟩
end Go.Proofs.YtfolmcfcmonkhaaDoor
