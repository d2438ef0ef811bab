/- What the laws' own helpers compute, in plain words. -/
import Derived.Test.YtfolmcfcmonkhaaDoorPAllxL
namespace Go.Proofs.YtfolmcfcmonkhaaDoor.Fr
open Go Go.RowKit Go.Proofs.YtfolmcfcmonkhaaDoor.PAll Go.Proofs.YtfolmcfcmonkhaaDoorW.PrintWords Go.Proofs.YtfolmcfcmonkhaaDoorW.PrintLast Go.Proofs.YtfolmcfcmonkhaaDoorPw Go.Proofs.YtfolmcfcmonkhaaDoor
set_option linter.unusedVariables false
set_option linter.unusedSimpArgs false
theorem n_1 : next [97, 32, 43, 32, 49, 10] = .tok 1 1 := by
  have e : nm [97, 32, 43, 32, 49, 10] = 1 := by
    rw [nm, dif_pos ⟨by decide, by rw [(sg_ascii (b := 97) (by decide) _).1]; decide⟩, (sg_ascii (b := 97) (by decide) _).2]
    show 1 + nm [32, 43, 32, 49, 10] = 1
    rw [nm, dif_neg]
    intro h
    rw [(sg_ascii (b := 32) (by decide) _).1] at h
    exact absurd h.2 (by decide)
  rw [next, (sg_ascii (b := 97) (by decide) _).1, if_neg (by decide), if_neg (by decide), if_neg (by decide), if_neg (by decide), if_neg (by decide), if_pos (by decide), e]
theorem n_2 (t : List Int) : next (32 :: t) = .blank := by
  rw [next, (sg_ascii (b := 32) (by decide) _).1, if_neg (by decide), if_neg (by decide), if_pos (by decide)]
theorem n_3 : next [43, 32, 49, 10] = .tok 5 1 := by
  rw [next, (sg_ascii (b := 43) (by decide) _).1, if_neg (by decide), if_neg (by decide), if_neg (by decide), if_neg (by decide), if_neg (by decide), if_neg (by decide), if_neg (by decide), if_neg (by decide), if_neg (by decide), if_neg (by decide), if_neg (by decide)]
  have e : op [43, 32, 49, 10] = 1 := by decide
  rw [e]
  rfl
theorem n_5 : next [49, 10] = .tok 2 1 := by
  rw [next, (sg_ascii (b := 49) (by decide) _).1, if_neg (by decide), if_neg (by decide), if_neg (by decide), if_neg (by decide), if_neg (by decide), if_neg (by decide), if_pos (by decide)]
  have e : nl (isHex [49, 10]) 0 [49, 10] = 1 := by decide
  rw [e]
theorem n_6 (t : List Int) : next (10 :: t) = .feed := by
  rw [next, (sg_ascii (b := 10) (by decide) _).1, if_neg (by decide), if_pos (by decide)]
theorem lx_bad {l : List Int} (h0 : l ≠ []) (a : Nat) (p : Bool) {o : Nat} (h : next l = .bad o) : lx l a p = ([⟨7, (⟨#[]⟩ : ByteArray), ((a + o : Nat) : Int)⟩], []) := by rw [lx, dif_neg h0, h]
theorem lx_blank {l : List Int} (h0 : l ≠ []) (a : Nat) (p : Bool) (h : next l = .blank) : lx l a p = lx (l.drop 1) (a + 1) p := by rw [lx, dif_neg h0, h]; rfl
theorem lx_feed {l : List Int} (h0 : l ≠ []) (a : Nat) (p : Bool) (h : next l = .feed) : lx l a p = (semi p a ++ (lx (l.drop 1) (a + 1) false).1, (lx (l.drop 1) (a + 1) false).2) := by rw [lx, dif_neg h0, h]; rfl
theorem lx_note {l : List Int} (h0 : l ≠ []) (a : Nat) (p : Bool) {n : Nat} {f : Bool} (hn : 1 ≤ n) (h : next l = .note n f) : lx l a p = (semi (p && f) a ++ (lx (l.drop n) (a + n) (p && !f)).1, ⟨0, strOfNums (l.take n), (a : Int)⟩ :: (lx (l.drop n) (a + n) (p && !f)).2) := by
  rw [lx, dif_neg h0, h]
  dsimp only
  rw [dp_eq hn]
theorem lx_tok {l : List Int} (h0 : l ≠ []) (a : Nat) (p : Bool) {k : Int} {n : Nat} (hn : 1 ≤ n) (h : next l = .tok k n) : lx l a p = (⟨k, strOfNums (l.take n), (a : Int)⟩ :: (lx (l.drop n) (a + n) (endsT ⟨k, strOfNums (l.take n), (a : Int)⟩)).1, (lx (l.drop n) (a + n) (endsT ⟨k, strOfNums (l.take n), (a : Int)⟩)).2) := by
  rw [lx, dif_neg h0, h]
  dsimp only
  rw [dp_eq hn]
theorem lx_nil (a : Nat) (p : Bool) : lx [] a p = (semi p a ++ [⟨0, (⟨#[]⟩ : ByteArray), (a : Int)⟩], []) := by rw [lx, dif_pos rfl]
theorem lx_a : (lx [97, 32, 43, 32, 49, 10] 0 false).1 = [⟨1, strOfNums [97], 0⟩, ⟨5, strOfNums [43], 2⟩, ⟨2, strOfNums [49], 4⟩, ⟨6, ⟨#[]⟩, 5⟩, ⟨0, ⟨#[]⟩, 6⟩] := by
  rw [lx_tok (by decide) _ _ (by decide) n_1]
  show _ :: (lx [32, 43, 32, 49, 10] 1 _).1 = _
  rw [lx_blank (by decide) _ _ (n_2 _)]
  show _ :: (lx [43, 32, 49, 10] 2 _).1 = _
  rw [lx_tok (by decide) _ _ (by decide) n_3]
  show _ :: _ :: (lx [32, 49, 10] 3 _).1 = _
  rw [lx_blank (by decide) _ _ (n_2 _)]
  show _ :: _ :: (lx [49, 10] 4 _).1 = _
  rw [lx_tok (by decide) _ _ (by decide) n_5]
  show _ :: _ :: _ :: (lx [10] 5 true).1 = _
  rw [lx_feed (by decide) _ _ (n_6 _)]
  show _ :: _ :: _ :: (semi true 5 ++ (lx [] 6 false).1) = _
  rw [lx_nil]
  rfl
theorem alive_true : seichelaw11_alive.f = some true := by
  unfold seichelaw11_alive.f golex_Lex.f
  rw [if_pos (by decide)]
  have e : (lexB (⟨#[97, 32, 43, 32, 49, 10]⟩ : ByteArray)).1 = [⟨1, strOfNums [97], 0⟩, ⟨5, strOfNums [43], 2⟩, ⟨2, strOfNums [49], 4⟩, ⟨6, ⟨#[]⟩, 5⟩, ⟨0, ⟨#[]⟩, 6⟩] := by
    rw [← lx_a]
    unfold lexB
    rw [show skp (bytesOf (⟨#[97, 32, 43, 32, 49, 10]⟩ : ByteArray)) = 0 by decide]
    rfl
  rw [e]
  simp only [ba_toList]
  rfl
theorem rd_cons (a : List S27) (i : Nat) (h : i < a.length) : a.drop i = rd_T27 a (i : Int) :: a.drop (i + 1) := by
  rw [List.drop_eq_getElem_cons h]
  congr 1
  unfold rd_T27
  rw [Int.toNat_natCast, List.getD_eq_getElem?_getD, List.getElem?_eq_getElem h]
  rfl
end Go.Proofs.YtfolmcfcmonkhaaDoor.Fr

