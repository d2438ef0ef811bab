/- The statements of chapter 4 over numbers and lists. -/
import Derived.Test.YtmeaphgjkodioaaFrC
namespace Go.Proofs.Ytmeaphgjkodioaa.Fr
open Go Go.RowKit Go.Proofs.Ytmeaphgjkodioaa.PAll Go.Proofs.YtmeaphgjkodioaaW.PrintWords Go.Proofs.YtmeaphgjkodioaaW.PrintLast Go.Proofs.YtmeaphgjkodioaaPw
theorem puts_l0 (b : List Int) (l : List ByteArray) (hb : b.length ≤ 4096) (hl : l.length ≤ 60) (hs : sizes l ≤ 8192) : ∀ (d i : Nat), i + d = l.length →
    Ev (fun k => seichelaw04_FramePuts.l0 k b l (strOfNums (b ++ putB (l.take i))) l (l.length : Int) (i : Int)) true
  | 0, i, hd => by
    have hsh : ∀ s ∈ l, s.size ≤ 65536 := fun s h => by have := size_le h; omega
    have hp := putB_length hsh
    refine Ev.step (fun _ => seichelaw04_FramePuts.l0.eq_2 ..) (ev_neg (by omega) (ev_some (ev_pos (by simp; omega) (ev_call (put_ev ([] ++ b) l (by omega) (by simp; omega)) (ev_ret ?_)))))
    rw [List.take_of_length_le (by omega), List.nil_append, beq_self_eq_true]
  | d + 1, i, hd => by
    have hm := rdOf_mem ByteArray.empty l i (by omega)
    have hz := size_le hm
    have hsh : ∀ s ∈ l.take i, s.size ≤ 65536 := fun s h => by have := size_le (List.mem_of_mem_take h); omega
    have e : putB (l.take (i + 1)) = putB (l.take i) ++ recB (bytesOf (rdOf ByteArray.empty l (i : Int))) := by
      have : l.take (i + 1) = l.take i ++ [rdOf ByteArray.empty l (i : Int)] := by
        rw [List.take_succ_eq_append_getElem (by omega)]
        congr 2
        simp [rdOf, List.getD_eq_getElem?_getD, List.getElem?_eq_getElem (show i < l.length by omega)]
      rw [this, putB, List.filter_append, List.flatMap_append, ← putB]
      congr 1
      rw [List.filter_cons, if_pos (show shortB (rdOf ByteArray.empty l (i : Int)) = true from decide_eq_true (by omega)), List.filter_nil]
      simp
    have hsum : (putB (l.take i)).length ≤ 8 * 60 + 8192 := by
      have h1 := putB_length hsh
      have h2 : sizes (l.take i) ≤ sizes l := by
        have : ∀ (l : List ByteArray) (i : Nat), sizes (l.take i) ≤ sizes l := by
          intro l
          induction l with
          | nil => intro i; simp
          | cons a l ih =>
            intro i
            cases i with
            | zero => simp [sizes]
            | succ i => simp only [List.take_succ_cons, sizes]; have := ih i; omega
        exact this l i
      rw [List.length_take] at h1
      omega
    have ih := puts_l0 b l hb hl hs d (i + 1) (by omega)
    refine Ev.step (fun _ => seichelaw04_FramePuts.l0.eq_2 ..) (ev_pos (by omega) (ev_pos (by omega) (ev_pos (by omega) (ev_call (check_ev _ (by omega)) (ev_call (rcheck_ev _ (by omega)) (ev_pos rfl (ev_call (rbytes_ev _ (by omega)) (ev_pos ?_ ?_))))))))
    · rw [strOfNums_size, strOfNums_size, List.length_append, recB_length, bytesOf_length]; omega
    · rw [w64 (by omega) (by omega), ← strOfNums_append, List.append_assoc, ← e]
      exact ih
theorem FramePuts : seichelaw04_FramePuts.Pure := by
  intro l0 l1 _ _ hw hm h16 hs
  obtain ⟨g, hg, hf⟩ := great_ev l1 hm h16 hs
  refine Ev.rounds (g := fun k => seichelaw04_FramePuts.f k l0 l1) (ev_call alive_ev (ev_pos rfl (ev_call hg ?_)))
  by_cases c : g = true
  · exact ev_pos c (Ev.step (fun _ => seichelaw04_FramePuts.j0.eq_2 ..) (ev_pos rfl (Ev.now _)))
  refine ev_neg c (Ev.step (fun _ => seichelaw04_FramePuts.j0.eq_2 ..) ?_)
  by_cases c2 : (l0.length : Int) > 4096
  · exact ev_pos (decide_eq_true c2) (Ev.now _)
  obtain ⟨h1, h2⟩ := hf (by simpa using c)
  have := puts_l0 l0 l1 (by omega) h2 h1 l1.length 0 (by omega)
  refine ev_neg (by simpa using c2) ?_
  simpa [putB] using this
theorem FrameSplits : seichelaw04_FrameSplits.Pure := by
  intro l0 hm _ hw
  have hb := byt_wf hw
  refine Ev.rounds (g := fun k => seichelaw04_FrameSplits.f k l0) (ev_call alive_ev (ev_pos rfl ?_))
  by_cases c : (l0.length : Int) > 8192
  · exact ev_pos c (Ev.now _)
  obtain ⟨rs, h⟩ := splits_all hb
  have hl : (rs.map strOfNums).length ≤ l0.length := by
    have key : ∀ (rs : List (List Int)) (l : List Int), Byt l → Splits l rs → rs.length ≤ l.length := by
      intro rs
      induction rs with
      | nil => intro l _ _; simp
      | cons s rs ih =>
        intro l hb h
        have h8 := wholeL_some h.1
        have := (num4_range hb).1
        have := ih _ (byt_drop hb _) h.2
        rw [List.length_drop] at this
        simp only [List.length_cons]
        omega
    rw [List.length_map]
    exact key rs l0 hb h
  refine ev_neg c (ev_call (split_ev l0 hb (by omega) rs h) (ev_call (rsplit_ev (strOfNums l0) (by rw [strOfNums_size]; omega) rs (by rw [bytes_str hb]; exact h)) (ev_call (same_ev _ _ (by show (rs.map strOfNums).length < _; omega)) (ev_pos (by simp) (ev_ret (by simp))))))
theorem back_l0 (l : List ByteArray) (cut : Nat) (hl : l.length ≤ 60) (hs : sizes l ≤ 8192) (hcut : cut ≤ 16777216) : ∀ (d i t : Nat), i + d = l.length → t ≤ cut → t = total ((l.take i).map bytesOf) →
    cutRecs cut (l.map bytesOf) = (l.take i).map bytesOf ++ cutRecs (cut - t) ((l.drop i).map bytesOf) →
    Ev (fun k => seichelaw04_FrameBack.l0 k l (cut : Int) ((cutRecs cut (l.map bytesOf)).map strOfNums) (total (cutRecs cut (l.map bytesOf)) : Int) (t : Int) l (l.length : Int) (i : Int)) true
  | 0, i, t, hd, ht, htt, he => by
    have e : cutRecs cut (l.map bytesOf) = l.map bytesOf := by rw [he, List.drop_of_length_le (by omega), List.take_of_length_le (by omega)]; simp [cutRecs]
    refine Ev.step (fun _ => seichelaw04_FrameBack.l0.eq_2 ..) (ev_neg (by omega) ?_)
    rw [e, map_str]
    refine ev_call (same_ev _ _ (by omega)) (ev_pos (by simp) (ev_ret ?_))
    rw [List.take_of_length_le (by omega)] at htt
    rw [htt]
    simp
  | d + 1, i, t, hd, ht, htt, he => by
    have hm := rdOf_mem ByteArray.empty l i (by omega)
    have hz := size_le hm
    have hdr := drop_rdOf ByteArray.empty l i (by omega)
    have htk : l.take (i + 1) = l.take i ++ [rdOf ByteArray.empty l (i : Int)] := by
      rw [List.take_succ_eq_append_getElem (by omega)]
      congr 2
      simp [rdOf, List.getD_eq_getElem?_getD, List.getElem?_eq_getElem (show i < l.length by omega)]
    refine Ev.step (fun _ => seichelaw04_FrameBack.l0.eq_2 ..) (ev_pos (by omega) (ev_pos (by omega) (ev_pos (by omega) ?_)))
    rw [hdr, List.map_cons, cutRecs, bytesOf_length] at he
    generalize rdOf ByteArray.empty l (i : Int) = s at *
    rw [w64 (x := (t : Int) + 8) (by omega) (by omega), w64 (x := (t : Int) + 8 + (s.size : Int)) (by omega) (by omega), w64 (x := 8 + (s.size : Int)) (by omega) (by omega), w64 (x := (t : Int) + (8 + (s.size : Int))) (by omega) (by omega), w64 (x := (i : Int) + 1) (by omega) (by omega)]
    by_cases c : 8 + s.size ≤ cut - t
    · rw [if_pos c] at he
      refine ev_neg (by omega) ?_
      have := back_l0 l cut hl hs hcut d (i + 1) (t + (8 + s.size)) (by omega) (by omega) (by
        rw [htk, List.map_append, htt]
        have : ∀ (a b : List (List Int)), total (a ++ b) = total a + total b := by
          intro a b
          induction a with
          | nil => simp [total]
          | cons x a ih => simp only [List.cons_append, total, ih]; omega
        rw [this]
        simp [total, bytesOf_length]) (by rw [he, htk]; simp [Nat.sub_sub])
      rw [show ((t + (8 + s.size) : Nat) : Int) = (t : Int) + (8 + (s.size : Int)) by omega] at this
      exact this
    · rw [if_neg c, List.append_nil] at he
      refine ev_pos (by omega) (ev_pos (by omega) ?_)
      rw [he, Int.toNat_natCast, map_str]
      refine ev_call (same_ev _ _ (by rw [List.length_take]; omega)) (ev_pos (by simp) (ev_ret ?_))
      rw [htt]
      simp
theorem FrameBack : seichelaw04_FrameBack.Pure := by
  intro l0 a1 hm h16 hs hw
  obtain ⟨g, hg, hf⟩ := great_ev l0 hm h16 hs
  refine Ev.rounds (g := fun k => seichelaw04_FrameBack.f k l0 a1) (ev_call alive_ev (ev_pos rfl (ev_call hg ?_)))
  by_cases c : g = true
  · exact ev_pos c (Ev.now _)
  obtain ⟨h1, h2⟩ := hf (by simpa using c)
  have hsh : ∀ s ∈ l0, s.size ≤ 65536 := fun s h => by have := size_le h; omega
  have hp := putB_length hsh
  have ht := total_put hsh
  refine ev_neg c (ev_call (put_ev [] l0 (by omega) (by simp; omega)) ?_)
  rw [List.nil_append]
  refine ev_call (split_ev _ (byt_putB l0) (by omega) _ (splits_put hsh)) ?_
  rw [map_str, ht]
  refine ev_call (same_ev _ _ (by show l0.length < _; omega)) (ev_pos (by simp) (Ev.step (fun _ => seichelaw04_FrameBack.j0.eq_2 ..) (ev_neg (by simp) ?_)))
  by_cases c1 : a1 < 0
  · exact ev_pos c1 (Ev.step (fun _ => seichelaw04_FrameBack.j1.eq_2 ..) (ev_pos rfl (Ev.now _)))
  refine ev_neg c1 (Ev.step (fun _ => seichelaw04_FrameBack.j1.eq_2 ..) ?_)
  by_cases c2 : a1 > ((putB l0).length : Int)
  · exact ev_pos (decide_eq_true c2) (Ev.now _)
  refine ev_neg (by simpa using c2) (ev_pos (by omega) (ev_pos (by omega) ?_))
  obtain ⟨cut, rfl⟩ := Int.eq_ofNat_of_zero_le (by omega : 0 ≤ a1)
  rw [Int.toNat_natCast]
  have hsp := splits_cut (l0.map bytesOf) cut (fun s hs => by obtain ⟨t, ht, rfl⟩ := List.mem_map.1 hs; rw [bytesOf_length]; exact hsh t ht)
  rw [← putB_short hsh] at hsp
  refine ev_call (split_ev _ (byt_take (byt_putB l0) cut) (by rw [List.length_take]; omega) _ hsp) ?_
  exact back_l0 l0 cut h2 h1 (by omega) l0.length 0 0 (by omega) (by omega) (by simp [total]) (by simp)
theorem xor8_range (x y : Int) : 0 ≤ Go.bits .xor .u8 x y ∧ Go.bits .xor .u8 x y < 256 := by
  unfold Go.bits IntKind.wrap
  simp only [IntKind.bits, IntKind.signed]
  simp
  omega
theorem FrameTurned : seichelaw04_FrameTurned.Pure := by
  intro l0 a1 a2 a3 hm h16 hs hw1 hw2 hw3
  obtain ⟨g, hg, hf⟩ := great_ev l0 hm h16 hs
  refine Ev.rounds (g := fun k => seichelaw04_FrameTurned.f k l0 a1 a2 a3) (ev_call alive_ev (ev_pos rfl (ev_call hg ?_)))
  have done : Ev (fun k => seichelaw04_FrameTurned.j0 k l0 a1 a2 a3 true) true := Ev.step (fun _ => seichelaw04_FrameTurned.j0.eq_2 ..) (ev_pos rfl (Ev.now _))
  by_cases c : g = true
  · exact ev_pos c done
  obtain ⟨h1, h2⟩ := hf (by simpa using c)
  refine ev_neg c ?_
  by_cases c1 : (a1.size : Int) > 1024
  · exact ev_pos c1 done
  refine ev_neg c1 ?_
  by_cases c2 : (a3 == 0) = true
  · rw [c2]; exact done
  have hsh : ∀ s ∈ l0, s.size ≤ 65536 := fun s h => by have := size_le h; omega
  have hp := putB_length hsh
  have hp1 : putB [a1] = recB (bytesOf a1) := by simp [putB, shortB, show a1.size ≤ 65536 by omega]
  have hl1 : (putB [a1]).length = 8 + a1.size := by rw [hp1, recB_length, bytesOf_length]
  refine Ev.step (fun _ => seichelaw04_FrameTurned.j0.eq_2 ..) (ev_neg c2 (ev_call (put_ev [] l0 (by omega) (by simp; omega)) (ev_call (put_ev _ [a1] (by simp) (by simp; omega)) ?_)))
  rw [List.nil_append, List.length_append, hl1]
  generalize hP : putB l0 = P at *
  have ed : wrap64 (((P.length + (8 + a1.size) : Nat) : Int) - (P.length : Int)) = 8 + (a1.size : Int) := by rw [w64 (by omega) (by omega)]; omega
  have eu : IntKind.u64.wrap (8 + (a1.size : Int)) = 8 + (a1.size : Int) := by
    unfold IntKind.wrap
    simp only [IntKind.bits, IntKind.signed]
    simp
    omega
  rw [ed, eu]
  have hu : 0 ≤ IntKind.u64.wrap a2 := by
    unfold IntKind.wrap
    simp only [IntKind.bits, IntKind.signed]
    simp
    omega
  generalize IntKind.u64.wrap a2 = u at hu
  rw [Int.tmod_eq_emod_of_nonneg hu]
  have j0 := Int.emod_nonneg u (show 8 + (a1.size : Int) ≠ 0 by omega)
  have j1 := Int.emod_lt_of_pos u (show 0 < 8 + (a1.size : Int) by omega)
  generalize u % (8 + (a1.size : Int)) = j at j0 j1
  obtain ⟨j, rfl⟩ := Int.eq_ofNat_of_zero_le j0
  rw [w64 (x := (j : Int)) (by omega) (by omega), w64 (x := (P.length : Int) + (j : Int)) (by omega) (by omega)]
  refine ev_neg (by omega) (ev_pos (by omega) (ev_pos (by omega) (ev_some (ev_pos (by omega) (ev_pos (by omega) ?_)))))
  rw [show ((P.length : Int) + (j : Int)).toNat = P.length + j by omega]
  have hv := xor8_range (rd (P ++ putB [a1]) ((P.length : Int) + (j : Int))) a3
  generalize Go.bits .xor .u8 (rd (P ++ putB [a1]) ((P.length : Int) + (j : Int))) a3 = v at hv
  have es : (P ++ putB [a1]).set (P.length + j) v = P ++ (putB [a1]).set j v := by
    rw [List.set_append_right _ _ (by omega)]
    congr 2
    omega
  rw [es, Int.toNat_natCast, List.drop_left]
  have hbr : Byt ((putB [a1]).set j v) := fun x hx => by
    rcases List.mem_or_eq_of_mem_set hx with h | rfl
    · exact byt_putB _ x h
    · exact hv
  have hlr : ((putB [a1]).set j v).length = 8 + a1.size := by rw [List.length_set, hl1]
  generalize (putB [a1]).set j v = R at hbr hlr
  obtain ⟨q, hq, _⟩ := whole_ev (strOfNums R) (by rw [strOfNums_size]; omega)
  rw [bytes_str hbr] at hq
  refine ev_call hq ?_
  cases e : wholeL R with
  | some t => exact ev_pos rfl (Ev.now _)
  | none =>
    refine ev_neg (by simp) ?_
    have hsp := splits_recs (l0.map bytesOf) (fun s hs => by obtain ⟨t, ht, rfl⟩ := List.mem_map.1 hs; rw [bytesOf_length]; exact hsh t ht) R e
    rw [← putB_short hsh, hP] at hsp
    refine ev_call (split_ev _ (byt_append (by rw [← hP]; exact byt_putB l0) hbr) (by simp; omega) _ hsp) ?_
    rw [map_str]
    refine ev_call (same_ev _ _ (by show l0.length < _; omega)) (ev_pos (by simp) (ev_ret ?_))
    rw [total_put hsh, hP]
    simp
theorem FrameLong : seichelaw04_FrameLong.Pure := by
  intro a0 hw
  refine Ev.rounds (g := fun k => seichelaw04_FrameLong.f k a0) (ev_call alive_ev (ev_pos rfl ?_))
  by_cases c : a0 < (-2)
  · exact ev_pos c (Ev.step (fun _ => seichelaw04_FrameLong.j0.eq_2 ..) (ev_pos rfl (Ev.now _)))
  refine ev_neg c (Ev.step (fun _ => seichelaw04_FrameLong.j0.eq_2 ..) ?_)
  by_cases c2 : a0 > 2
  · exact ev_pos (decide_eq_true c2) (Ev.now _)
  refine ev_neg (by simpa using c2) ?_
  rw [w64 (x := 65536 + a0) (by omega) (by omega)]
  refine ev_pos (by omega) (ev_pos (by omega) ?_)
  have hz : (strOfNums (List.replicate (65536 + a0).toNat 0)).size = (65536 + a0).toNat := by rw [strOfNums_size, List.length_replicate]
  generalize strOfNums (List.replicate (65536 + a0).toNat 0) = z at hz
  have sa : (⟨#[97]⟩ : ByteArray).size = 1 := rfl
  have sb : (⟨#[98]⟩ : ByteArray).size = 1 := rfl
  have rb : bytesOf (⟨#[98]⟩ : ByteArray) = [98] := rfl
  by_cases c3 : a0 > 0
  · have e : putB [(⟨#[97]⟩ : ByteArray), z, (⟨#[98]⟩ : ByteArray)] = putB [(⟨#[97]⟩ : ByteArray), (⟨#[98]⟩ : ByteArray)] := by
      have hn : shortB z = false := decide_eq_false (by omega)
      simp [putB, List.filter_cons, hn]
    have hsh : ∀ s ∈ [(⟨#[97]⟩ : ByteArray), (⟨#[98]⟩ : ByteArray)], s.size ≤ 65536 := fun s h => by
      simp only [List.mem_cons, List.not_mem_nil, or_false] at h
      rcases h with rfl | rfl <;> simp [sa, sb]
    have hp := putB_length hsh
    have ht := total_put hsh
    simp only [sizes, sa, sb, List.length_cons, List.length_nil] at hp
    refine ev_call (put_ev [] _ (by simp) (by rw [e, hp]; simp)) ?_
    rw [e, List.nil_append]
    refine ev_call (split_ev _ (byt_putB _) (by omega) _ (splits_put hsh)) ?_
    rw [map_str, ht, hp]
    exact ev_pos c3 (ev_pos (by simp) (ev_pos (by simp) (ev_pos (by simp) (ev_ret (by simp [rdOf, ba_toList])))))
  · have hsh : ∀ s ∈ [(⟨#[97]⟩ : ByteArray), z, (⟨#[98]⟩ : ByteArray)], s.size ≤ 65536 := fun s h => by
      simp only [List.mem_cons, List.not_mem_nil, or_false] at h
      rcases h with rfl | rfl | rfl
      · simp [sa]
      · omega
      · simp [sb]
    have hp := putB_length hsh
    simp only [sizes, sa, sb, List.length_cons, List.length_nil] at hp
    refine ev_call (put_ev [] _ (by simp) (by rw [hp]; simp; omega)) ?_
    rw [List.nil_append]
    refine ev_call (split_ev _ (byt_putB _) (by omega) _ (splits_put hsh)) ?_
    rw [map_str]
    refine ev_neg c3 (ev_pos (by simp) (ev_pos (by simp) (ev_ret ?_)))
    simp only [rdOf]
    simp
    omega
end Go.Proofs.Ytmeaphgjkodioaa.Fr
